/- Contracts: sets: place, Rank. From a call that is said of heaps alone to what a statement's row asks for. The statements about sets: what comes in; names; shown. What the rows of the statements about sets open. Slices that are read row by row: pieces of them, appends of them. Contracts: the references' words on lists of entries. -/
import Derived.Test.YtochkahbnhegaaaGreatZO16
import Derived.Test.YtochkahbnhegaaaGreatZO11
import Derived.Carry
import Derived.OpenShut
import Derived.JoinedCond
import Derived.Deep.Slices
import Derived.Test.YtochkahbnhegaaaGreatRows
set_option linter.unusedVariables false
set_option linter.unusedSimpArgs false
namespace Go.X.W
open Go Go.X Go.Proofs

variable {H : Heap} {m : Mem} {K : Value → Heap → Prop}

theorem ZOk.lists {z : ZSt} (ok : ZOk z) : ZOk { z with il := true } := ⟨ok.ok, ok.le, ok.lm, fun h => by cases h⟩
theorem ZOk.add {z : ZSt} (ok : ZOk z) (x : ByteArray) {sc : Int} (lv : Int) (hsc : -9223372036854775808 ≤ sc ∧ sc ≤ 9223372036854775807) : ZOk (zAdd z x sc lv).2.2 := by
  unfold zAdd
  split
  · exact ok
  · split
    · exact ok
    · rename_i h1 h2
      have hrl := rem_len (x := x) (l := z.L)
      have h400 := ok.ok.len
      have hlt : (X.W.rem x z.L).length < 400 := by
        cases hfx : fnd x z.L with
        | none => rw [hfx] at h2 hrl; simp at h2 hrl; omega
        | some i => rw [hfx] at hrl; simp at hrl; omega
      refine ⟨(ok.ok.rem x).ins (e := (x, sc)) ⟨by simp only; omega, hsc⟩ (rem_none ok.ok.nodup) hlt, ok.le, ok.lm, fun h => ?_⟩
      have h3 : zAddI z x = false := h
      unfold zAddI at h3
      simp only [Bool.or_eq_false_iff, decide_eq_false_iff_not] at h3
      have hc := cntE_le (x, sc) (X.W.rem x z.L)
      simp only [zAddL, insAt, List.length_append, List.length_take, List.length_cons, List.length_drop]
      omega

section
variable {z : ZSt} {s : Nat} {zm : Mem}
theorem rng_one {l : List Ent} {i : Nat} {e : Ent} (h : l[i]? = some e) : rng (i : Nat) ((i : Int) + 1) l = [e] := by
  have hi := (List.getElem?_eq_some_iff.1 h).1
  unfold rng
  have h1 : fromN (i : Nat) l.length = i := by unfold fromN; omega
  have h2 : toN (i : Nat) ((i : Int) + 1) l.length = i + 1 := by unfold toN; omega
  rw [h1, h2, show i + 1 - i = 1 by omega, List.drop_eq_getElem_cons hi, List.take_succ_cons, List.take_zero, (List.getElem?_eq_some_iff.1 h).2]

theorem zset_place_h {fv : Value} {R : Mem} {p : Ent → Bool} {c : Nat} (hz : ZRep z s zm) (ok : ZOk z) (hfv : fv.oneCell = true) (hh : Has H (zm + (R + m))) (hc : c ≤ z.L.length) (hp : ∀ i e, z.L[i]? = some e → p e = decide (i < c))
    (hf : ∀ e G m', e ∈ z.L → Has G (R + m') → CallV P fv [entV e] G fun v G' => v = .bool (p e) ∧ Has G' (R + m')) (hK : ∀ H', Has H' (zm + (R + m)) → K (.int .i64 c) H') : CallH P f_zset_Set_place [ptrV s, fv] H K := by
  apply k_zset_Set_place
  unfold c_zset_Set_place
  have h400 := ok.ok.len
  rw [x_box]
  refine ⟨rfl, ?_⟩
  refine h_alloc hh fun sb H1 hh => ?_
  refine ⟨hfv, ?_⟩
  refine h_alloc hh fun fb H2 hh => ?_
  refine h_load (b := sb) hh rfl ?_
  refine zset_Len_h hz ok (hh.front zm) fun H3 hh => ?_
  refine sort_Search_h (c := c) hc (by omega) (fun Q => ∃ m', Has Q (zm + (cell fb [fv] + (cell sb [ptrV s] + (R + (m + m')))))) ⟨emp, hh.to (by rw [add_emp])⟩ ?_ fun G ⟨m', hh⟩ => hK G ((hh.to (show _ = (zm + (R + m)) + (cell fb [fv] + (cell sb [ptrV s] + m')) by ac_rfl)).left)
  rintro i G hi ⟨m', hh⟩
  rw [x_callV]
  apply k_zset_Set_place_1
  unfold c_zset_Set_place_1
  have hg : z.L[i]? = some (z.L[i]'hi) := List.getElem?_eq_getElem hi
  generalize z.L[i]'hi = e at hg
  refine h_load (b := sb) hh rfl ?_
  (try simp only [xl, xo, Bool.not_eq_true', decide_eq_false_iff_not, ite_not, List.size_toArray, List.length_cons, List.length_nil, Nat.reduceAdd, qt, decide_eq_true_eq, Int.toNat_zero, Int.toNat_natCast, Nat.zero_mul, Nat.mul_one, Nat.one_mul, List.toList_toArray, List.cons_append, List.nil_append, List.append_nil, true_and, and_true, Nat.zero_add, Nat.add_zero, Bool.not_true, Bool.not_false, if_true, if_false, reduceCtorEq, List.set_cons_zero, List.set_cons_succ])
  rw [w64 (n := (i : Int) + 1) (by omega)]
  refine zset_Range_h hz ok hh fun G2 v sl hv hlv hh => ?_
  rw [rng_one hg] at hv hlv
  refine own_len hv ?_
  rw [hlv]
  refine loop_i (fun k st Q => st = (.int .i64 0, []) ∧ Has Q (sl + (zm + (cell fb [fv] + (cell sb [ptrV s] + (R + (m + m'))))))) 0 ⟨rfl, hh⟩ ?_
  clear hh
  rintro k _ g Q ⟨rfl, hh⟩
  (try simp only [xl, xo, Bool.not_eq_true', decide_eq_false_iff_not, ite_not, List.size_toArray, List.length_cons, List.length_nil, Nat.reduceAdd, qt, decide_eq_true_eq, Int.toNat_zero, Int.toNat_natCast, Nat.zero_mul, Nat.mul_one, Nat.one_mul, List.toList_toArray, List.cons_append, List.nil_append, List.append_nil, true_and, and_true, Nat.zero_add, Nat.add_zero, Bool.not_true, Bool.not_false, if_true, if_false, reduceCtorEq, List.set_cons_zero, List.set_cons_succ])
  obtain ⟨b, hb1, hb2, _⟩ := own_at (i := 0) hv (by rw [entsC_length, hlv]) (by rw [hlv]; simp)
  rw [if_pos (by simp)]
  refine hb1 _ ?_
  refine hb2 Q _ _ hh ?_
  rw [entsC_get (i := 0) (e := e) rfl]
  refine h_alloc hh fun eb Q1 hh => ?_
  refine h_store2 (b := eb) hh rfl rfl (by simp) fun Q2 hh => ?_
  refine h_load (b := fb) hh rfl (h_load2 (b := eb) hh rfl rfl ?_)
  refine CallV.mono (hf e Q2 _ (List.mem_of_getElem? hg) (hh.front R)) ?_
  rintro w Q3 ⟨rfl, hh⟩
  (try simp only [xl, xo, Bool.not_eq_true', decide_eq_false_iff_not, ite_not, List.size_toArray, List.length_cons, List.length_nil, Nat.reduceAdd, qt, decide_eq_true_eq, Int.toNat_zero, Int.toNat_natCast, Nat.zero_mul, Nat.mul_one, Nat.one_mul, List.toList_toArray, List.cons_append, List.nil_append, List.append_nil, true_and, and_true, Nat.zero_add, Nat.add_zero, Bool.not_true, Bool.not_false, if_true, if_false, reduceCtorEq, List.set_cons_zero, List.set_cons_succ])
  refine ⟨?_, _, (hh.front (zm + (cell fb [fv] + (cell sb [ptrV s] + (R + m))))).to (by simp only [mem_assoc]; rfl)⟩
  rw [hp i e hg, ← decide_not]
  congr 1
  rw [decide_eq_decide]
  omega

theorem zset_Rank_h {x : ByteArray} (hx : x.size < 4611686018427387904) (hz : ZRep z s zm) (ok : ZOk z) (hh : Has H (zm + m))
    (hK : ∀ H' zm', ZRep z s zm' → Has H' (zm' + m) → K (.tuple #[.int .i64 (((fnd x z.L).getD 0 : Nat) : Int), .bool (fnd x z.L).isSome]) H') : CallH P f_zset_Set_Rank [ptrV s, .string x] H K := by
  apply k_zset_Set_Rank
  unfold c_zset_Set_Rank
  refine zset_Score_h hx hz ok hh fun H1 zm1 hz hh => ?_
  (try simp only [xl, xo, Bool.not_eq_true', decide_eq_false_iff_not, ite_not, List.size_toArray, List.length_cons, List.length_nil, Nat.reduceAdd, qt, decide_eq_true_eq, Int.toNat_zero, Int.toNat_natCast, Nat.zero_mul, Nat.mul_one, Nat.one_mul, List.toList_toArray, List.cons_append, List.nil_append, List.append_nil, true_and, and_true, Nat.zero_add, Nat.add_zero, Bool.not_true, Bool.not_false, if_true, if_false, reduceCtorEq, List.set_cons_zero, List.set_cons_succ])
  cases hfx : fnd x z.L with
  | none =>
    rw [hfx] at hK
    rw [sco_none hfx]
    simp only [Option.isSome_none]
    (try simp only [xl, xo, Bool.not_eq_true', decide_eq_false_iff_not, ite_not, List.size_toArray, List.length_cons, List.length_nil, Nat.reduceAdd, qt, decide_eq_true_eq, Int.toNat_zero, Int.toNat_natCast, Nat.zero_mul, Nat.mul_one, Nat.one_mul, List.toList_toArray, List.cons_append, List.nil_append, List.append_nil, true_and, and_true, Nat.zero_add, Nat.add_zero, Bool.not_true, Bool.not_false, if_true, if_false, reduceCtorEq, List.set_cons_zero, List.set_cons_succ])
    exact hK H1 zm1 hz hh
  | some i =>
    obtain ⟨sc, h1, h2⟩ := sco_fnd hfx
    rw [hfx] at hK
    rw [h2]
    simp only [Option.isSome_some, Option.getD_some]
    (try simp only [xl, xo, Bool.not_eq_true', decide_eq_false_iff_not, ite_not, List.size_toArray, List.length_cons, List.length_nil, Nat.reduceAdd, qt, decide_eq_true_eq, Int.toNat_zero, Int.toNat_natCast, Nat.zero_mul, Nat.mul_one, Nat.one_mul, List.toList_toArray, List.cons_append, List.nil_append, List.append_nil, true_and, and_true, Nat.zero_add, Nat.add_zero, Bool.not_true, Bool.not_false, if_true, if_false, reduceCtorEq, List.set_cons_zero, List.set_cons_succ])
    refine h_alloc hh fun wb H2 hh => ?_
    refine h_store2 (b := wb) hh rfl rfl (by simp) fun H3 hh => ?_
    have hh : Has H3 (zm1 + (cell wb (entC (x, sc)) + m)) := hh.to (by
      have : ([Value.string ⟨#[]⟩, Value.int .i64 0].set 0 (.string x)).set (0 + 1) (.int .i64 sc) = entC (x, sc) := rfl
      rw [this]; ac_rfl)
    have hi := (List.getElem?_eq_some_iff.1 h1).1
    have hcnt := cnt_get ok.ok.sorted h1
    refine zset_place_h (c := i) (R := cell wb (entC (x, sc))) (p := fun e => elt e (x, sc)) hz ok rfl hh (by omega) ?_ ?_ fun H4 hh => ?_
    · intro j e hj
      show elt e (x, sc) = decide (j < i)
      rw [cntE_spec ok.ok.sorted j e hj, hcnt]
      rfl
    · intro e G m' he hh
      rw [x_callV]
      apply k_zset_Set_Rank_1
      unfold c_zset_Set_Rank_1
      rw [x_boxN]
      refine h_allocA hh fun eb G1 hh => ?_
      refine h_load2 (b := eb) hh rfl rfl (h_load2 (b := wb) hh rfl rfl ?_)
      refine bound_Less_h (a := e) (b := (x, sc)) hh fun G2 hh => ⟨rfl, hh.right⟩
    · have := hK H4 zm1 hz ((hh.front (zm1 + m)).left)
      exact this
end
end Go.X.W
set_option linter.unusedVariables false
set_option linter.unusedSimpArgs false
namespace Go.X
open Go Go.ChangeShapes Go.WideShapes Go.ChangeAt Go.RowKit
variable {P : Program}

/-- A whole memory, as parts. -/
def allM (H : Heap) : Mem := Mem.of ((List.range H.size).filterMap fun b => (H[b]?).map fun o => (b, .obj o))
theorem allM_keys (H : Heap) : (((List.range H.size).filterMap fun b => (H[b]?).map fun o => (b, Chunk.obj o)).map (·.1)) = List.range H.size := by
  have : ∀ l : List Nat, (∀ b ∈ l, b < H.size) → ((l.filterMap fun b => (H[b]?).map fun o => (b, Chunk.obj o)).map (·.1)) = l := by
    intro l
    induction l with
    | nil => intro _; rfl
    | cons a l ih =>
      intro h
      have ha := h a (by simp)
      rw [List.filterMap_cons, Array.getElem?_eq_getElem ha]
      simp only [Option.map_some, List.map_cons]
      rw [ih fun b hb => h b (by simp [hb])]
  exact this _ fun b hb => by simpa using hb
theorem has_all (H : Heap) : Has H (allM H) := by
  refine ⟨by rw [allM_keys]; exact List.nodup_range, fun p hp => ?_⟩
  obtain ⟨b, _, h⟩ := List.mem_filterMap.1 hp
  obtain ⟨o, ho, rfl⟩ := Option.map_eq_some_iff.1 h
  exact ho
theorem all_frm {H H' : Heap} (h : Has H' (allM H)) : Frm E0 H H' := by
  have key : ∀ b, b < H.size → H'[b]? = H[b]? := fun b hb => by
    have ho := Array.getElem?_eq_getElem hb
    rw [ho]
    exact h.2 (b, .obj H[b]) (List.mem_filterMap.2 ⟨b, by simpa using hb, by rw [ho]; rfl⟩)
  refine ⟨Nat.le_of_not_lt fun hlt => ?_, fun b hb _ => key b hb⟩
  have h1 := key H'.size hlt
  rw [Array.getElem?_eq_none (Nat.le_refl _), Array.getElem?_eq_getElem hlt] at h1
  cases h1

theorem kept_of {W W' : World} {may : MemPlace → Prop} (hio : SameIO W W') (hs : ∀ b, b < W.heap.size → W'.heap[b]? = W.heap[b]?) : W.keptBut W' may := by
  refine ⟨hio.1, hio.2, fun i hi => ?_⟩
  rw [hs i hi]
  cases W.heap[i]? with
  | none => rfl
  | some o => cases o <;> simp

theorem trodAll_keep {H : Type} {enc : TypeId × Value → H} {W W' : World} (hl : laidOutB P = true) : ∀ {ts : List TypeId} {vs : List Value} {ds : List (DataW H)} {ps : List MemPlace} (sp : Nat → Bool),
    (∀ t ∈ ts, P.readableRec t = true ∧ t < P.types.size) → DataW.TrodAll enc P W 0 (fun _ => true) true ts vs ds ps → (∀ p ∈ ps, W.sameAt W' p) → (∀ p ∈ ps, sp p.block = true) → DataW.TrodAll enc P W' 0 sp true ts vs ds ps
  | [], _, _, _, sp, _, h, _, _ => by
    obtain ⟨rfl, rfl, rfl⟩ := trodAll_nil h
    exact trodAll_mk0
  | t :: ts, _, _, _, sp, ht, h, hk, hs => by
    obtain ⟨v, vs, d, ds, p, q, rfl, rfl, rfl, h1, h2⟩ := trodAll_cons h
    obtain ⟨a, b⟩ := ht t (by simp)
    exact trodAll_cons_mk (WideElems.Trod_stays hl a b h1 (fun x hx => hk x (by simp [hx])) (fun x hx => hs x (by simp [hx]))) (trodAll_keep hl sp (fun t ht' => ht t (by simp [ht'])) h2 (fun x hx => hk x (by simp [hx])) (fun x hx => hs x (by simp [hx])))

/-- A law's post: true was told; what was there is as it was. -/
theorem post_law {H : Type} {enc : TypeId × Value → H} {f : Func} {s : ChangeSpec} {apart fresh handsOn again : Bool} {W W' : World} {args : Array Value} {ds gs : List (DataW H)} {before : List MemPlace} {t : TypeId}
    (hl : laidOutB P = true) (hW : DataW.Whole enc P f.params.toList s.vars apart W args.toList ds gs before) (hv : s.vars = []) (hf : s.fn H (ds ++ gs) = { results := [.lit (.bool true)], args := ds })
    (hr : f.resultTypes = #[t]) (ht : P.underlying t = some .bool) (hp : ∀ t ∈ f.params.toList, P.readableRec t = true ∧ t < P.types.size)
    (hs : ∀ b, b < W.heap.size → W'.heap[b]? = W.heap[b]?) (hio : SameIO W W') : s.post enc P f apart fresh handsOn again W args (.bool true) W' := by
  have hlt : ∀ p ∈ before, p.block < W.heap.size := fun p hp => hW.lt p hp
  have hW0 := hW
  obtain ⟨pa, pv, hA, hV, rfl, hz, hn⟩ := hW
  rw [hv] at hV
  obtain ⟨rfl, rfl⟩ := trodVars_none hV
  have hsame : ∀ p ∈ pa, W.sameAt W' p := fun p hp => by
    have := hs p.block (hlt p (by simp [hp]))
    cases p with
    | cell b o => simp only [World.sameAt, World.cell?]; simp only [MemPlace.block] at this; rw [this]
    | map b => exact this
  have hargs : ∀ sp : Nat → Bool, (∀ p ∈ pa, sp p.block = true) → DataW.TrodAll enc P W' 0 sp true f.params.toList args.toList ds pa := fun sp hsp => trodAll_keep hl sp hp hA hsame hsp
  have hres : ∀ (b : Nat) (sp : Nat → Bool) (hd : Bool), DataW.TrodAll enc P W' b sp hd f.resultTypes.toList ((Value.bool true).resultList f.resultTypes.size) [.lit (.bool true)] [] := fun b sp hd => by
    rw [hr]
    exact trodAll_cons_mk (shut_bool ht _) trodAll_mk0
  have hold : ∀ p ∈ pa, (fun b => decide (b < W.heap.size)) p.block = true := fun p hp => by simpa using hlt p (by simp [hp])
  refine ⟨ds, [], pa ++ [], [], pa, [], hW0, by rw [hf]; exact hres _ _ _, by rw [hf]; exact hargs _ hold, ?_, kept_of hio hs, fun _ => ⟨ok_one hr rfl (okWide_bool_mk ht _), .lit (.bool true) :: ds, [], pa ++ [], ⟨[] ++ pa, [], ?_, ?_, by simp, ?_, ?_⟩, fun p hp _ => hp⟩⟩
  · rw [hf, hv]; rfl
  · exact trodAll_append (hargs _ fun _ _ => rfl) (hres _ _ _)
  · rw [hv]; rfl
  · intro b off hb
    have hb' := hlt _ hb
    have := hz b off hb
    simp only [MemPlace.block] at hb'
    simp only [World.frozen?] at this ⊢
    rw [hs b hb']
    exact this
  · exact hn

/-! ### Slices that come in -/
theorem cells_readN {W : World} {a : Addr} {n : Nat} {cs : List Value} (h : W.cells? 0 a n = some cs) : readN W.heap a 0 n = some cs := by
  unfold World.cells? at h
  rw [if_pos (Nat.zero_le _)] at h
  have key : ∀ (n i : Nat) (cs : List Value), ((List.range' i n).mapM fun j => W.cell? (a.add j)) = some cs → readN W.heap a i n = some cs := by
    intro n
    induction n with
    | zero => intro i cs h; simpa [readN] using h
    | succ n ih =>
      intro i cs h
      rw [List.range'_succ, List.mapM_cons] at h
      simp only [Option.pure_def, Option.bind_eq_bind, Option.bind_eq_some_iff, Option.some.injEq] at h
      obtain ⟨v, h1, r, h2, rfl⟩ := h
      rw [cell_eq] at h1
      simp only [readN, h1, ih (i + 1) r h2]
  exact key n 0 cs (by rw [← List.range_eq_range']; exact h)
theorem readN_keep {H H' : Heap} (f : Frm E0 H H') {a : Addr} : ∀ (n i : Nat) (cs : List Value), readN H a i n = some cs → readN H' a i n = some cs
  | 0, _, _, h => h
  | n + 1, i, cs, h => by
    have hc : ∀ p v, hcell H p = some v → hcell H' p = some v := fun p v h => by
      unfold hcell at *
      cases hb : H[p.block]? with
      | none => rw [hb] at h; cases h
      | some o =>
        rw [f.eq _ (Array.getElem?_eq_some_iff.1 hb).1 id]
        exact h
    simp only [readN] at h ⊢
    cases h1 : hcell H (a.add i) with
    | none => rw [h1] at h; cases h
    | some v =>
      rw [h1] at h
      rw [hc _ _ h1]
      simp only at h ⊢
      cases h2 : readN H a (i + 1) n with
      | none => rw [h2] at h; cases h
      | some r => rw [h2] at h; rw [readN_keep f n (i + 1) r h2]; exact h

/-- A slice that reads as these rows. -/
def RowsAt (sz : Nat) (H : Heap) (v : Value) (l : List (List Value)) : Prop :=
  (v = .slice none 0 0 ∧ l = []) ∨ ∃ a c, v = .slice (some a) l.length c ∧ ∀ (i : Nat) r, l[i]? = some r → readN H (a.add (i * sz)) 0 sz = some r
theorem RowsAt.keep {sz : Nat} {H H' : Heap} {v : Value} {l : List (List Value)} (h : RowsAt sz H v l) (f : Frm E0 H H') : RowsAt sz H' v l := by
  rcases h with h | ⟨a, c, e, h⟩
  · exact .inl h
  · exact .inr ⟨a, c, e, fun i r hr => readN_keep f _ _ _ (h i r hr)⟩
theorem RowsAt.len {sz : Nat} {H : Heap} {v : Value} {l : List (List Value)} (h : RowsAt sz H v l) {K : Value → Prop} (hK : K (.int .i64 l.length)) : LenP v K := by
  rcases h with ⟨rfl, rfl⟩ | ⟨a, c, rfl, _⟩ <;> exact hK
theorem RowsAt.at {sz : Nat} {H : Heap} {v : Value} {l : List (List Value)} (h : RowsAt sz H v l) {i : Nat} {r : List Value} (hr : l[i]? = some r) :
    ∃ p, (∀ {K : Value → Prop}, K (.pointer (some p)) → IdxSliceP sz v (.int .i64 i) K) ∧ readN H p 0 sz = some r := by
  have hi := (List.getElem?_eq_some_iff.1 hr).1
  rcases h with ⟨rfl, rfl⟩ | ⟨a, c, rfl, h⟩
  · simp at hi
  · refine ⟨a.add (i * sz), fun {K} hK => ⟨⟨by omega, by omega⟩, ?_⟩, h i r hr⟩
    rw [Int.toNat_natCast]
    exact hK
theorem load_row {sz : Nat} {H : Heap} {p : Addr} {r : List Value} {K : Value → Prop} (h : readN H p 0 sz = some r) (hK : K (.agg r.toArray)) : LoadP (some sz) H (.pointer (some p)) K := ⟨_, ⟨r, h, rfl⟩, hK⟩

theorem list_of {α : Type} {p : Nat → α → Prop} : ∀ n : Nat, (∀ i, i < n → ∃ x, p i x) → ∃ l : List α, l.length = n ∧ ∀ (i : Nat) x, l[i]? = some x → p i x
  | 0, _ => ⟨[], rfl, fun i x h => by simp at h⟩
  | n + 1, h => by
    obtain ⟨l, hl, hp⟩ := list_of n fun i hi => h i (by omega)
    obtain ⟨x, hx⟩ := h n (by omega)
    refine ⟨l ++ [x], by simp [hl], fun i y hy => ?_⟩
    by_cases hi : i < n
    · rw [List.getElem?_append_left (by omega)] at hy
      exact hp i y hy
    · rw [List.getElem?_append_right (by omega)] at hy
      have : i = n := by
        have := (List.getElem?_eq_some_iff.1 hy).1
        simp at this; omega
      subst this
      rw [hl, Nat.sub_self] at hy
      simp at hy
      rw [← hy]; exact hx

/-- A cell's kind. -/
inductive CK where
  | int (k : IntKind)
  | str
  | bool
def CK.ok : CK → Value → Prop
  | .int k, v => ∃ n, v = .int k n ∧ (Lit.int k n).wf = true
  | .str, v => ∃ s : ByteArray, v = .string s ∧ s.size ≤ maxLen
  | .bool, v => ∃ b, v = .bool b
def CK.is : CK → TypeDesc → Prop
  | .int k, d => d = .int k
  | .str, d => d = .string
  | .bool, d => d = .bool

theorem trod_ck {H : Type} {enc : TypeId × Value → H} {W : World} {sp : Nat → Bool} {held : Bool} {n : Nat} {t : TypeId} {ck : CK} {d : TypeDesc} {cs : List Value} {x : DataW H × List MemPlace} (hd : P.underlying t = some d) (hk : ck.is d)
    (h : DataW.trod enc P W 0 sp held n t cs = some x) : ∃ v, cs = [v] ∧ ck.ok v := by
  cases ck with
  | int k =>
    cases hk
    obtain ⟨n', h1, h2, h3⟩ := DataW.trod_int hd h
    exact ⟨_, h1, n', rfl, h3⟩
  | str =>
    cases hk
    obtain ⟨s, h1, h2, h3⟩ := DataW.trod_string hd h
    exact ⟨_, h1, s, rfl, h3⟩
  | bool =>
    cases hk
    obtain ⟨b, h1, h2⟩ := DataW.trod_bool hd h
    exact ⟨_, h1, b, rfl⟩

/-- A struct of one-cell fields. -/
theorem trod_cks {H : Type} {enc : TypeId × Value → H} {W : World} {sp : Nat → Bool} {held : Bool} {n : Nat} {t : TypeId} {fs : Array Field} {cks : List CK} {cs : List Value} {x : DataW H × List MemPlace} (hd : P.underlying t = some (.struct fs))
    (hc : P.cellsOf t = cks.length) (hf : ∀ (i : Nat) ck, cks[i]? = some ck → ∃ f d, fs[i]? = some f ∧ f.offset = i ∧ P.cellsOf f.type = 1 ∧ P.underlying f.type = some d ∧ ck.is d)
    (h : DataW.trod enc P W 0 sp held n t cs = some x) : cs.length = cks.length ∧ ∀ (i : Nat) ck, cks[i]? = some ck → ∃ v, cs[i]? = some v ∧ ck.ok v := by
  obtain ⟨xs, m, _, _, hl, hlen, hall⟩ := DataW.trod_struct hd h
  refine ⟨by rw [hl, hc], fun i ck hi => ?_⟩
  obtain ⟨f, d, h1, h2, h3, h4, h5⟩ := hf i ck hi
  have h6 := hall i f h1
  rw [h2, h3] at h6
  have hi' := (List.getElem?_eq_some_iff.1 hi).1
  have hlt : i < xs.length := by rw [hlen]; exact (Array.getElem?_eq_some_iff.1 h1).1
  rw [List.getElem?_eq_getElem hlt] at h6
  obtain ⟨v, hv, hok⟩ := trod_ck h4 h5 h6
  refine ⟨v, ?_, hok⟩
  have := congrArg (fun l => l[0]?) hv
  simpa [List.getElem?_take, List.getElem?_drop] using this

theorem open_rows {H : Type} {enc : TypeId × Value → H} {W : World} {held : Bool} {t e : TypeId} {v : Value} {d : DataW H} {ps : List MemPlace} {fs : Array Field} {cks : List CK} (ht : P.underlying t = some (.slice e)) (hd : P.underlying e = some (.struct fs))
    (hc : P.cellsOf e = cks.length) (hf : ∀ (i : Nat) ck, cks[i]? = some ck → ∃ f d, fs[i]? = some f ∧ f.offset = i ∧ P.cellsOf f.type = 1 ∧ P.underlying f.type = some d ∧ ck.is d) (hv : v.cells = #[v])
    (h : DataW.Trod enc P W 0 (fun _ => true) held t v d ps) :
    ∃ l : List (List Value), RowsAt cks.length W.heap v l ∧ l.length ≤ maxLen ∧ ∀ r ∈ l, r.length = cks.length ∧ ∀ (i : Nat) ck, cks[i]? = some ck → ∃ u, r[i]? = some u ∧ ck.ok u := by
  obtain ⟨fuel, h⟩ := h
  rcases Deep.open_slice ht h with ⟨h0, _⟩ | ⟨a, len, cap, m, n, D, Pl, h0, hb, hl, hm, hmm, _, hall⟩
  · rw [hv] at h0
    simp only [List.cons.injEq, and_true] at h0
    exact ⟨[], .inl ⟨h0, rfl⟩, by simp, fun r hr => by cases hr⟩
  · rw [hv] at h0
    simp only [List.cons.injEq, and_true] at h0
    obtain ⟨l, hll, hp⟩ := list_of (p := fun i r => readN W.heap (a.add (i * cks.length)) 0 cks.length = some r ∧ (r.length = cks.length ∧ ∀ (i : Nat) ck, cks[i]? = some ck → ∃ u, r[i]? = some u ∧ ck.ok u)) len fun i hi => by
      obtain ⟨cs', h1, h2⟩ := hall i (by rw [hmm]; simp; omega)
      rw [hc] at h1
      exact ⟨cs', cells_readN h1, trod_cks hd hc hf h2⟩
    refine ⟨l, .inr ⟨a, cap, by rw [h0, hll], fun i r hr => (hp i r hr).1⟩, by omega, fun r hr => ?_⟩
    obtain ⟨i, hi⟩ := List.getElem?_of_mem hr
    exact (hp i r hi).2

def ckIs (P : Program) (t : TypeId) : CK → Bool
  | .int k => match P.underlying t with | some (.int k') => decide (k' = k) | _ => false
  | .str => match P.underlying t with | some .string => true | _ => false
  | .bool => match P.underlying t with | some .bool => true | _ => false
theorem ckIs_spec {t : TypeId} {ck : CK} (h : ckIs P t ck = true) : ∃ d, P.underlying t = some d ∧ ck.is d := by
  unfold ckIs at h
  cases ck with
  | int k =>
    simp only at h
    split at h
    · rename_i k' hk; have := of_decide_eq_true h; subst this; exact ⟨_, hk, rfl⟩
    · cases h
  | str =>
    simp only at h
    split at h
    · rename_i hk; exact ⟨_, hk, rfl⟩
    · cases h
  | bool =>
    simp only at h
    split at h
    · rename_i hk; exact ⟨_, hk, rfl⟩
    · cases h
def ckAll (P : Program) : Nat → List Field → List CK → Bool
  | i, f :: fs, c :: cs => Nat.beq f.offset i && Nat.beq (P.cellsOf f.type) 1 && ckIs P f.type c && ckAll P (i + 1) fs cs
  | _, [], [] => true
  | _, _, _ => false
theorem ckAll_spec : ∀ {cks : List CK} {fs : List Field} {o : Nat}, ckAll P o fs cks = true → ∀ (i : Nat) ck, cks[i]? = some ck → ∃ f d, fs[i]? = some f ∧ f.offset = o + i ∧ P.cellsOf f.type = 1 ∧ P.underlying f.type = some d ∧ ck.is d
  | [], _, _, _, i, ck, hi => by simp at hi
  | c :: cs, [], _, h, i, ck, hi => by simp [ckAll] at h
  | c :: cs, f :: fs, o, h, i, ck, hi => by
    simp only [ckAll, Bool.and_eq_true] at h
    obtain ⟨⟨⟨h1, h2⟩, h3⟩, h4⟩ := h
    cases i with
    | zero =>
      simp only [List.getElem?_cons_zero, Option.some.injEq] at hi
      subst hi
      obtain ⟨d, hd, hk⟩ := ckIs_spec h3
      exact ⟨f, d, rfl, Nat.eq_of_beq_eq_true h1, Nat.eq_of_beq_eq_true h2, hd, hk⟩
    | succ i =>
      simp only [List.getElem?_cons_succ] at hi
      obtain ⟨f', d, e1, e2, e3⟩ := ckAll_spec h4 i ck hi
      exact ⟨f', d, by simpa using e1, by omega, e3⟩
theorem ck_fields {fs : Array Field} {cks : List CK} (h : ckAll P 0 fs.toList cks = true) : ∀ (i : Nat) ck, cks[i]? = some ck → ∃ f d, fs[i]? = some f ∧ f.offset = i ∧ P.cellsOf f.type = 1 ∧ P.underlying f.type = some d ∧ ck.is d := by
  intro i ck hi
  obtain ⟨f, d, h1, h2, h3⟩ := ckAll_spec h i ck hi
  exact ⟨f, d, by simpa using h1, by omega, h3⟩

theorem open_cks {H : Type} {enc : TypeId × Value → H} {W : World} {sp : Nat → Bool} {held : Bool} {base : Nat} {t : TypeId} {fs : Array Field} {cks : List CK} {v : Value} {d : DataW H} {ps : List MemPlace} (ht : P.underlying t = some (.struct fs)) (hc : P.cellsOf t = cks.length)
    (hf : ckAll P 0 fs.toList cks = true) (hv : Value.okWide P W .any base t v) (h : DataW.Trod enc P W 0 sp held t v d ps) :
    ∃ cs : List Value, v = .agg cs.toArray ∧ cs.length = cks.length ∧ ∀ (i : Nat) ck, cks[i]? = some ck → ∃ u, cs[i]? = some u ∧ ck.ok u := by
  obtain ⟨cs, rfl, _⟩ := okWide_struct ht hv
  obtain ⟨fuel, h⟩ := h
  obtain ⟨h1, h2⟩ := trod_cks ht hc (ck_fields hf) h
  exact ⟨cs.toList, by simp, h1, h2⟩
theorem open_rowsV {H : Type} {enc : TypeId × Value → H} {W : World} {held : Bool} {base : Nat} {t e : TypeId} {v : Value} {d : DataW H} {ps : List MemPlace} {fs : Array Field} {cks : List CK} (ht : P.underlying t = some (.slice e)) (hd : P.underlying e = some (.struct fs))
    (hc : P.cellsOf e = cks.length) (hf : ckAll P 0 fs.toList cks = true) (hv : Value.okWide P W .any base t v) (h : DataW.Trod enc P W 0 (fun _ => true) held t v d ps) :
    ∃ l : List (List Value), RowsAt cks.length W.heap v l ∧ l.length ≤ maxLen ∧ ∀ r ∈ l, r.length = cks.length ∧ ∀ (i : Nat) ck, cks[i]? = some ck → ∃ u, r[i]? = some u ∧ ck.ok u := by
  obtain ⟨a, n, c, rfl⟩ := okWide_slice ht hv
  exact open_rows ht hd hc (ck_fields hf) rfl h

theorem ck_i64 {v : Value} (h : (CK.int .i64).ok v) : ∃ n : Int, v = .int .i64 n ∧ -9223372036854775808 ≤ n ∧ n ≤ 9223372036854775807 := by
  obtain ⟨n, rfl, h⟩ := h
  refine ⟨n, rfl, ?_⟩
  simpa [Lit.wf, IntKind.min, IntKind.max, IntKind.signed, IntKind.bits] using h
end Go.X
set_option linter.unusedVariables false
set_option linter.unusedSimpArgs false
namespace Go.X.W
open Go Go.X Go.Proofs

variable {H : Heap} {m : Mem} {K : Value → Heap → Prop}

/-- An act. -/
structure ActR where
  act : Int
  mem : ByteArray
  sc : Int
  lv : Int
  fr : Int
  to : Int
abbrev actC (x : ActR) : List Value := [.int .i64 x.act, .string x.mem, .int .i64 x.sc, .int .i64 x.lv, .int .i64 x.fr, .int .i64 x.to]
def ActOk (x : ActR) : Prop := -9223372036854775808 ≤ x.sc ∧ x.sc ≤ 9223372036854775807

/-- The first seventy bytes. -/
def name70 (s : ByteArray) : ByteArray := s.extract 0 (min s.size 70)
theorem name70_size (s : ByteArray) : (name70 s).size ≤ 70 := by
  unfold name70
  rw [ByteArray.size_extract]
  omega
theorem name70_lt (s : ByteArray) : (name70 s).size < 4611686018427387904 := by have := name70_size s; omega
theorem law_Name_h {s : ByteArray} (hK : K (.string (name70 s)) H) : CallH P f_paliolaw11_Name [.string s] H K := by
  apply k_paliolaw11_Name
  unfold c_paliolaw11_Name
  (try simp only [xl, xo, Bool.not_eq_true', decide_eq_false_iff_not, ite_not, List.size_toArray, List.length_cons, List.length_nil, Nat.reduceAdd, qt, decide_eq_true_eq, Int.toNat_zero, Int.toNat_natCast, Nat.zero_mul, Nat.mul_one, Nat.one_mul, List.toList_toArray, List.cons_append, List.nil_append, List.append_nil, true_and, and_true, Nat.zero_add, Nat.add_zero, Bool.not_true, Bool.not_false, if_true, if_false, reduceCtorEq, List.set_cons_zero, List.set_cons_succ])
  have e : min (s.size : Int) 70 = ((min s.size 70 : Nat) : Int) := by omega
  rw [e]
  refine ⟨min s.size 70, 0, ⟨by omega, by simp⟩, rfl, hK⟩

abbrev sA : ByteArray := ⟨#[97]⟩
abbrev sB : ByteArray := ⟨#[98]⟩
abbrev sC : ByteArray := ⟨#[99]⟩
theorem shown_1 : zAdd ⟨[], false, clampI 0 200 2, clampI 0 64 9, 7⟩ sA 1 1 = (true, 0, ⟨[(sA, 1)], false, 2, 9, 7⟩) := by
  have h1 : ¬ (64 < sA.size ∨ (1 : Int) < 1 ∨ (32 : Int) < 1) := by decide
  have h2 : sA.size = 1 := rfl
  unfold zAdd
  rw [if_neg h1]
  simp [fnd, zAddL, zAddI, rem, insAt, cntE, clampI, h2]
  omega
theorem shown_2 : zAdd ⟨[(sA, 1)], false, 2, 9, 7⟩ sB 0 1 = (true, 0, ⟨[(sB, 0), (sA, 1)], false, 2, 9, 7⟩) := by
  have h1 : ¬ (64 < sB.size ∨ (1 : Int) < 1 ∨ (32 : Int) < 1) := by decide
  have h2 : sB.size = 1 := rfl
  have h3 : ¬ sA = sB := by decide
  unfold zAdd
  rw [if_neg h1]
  simp [fnd, zAddL, zAddI, rem, insAt, cntE, h2, h3, elt]
theorem shown_h (hh : Has H m) (hK : ∀ H', Has H' m → K (.bool true) H') : CallH P f_paliolaw11_shown [] H K := by
  apply k_paliolaw11_shown
  unfold c_paliolaw11_shown
  have h3 : ¬ sA = sB := by decide
  have h4 : ¬ sB = sA := by decide
  have h5 : ¬ sA = sC := by decide
  have h6 : ¬ sB = sC := by decide
  have hs1 : sA.size < 4611686018427387904 := by decide
  have hs2 : sB.size < 4611686018427387904 := by decide
  have hs3 : sC.size < 4611686018427387904 := by decide
  (try simp only [xl, xo, Bool.not_eq_true', decide_eq_false_iff_not, ite_not, List.size_toArray, List.length_cons, List.length_nil, Nat.reduceAdd, qt, decide_eq_true_eq, Int.toNat_zero, Int.toNat_natCast, Nat.zero_mul, Nat.mul_one, Nat.one_mul, List.toList_toArray, List.cons_append, List.nil_append, List.append_nil, true_and, and_true, Nat.zero_add, Nat.add_zero, Bool.not_true, Bool.not_false, if_true, if_false, reduceCtorEq, List.set_cons_zero, List.set_cons_succ])
  refine zset_New_h hh fun H1 s zm hz hh => ?_
  refine zset_Add_h (x := sA) hs1 (by omega) hz (ZOk.new _ _ _) hh fun H2 zm2 hz2 hh => ?_
  have ok1 := (ZOk.new 2 9 7).add sA (sc := 1) 1 (by omega)
  rw [shown_1] at hz2 ok1 ⊢
  simp only at hz2 ok1
  (try simp only [xl, xo, Bool.not_eq_true', decide_eq_false_iff_not, ite_not, List.size_toArray, List.length_cons, List.length_nil, Nat.reduceAdd, qt, decide_eq_true_eq, Int.toNat_zero, Int.toNat_natCast, Nat.zero_mul, Nat.mul_one, Nat.one_mul, List.toList_toArray, List.cons_append, List.nil_append, List.append_nil, true_and, and_true, Nat.zero_add, Nat.add_zero, Bool.not_true, Bool.not_false, if_true, if_false, reduceCtorEq, List.set_cons_zero, List.set_cons_succ])
  refine zset_Add_h (x := sB) hs2 (by omega) hz2 ok1 hh fun H3 zm3 hz3 hh => ?_
  have ok2 := ok1.add sB (sc := 0) 1 (by omega)
  rw [shown_2] at hz3 ok2 ⊢
  simp only at hz3 ok2
  (try simp only [xl, xo, Bool.not_eq_true', decide_eq_false_iff_not, ite_not, List.size_toArray, List.length_cons, List.length_nil, Nat.reduceAdd, qt, decide_eq_true_eq, Int.toNat_zero, Int.toNat_natCast, Nat.zero_mul, Nat.mul_one, Nat.one_mul, List.toList_toArray, List.cons_append, List.nil_append, List.append_nil, true_and, and_true, Nat.zero_add, Nat.add_zero, Bool.not_true, Bool.not_false, if_true, if_false, reduceCtorEq, List.set_cons_zero, List.set_cons_succ])
  refine zset_Rank_h (x := sA) hs1 hz3 ok2 hh fun H4 zm4 hz4 hh => ?_
  have hf1 : fnd sA [(sB, 0), (sA, 1)] = some 1 := by simp [fnd, h4]
  rw [show (⟨[(sB, 0), (sA, 1)], false, 2, 9, 7⟩ : ZSt).L = [(sB, 0), (sA, 1)] from rfl, hf1]
  (try simp only [Option.getD_some, Option.isSome_some])
  (try simp only [xl, xo, Bool.not_eq_true', decide_eq_false_iff_not, ite_not, List.size_toArray, List.length_cons, List.length_nil, Nat.reduceAdd, qt, decide_eq_true_eq, Int.toNat_zero, Int.toNat_natCast, Nat.zero_mul, Nat.mul_one, Nat.one_mul, List.toList_toArray, List.cons_append, List.nil_append, List.append_nil, true_and, and_true, Nat.zero_add, Nat.add_zero, Bool.not_true, Bool.not_false, if_true, if_false, reduceCtorEq, List.set_cons_zero, List.set_cons_succ])
  refine zset_Score_h (x := sC) hs3 hz4 ok2 hh fun H5 zm5 hz5 hh => ?_
  have hf2 : fnd sC [(sB, 0), (sA, 1)] = none := by simp [fnd, h5, h6]
  rw [show (⟨[(sB, 0), (sA, 1)], false, 2, 9, 7⟩ : ZSt).L = [(sB, 0), (sA, 1)] from rfl, sco_none hf2]
  (try simp only [Option.getD_none, Option.isSome_none])
  (try simp only [xl, xo, Bool.not_eq_true', decide_eq_false_iff_not, ite_not, List.size_toArray, List.length_cons, List.length_nil, Nat.reduceAdd, qt, decide_eq_true_eq, Int.toNat_zero, Int.toNat_natCast, Nat.zero_mul, Nat.mul_one, Nat.one_mul, List.toList_toArray, List.cons_append, List.nil_append, List.append_nil, true_and, and_true, Nat.zero_add, Nat.add_zero, Bool.not_true, Bool.not_false, if_true, if_false, reduceCtorEq, List.set_cons_zero, List.set_cons_succ])
  rw [if_pos (by simp), if_pos (by rfl)]
  refine zset_Encoding_h hz5 hh ?_
  (try dsimp only)
  (try simp only [Bool.false_eq_true, if_false])
  (try simp only [xl, xo, Bool.not_eq_true', decide_eq_false_iff_not, ite_not, List.size_toArray, List.length_cons, List.length_nil, Nat.reduceAdd, qt, decide_eq_true_eq, Int.toNat_zero, Int.toNat_natCast, Nat.zero_mul, Nat.mul_one, Nat.one_mul, List.toList_toArray, List.cons_append, List.nil_append, List.append_nil, true_and, and_true, Nat.zero_add, Nat.add_zero, Bool.not_true, Bool.not_false, if_true, if_false, reduceCtorEq, List.set_cons_zero, List.set_cons_succ])
  refine zset_Bytes_h hz5 ok2 hh fun H6 hh => ?_
  have hb : byts false [(sB, 0), (sA, 1)] = 24 := by
    have e1 : sA.size = 1 := rfl
    have e2 : sB.size = 1 := rfl
    simp [byts, packL_len, body_szs, szs, e1, e2]
  rw [hb]
  (try simp only [xl, xo, Bool.not_eq_true', decide_eq_false_iff_not, ite_not, List.size_toArray, List.length_cons, List.length_nil, Nat.reduceAdd, qt, decide_eq_true_eq, Int.toNat_zero, Int.toNat_natCast, Nat.zero_mul, Nat.mul_one, Nat.one_mul, List.toList_toArray, List.cons_append, List.nil_append, List.append_nil, true_and, and_true, Nat.zero_add, Nat.add_zero, Bool.not_true, Bool.not_false, if_true, if_false, reduceCtorEq, List.set_cons_zero, List.set_cons_succ])
  exact hK H6 hh.right
end Go.X.W
set_option linter.unusedVariables false
set_option linter.unusedSimpArgs false
namespace Go.Proofs.YtochkahbnhegaaaGreat
open Go Go.X Go.X.W Go.ChangeShapes Go.WideShapes Go.ChangeAt Go.RowKit

theorem own_law : ownKnob Tryz.prog.godebug = none := by kernel_rfl
theorem laidOut_law : laidOutB Tryz.prog = true := by kernel_rfl
abbrev actK : List CK := [.int .i64, .str, .int .i64, .int .i64, .int .i64, .int .i64]
abbrev limK : List CK := [.int .i64, .int .i64]
abbrev bndK : List CK := [.int .i64, .bool, .int .i64]
abbrev edgK : List CK := [.str, .bool, .int .i64]

theorem act_row {r : List Value} (hl : r.length = 6) (h : ∀ (i : Nat) ck, actK[i]? = some ck → ∃ u, r[i]? = some u ∧ ck.ok u) : ∃ x, r = actC x ∧ ActOk x := by
  match r, hl with
  | [a, b, c, d, e, f], _ =>
    obtain ⟨_, e0, h0⟩ := h 0 _ rfl; simp only [List.getElem?_cons_zero, Option.some.injEq] at e0; subst e0
    obtain ⟨_, e1, h1⟩ := h 1 _ rfl; simp only [List.getElem?_cons_zero, List.getElem?_cons_succ, Option.some.injEq] at e1; subst e1
    obtain ⟨_, e2, h2⟩ := h 2 _ rfl; simp only [List.getElem?_cons_zero, List.getElem?_cons_succ, Option.some.injEq] at e2; subst e2
    obtain ⟨_, e3, h3⟩ := h 3 _ rfl; simp only [List.getElem?_cons_zero, List.getElem?_cons_succ, Option.some.injEq] at e3; subst e3
    obtain ⟨_, e4, h4⟩ := h 4 _ rfl; simp only [List.getElem?_cons_zero, List.getElem?_cons_succ, Option.some.injEq] at e4; subst e4
    obtain ⟨_, e5, h5⟩ := h 5 _ rfl; simp only [List.getElem?_cons_zero, List.getElem?_cons_succ, Option.some.injEq] at e5; subst e5
    obtain ⟨n0, rfl, _⟩ := ck_i64 h0
    obtain ⟨s, rfl, _⟩ := h1
    obtain ⟨n2, rfl, r2⟩ := ck_i64 h2
    obtain ⟨n3, rfl, _⟩ := ck_i64 h3
    obtain ⟨n4, rfl, _⟩ := ck_i64 h4
    obtain ⟨n5, rfl, _⟩ := ck_i64 h5
    exact ⟨⟨n0, s, n2, n3, n4, n5⟩, rfl, r2⟩
theorem acts_of : ∀ {rows : List (List Value)}, (∀ r ∈ rows, r.length = 6 ∧ ∀ (i : Nat) ck, actK[i]? = some ck → ∃ u, r[i]? = some u ∧ ck.ok u) → ∃ acts : List ActR, rows = acts.map actC ∧ ∀ x ∈ acts, ActOk x
  | [], _ => ⟨[], rfl, fun _ h => by cases h⟩
  | r :: rows, h => by
    obtain ⟨x, rfl, hx⟩ := act_row (h r (by simp)).1 (h r (by simp)).2
    obtain ⟨acts, rfl, ha⟩ := acts_of (rows := rows) fun q hq => h q (by simp [hq])
    exact ⟨x :: acts, rfl, fun y hy => by
      rcases List.mem_cons.1 hy with rfl | hy
      · exact hx
      · exact ha y hy⟩
theorem lim_row {cs : List Value} (hl : cs.length = 2) (h : ∀ (i : Nat) ck, limK[i]? = some ck → ∃ u, cs[i]? = some u ∧ ck.ok u) : ∃ le lm, cs = [.int .i64 le, .int .i64 lm] := by
  match cs, hl with
  | [a, b], _ =>
    obtain ⟨_, e0, h0⟩ := h 0 _ rfl; simp only [List.getElem?_cons_zero, Option.some.injEq] at e0; subst e0
    obtain ⟨_, e1, h1⟩ := h 1 _ rfl; simp only [List.getElem?_cons_zero, List.getElem?_cons_succ, Option.some.injEq] at e1; subst e1
    obtain ⟨n0, rfl, _⟩ := ck_i64 h0
    obtain ⟨n1, rfl, _⟩ := ck_i64 h1
    exact ⟨n0, n1, rfl⟩
theorem bnd_row {cs : List Value} (hl : cs.length = 3) (h : ∀ (i : Nat) ck, bndK[i]? = some ck → ∃ u, cs[i]? = some u ∧ ck.ok u) : ∃ b : Bnd, cs = [.int .i64 b.n, .bool b.out, .int .i64 b.inf] := by
  match cs, hl with
  | [a, b, c], _ =>
    obtain ⟨_, e0, h0⟩ := h 0 _ rfl; simp only [List.getElem?_cons_zero, Option.some.injEq] at e0; subst e0
    obtain ⟨_, e1, h1⟩ := h 1 _ rfl; simp only [List.getElem?_cons_zero, List.getElem?_cons_succ, Option.some.injEq] at e1; subst e1
    obtain ⟨_, e2, h2⟩ := h 2 _ rfl; simp only [List.getElem?_cons_zero, List.getElem?_cons_succ, Option.some.injEq] at e2; subst e2
    obtain ⟨n0, rfl, _⟩ := ck_i64 h0
    obtain ⟨o, rfl⟩ := h1
    obtain ⟨n2, rfl, _⟩ := ck_i64 h2
    exact ⟨⟨n0, o, n2⟩, rfl⟩
theorem edg_row {cs : List Value} (hl : cs.length = 3) (h : ∀ (i : Nat) ck, edgK[i]? = some ck → ∃ u, cs[i]? = some u ∧ ck.ok u) : ∃ b : Edg, cs = [.string b.s, .bool b.out, .int .i64 b.inf] ∧ b.s.size ≤ 9223372036854775807 := by
  match cs, hl with
  | [a, b, c], _ =>
    obtain ⟨_, e0, h0⟩ := h 0 _ rfl; simp only [List.getElem?_cons_zero, Option.some.injEq] at e0; subst e0
    obtain ⟨_, e1, h1⟩ := h 1 _ rfl; simp only [List.getElem?_cons_zero, List.getElem?_cons_succ, Option.some.injEq] at e1; subst e1
    obtain ⟨_, e2, h2⟩ := h 2 _ rfl; simp only [List.getElem?_cons_zero, List.getElem?_cons_succ, Option.some.injEq] at e2; subst e2
    obtain ⟨s, rfl, hs⟩ := h0
    obtain ⟨o, rfl⟩ := h1
    obtain ⟨n2, rfl, _⟩ := ck_i64 h2
    have : maxLen = 9223372036854775807 := by decide
    exact ⟨⟨s, o, n2⟩, rfl, by simp only; omega⟩
end Go.Proofs.YtochkahbnhegaaaGreat
set_option linter.unusedVariables false
set_option linter.unusedSimpArgs false
namespace Go.X
open Go
variable {P : Program}

theorem addr_add2 (a : Addr) (i j : Nat) : (a.add i).add j = a.add (i + j) := Deep.add_add a i j

theorem readN_base {H : Heap} {a : Addr} : ∀ (n i k : Nat), readN H (a.add k) i n = readN H a (k + i) n
  | 0, _, _ => rfl
  | n + 1, i, k => by
    simp only [readN]
    rw [addr_add2, readN_base n (i + 1) k, Nat.add_assoc]
theorem readN_app {H : Heap} {a : Addr} : ∀ (n m i : Nat) (r s : List Value), readN H a i n = some r → readN H a (i + n) m = some s → readN H a i (n + m) = some (r ++ s)
  | 0, m, i, r, s, h1, h2 => by
    simp only [readN, Option.some.injEq] at h1
    subst h1
    simpa using h2
  | n + 1, m, i, r, s, h1, h2 => by
    rw [show n + 1 + m = (n + m) + 1 by omega]
    simp only [readN] at h1 ⊢
    cases hc : hcell H (a.add i) with
    | none => rw [hc] at h1; cases h1
    | some v =>
      rw [hc] at h1
      simp only at h1 ⊢
      cases hr : readN H a (i + 1) n with
      | none => rw [hr] at h1; cases h1
      | some r' =>
        rw [hr] at h1
        simp only [Option.some.injEq] at h1
        subst h1
        rw [readN_app n m (i + 1) r' s hr (by rw [show i + 1 + n = i + (n + 1) by omega]; exact h2)]
        rfl

/-- All rows at once. -/
theorem RowsAt.read {sz : Nat} {H : Heap} {v : Value} {l : List (List Value)} (h : RowsAt sz H v l) : readCells sz (lenV v) H v = some l.flatten ∧ lenV v = l.length := by
  rcases h with ⟨rfl, rfl⟩ | ⟨a, c, rfl, h⟩
  · exact ⟨rfl, rfl⟩
  · refine ⟨?_, rfl⟩
    simp only [readCells, lenV]
    have key : ∀ (l : List (List Value)) (k : Nat), (∀ (i : Nat) r, l[i]? = some r → readN H (a.add ((k + i) * sz)) 0 sz = some r) → readN H a (k * sz) (l.length * sz) = some l.flatten := by
      intro l
      induction l with
      | nil => intro k _; simp [readN]
      | cons r l ih =>
        intro k hk
        have h0 := hk 0 r rfl
        rw [Nat.add_zero, readN_base, Nat.add_zero] at h0
        have h1 := ih (k + 1) fun i x hx => by
          have := hk (i + 1) x (by simpa using hx)
          rwa [show k + (i + 1) = k + 1 + i by omega] at this
        rw [List.length_cons, List.flatten_cons, Nat.add_mul, Nat.one_mul, Nat.add_comm (l.length * sz) sz]
        refine readN_app sz _ _ _ _ h0 ?_
        rwa [Nat.add_mul, Nat.one_mul] at h1
    have := key l 0 fun i r hr => by rw [Nat.zero_add]; exact h i r hr
    rwa [Nat.zero_mul] at this

/-- A piece of such a slice. -/
theorem RowsAt.piece {sz : Nat} {H : Heap} {v : Value} {l : List (List Value)} {lo hi : Option Value} {f t : Nat} {K : Value → Prop} (h : RowsAt sz H v l) (hc : ∀ a n c, v = .slice a n c → n ≤ c) (hft : f ≤ t ∧ t ≤ l.length)
    (hhi : ∀ c, l.length ≤ c → BoundIs hi l.length c t) (hlo : BoundIs lo 0 t f) (hK : ∀ w, RowsAt sz H w ((l.drop f).take (t - f)) → (∀ H', RowsAt sz H' v l → RowsAt sz H' w ((l.drop f).take (t - f))) → (∀ a n c, w = .slice a n c → n ≤ c) → K w) :
    SliceSlP sz v lo hi none K := by
  have hmx : ∀ c : Nat, ((none : Option Value).isSome = true → hi.isSome = true) := fun _ h => by cases h
  rcases h with ⟨rfl, rfl⟩ | ⟨a, c, rfl, h⟩
  · simp only [List.length_nil] at hft hhi
    have ht : t = 0 := by omega
    have hf : f = 0 := by omega
    subst ht hf
    refine ⟨0, 0, 0, rfl, hmx 0, hhi 0 (Nat.le_refl _), hlo, ?_⟩
    refine hK _ (.inl ⟨by simp, by simp⟩) (fun H' _ => .inl ⟨by simp, by simp⟩) (fun a n c e => ?_)
    injection e; omega
  · have hlc := hc _ _ _ rfl
    have hll : ((l.drop f).take (t - f)).length = t - f := by rw [List.length_take, List.length_drop]; omega
    refine ⟨c, t, f, rfl, hmx 0, hhi c hlc, hlo, ?_⟩
    have rows : ∀ (H' : Heap) (p : Addr), (c ≠ f → p = a.add (f * sz)) → RowsAt sz H' (.slice (some a) l.length c) l → ∀ (i : Nat) r, ((l.drop f).take (t - f))[i]? = some r → readN H' (p.add (i * sz)) 0 sz = some r := by
      intro H' p hp h' i r hr
      have hi' := (List.getElem?_eq_some_iff.1 hr).1
      rw [hll] at hi'
      rw [hp (by omega), addr_add2, ← Nat.add_mul]
      rcases h' with ⟨h0, _⟩ | ⟨a', c', h0, h'⟩
      · cases h0
      · injection h0 with e1 e2 e3
        injection e1 with e1
        subst e1
        rw [List.getElem?_take, if_pos hi', List.getElem?_drop] at hr
        exact h' _ _ hr
    by_cases hcf : c = f
    · rw [if_pos hcf]
      refine hK _ (.inr ⟨a, c - f, by rw [hll], rows H a (fun h => absurd hcf h) (.inr ⟨a, c, rfl, h⟩)⟩) (fun H' h' => .inr ⟨a, c - f, by rw [hll], rows H' a (fun h => absurd hcf h) h'⟩) (fun a n c e => ?_)
      injection e; omega
    · rw [if_neg hcf]
      simp only [Option.map_some]
      refine hK _ (.inr ⟨a.add (f * sz), c - f, by rw [hll], rows H _ (fun _ => rfl) (.inr ⟨a, c, rfl, h⟩)⟩) (fun H' h' => .inr ⟨a.add (f * sz), c - f, by rw [hll], rows H' _ (fun _ => rfl) h'⟩) (fun a n c e => ?_)
      injection e; omega

/-- append of such a slice. -/
theorem h_appendR {elem : TypeId} {sz bt : Nat} {s x : Value} {cs : List Value} {rows : List (List Value)} {sl m : Mem} {H : Heap} {K : Value → Heap → Prop} {len : Nat} (hsz : sizeT P elem = sz) (hbt : bytesT P elem = bt) (hz : (zeroT P elem).cells.size = sz)
    (h0 : 0 < sz ∧ 0 < bt ∧ bt ≤ 100) (hown : SlOwn sz s cs sl) (hh : Has H (sl + m)) (hl : cs.length = len * sz) (hx : RowsAt sz H x rows) (hn : rows.flatten.length = rows.length * sz) (hoc : ∀ v ∈ rows.flatten, v.oneCell = true)
    (hb : len + rows.length ≤ 1000000000) (hk : ∀ v' sl' H', SlOwn sz v' (cs ++ rows.flatten) sl' → Has H' (sl' + m) → lenV v' = len + rows.length → K v' H') : AppendP P elem s x H K := by
  obtain ⟨h1, h2⟩ := hx.read
  rw [← h2] at hn hb hk
  exact h_append hsz hbt hz h0 hown hh hl h1 hn hoc hb hk

/-! ### Slices of whole numbers that come in -/
abbrev IntsAt (H : Heap) (v : Value) (l : List Int) : Prop := RowsAt 1 H v (l.map fun n => [.int .i64 n])
theorem IntsAt.at {H : Heap} {v : Value} {l : List Int} (h : IntsAt H v l) {i : Nat} {n : Int} (hg : l[i]? = some n) :
    ∃ p, (∀ {K : Value → Prop}, K (.pointer (some p)) → IdxSliceP 1 v (.int .i64 i) K) ∧ ∀ {K : Value → Prop}, K (.int .i64 n) → LoadP none H (.pointer (some p)) K := by
  obtain ⟨p, h1, h2⟩ := RowsAt.at h (i := i) (r := [.int .i64 n]) (by rw [List.getElem?_map, hg]; rfl)
  refine ⟨p, h1, fun {K} hK => ⟨_, ?_, hK⟩⟩
  simp only [readN] at h2
  cases hc : hcell H (p.add 0) with
  | none => rw [hc] at h2; cases h2
  | some u =>
    rw [hc] at h2
    simp only [Option.some.injEq, List.cons.injEq, and_true] at h2
    rw [h2, add_zero] at hc
    exact hc
open Go.WideShapes in
theorem open_i64s {H : Type} {enc : TypeId × Value → H} {W : World} {held : Bool} {base : Nat} {t e : TypeId} {v : Value} {d : DataW H} {ps : List MemPlace} (ht : P.underlying t = some (.slice e)) (hd : P.underlying e = some (.int .i64))
    (hc : P.cellsOf e = 1) (hv : Value.okWide P W .any base t v) (h : DataW.Trod enc P W 0 (fun _ => true) held t v d ps) : ∃ l : List Int, IntsAt W.heap v l ∧ l.length ≤ maxLen := by
  obtain ⟨a0, n0, c0, rfl⟩ := okWide_slice ht hv
  obtain ⟨fuel, h⟩ := h
  rcases Deep.open_slice ht h with ⟨h0, _⟩ | ⟨a, len, cap, m, n, D, Pl, h0, hb, hl, hm, hmm, _, hall⟩
  · simp only [Value.cells, List.cons.injEq, and_true] at h0
    exact ⟨[], .inl ⟨by simpa using h0, rfl⟩, by simp⟩
  · have h0 : Value.slice a0 n0 c0 = .slice (some a) len cap := by simpa [Value.cells] using h0
    obtain ⟨l, hll, hp⟩ := list_of (p := fun i (x : Int) => readN W.heap (a.add (i * 1)) 0 1 = some [.int .i64 x]) len fun i hi => by
      obtain ⟨cs', h1, h2⟩ := hall i (by rw [hmm]; simp; omega)
      rw [hc] at h1
      obtain ⟨u, hu, hk⟩ := trod_ck (ck := .int .i64) hd rfl h2
      obtain ⟨x, rfl, _⟩ := hk
      rw [hu] at h1
      exact ⟨x, cells_readN h1⟩
    refine ⟨l, .inr ⟨a, cap, by rw [h0, List.length_map, hll], fun i r hr => ?_⟩, by omega⟩
    rw [List.getElem?_map] at hr
    obtain ⟨x, hx, rfl⟩ := Option.map_eq_some_iff.1 hr
    exact hp i x hx
end Go.X
set_option linter.unusedVariables false
set_option linter.unusedSimpArgs false
namespace Go.X.W
open Go Go.X Go.Proofs

variable {H : Heap} {m : Mem} {K : Value → Heap → Prop}

/-- A slice from which entries are read. -/
abbrev EntsAt (H : Heap) (v : Value) (l : List Ent) : Prop := RowsAt 2 H v (l.map entC)
theorem own_ents {v : Value} {l : List Ent} {sl : Mem} (h : SlOwn 2 v (entsC l) sl) (hl : lenV v = l.length) (hh : Has H (sl + m)) : EntsAt H v l := by
  rcases h with ⟨rfl, e, rfl⟩ | ⟨b, len, cap, rest, rfl, h1, h2, h3, rfl⟩
  · have : l = [] := by
      cases l with
      | nil => rfl
      | cons a l => simp [entsC] at e
    subst this
    exact .inl ⟨rfl, rfl⟩
  · simp only [lenV] at hl
    subst hl
    refine .inr ⟨_, cap, by rw [List.length_map], fun i r hr => ?_⟩
    rw [List.getElem?_map] at hr
    obtain ⟨e, he, rfl⟩ := Option.map_eq_some_iff.1 hr
    have hi := (List.getElem?_eq_some_iff.1 he).1
    have hlen := entsC_length l
    rw [addr_add, Nat.zero_add, (hh.left.blk (b := b)).readN (i * 2) 2 0 (by rw [List.length_append]; omega), Nat.add_zero, List.drop_append_of_le_length (by omega), List.take_append_of_le_length (by rw [List.length_drop]; omega), entsC_get he]
theorem own_cap {v : Value} {cs : List Value} {sl : Mem} (h : SlOwn 2 v cs sl) : ∀ a n c, v = .slice a n c → n ≤ c := by
  intro a n c e
  rcases h with ⟨rfl, _⟩ | ⟨b, len, cap, rest, rfl, _, h2, _⟩
  · injection e; omega
  · injection e with e1 e2 e3; omega
theorem ents_flat (l : List Ent) : (l.map entC).flatten = entsC l := by simp [entsC, List.flatMap]
theorem EntsAt.len {v : Value} {l : List Ent} (h : EntsAt H v l) {K : Value → Prop} (hK : K (.int .i64 l.length)) : LenP v K := RowsAt.len h (by rw [List.length_map]; exact hK)
theorem EntsAt.at {v : Value} {l : List Ent} (h : EntsAt H v l) {i : Nat} {e : Ent} (hg : l[i]? = some e) : ∃ p, (∀ {K : Value → Prop}, K (.pointer (some p)) → IdxSliceP 2 v (.int .i64 i) K) ∧ readN H p 0 2 = some (entC e) :=
  RowsAt.at h (by rw [List.getElem?_map, hg]; rfl)

/-- Owned entries are appended to. -/
theorem h_appendE {s x : Value} {l r : List Ent} {sl m : Mem} {K : Value → Heap → Prop} (hown : SlOwn 2 s (entsC l) sl) (hh : Has H (sl + m)) (hx : EntsAt H x r) (hb : l.length + r.length < 1000000)
    (hk : ∀ v' sl' H', SlOwn 2 v' (entsC (l ++ r)) sl' → Has H' (sl' + m) → lenV v' = (l ++ r).length → K v' H') : AppendP P T_api_Entry s x H K := by
  refine h_appendR (len := l.length) sz_api_Entry by_api_Entry (by rw [ze_api_Entry]; rfl) (by omega) hown hh (entsC_length l) hx (by rw [ents_flat, entsC_length, List.length_map]) (by rw [ents_flat]; exact entsC_oc r) (by rw [List.length_map]; omega) fun v' sl' H' h1 h2 h3 => ?_
  rw [ents_flat, ← entsC_append] at h1
  exact hk v' sl' H' h1 h2 (by rw [h3, List.length_map, List.length_append])

/-! ### palioref07, 09: what stands ahead -/
theorem lless_app : ∀ (p a b : List UInt8), lless (p ++ a) (p ++ b) = lless a b
  | [], _, _ => rfl
  | x :: p, a, b => by
    simp only [List.cons_append, lless, lless_app p a b]
    have : ¬ x < x := by rw [u8_lt]; omega
    simp [this]
theorem u8_ne_int {x y : UInt8} : (x.toNat : Int) = (y.toNat : Int) ↔ x = y := by rw [u8_eq]; omega

theorem ref07_Less_h {a b : ByteArray} (hb : a.size ≤ 9223372036854775807) (hK : K (.bool (bl a b)) H) : CallH P f_palioref07_Less [.string a, .string b] H K := by
  apply k_palioref07_Less
  unfold c_palioref07_Less
  have hbl : bl a b = lless a.data.toList b.data.toList := by rw [bl_def]; rfl
  have ha : a = baL a.data.toList := rfl
  have hb' : b = baL b.data.toList := rfl
  have hsa : a.size = a.data.toList.length := rfl
  have hsb : b.size = b.data.toList.length := rfl
  rw [hbl] at hK
  have hga : ∀ i, a[i]? = a.data.toList[i]? := fun i => by conv => lhs; rw [ha]; rw [baL_get]
  have hgb : ∀ i, b[i]? = b.data.toList[i]? := fun i => by conv => lhs; rw [hb']; rw [baL_get]
  generalize a.data.toList = x at *
  generalize b.data.toList = y at *
  refine join_of ((), []) (fun Q => Q = H ∧ ∃ i, x.take i = y.take i ∧ (x.length ≤ i ∨ y.length ≤ i) ∧ i ≤ x.length ∧ i ≤ y.length) ?_ ?_
  · rintro Q ⟨rfl, i, h1, h2, h3, h4⟩ g
    (try simp only [xl, xo, Bool.not_eq_true', decide_eq_false_iff_not, ite_not, List.size_toArray, List.length_cons, List.length_nil, Nat.reduceAdd, qt, decide_eq_true_eq, Int.toNat_zero, Int.toNat_natCast, Nat.zero_mul, Nat.mul_one, Nat.one_mul, List.toList_toArray, List.cons_append, List.nil_append, List.append_nil, true_and, and_true, Nat.zero_add, Nat.add_zero, Bool.not_true, Bool.not_false, if_true, if_false, reduceCtorEq, List.set_cons_zero, List.set_cons_succ])
    have : lless x y = decide ((a.size : Int) < b.size) := by
      rw [hsa, hsb]
      have e1 : x = x.take i ++ x.drop i := (List.take_append_drop i x).symm
      have e2 : y = x.take i ++ y.drop i := by rw [h1]; exact (List.take_append_drop i y).symm
      rw [e1, e2, lless_app, ← e1, ← e2]
      rcases h2 with h2 | h2
      · rw [List.drop_eq_nil_of_le h2]
        cases hd : y.drop i with
        | nil =>
          have := congrArg List.length hd
          rw [List.length_drop] at this
          simp only [List.length_nil] at this
          simp [lless]; omega
        | cons v w =>
          have := congrArg List.length hd
          rw [List.length_drop] at this
          simp only [List.length_cons] at this
          simp [lless]; omega
      · rw [List.drop_eq_nil_of_le h2]
        have : lless (x.drop i) [] = false := by cases x.drop i <;> rfl
        rw [this]
        simp; omega
    rw [this] at hK
    exact hK
  · intro J hJ
    refine loop_i (fun k s Q => Q = H ∧ ∃ i : Nat, k = x.length - i ∧ s = (.int .i64 i, []) ∧ x.take i = y.take i ∧ i ≤ x.length ∧ i ≤ y.length) x.length ⟨rfl, 0, by omega, rfl, rfl, by omega, by omega⟩ ?_
    rintro k _ g Q ⟨rfl, i, rfl, rfl, h1, h3, h4⟩
    (try simp only [xl, xo, Bool.not_eq_true', decide_eq_false_iff_not, ite_not, List.size_toArray, List.length_cons, List.length_nil, Nat.reduceAdd, qt, decide_eq_true_eq, Int.toNat_zero, Int.toNat_natCast, Nat.zero_mul, Nat.mul_one, Nat.one_mul, List.toList_toArray, List.cons_append, List.nil_append, List.append_nil, true_and, and_true, Nat.zero_add, Nat.add_zero, Bool.not_true, Bool.not_false, if_true, if_false, reduceCtorEq, List.set_cons_zero, List.set_cons_succ])
    rw [hsa, hsb]
    by_cases hx : i < x.length
    · rw [if_pos (by omega)]
      by_cases hy : i < y.length
      · rw [if_pos (by omega)]
        have g1 : x[i]? = some x[i] := List.getElem?_eq_getElem hx
        have g2 : y[i]? = some y[i] := List.getElem?_eq_getElem hy
        generalize x[i] = c at g1
        generalize y[i] = d at g2
        refine ⟨by omega, c, by rw [hga, g1], by omega, d, by rw [hgb, g2], ?_⟩
        by_cases hcd : c = d
        · subst hcd
          rw [if_pos rfl, w64 (by omega)]
          refine ⟨x.length - (i + 1), by omega, i + 1, rfl, rfl, ?_, by omega, by omega⟩
          rw [List.take_add_one, List.take_add_one, g1, g2, h1]
        · rw [if_neg (by rw [u8_ne_int]; exact hcd)]
          refine ⟨by omega, c, by rw [hga, g1], by omega, d, by rw [hgb, g2], ?_⟩
          have : lless x y = decide ((c.toNat : Int) < d.toNat) := by
            have e1 : x = x.take i ++ c :: x.drop (i + 1) := by
              have : c = x[i] := by rw [List.getElem?_eq_getElem hx] at g1; injection g1 with g; exact g.symm
              rw [this, ← List.drop_eq_getElem_cons hx, List.take_append_drop]
            have e2 : y = x.take i ++ d :: y.drop (i + 1) := by
              have : d = y[i] := by rw [List.getElem?_eq_getElem hy] at g2; injection g2 with g; exact g.symm
              rw [h1, this, ← List.drop_eq_getElem_cons hy, List.take_append_drop]
            rw [e1, e2, lless_app]
            simp only [lless, hcd, decide_false, Bool.false_and, Bool.or_false]
            rw [decide_eq_decide, u8_lt]
            omega
          rw [this] at hK
          exact hK
      · rw [if_neg (by omega)]
        exact hJ Q ⟨rfl, i, h1, .inr (by omega), h3, h4⟩
    · rw [if_neg (by omega)]
      exact hJ Q ⟨rfl, i, h1, .inl (by omega), h3, h4⟩

theorem ref09_Less_h {a b : Ent} (hb : a.1.size ≤ 9223372036854775807) (hh : Has H m) (hK : ∀ H', Has H' m → K (.bool (elt a b)) H') : CallH P f_palioref09_Less [entV a, entV b] H K := by
  apply k_palioref09_Less
  unfold c_palioref09_Less
  rw [x_boxN]
  refine h_allocA hh fun ab H1 hh => ?_
  rw [x_boxN]
  refine h_allocA hh fun bb H2 hh => ?_
  (try simp only [xl, xo, Bool.not_eq_true', decide_eq_false_iff_not, ite_not, List.size_toArray, List.length_cons, List.length_nil, Nat.reduceAdd, qt, decide_eq_true_eq, Int.toNat_zero, Int.toNat_natCast, Nat.zero_mul, Nat.mul_one, Nat.one_mul, List.toList_toArray, List.cons_append, List.nil_append, List.append_nil, true_and, and_true, Nat.zero_add, Nat.add_zero, Bool.not_true, Bool.not_false, if_true, if_false, reduceCtorEq, List.set_cons_zero, List.set_cons_succ])
  refine h_load (b := ab) hh rfl (h_load (b := bb) hh rfl ?_)
  (try simp only [xl, xo, Bool.not_eq_true', decide_eq_false_iff_not, ite_not, List.size_toArray, List.length_cons, List.length_nil, Nat.reduceAdd, qt, decide_eq_true_eq, Int.toNat_zero, Int.toNat_natCast, Nat.zero_mul, Nat.mul_one, Nat.one_mul, List.toList_toArray, List.cons_append, List.nil_append, List.append_nil, true_and, and_true, Nat.zero_add, Nat.add_zero, Bool.not_true, Bool.not_false, if_true, if_false, reduceCtorEq, List.set_cons_zero, List.set_cons_succ])
  by_cases h1 : a.2 < b.2
  · rw [if_pos h1]
    have : elt a b = true := by simp [elt, h1]
    rw [this] at hK
    exact hK H2 hh.right.right
  · rw [if_neg h1]
    refine h_load (b := ab) hh rfl (h_load (b := bb) hh rfl ?_)
    (try simp only [xl, xo, Bool.not_eq_true', decide_eq_false_iff_not, ite_not, List.size_toArray, List.length_cons, List.length_nil, Nat.reduceAdd, qt, decide_eq_true_eq, Int.toNat_zero, Int.toNat_natCast, Nat.zero_mul, Nat.mul_one, Nat.one_mul, List.toList_toArray, List.cons_append, List.nil_append, List.append_nil, true_and, and_true, Nat.zero_add, Nat.add_zero, Bool.not_true, Bool.not_false, if_true, if_false, reduceCtorEq, List.set_cons_zero, List.set_cons_succ])
    by_cases h2 : a.2 = b.2
    · rw [if_pos h2]
      refine h_load (b := ab) hh rfl (h_load (b := bb) hh rfl ?_)
      refine ref07_Less_h hb ?_
      have : elt a b = bl a.1 b.1 := by simp [elt, h1, h2]
      rw [this] at hK
      exact hK H2 hh.right.right
    · rw [if_neg h2]
      have : elt a b = false := by simp [elt, h1, h2]
      rw [this] at hK
      exact hK H2 hh.right.right

/-! ### palioref05: Find, Same, Delete, Insert -/
theorem ref05_Find_h {v : Value} {l : List Ent} {x : ByteArray} (hr : EntsAt H v l) (hb : l.length < 1000000) (hK : K (.int .i64 (fndI x l)) H) : CallH P f_palioref05_Find [v, .string x] H K := by
  apply k_palioref05_Find
  unfold c_palioref05_Find
  refine loop_i (fun k s Q => Q = H ∧ ∃ i : Nat, i + k = l.length ∧ s = (.int .i64 i, []) ∧ ∀ j, j < i → ∀ e, l[j]? = some e → e.1 ≠ x) l.length ⟨rfl, 0, by omega, rfl, fun j hj => by omega⟩ ?_
  rintro k _ g Q ⟨rfl, i, hik, rfl, hn⟩
  refine hr.len ?_
  (try simp only [xl, xo, Bool.not_eq_true', decide_eq_false_iff_not, ite_not, List.size_toArray, List.length_cons, List.length_nil, Nat.reduceAdd, qt, decide_eq_true_eq, Int.toNat_zero, Int.toNat_natCast, Nat.zero_mul, Nat.mul_one, Nat.one_mul, List.toList_toArray, List.cons_append, List.nil_append, List.append_nil, true_and, and_true, Nat.zero_add, Nat.add_zero, Bool.not_true, Bool.not_false, if_true, if_false, reduceCtorEq, List.set_cons_zero, List.set_cons_succ])
  by_cases hi : i < l.length
  · rw [if_pos (by omega)]
    have hg : l[i]? = some (l[i]'hi) := List.getElem?_eq_getElem hi
    generalize l[i]'hi = e at hg
    obtain ⟨p, hp1, hp2⟩ := hr.at hg
    refine hp1 ?_
    have hc : hcell Q (p.add 0) = some (.string e.1) := by
      simp only [readN] at hp2
      cases h0 : hcell Q (p.add 0) with
      | none => rw [h0] at hp2; cases hp2
      | some u =>
        rw [h0] at hp2
        cases h1 : hcell Q (p.add (0 + 1)) with
        | none => rw [h1] at hp2; cases hp2
        | some w =>
          rw [h1] at hp2
          simp only [Option.some.injEq, List.cons.injEq] at hp2
          rw [hp2.1]
    refine ⟨_, hc, ?_⟩
    (try simp only [xl, xo, Bool.not_eq_true', decide_eq_false_iff_not, ite_not, List.size_toArray, List.length_cons, List.length_nil, Nat.reduceAdd, qt, decide_eq_true_eq, Int.toNat_zero, Int.toNat_natCast, Nat.zero_mul, Nat.mul_one, Nat.one_mul, List.toList_toArray, List.cons_append, List.nil_append, List.append_nil, true_and, and_true, Nat.zero_add, Nat.add_zero, Bool.not_true, Bool.not_false, if_true, if_false, reduceCtorEq, List.set_cons_zero, List.set_cons_succ])
    by_cases hex : e.1 = x
    · rw [if_pos hex]
      have : fnd x l = some i := fnd_some.2 ⟨⟨e.2, by rw [hg, ← hex]⟩, hn⟩
      simp only [fndI, this] at hK
      exact hK
    · rw [if_neg hex, w64 (by omega)]
      refine ⟨k - 1, by omega, i + 1, by omega, rfl, fun j hj e' he' => ?_⟩
      by_cases hji : j = i
      · subst hji; rw [hg] at he'; simp only [Option.some.injEq] at he'; subst he'; exact hex
      · exact hn j (by omega) e' he'
  · rw [if_neg (by omega)]
    have : fnd x l = none := fnd_none.2 fun e he => by
      obtain ⟨j, hj⟩ := List.getElem?_of_mem he
      exact hn j (by have := (List.getElem?_eq_some_iff.1 hj).1; omega) e hj
    simp only [fndI, this] at hK
    exact hK

theorem ref05_Same_h {v u : Value} {l : List Ent} (hr : EntsAt H v l) (hu : EntsAt H u l) (hb : l.length < 1000000) (hK : K (.bool true) H) : CallH P f_palioref05_Same [v, u] H K := by
  apply k_palioref05_Same
  unfold c_palioref05_Same
  refine hr.len (hu.len ?_)
  (try simp only [xl, xo, Bool.not_eq_true', decide_eq_false_iff_not, ite_not, List.size_toArray, List.length_cons, List.length_nil, Nat.reduceAdd, qt, decide_eq_true_eq, Int.toNat_zero, Int.toNat_natCast, Nat.zero_mul, Nat.mul_one, Nat.one_mul, List.toList_toArray, List.cons_append, List.nil_append, List.append_nil, true_and, and_true, Nat.zero_add, Nat.add_zero, Bool.not_true, Bool.not_false, if_true, if_false, reduceCtorEq, List.set_cons_zero, List.set_cons_succ])
  refine loop_i (fun k s Q => Q = H ∧ ∃ i : Nat, i + k = l.length ∧ s = (.int .i64 i, [])) l.length ⟨rfl, 0, by omega, rfl⟩ ?_
  rintro k _ g Q ⟨rfl, i, hik, rfl⟩
  refine hr.len ?_
  (try simp only [xl, xo, Bool.not_eq_true', decide_eq_false_iff_not, ite_not, List.size_toArray, List.length_cons, List.length_nil, Nat.reduceAdd, qt, decide_eq_true_eq, Int.toNat_zero, Int.toNat_natCast, Nat.zero_mul, Nat.mul_one, Nat.one_mul, List.toList_toArray, List.cons_append, List.nil_append, List.append_nil, true_and, and_true, Nat.zero_add, Nat.add_zero, Bool.not_true, Bool.not_false, if_true, if_false, reduceCtorEq, List.set_cons_zero, List.set_cons_succ])
  by_cases hi : i < l.length
  · rw [if_pos (by omega)]
    have hg : l[i]? = some (l[i]'hi) := List.getElem?_eq_getElem hi
    generalize l[i]'hi = e at hg
    obtain ⟨p, hp1, hp2⟩ := hr.at hg
    obtain ⟨p', hp1', hp2'⟩ := hu.at hg
    refine hp1 (load_row hp2 (hp1' (load_row hp2' ?_)))
    (try simp only [xl, xo, Bool.not_eq_true', decide_eq_false_iff_not, ite_not, List.size_toArray, List.length_cons, List.length_nil, Nat.reduceAdd, qt, decide_eq_true_eq, Int.toNat_zero, Int.toNat_natCast, Nat.zero_mul, Nat.mul_one, Nat.one_mul, List.toList_toArray, List.cons_append, List.nil_append, List.append_nil, true_and, and_true, Nat.zero_add, Nat.add_zero, Bool.not_true, Bool.not_false, if_true, if_false, reduceCtorEq, List.set_cons_zero, List.set_cons_succ])
    rw [w64 (by omega)]
    exact ⟨k - 1, by omega, i + 1, by omega, rfl⟩
  · rw [if_neg (by omega)]
    exact hK

theorem map_take_drop (l : List Ent) (f n : Nat) : ((l.map entC).drop f).take n = ((l.drop f).take n).map entC := by rw [List.map_take, List.map_drop]

theorem ref05_Delete_h {v : Value} {l : List Ent} {i : Nat} (hh : Has H m) (hr : ∀ H', Has H' m → EntsAt H' v l) (hc : ∀ a n c, v = .slice a n c → n ≤ c) (hi : i < l.length) (hb : l.length < 100000)
    (hK : ∀ H' w sl, SlOwn 2 w (entsC (delAt l i)) sl → lenV w = (delAt l i).length → Has H' (sl + m) → K w H') : CallH P f_palioref05_Delete [v, .int .i64 i] H K := by
  apply k_palioref05_Delete
  unfold c_palioref05_Delete
  refine RowsAt.piece (f := 0) (t := i) (hr H hh) hc (by rw [List.length_map]; omega) (fun c h => ⟨by rw [List.length_map] at h; omega, by simp⟩) rfl fun w hw hw2 _ => ?_
  rw [map_take_drop, List.drop_zero, Nat.sub_zero] at hw
  refine h_appendE (l := []) (sl := emp) (m := m) (.inl ⟨rfl, rfl, rfl⟩) (by rw [emp_add]; exact hh) hw (by simp; omega) fun u ul H2 hu hh hlu => ?_
  rw [List.nil_append] at hu hlu
  (try simp only [xl, xo, Bool.not_eq_true', decide_eq_false_iff_not, ite_not, List.size_toArray, List.length_cons, List.length_nil, Nat.reduceAdd, qt, decide_eq_true_eq, Int.toNat_zero, Int.toNat_natCast, Nat.zero_mul, Nat.mul_one, Nat.one_mul, List.toList_toArray, List.cons_append, List.nil_append, List.append_nil, true_and, and_true, Nat.zero_add, Nat.add_zero, Bool.not_true, Bool.not_false, if_true, if_false, reduceCtorEq, List.set_cons_zero, List.set_cons_succ])
  rw [w64 (by omega)]
  refine RowsAt.piece (f := i + 1) (t := l.length) (hr H2 hh.right) hc (by rw [List.length_map]; omega) (fun c h => by rw [List.length_map]; rfl) ⟨by omega, by simp⟩ fun w' hw' _ _ => ?_
  rw [map_take_drop, List.take_of_length_le (by rw [List.length_drop]; omega)] at hw'
  refine h_appendE hu hh hw' (by simp; omega) fun u' ul' H3 hu' hh hlu' => hK H3 u' ul' hu' hlu' hh

theorem ref05_Insert_h {v : Value} {l : List Ent} {i : Nat} {e : Ent} (hh : Has H m) (hr : ∀ H', Has H' m → EntsAt H' v l) (hc : ∀ a n c, v = .slice a n c → n ≤ c) (hi : i ≤ l.length) (hb : l.length < 100000)
    (hK : ∀ H' w sl, SlOwn 2 w (entsC (insAt l i e)) sl → lenV w = (insAt l i e).length → Has H' (sl + m) → K w H') : CallH P f_palioref05_Insert [v, .int .i64 i, entV e] H K := by
  apply k_palioref05_Insert
  unfold c_palioref05_Insert
  rw [x_boxN]
  refine h_allocA hh fun eb H1 hh => ?_
  have one : ∀ {G : Heap} {tb : Nat} {m' r : Mem} [p : PickC tb m' (entC e) r], Has G m' → EntsAt G (.slice (some ⟨tb, 0, none⟩) 1 1) [e] := fun {G tb m' r} p hh => .inr ⟨_, 1, rfl, fun j r hr => by
    cases j with
    | zero =>
      simp at hr; subst hr
      have := (hh.blk (b := tb)).readN 0 2 0 (by simp)
      simpa [addr_add] using this
    | succ j => simp at hr⟩
  refine join_ofS (fun s Q => ∃ w wl m', s = (w, []) ∧ SlOwn 2 w (entsC (l.take i ++ [e])) wl ∧ Has Q (wl + (m + m'))) ?_ ?_
  · rintro s Q ⟨w, wl, m', rfl, hw, hh⟩ g
    refine RowsAt.piece (f := i) (t := l.length) (hr Q (hh.front m).left) hc (by rw [List.length_map]; omega) (fun c h => by rw [List.length_map]; rfl) ⟨by omega, by simp⟩ fun w' hw' _ _ => ?_
    rw [map_take_drop, List.take_of_length_le (by rw [List.length_drop]; omega)] at hw'
    refine h_appendE hw hh hw' (by simp; omega) fun u ul H3 hu hh hlu => ?_
    (try simp only [xl, xo, Bool.not_eq_true', decide_eq_false_iff_not, ite_not, List.size_toArray, List.length_cons, List.length_nil, Nat.reduceAdd, qt, decide_eq_true_eq, Int.toNat_zero, Int.toNat_natCast, Nat.zero_mul, Nat.mul_one, Nat.one_mul, List.toList_toArray, List.cons_append, List.nil_append, List.append_nil, true_and, and_true, Nat.zero_add, Nat.add_zero, Bool.not_true, Bool.not_false, if_true, if_false, reduceCtorEq, List.set_cons_zero, List.set_cons_succ])
    have e1 : (l.take i ++ [e]) ++ l.drop i = insAt l i e := by simp [insAt]
    rw [e1] at hu hlu
    exact hK H3 u ul hu hlu (hh.front (ul + m)).left
  · intro J hJ
    refine RowsAt.piece (f := 0) (t := i) (hr H1 hh.right) hc (by rw [List.length_map]; omega) (fun c h => ⟨by rw [List.length_map] at h; omega, by simp⟩) rfl fun w hw hw2 _ => ?_
    rw [map_take_drop, List.drop_zero, Nat.sub_zero] at hw
    refine h_load2 (b := eb) hh rfl rfl ⟨?_, ?_⟩
    · refine h_appendE (l := []) (sl := emp) (m := cell eb (entC e) + m) (.inl ⟨rfl, rfl, rfl⟩) (by rw [emp_add]; exact hh) hw (by simp; omega) fun u ul H2 hu hh hlu => ?_
      rw [List.nil_append] at hu hlu
      refine ⟨h_loadNIs (b := eb) hh (by simp), ?_⟩
      (try simp only [xl, xo, Bool.not_eq_true', decide_eq_false_iff_not, ite_not, List.size_toArray, List.length_cons, List.length_nil, Nat.reduceAdd, qt, decide_eq_true_eq, Int.toNat_zero, Int.toNat_natCast, Nat.zero_mul, Nat.mul_one, Nat.one_mul, List.toList_toArray, List.cons_append, List.nil_append, List.append_nil, true_and, and_true, Nat.zero_add, Nat.add_zero, Bool.not_true, Bool.not_false, if_true, if_false, reduceCtorEq, List.set_cons_zero, List.set_cons_succ])
      refine h_buildSl hh fun tb H3 hh => ?_
      refine h_appendE (l := l.take i) hu (hh.front ul) (one (tb := tb) hh) (by simp; omega) fun u' ul' H4 hu' hh hlu' => hJ _ _ ⟨u', ul', _, rfl, hu', (hh.front (ul' + m)).to (by simp only [mem_assoc]; rfl)⟩
    · (try simp only [xl, xo, Bool.not_eq_true', decide_eq_false_iff_not, ite_not, List.size_toArray, List.length_cons, List.length_nil, Nat.reduceAdd, qt, decide_eq_true_eq, Int.toNat_zero, Int.toNat_natCast, Nat.zero_mul, Nat.mul_one, Nat.one_mul, List.toList_toArray, List.cons_append, List.nil_append, List.append_nil, true_and, and_true, Nat.zero_add, Nat.add_zero, Bool.not_true, Bool.not_false, if_true, if_false, reduceCtorEq, List.set_cons_zero, List.set_cons_succ])
      refine h_buildSl hh fun tb H2 hh => ?_
      have hw3 : EntsAt H2 w (l.take i) := by
        have := hw2 H2 (hr H2 hh.right.right)
        rwa [map_take_drop, List.drop_zero, Nat.sub_zero] at this
      refine h_appendE (l := []) (sl := emp) (.inl ⟨rfl, rfl, rfl⟩) (by rw [emp_add]; exact hh) hw3 (by simp; omega) fun u ul H3 hu hh hlu => ?_
      rw [List.nil_append] at hu hlu
      refine h_appendE (l := l.take i) hu (hh.front ul) (one (tb := tb) hh) (by simp; omega) fun u' ul' H4 hu' hh hlu' => hJ _ _ ⟨u', ul', _, rfl, hu', (hh.front (ul' + m)).to (by simp only [mem_assoc]; rfl)⟩
end Go.X.W
