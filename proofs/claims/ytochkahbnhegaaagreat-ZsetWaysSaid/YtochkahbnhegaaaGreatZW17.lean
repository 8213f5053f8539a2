/- Contracts: sets: place, Rank. From a call that is said of heaps alone to what a statement's row asks for. The statements about sets: what comes in; names; shown. The statement ZsetWays: the walk. -/
import Derived.Test.YtochkahbnhegaaaGreatZW16
import Derived.Test.YtochkahbnhegaaaGreatZW11
import Derived.Carry
import Derived.OpenShut
import Derived.JoinedCond
import Derived.Deep.Slices
set_option linter.unusedVariables false
set_option linter.unusedSimpArgs false
namespace Go.X.W
open Go Go.X Go.Proofs

variable {H : Heap} {m : Mem} {K : Value → Heap → Prop}

theorem ZOk.lists {z : ZSt} (ok : ZOk z) : ZOk { z with il := true } := ⟨ok.ok, ok.le, ok.lm, fun h => by cases h⟩
theorem ZOk.add {z : ZSt} (ok : ZOk z) (x : ByteArray) {sc : Int} (lv : Int) (hsc : -9223372036854775808 ≤ sc ∧ sc ≤ 9223372036854775807) : ZOk (zAdd z x sc lv).2.2 := by
  unfold zAdd
  split
  · exact ok
  · split
    · exact ok
    · rename_i h1 h2
      have hrl := rem_len (x := x) (l := z.L)
      have h400 := ok.ok.len
      have hlt : (X.W.rem x z.L).length < 400 := by
        cases hfx : fnd x z.L with
        | none => rw [hfx] at h2 hrl; simp at h2 hrl; omega
        | some i => rw [hfx] at hrl; simp at hrl; omega
      refine ⟨(ok.ok.rem x).ins (e := (x, sc)) ⟨by simp only; omega, hsc⟩ (rem_none ok.ok.nodup) hlt, ok.le, ok.lm, fun h => ?_⟩
      have h3 : zAddI z x = false := h
      unfold zAddI at h3
      simp only [Bool.or_eq_false_iff, decide_eq_false_iff_not] at h3
      have hc := cntE_le (x, sc) (X.W.rem x z.L)
      simp only [zAddL, insAt, List.length_append, List.length_take, List.length_cons, List.length_drop]
      omega

section
variable {z : ZSt} {s : Nat} {zm : Mem}
theorem rng_one {l : List Ent} {i : Nat} {e : Ent} (h : l[i]? = some e) : rng (i : Nat) ((i : Int) + 1) l = [e] := by
  have hi := (List.getElem?_eq_some_iff.1 h).1
  unfold rng
  have h1 : fromN (i : Nat) l.length = i := by unfold fromN; omega
  have h2 : toN (i : Nat) ((i : Int) + 1) l.length = i + 1 := by unfold toN; omega
  rw [h1, h2, show i + 1 - i = 1 by omega, List.drop_eq_getElem_cons hi, List.take_succ_cons, List.take_zero, (List.getElem?_eq_some_iff.1 h).2]

theorem zset_place_h {fv : Value} {R : Mem} {p : Ent → Bool} {c : Nat} (hz : ZRep z s zm) (ok : ZOk z) (hfv : fv.oneCell = true) (hh : Has H (zm + (R + m))) (hc : c ≤ z.L.length) (hp : ∀ i e, z.L[i]? = some e → p e = decide (i < c))
    (hf : ∀ e G m', e ∈ z.L → Has G (R + m') → CallV P fv [entV e] G fun v G' => v = .bool (p e) ∧ Has G' (R + m')) (hK : ∀ H', Has H' (zm + (R + m)) → K (.int .i64 c) H') : CallH P f_zset_Set_place [ptrV s, fv] H K := by
  apply k_zset_Set_place
  unfold c_zset_Set_place
  have h400 := ok.ok.len
  rw [x_box]
  refine ⟨rfl, ?_⟩
  refine h_alloc hh fun sb H1 hh => ?_
  refine ⟨hfv, ?_⟩
  refine h_alloc hh fun fb H2 hh => ?_
  refine h_load (b := sb) hh rfl ?_
  refine zset_Len_h hz ok (hh.front zm) fun H3 hh => ?_
  refine sort_Search_h (c := c) hc (by omega) (fun Q => ∃ m', Has Q (zm + (cell fb [fv] + (cell sb [ptrV s] + (R + (m + m')))))) ⟨emp, hh.to (by rw [add_emp])⟩ ?_ fun G ⟨m', hh⟩ => hK G ((hh.to (show _ = (zm + (R + m)) + (cell fb [fv] + (cell sb [ptrV s] + m')) by ac_rfl)).left)
  rintro i G hi ⟨m', hh⟩
  rw [x_callV]
  apply k_zset_Set_place_1
  unfold c_zset_Set_place_1
  have hg : z.L[i]? = some (z.L[i]'hi) := List.getElem?_eq_getElem hi
  generalize z.L[i]'hi = e at hg
  refine h_load (b := sb) hh rfl ?_
  (try simp only [xl, xo, Bool.not_eq_true', decide_eq_false_iff_not, ite_not, List.size_toArray, List.length_cons, List.length_nil, Nat.reduceAdd, qt, decide_eq_true_eq, Int.toNat_zero, Int.toNat_natCast, Nat.zero_mul, Nat.mul_one, Nat.one_mul, List.toList_toArray, List.cons_append, List.nil_append, List.append_nil, true_and, and_true, Nat.zero_add, Nat.add_zero, Bool.not_true, Bool.not_false, if_true, if_false, reduceCtorEq, List.set_cons_zero, List.set_cons_succ])
  rw [w64 (n := (i : Int) + 1) (by omega)]
  refine zset_Range_h hz ok hh fun G2 v sl hv hlv hh => ?_
  rw [rng_one hg] at hv hlv
  refine own_len hv ?_
  rw [hlv]
  refine loop_i (fun k st Q => st = (.int .i64 0, []) ∧ Has Q (sl + (zm + (cell fb [fv] + (cell sb [ptrV s] + (R + (m + m'))))))) 0 ⟨rfl, hh⟩ ?_
  clear hh
  rintro k _ g Q ⟨rfl, hh⟩
  (try simp only [xl, xo, Bool.not_eq_true', decide_eq_false_iff_not, ite_not, List.size_toArray, List.length_cons, List.length_nil, Nat.reduceAdd, qt, decide_eq_true_eq, Int.toNat_zero, Int.toNat_natCast, Nat.zero_mul, Nat.mul_one, Nat.one_mul, List.toList_toArray, List.cons_append, List.nil_append, List.append_nil, true_and, and_true, Nat.zero_add, Nat.add_zero, Bool.not_true, Bool.not_false, if_true, if_false, reduceCtorEq, List.set_cons_zero, List.set_cons_succ])
  obtain ⟨b, hb1, hb2, _⟩ := own_at (i := 0) hv (by rw [entsC_length, hlv]) (by rw [hlv]; simp)
  rw [if_pos (by simp)]
  refine hb1 _ ?_
  refine hb2 Q _ _ hh ?_
  rw [entsC_get (i := 0) (e := e) rfl]
  refine h_alloc hh fun eb Q1 hh => ?_
  refine h_store2 (b := eb) hh rfl rfl (by simp) fun Q2 hh => ?_
  refine h_load (b := fb) hh rfl (h_load2 (b := eb) hh rfl rfl ?_)
  refine CallV.mono (hf e Q2 _ (List.mem_of_getElem? hg) (hh.front R)) ?_
  rintro w Q3 ⟨rfl, hh⟩
  (try simp only [xl, xo, Bool.not_eq_true', decide_eq_false_iff_not, ite_not, List.size_toArray, List.length_cons, List.length_nil, Nat.reduceAdd, qt, decide_eq_true_eq, Int.toNat_zero, Int.toNat_natCast, Nat.zero_mul, Nat.mul_one, Nat.one_mul, List.toList_toArray, List.cons_append, List.nil_append, List.append_nil, true_and, and_true, Nat.zero_add, Nat.add_zero, Bool.not_true, Bool.not_false, if_true, if_false, reduceCtorEq, List.set_cons_zero, List.set_cons_succ])
  refine ⟨?_, _, (hh.front (zm + (cell fb [fv] + (cell sb [ptrV s] + (R + m))))).to (by simp only [mem_assoc]; rfl)⟩
  rw [hp i e hg, ← decide_not]
  congr 1
  rw [decide_eq_decide]
  omega

theorem zset_Rank_h {x : ByteArray} (hx : x.size < 4611686018427387904) (hz : ZRep z s zm) (ok : ZOk z) (hh : Has H (zm + m))
    (hK : ∀ H' zm', ZRep z s zm' → Has H' (zm' + m) → K (.tuple #[.int .i64 (((fnd x z.L).getD 0 : Nat) : Int), .bool (fnd x z.L).isSome]) H') : CallH P f_zset_Set_Rank [ptrV s, .string x] H K := by
  apply k_zset_Set_Rank
  unfold c_zset_Set_Rank
  refine zset_Score_h hx hz ok hh fun H1 zm1 hz hh => ?_
  (try simp only [xl, xo, Bool.not_eq_true', decide_eq_false_iff_not, ite_not, List.size_toArray, List.length_cons, List.length_nil, Nat.reduceAdd, qt, decide_eq_true_eq, Int.toNat_zero, Int.toNat_natCast, Nat.zero_mul, Nat.mul_one, Nat.one_mul, List.toList_toArray, List.cons_append, List.nil_append, List.append_nil, true_and, and_true, Nat.zero_add, Nat.add_zero, Bool.not_true, Bool.not_false, if_true, if_false, reduceCtorEq, List.set_cons_zero, List.set_cons_succ])
  cases hfx : fnd x z.L with
  | none =>
    rw [hfx] at hK
    rw [sco_none hfx]
    simp only [Option.isSome_none]
    (try simp only [xl, xo, Bool.not_eq_true', decide_eq_false_iff_not, ite_not, List.size_toArray, List.length_cons, List.length_nil, Nat.reduceAdd, qt, decide_eq_true_eq, Int.toNat_zero, Int.toNat_natCast, Nat.zero_mul, Nat.mul_one, Nat.one_mul, List.toList_toArray, List.cons_append, List.nil_append, List.append_nil, true_and, and_true, Nat.zero_add, Nat.add_zero, Bool.not_true, Bool.not_false, if_true, if_false, reduceCtorEq, List.set_cons_zero, List.set_cons_succ])
    exact hK H1 zm1 hz hh
  | some i =>
    obtain ⟨sc, h1, h2⟩ := sco_fnd hfx
    rw [hfx] at hK
    rw [h2]
    simp only [Option.isSome_some, Option.getD_some]
    (try simp only [xl, xo, Bool.not_eq_true', decide_eq_false_iff_not, ite_not, List.size_toArray, List.length_cons, List.length_nil, Nat.reduceAdd, qt, decide_eq_true_eq, Int.toNat_zero, Int.toNat_natCast, Nat.zero_mul, Nat.mul_one, Nat.one_mul, List.toList_toArray, List.cons_append, List.nil_append, List.append_nil, true_and, and_true, Nat.zero_add, Nat.add_zero, Bool.not_true, Bool.not_false, if_true, if_false, reduceCtorEq, List.set_cons_zero, List.set_cons_succ])
    refine h_alloc hh fun wb H2 hh => ?_
    refine h_store2 (b := wb) hh rfl rfl (by simp) fun H3 hh => ?_
    have hh : Has H3 (zm1 + (cell wb (entC (x, sc)) + m)) := hh.to (by
      have : ([Value.string ⟨#[]⟩, Value.int .i64 0].set 0 (.string x)).set (0 + 1) (.int .i64 sc) = entC (x, sc) := rfl
      rw [this]; ac_rfl)
    have hi := (List.getElem?_eq_some_iff.1 h1).1
    have hcnt := cnt_get ok.ok.sorted h1
    refine zset_place_h (c := i) (R := cell wb (entC (x, sc))) (p := fun e => elt e (x, sc)) hz ok rfl hh (by omega) ?_ ?_ fun H4 hh => ?_
    · intro j e hj
      show elt e (x, sc) = decide (j < i)
      rw [cntE_spec ok.ok.sorted j e hj, hcnt]
      rfl
    · intro e G m' he hh
      rw [x_callV]
      apply k_zset_Set_Rank_1
      unfold c_zset_Set_Rank_1
      rw [x_boxN]
      refine h_allocA hh fun eb G1 hh => ?_
      refine h_load2 (b := eb) hh rfl rfl (h_load2 (b := wb) hh rfl rfl ?_)
      refine bound_Less_h (a := e) (b := (x, sc)) hh fun G2 hh => ⟨rfl, hh.right⟩
    · have := hK H4 zm1 hz ((hh.front (zm1 + m)).left)
      exact this
end
end Go.X.W
set_option linter.unusedVariables false
set_option linter.unusedSimpArgs false
namespace Go.X
open Go Go.ChangeShapes Go.WideShapes Go.ChangeAt Go.RowKit
variable {P : Program}

/-- A whole memory, as parts. -/
def allM (H : Heap) : Mem := Mem.of ((List.range H.size).filterMap fun b => (H[b]?).map fun o => (b, .obj o))
theorem allM_keys (H : Heap) : (((List.range H.size).filterMap fun b => (H[b]?).map fun o => (b, Chunk.obj o)).map (·.1)) = List.range H.size := by
  have : ∀ l : List Nat, (∀ b ∈ l, b < H.size) → ((l.filterMap fun b => (H[b]?).map fun o => (b, Chunk.obj o)).map (·.1)) = l := by
    intro l
    induction l with
    | nil => intro _; rfl
    | cons a l ih =>
      intro h
      have ha := h a (by simp)
      rw [List.filterMap_cons, Array.getElem?_eq_getElem ha]
      simp only [Option.map_some, List.map_cons]
      rw [ih fun b hb => h b (by simp [hb])]
  exact this _ fun b hb => by simpa using hb
theorem has_all (H : Heap) : Has H (allM H) := by
  refine ⟨by rw [allM_keys]; exact List.nodup_range, fun p hp => ?_⟩
  obtain ⟨b, _, h⟩ := List.mem_filterMap.1 hp
  obtain ⟨o, ho, rfl⟩ := Option.map_eq_some_iff.1 h
  exact ho
theorem all_frm {H H' : Heap} (h : Has H' (allM H)) : Frm E0 H H' := by
  have key : ∀ b, b < H.size → H'[b]? = H[b]? := fun b hb => by
    have ho := Array.getElem?_eq_getElem hb
    rw [ho]
    exact h.2 (b, .obj H[b]) (List.mem_filterMap.2 ⟨b, by simpa using hb, by rw [ho]; rfl⟩)
  refine ⟨Nat.le_of_not_lt fun hlt => ?_, fun b hb _ => key b hb⟩
  have h1 := key H'.size hlt
  rw [Array.getElem?_eq_none (Nat.le_refl _), Array.getElem?_eq_getElem hlt] at h1
  cases h1

theorem kept_of {W W' : World} {may : MemPlace → Prop} (hio : SameIO W W') (hs : ∀ b, b < W.heap.size → W'.heap[b]? = W.heap[b]?) : W.keptBut W' may := by
  refine ⟨hio.1, hio.2, fun i hi => ?_⟩
  rw [hs i hi]
  cases W.heap[i]? with
  | none => rfl
  | some o => cases o <;> simp

theorem trodAll_keep {H : Type} {enc : TypeId × Value → H} {W W' : World} (hl : laidOutB P = true) : ∀ {ts : List TypeId} {vs : List Value} {ds : List (DataW H)} {ps : List MemPlace} (sp : Nat → Bool),
    (∀ t ∈ ts, P.readableRec t = true ∧ t < P.types.size) → DataW.TrodAll enc P W 0 (fun _ => true) true ts vs ds ps → (∀ p ∈ ps, W.sameAt W' p) → (∀ p ∈ ps, sp p.block = true) → DataW.TrodAll enc P W' 0 sp true ts vs ds ps
  | [], _, _, _, sp, _, h, _, _ => by
    obtain ⟨rfl, rfl, rfl⟩ := trodAll_nil h
    exact trodAll_mk0
  | t :: ts, _, _, _, sp, ht, h, hk, hs => by
    obtain ⟨v, vs, d, ds, p, q, rfl, rfl, rfl, h1, h2⟩ := trodAll_cons h
    obtain ⟨a, b⟩ := ht t (by simp)
    exact trodAll_cons_mk (WideElems.Trod_stays hl a b h1 (fun x hx => hk x (by simp [hx])) (fun x hx => hs x (by simp [hx]))) (trodAll_keep hl sp (fun t ht' => ht t (by simp [ht'])) h2 (fun x hx => hk x (by simp [hx])) (fun x hx => hs x (by simp [hx])))

/-- A law's post: true was told; what was there is as it was. -/
theorem post_law {H : Type} {enc : TypeId × Value → H} {f : Func} {s : ChangeSpec} {apart fresh handsOn again : Bool} {W W' : World} {args : Array Value} {ds gs : List (DataW H)} {before : List MemPlace} {t : TypeId}
    (hl : laidOutB P = true) (hW : DataW.Whole enc P f.params.toList s.vars apart W args.toList ds gs before) (hv : s.vars = []) (hf : s.fn H (ds ++ gs) = { results := [.lit (.bool true)], args := ds })
    (hr : f.resultTypes = #[t]) (ht : P.underlying t = some .bool) (hp : ∀ t ∈ f.params.toList, P.readableRec t = true ∧ t < P.types.size)
    (hs : ∀ b, b < W.heap.size → W'.heap[b]? = W.heap[b]?) (hio : SameIO W W') : s.post enc P f apart fresh handsOn again W args (.bool true) W' := by
  have hlt : ∀ p ∈ before, p.block < W.heap.size := fun p hp => hW.lt p hp
  have hW0 := hW
  obtain ⟨pa, pv, hA, hV, rfl, hz, hn⟩ := hW
  rw [hv] at hV
  obtain ⟨rfl, rfl⟩ := trodVars_none hV
  have hsame : ∀ p ∈ pa, W.sameAt W' p := fun p hp => by
    have := hs p.block (hlt p (by simp [hp]))
    cases p with
    | cell b o => simp only [World.sameAt, World.cell?]; simp only [MemPlace.block] at this; rw [this]
    | map b => exact this
  have hargs : ∀ sp : Nat → Bool, (∀ p ∈ pa, sp p.block = true) → DataW.TrodAll enc P W' 0 sp true f.params.toList args.toList ds pa := fun sp hsp => trodAll_keep hl sp hp hA hsame hsp
  have hres : ∀ (b : Nat) (sp : Nat → Bool) (hd : Bool), DataW.TrodAll enc P W' b sp hd f.resultTypes.toList ((Value.bool true).resultList f.resultTypes.size) [.lit (.bool true)] [] := fun b sp hd => by
    rw [hr]
    exact trodAll_cons_mk (shut_bool ht _) trodAll_mk0
  have hold : ∀ p ∈ pa, (fun b => decide (b < W.heap.size)) p.block = true := fun p hp => by simpa using hlt p (by simp [hp])
  refine ⟨ds, [], pa ++ [], [], pa, [], hW0, by rw [hf]; exact hres _ _ _, by rw [hf]; exact hargs _ hold, ?_, kept_of hio hs, fun _ => ⟨ok_one hr rfl (okWide_bool_mk ht _), .lit (.bool true) :: ds, [], pa ++ [], ⟨[] ++ pa, [], ?_, ?_, by simp, ?_, ?_⟩, fun p hp _ => hp⟩⟩
  · rw [hf, hv]; rfl
  · exact trodAll_append (hargs _ fun _ _ => rfl) (hres _ _ _)
  · rw [hv]; rfl
  · intro b off hb
    have hb' := hlt _ hb
    have := hz b off hb
    simp only [MemPlace.block] at hb'
    simp only [World.frozen?] at this ⊢
    rw [hs b hb']
    exact this
  · exact hn

/-! ### Slices that come in -/
theorem cells_readN {W : World} {a : Addr} {n : Nat} {cs : List Value} (h : W.cells? 0 a n = some cs) : readN W.heap a 0 n = some cs := by
  unfold World.cells? at h
  rw [if_pos (Nat.zero_le _)] at h
  have key : ∀ (n i : Nat) (cs : List Value), ((List.range' i n).mapM fun j => W.cell? (a.add j)) = some cs → readN W.heap a i n = some cs := by
    intro n
    induction n with
    | zero => intro i cs h; simpa [readN] using h
    | succ n ih =>
      intro i cs h
      rw [List.range'_succ, List.mapM_cons] at h
      simp only [Option.pure_def, Option.bind_eq_bind, Option.bind_eq_some_iff, Option.some.injEq] at h
      obtain ⟨v, h1, r, h2, rfl⟩ := h
      rw [cell_eq] at h1
      simp only [readN, h1, ih (i + 1) r h2]
  exact key n 0 cs (by rw [← List.range_eq_range']; exact h)
theorem readN_keep {H H' : Heap} (f : Frm E0 H H') {a : Addr} : ∀ (n i : Nat) (cs : List Value), readN H a i n = some cs → readN H' a i n = some cs
  | 0, _, _, h => h
  | n + 1, i, cs, h => by
    have hc : ∀ p v, hcell H p = some v → hcell H' p = some v := fun p v h => by
      unfold hcell at *
      cases hb : H[p.block]? with
      | none => rw [hb] at h; cases h
      | some o =>
        rw [f.eq _ (Array.getElem?_eq_some_iff.1 hb).1 id]
        exact h
    simp only [readN] at h ⊢
    cases h1 : hcell H (a.add i) with
    | none => rw [h1] at h; cases h
    | some v =>
      rw [h1] at h
      rw [hc _ _ h1]
      simp only at h ⊢
      cases h2 : readN H a (i + 1) n with
      | none => rw [h2] at h; cases h
      | some r => rw [h2] at h; rw [readN_keep f n (i + 1) r h2]; exact h

/-- A slice that reads as these rows. -/
def RowsAt (sz : Nat) (H : Heap) (v : Value) (l : List (List Value)) : Prop :=
  (v = .slice none 0 0 ∧ l = []) ∨ ∃ a c, v = .slice (some a) l.length c ∧ ∀ (i : Nat) r, l[i]? = some r → readN H (a.add (i * sz)) 0 sz = some r
theorem RowsAt.keep {sz : Nat} {H H' : Heap} {v : Value} {l : List (List Value)} (h : RowsAt sz H v l) (f : Frm E0 H H') : RowsAt sz H' v l := by
  rcases h with h | ⟨a, c, e, h⟩
  · exact .inl h
  · exact .inr ⟨a, c, e, fun i r hr => readN_keep f _ _ _ (h i r hr)⟩
theorem RowsAt.len {sz : Nat} {H : Heap} {v : Value} {l : List (List Value)} (h : RowsAt sz H v l) {K : Value → Prop} (hK : K (.int .i64 l.length)) : LenP v K := by
  rcases h with ⟨rfl, rfl⟩ | ⟨a, c, rfl, _⟩ <;> exact hK
theorem RowsAt.at {sz : Nat} {H : Heap} {v : Value} {l : List (List Value)} (h : RowsAt sz H v l) {i : Nat} {r : List Value} (hr : l[i]? = some r) :
    ∃ p, (∀ {K : Value → Prop}, K (.pointer (some p)) → IdxSliceP sz v (.int .i64 i) K) ∧ readN H p 0 sz = some r := by
  have hi := (List.getElem?_eq_some_iff.1 hr).1
  rcases h with ⟨rfl, rfl⟩ | ⟨a, c, rfl, h⟩
  · simp at hi
  · refine ⟨a.add (i * sz), fun {K} hK => ⟨⟨by omega, by omega⟩, ?_⟩, h i r hr⟩
    rw [Int.toNat_natCast]
    exact hK
theorem load_row {sz : Nat} {H : Heap} {p : Addr} {r : List Value} {K : Value → Prop} (h : readN H p 0 sz = some r) (hK : K (.agg r.toArray)) : LoadP (some sz) H (.pointer (some p)) K := ⟨_, ⟨r, h, rfl⟩, hK⟩

theorem list_of {α : Type} {p : Nat → α → Prop} : ∀ n : Nat, (∀ i, i < n → ∃ x, p i x) → ∃ l : List α, l.length = n ∧ ∀ (i : Nat) x, l[i]? = some x → p i x
  | 0, _ => ⟨[], rfl, fun i x h => by simp at h⟩
  | n + 1, h => by
    obtain ⟨l, hl, hp⟩ := list_of n fun i hi => h i (by omega)
    obtain ⟨x, hx⟩ := h n (by omega)
    refine ⟨l ++ [x], by simp [hl], fun i y hy => ?_⟩
    by_cases hi : i < n
    · rw [List.getElem?_append_left (by omega)] at hy
      exact hp i y hy
    · rw [List.getElem?_append_right (by omega)] at hy
      have : i = n := by
        have := (List.getElem?_eq_some_iff.1 hy).1
        simp at this; omega
      subst this
      rw [hl, Nat.sub_self] at hy
      simp at hy
      rw [← hy]; exact hx

/-- A cell's kind. -/
inductive CK where
  | int (k : IntKind)
  | str
  | bool
def CK.ok : CK → Value → Prop
  | .int k, v => ∃ n, v = .int k n ∧ (Lit.int k n).wf = true
  | .str, v => ∃ s : ByteArray, v = .string s ∧ s.size ≤ maxLen
  | .bool, v => ∃ b, v = .bool b
def CK.is : CK → TypeDesc → Prop
  | .int k, d => d = .int k
  | .str, d => d = .string
  | .bool, d => d = .bool

theorem trod_ck {H : Type} {enc : TypeId × Value → H} {W : World} {sp : Nat → Bool} {held : Bool} {n : Nat} {t : TypeId} {ck : CK} {d : TypeDesc} {cs : List Value} {x : DataW H × List MemPlace} (hd : P.underlying t = some d) (hk : ck.is d)
    (h : DataW.trod enc P W 0 sp held n t cs = some x) : ∃ v, cs = [v] ∧ ck.ok v := by
  cases ck with
  | int k =>
    cases hk
    obtain ⟨n', h1, h2, h3⟩ := DataW.trod_int hd h
    exact ⟨_, h1, n', rfl, h3⟩
  | str =>
    cases hk
    obtain ⟨s, h1, h2, h3⟩ := DataW.trod_string hd h
    exact ⟨_, h1, s, rfl, h3⟩
  | bool =>
    cases hk
    obtain ⟨b, h1, h2⟩ := DataW.trod_bool hd h
    exact ⟨_, h1, b, rfl⟩

/-- A struct of one-cell fields. -/
theorem trod_cks {H : Type} {enc : TypeId × Value → H} {W : World} {sp : Nat → Bool} {held : Bool} {n : Nat} {t : TypeId} {fs : Array Field} {cks : List CK} {cs : List Value} {x : DataW H × List MemPlace} (hd : P.underlying t = some (.struct fs))
    (hc : P.cellsOf t = cks.length) (hf : ∀ (i : Nat) ck, cks[i]? = some ck → ∃ f d, fs[i]? = some f ∧ f.offset = i ∧ P.cellsOf f.type = 1 ∧ P.underlying f.type = some d ∧ ck.is d)
    (h : DataW.trod enc P W 0 sp held n t cs = some x) : cs.length = cks.length ∧ ∀ (i : Nat) ck, cks[i]? = some ck → ∃ v, cs[i]? = some v ∧ ck.ok v := by
  obtain ⟨xs, m, _, _, hl, hlen, hall⟩ := DataW.trod_struct hd h
  refine ⟨by rw [hl, hc], fun i ck hi => ?_⟩
  obtain ⟨f, d, h1, h2, h3, h4, h5⟩ := hf i ck hi
  have h6 := hall i f h1
  rw [h2, h3] at h6
  have hi' := (List.getElem?_eq_some_iff.1 hi).1
  have hlt : i < xs.length := by rw [hlen]; exact (Array.getElem?_eq_some_iff.1 h1).1
  rw [List.getElem?_eq_getElem hlt] at h6
  obtain ⟨v, hv, hok⟩ := trod_ck h4 h5 h6
  refine ⟨v, ?_, hok⟩
  have := congrArg (fun l => l[0]?) hv
  simpa [List.getElem?_take, List.getElem?_drop] using this

theorem open_rows {H : Type} {enc : TypeId × Value → H} {W : World} {held : Bool} {t e : TypeId} {v : Value} {d : DataW H} {ps : List MemPlace} {fs : Array Field} {cks : List CK} (ht : P.underlying t = some (.slice e)) (hd : P.underlying e = some (.struct fs))
    (hc : P.cellsOf e = cks.length) (hf : ∀ (i : Nat) ck, cks[i]? = some ck → ∃ f d, fs[i]? = some f ∧ f.offset = i ∧ P.cellsOf f.type = 1 ∧ P.underlying f.type = some d ∧ ck.is d) (hv : v.cells = #[v])
    (h : DataW.Trod enc P W 0 (fun _ => true) held t v d ps) :
    ∃ l : List (List Value), RowsAt cks.length W.heap v l ∧ l.length ≤ maxLen ∧ ∀ r ∈ l, r.length = cks.length ∧ ∀ (i : Nat) ck, cks[i]? = some ck → ∃ u, r[i]? = some u ∧ ck.ok u := by
  obtain ⟨fuel, h⟩ := h
  rcases Deep.open_slice ht h with ⟨h0, _⟩ | ⟨a, len, cap, m, n, D, Pl, h0, hb, hl, hm, hmm, _, hall⟩
  · rw [hv] at h0
    simp only [List.cons.injEq, and_true] at h0
    exact ⟨[], .inl ⟨h0, rfl⟩, by simp, fun r hr => by cases hr⟩
  · rw [hv] at h0
    simp only [List.cons.injEq, and_true] at h0
    obtain ⟨l, hll, hp⟩ := list_of (p := fun i r => readN W.heap (a.add (i * cks.length)) 0 cks.length = some r ∧ (r.length = cks.length ∧ ∀ (i : Nat) ck, cks[i]? = some ck → ∃ u, r[i]? = some u ∧ ck.ok u)) len fun i hi => by
      obtain ⟨cs', h1, h2⟩ := hall i (by rw [hmm]; simp; omega)
      rw [hc] at h1
      exact ⟨cs', cells_readN h1, trod_cks hd hc hf h2⟩
    refine ⟨l, .inr ⟨a, cap, by rw [h0, hll], fun i r hr => (hp i r hr).1⟩, by omega, fun r hr => ?_⟩
    obtain ⟨i, hi⟩ := List.getElem?_of_mem hr
    exact (hp i r hi).2

def ckIs (P : Program) (t : TypeId) : CK → Bool
  | .int k => match P.underlying t with | some (.int k') => decide (k' = k) | _ => false
  | .str => match P.underlying t with | some .string => true | _ => false
  | .bool => match P.underlying t with | some .bool => true | _ => false
theorem ckIs_spec {t : TypeId} {ck : CK} (h : ckIs P t ck = true) : ∃ d, P.underlying t = some d ∧ ck.is d := by
  unfold ckIs at h
  cases ck with
  | int k =>
    simp only at h
    split at h
    · rename_i k' hk; have := of_decide_eq_true h; subst this; exact ⟨_, hk, rfl⟩
    · cases h
  | str =>
    simp only at h
    split at h
    · rename_i hk; exact ⟨_, hk, rfl⟩
    · cases h
  | bool =>
    simp only at h
    split at h
    · rename_i hk; exact ⟨_, hk, rfl⟩
    · cases h
def ckAll (P : Program) : Nat → List Field → List CK → Bool
  | i, f :: fs, c :: cs => Nat.beq f.offset i && Nat.beq (P.cellsOf f.type) 1 && ckIs P f.type c && ckAll P (i + 1) fs cs
  | _, [], [] => true
  | _, _, _ => false
theorem ckAll_spec : ∀ {cks : List CK} {fs : List Field} {o : Nat}, ckAll P o fs cks = true → ∀ (i : Nat) ck, cks[i]? = some ck → ∃ f d, fs[i]? = some f ∧ f.offset = o + i ∧ P.cellsOf f.type = 1 ∧ P.underlying f.type = some d ∧ ck.is d
  | [], _, _, _, i, ck, hi => by simp at hi
  | c :: cs, [], _, h, i, ck, hi => by simp [ckAll] at h
  | c :: cs, f :: fs, o, h, i, ck, hi => by
    simp only [ckAll, Bool.and_eq_true] at h
    obtain ⟨⟨⟨h1, h2⟩, h3⟩, h4⟩ := h
    cases i with
    | zero =>
      simp only [List.getElem?_cons_zero, Option.some.injEq] at hi
      subst hi
      obtain ⟨d, hd, hk⟩ := ckIs_spec h3
      exact ⟨f, d, rfl, Nat.eq_of_beq_eq_true h1, Nat.eq_of_beq_eq_true h2, hd, hk⟩
    | succ i =>
      simp only [List.getElem?_cons_succ] at hi
      obtain ⟨f', d, e1, e2, e3⟩ := ckAll_spec h4 i ck hi
      exact ⟨f', d, by simpa using e1, by omega, e3⟩
theorem ck_fields {fs : Array Field} {cks : List CK} (h : ckAll P 0 fs.toList cks = true) : ∀ (i : Nat) ck, cks[i]? = some ck → ∃ f d, fs[i]? = some f ∧ f.offset = i ∧ P.cellsOf f.type = 1 ∧ P.underlying f.type = some d ∧ ck.is d := by
  intro i ck hi
  obtain ⟨f, d, h1, h2, h3⟩ := ckAll_spec h i ck hi
  exact ⟨f, d, by simpa using h1, by omega, h3⟩

theorem open_cks {H : Type} {enc : TypeId × Value → H} {W : World} {sp : Nat → Bool} {held : Bool} {base : Nat} {t : TypeId} {fs : Array Field} {cks : List CK} {v : Value} {d : DataW H} {ps : List MemPlace} (ht : P.underlying t = some (.struct fs)) (hc : P.cellsOf t = cks.length)
    (hf : ckAll P 0 fs.toList cks = true) (hv : Value.okWide P W .any base t v) (h : DataW.Trod enc P W 0 sp held t v d ps) :
    ∃ cs : List Value, v = .agg cs.toArray ∧ cs.length = cks.length ∧ ∀ (i : Nat) ck, cks[i]? = some ck → ∃ u, cs[i]? = some u ∧ ck.ok u := by
  obtain ⟨cs, rfl, _⟩ := okWide_struct ht hv
  obtain ⟨fuel, h⟩ := h
  obtain ⟨h1, h2⟩ := trod_cks ht hc (ck_fields hf) h
  exact ⟨cs.toList, by simp, h1, h2⟩
theorem open_rowsV {H : Type} {enc : TypeId × Value → H} {W : World} {held : Bool} {base : Nat} {t e : TypeId} {v : Value} {d : DataW H} {ps : List MemPlace} {fs : Array Field} {cks : List CK} (ht : P.underlying t = some (.slice e)) (hd : P.underlying e = some (.struct fs))
    (hc : P.cellsOf e = cks.length) (hf : ckAll P 0 fs.toList cks = true) (hv : Value.okWide P W .any base t v) (h : DataW.Trod enc P W 0 (fun _ => true) held t v d ps) :
    ∃ l : List (List Value), RowsAt cks.length W.heap v l ∧ l.length ≤ maxLen ∧ ∀ r ∈ l, r.length = cks.length ∧ ∀ (i : Nat) ck, cks[i]? = some ck → ∃ u, r[i]? = some u ∧ ck.ok u := by
  obtain ⟨a, n, c, rfl⟩ := okWide_slice ht hv
  exact open_rows ht hd hc (ck_fields hf) rfl h

theorem ck_i64 {v : Value} (h : (CK.int .i64).ok v) : ∃ n : Int, v = .int .i64 n ∧ -9223372036854775808 ≤ n ∧ n ≤ 9223372036854775807 := by
  obtain ⟨n, rfl, h⟩ := h
  refine ⟨n, rfl, ?_⟩
  simpa [Lit.wf, IntKind.min, IntKind.max, IntKind.signed, IntKind.bits] using h
end Go.X
set_option linter.unusedVariables false
set_option linter.unusedSimpArgs false
namespace Go.X.W
open Go Go.X Go.Proofs

variable {H : Heap} {m : Mem} {K : Value → Heap → Prop}

/-- An act. -/
structure ActR where
  act : Int
  mem : ByteArray
  sc : Int
  lv : Int
  fr : Int
  to : Int
abbrev actC (x : ActR) : List Value := [.int .i64 x.act, .string x.mem, .int .i64 x.sc, .int .i64 x.lv, .int .i64 x.fr, .int .i64 x.to]
def ActOk (x : ActR) : Prop := -9223372036854775808 ≤ x.sc ∧ x.sc ≤ 9223372036854775807

/-- The first seventy bytes. -/
def name70 (s : ByteArray) : ByteArray := s.extract 0 (min s.size 70)
theorem name70_size (s : ByteArray) : (name70 s).size ≤ 70 := by
  unfold name70
  rw [ByteArray.size_extract]
  omega
theorem name70_lt (s : ByteArray) : (name70 s).size < 4611686018427387904 := by have := name70_size s; omega
theorem law_Name_h {s : ByteArray} (hK : K (.string (name70 s)) H) : CallH P f_paliolaw11_Name [.string s] H K := by
  apply k_paliolaw11_Name
  unfold c_paliolaw11_Name
  (try simp only [xl, xo, Bool.not_eq_true', decide_eq_false_iff_not, ite_not, List.size_toArray, List.length_cons, List.length_nil, Nat.reduceAdd, qt, decide_eq_true_eq, Int.toNat_zero, Int.toNat_natCast, Nat.zero_mul, Nat.mul_one, Nat.one_mul, List.toList_toArray, List.cons_append, List.nil_append, List.append_nil, true_and, and_true, Nat.zero_add, Nat.add_zero, Bool.not_true, Bool.not_false, if_true, if_false, reduceCtorEq, List.set_cons_zero, List.set_cons_succ])
  have e : min (s.size : Int) 70 = ((min s.size 70 : Nat) : Int) := by omega
  rw [e]
  refine ⟨min s.size 70, 0, ⟨by omega, by simp⟩, rfl, hK⟩

abbrev sA : ByteArray := ⟨#[97]⟩
abbrev sB : ByteArray := ⟨#[98]⟩
abbrev sC : ByteArray := ⟨#[99]⟩
theorem shown_1 : zAdd ⟨[], false, clampI 0 200 2, clampI 0 64 9, 7⟩ sA 1 1 = (true, 0, ⟨[(sA, 1)], false, 2, 9, 7⟩) := by
  have h1 : ¬ (64 < sA.size ∨ (1 : Int) < 1 ∨ (32 : Int) < 1) := by decide
  have h2 : sA.size = 1 := rfl
  unfold zAdd
  rw [if_neg h1]
  simp [fnd, zAddL, zAddI, rem, insAt, cntE, clampI, h2]
  omega
theorem shown_2 : zAdd ⟨[(sA, 1)], false, 2, 9, 7⟩ sB 0 1 = (true, 0, ⟨[(sB, 0), (sA, 1)], false, 2, 9, 7⟩) := by
  have h1 : ¬ (64 < sB.size ∨ (1 : Int) < 1 ∨ (32 : Int) < 1) := by decide
  have h2 : sB.size = 1 := rfl
  have h3 : ¬ sA = sB := by decide
  unfold zAdd
  rw [if_neg h1]
  simp [fnd, zAddL, zAddI, rem, insAt, cntE, h2, h3, elt]
theorem shown_h (hh : Has H m) (hK : ∀ H', Has H' m → K (.bool true) H') : CallH P f_paliolaw11_shown [] H K := by
  apply k_paliolaw11_shown
  unfold c_paliolaw11_shown
  have h3 : ¬ sA = sB := by decide
  have h4 : ¬ sB = sA := by decide
  have h5 : ¬ sA = sC := by decide
  have h6 : ¬ sB = sC := by decide
  have hs1 : sA.size < 4611686018427387904 := by decide
  have hs2 : sB.size < 4611686018427387904 := by decide
  have hs3 : sC.size < 4611686018427387904 := by decide
  (try simp only [xl, xo, Bool.not_eq_true', decide_eq_false_iff_not, ite_not, List.size_toArray, List.length_cons, List.length_nil, Nat.reduceAdd, qt, decide_eq_true_eq, Int.toNat_zero, Int.toNat_natCast, Nat.zero_mul, Nat.mul_one, Nat.one_mul, List.toList_toArray, List.cons_append, List.nil_append, List.append_nil, true_and, and_true, Nat.zero_add, Nat.add_zero, Bool.not_true, Bool.not_false, if_true, if_false, reduceCtorEq, List.set_cons_zero, List.set_cons_succ])
  refine zset_New_h hh fun H1 s zm hz hh => ?_
  refine zset_Add_h (x := sA) hs1 (by omega) hz (ZOk.new _ _ _) hh fun H2 zm2 hz2 hh => ?_
  have ok1 := (ZOk.new 2 9 7).add sA (sc := 1) 1 (by omega)
  rw [shown_1] at hz2 ok1 ⊢
  simp only at hz2 ok1
  (try simp only [xl, xo, Bool.not_eq_true', decide_eq_false_iff_not, ite_not, List.size_toArray, List.length_cons, List.length_nil, Nat.reduceAdd, qt, decide_eq_true_eq, Int.toNat_zero, Int.toNat_natCast, Nat.zero_mul, Nat.mul_one, Nat.one_mul, List.toList_toArray, List.cons_append, List.nil_append, List.append_nil, true_and, and_true, Nat.zero_add, Nat.add_zero, Bool.not_true, Bool.not_false, if_true, if_false, reduceCtorEq, List.set_cons_zero, List.set_cons_succ])
  refine zset_Add_h (x := sB) hs2 (by omega) hz2 ok1 hh fun H3 zm3 hz3 hh => ?_
  have ok2 := ok1.add sB (sc := 0) 1 (by omega)
  rw [shown_2] at hz3 ok2 ⊢
  simp only at hz3 ok2
  (try simp only [xl, xo, Bool.not_eq_true', decide_eq_false_iff_not, ite_not, List.size_toArray, List.length_cons, List.length_nil, Nat.reduceAdd, qt, decide_eq_true_eq, Int.toNat_zero, Int.toNat_natCast, Nat.zero_mul, Nat.mul_one, Nat.one_mul, List.toList_toArray, List.cons_append, List.nil_append, List.append_nil, true_and, and_true, Nat.zero_add, Nat.add_zero, Bool.not_true, Bool.not_false, if_true, if_false, reduceCtorEq, List.set_cons_zero, List.set_cons_succ])
  refine zset_Rank_h (x := sA) hs1 hz3 ok2 hh fun H4 zm4 hz4 hh => ?_
  have hf1 : fnd sA [(sB, 0), (sA, 1)] = some 1 := by simp [fnd, h4]
  rw [show (⟨[(sB, 0), (sA, 1)], false, 2, 9, 7⟩ : ZSt).L = [(sB, 0), (sA, 1)] from rfl, hf1]
  (try simp only [Option.getD_some, Option.isSome_some])
  (try simp only [xl, xo, Bool.not_eq_true', decide_eq_false_iff_not, ite_not, List.size_toArray, List.length_cons, List.length_nil, Nat.reduceAdd, qt, decide_eq_true_eq, Int.toNat_zero, Int.toNat_natCast, Nat.zero_mul, Nat.mul_one, Nat.one_mul, List.toList_toArray, List.cons_append, List.nil_append, List.append_nil, true_and, and_true, Nat.zero_add, Nat.add_zero, Bool.not_true, Bool.not_false, if_true, if_false, reduceCtorEq, List.set_cons_zero, List.set_cons_succ])
  refine zset_Score_h (x := sC) hs3 hz4 ok2 hh fun H5 zm5 hz5 hh => ?_
  have hf2 : fnd sC [(sB, 0), (sA, 1)] = none := by simp [fnd, h5, h6]
  rw [show (⟨[(sB, 0), (sA, 1)], false, 2, 9, 7⟩ : ZSt).L = [(sB, 0), (sA, 1)] from rfl, sco_none hf2]
  (try simp only [Option.getD_none, Option.isSome_none])
  (try simp only [xl, xo, Bool.not_eq_true', decide_eq_false_iff_not, ite_not, List.size_toArray, List.length_cons, List.length_nil, Nat.reduceAdd, qt, decide_eq_true_eq, Int.toNat_zero, Int.toNat_natCast, Nat.zero_mul, Nat.mul_one, Nat.one_mul, List.toList_toArray, List.cons_append, List.nil_append, List.append_nil, true_and, and_true, Nat.zero_add, Nat.add_zero, Bool.not_true, Bool.not_false, if_true, if_false, reduceCtorEq, List.set_cons_zero, List.set_cons_succ])
  rw [if_pos (by simp), if_pos (by rfl)]
  refine zset_Encoding_h hz5 hh ?_
  (try dsimp only)
  (try simp only [Bool.false_eq_true, if_false])
  (try simp only [xl, xo, Bool.not_eq_true', decide_eq_false_iff_not, ite_not, List.size_toArray, List.length_cons, List.length_nil, Nat.reduceAdd, qt, decide_eq_true_eq, Int.toNat_zero, Int.toNat_natCast, Nat.zero_mul, Nat.mul_one, Nat.one_mul, List.toList_toArray, List.cons_append, List.nil_append, List.append_nil, true_and, and_true, Nat.zero_add, Nat.add_zero, Bool.not_true, Bool.not_false, if_true, if_false, reduceCtorEq, List.set_cons_zero, List.set_cons_succ])
  refine zset_Bytes_h hz5 ok2 hh fun H6 hh => ?_
  have hb : byts false [(sB, 0), (sA, 1)] = 24 := by
    have e1 : sA.size = 1 := rfl
    have e2 : sB.size = 1 := rfl
    simp [byts, packL_len, body_szs, szs, e1, e2]
  rw [hb]
  (try simp only [xl, xo, Bool.not_eq_true', decide_eq_false_iff_not, ite_not, List.size_toArray, List.length_cons, List.length_nil, Nat.reduceAdd, qt, decide_eq_true_eq, Int.toNat_zero, Int.toNat_natCast, Nat.zero_mul, Nat.mul_one, Nat.one_mul, List.toList_toArray, List.cons_append, List.nil_append, List.append_nil, true_and, and_true, Nat.zero_add, Nat.add_zero, Bool.not_true, Bool.not_false, if_true, if_false, reduceCtorEq, List.set_cons_zero, List.set_cons_succ])
  exact hK H6 hh.right
end Go.X.W
set_option linter.unusedVariables false
set_option linter.unusedSimpArgs false
namespace Go.X.W
open Go Go.X Go.Proofs

variable {H : Heap} {fr : Mem} {K : Value → Heap → Prop}

theorem zAdd_ways {z : ZSt} (ok : ZOk z) (x : ByteArray) (sc lv : Int) :
    (zAdd z x sc lv).2.2.il = (z.il || (decide ((zAdd z x sc lv).2.1 = 0) && (decide (z.le < ((zAdd z x sc lv).2.2.L.length : Int)) || decide (z.lm < (x.size : Int))))) ∧ (zAdd z x sc lv).2.2.le = z.le ∧ (zAdd z x sc lv).2.2.lm = z.lm := by
  unfold zAdd
  split
  · simp
  · split
    · simp
    · have hc := cntE_le (x, sc) (rem x z.L)
      have hl : (zAddL z x sc).length = (rem x z.L).length + 1 := by simp [zAddL, insAt]; omega
      refine ⟨?_, rfl, rfl⟩
      simp only [hl, zAddI]
      simp

theorem strs_ne : ¬ packN = listS := by decide
theorem strs_ne' : ¬ listS = packN := by decide
theorem strs_eq (a b : Bool) : ((if a then listS else packN) = if b then listS else packN) ↔ a = b := by
  cases a <;> cases b <;> simp

theorem clamp_id {lo hi x : Int} (h : lo ≤ x ∧ x ≤ hi) : clampI lo hi x = x := by unfold clampI; omega

theorem zsetWays_h {le lm seed : Int} {v : Value} {rows : List (List Value)} (hh : Has H fr) (hA : ∀ H', Has H' fr → RowsAt 6 H' v rows) (hrow : ∀ r ∈ rows, ∃ x, r = actC x ∧ ActOk x)
    (hK : ∀ H', Has H' fr → K (.bool true) H') : CallH P f_paliolaw11_ZsetWays [.agg #[.int .i64 le, .int .i64 lm], .int .u32 seed, v] H K := by
  apply k_paliolaw11_ZsetWays
  unfold c_paliolaw11_ZsetWays
  rw [x_boxN]
  refine h_allocA hh fun lb H1 hh => ?_
  refine shown_h hh fun H2 hh => ?_
  (try simp only [xl, xo, Bool.not_eq_true', decide_eq_false_iff_not, ite_not, List.size_toArray, List.length_cons, List.length_nil, Nat.reduceAdd, qt, decide_eq_true_eq, Int.toNat_zero, Int.toNat_natCast, Nat.zero_mul, Nat.mul_one, Nat.one_mul, List.toList_toArray, List.cons_append, List.nil_append, List.append_nil, true_and, and_true, Nat.zero_add, Nat.add_zero, Bool.not_true, Bool.not_false, if_true, if_false, reduceCtorEq, List.set_cons_zero, List.set_cons_succ])
  refine h_load (b := lb) hh rfl ?_
  (try simp only [xl, xo, Bool.not_eq_true', decide_eq_false_iff_not, ite_not, List.size_toArray, List.length_cons, List.length_nil, Nat.reduceAdd, qt, decide_eq_true_eq, Int.toNat_zero, Int.toNat_natCast, Nat.zero_mul, Nat.mul_one, Nat.one_mul, List.toList_toArray, List.cons_append, List.nil_append, List.append_nil, true_and, and_true, Nat.zero_add, Nat.add_zero, Bool.not_true, Bool.not_false, if_true, if_false, reduceCtorEq, List.set_cons_zero, List.set_cons_succ])
  by_cases h1 : le < 0
  · rw [if_pos h1]; exact hK H2 hh.right
  rw [if_neg h1]
  refine h_load (b := lb) hh rfl ?_
  (try simp only [xl, xo, Bool.not_eq_true', decide_eq_false_iff_not, ite_not, List.size_toArray, List.length_cons, List.length_nil, Nat.reduceAdd, qt, decide_eq_true_eq, Int.toNat_zero, Int.toNat_natCast, Nat.zero_mul, Nat.mul_one, Nat.one_mul, List.toList_toArray, List.cons_append, List.nil_append, List.append_nil, true_and, and_true, Nat.zero_add, Nat.add_zero, Bool.not_true, Bool.not_false, if_true, if_false, reduceCtorEq, List.set_cons_zero, List.set_cons_succ])
  by_cases h2 : 200 < le
  · rw [if_pos h2]; exact hK H2 hh.right
  rw [if_neg h2]
  refine h_load (b := lb) hh rfl ?_
  (try simp only [xl, xo, Bool.not_eq_true', decide_eq_false_iff_not, ite_not, List.size_toArray, List.length_cons, List.length_nil, Nat.reduceAdd, qt, decide_eq_true_eq, Int.toNat_zero, Int.toNat_natCast, Nat.zero_mul, Nat.mul_one, Nat.one_mul, List.toList_toArray, List.cons_append, List.nil_append, List.append_nil, true_and, and_true, Nat.zero_add, Nat.add_zero, Bool.not_true, Bool.not_false, if_true, if_false, reduceCtorEq, List.set_cons_zero, List.set_cons_succ])
  by_cases h3 : lm < 0
  · rw [if_pos h3]; exact hK H2 hh.right
  rw [if_neg h3]
  refine h_load (b := lb) hh rfl ?_
  (try simp only [xl, xo, Bool.not_eq_true', decide_eq_false_iff_not, ite_not, List.size_toArray, List.length_cons, List.length_nil, Nat.reduceAdd, qt, decide_eq_true_eq, Int.toNat_zero, Int.toNat_natCast, Nat.zero_mul, Nat.mul_one, Nat.one_mul, List.toList_toArray, List.cons_append, List.nil_append, List.append_nil, true_and, and_true, Nat.zero_add, Nat.add_zero, Bool.not_true, Bool.not_false, if_true, if_false, reduceCtorEq, List.set_cons_zero, List.set_cons_succ])
  by_cases h4 : 64 < lm
  · rw [if_pos h4]; exact hK H2 hh.right
  rw [if_neg h4]
  refine h_load2 (b := lb) hh rfl rfl ?_
  refine zset_New_h hh fun H3 s zm hz hh => ?_
  have ok0 := ZOk.new le lm seed
  rw [clamp_id (by omega), clamp_id (by omega)] at hz ok0
  refine loop_i (fun k st G => ∃ (i : Nat) (z : ZSt) (zm m' : Mem), i + k = rows.length ∧ st = ((.string (if z.il then listS else packN), .int .i64 i), []) ∧ z.le = le ∧ z.lm = lm ∧ ZRep z s zm ∧ ZOk z ∧ Has G (zm + (cell lb [.int .i64 le, .int .i64 lm] + (fr + m')))) rows.length
    ⟨0, _, zm, emp, by omega, rfl, rfl, rfl, hz, ok0, hh.to (by rw [add_emp])⟩ ?_
  clear hz ok0 hh
  rintro k _ g G ⟨i, z, zm, m', hik, rfl, hle, hlm, hz, ok, hh⟩
  have hfr := hA G (hh.front fr).left
  refine hfr.len ?_
  (try simp only [xl, xo, Bool.not_eq_true', decide_eq_false_iff_not, ite_not, List.size_toArray, List.length_cons, List.length_nil, Nat.reduceAdd, qt, decide_eq_true_eq, Int.toNat_zero, Int.toNat_natCast, Nat.zero_mul, Nat.mul_one, Nat.one_mul, List.toList_toArray, List.cons_append, List.nil_append, List.append_nil, true_and, and_true, Nat.zero_add, Nat.add_zero, Bool.not_true, Bool.not_false, if_true, if_false, reduceCtorEq, List.set_cons_zero, List.set_cons_succ])
  by_cases hi : rows.length ≤ i
  · rw [if_neg (by omega)]
    exact hK G (hh.front fr).left
  rw [if_pos (by omega)]
  have hi : i < rows.length := by omega
  by_cases h100 : ¬ (i : Int) < 100
  · rw [if_neg h100]
    exact hK G (hh.front fr).left
  have h100 := Classical.not_not.1 h100
  rw [if_pos h100]
  have hg : rows[i]? = some (rows[i]'hi) := List.getElem?_eq_getElem hi
  generalize rows[i]'hi = r at hg
  obtain ⟨x, rfl, hx⟩ := hrow r (List.mem_of_getElem? hg)
  obtain ⟨p, hp1, hp2⟩ := hfr.at hg
  refine hp1 ?_
  refine load_row hp2 ?_
  refine h_alloc hh fun xb G1 hh => ?_
  refine h_storeAll (b := xb) hh rfl rfl (by simp [Value.oneCell]) fun G2 hh => ?_
  refine h_load (b := xb) hh rfl ?_
  refine law_Name_h ?_
  have hn := name70_lt x.mem
  generalize name70 x.mem = nm at hn ⊢
  -- what is done
  refine join_ofS (fun st Q => ∃ (z' : ZSt) (zm' : Mem) (added : Bool) (m2 : Mem), st = (.bool added, []) ∧ z'.le = le ∧ z'.lm = lm ∧ ZRep z' s zm' ∧ ZOk z' ∧ z'.il = (z.il || (added && (decide (le < (z'.L.length : Int)) || decide (lm < (nm.size : Int))))) ∧
      Has Q (zm' + (cell lb [.int .i64 le, .int .i64 lm] + (fr + m2)))) ?_ ?_
  · rintro st Q ⟨z', zm', added, m2, rfl, hle', hlm', hz', ok', hil, hh⟩ g1
    refine zset_Encoding_h hz' hh ?_
    refine join_ofS (fun st Q => st = (.bool (added && (decide (le < (z'.L.length : Int)) || decide (lm < (nm.size : Int)))), []) ∧ Has Q (zm' + (cell lb [.int .i64 le, .int .i64 lm] + (fr + m2)))) ?_ ?_
    · rintro st2 Q2 ⟨rfl, hh⟩ g2
      rw [w64 (n := (i : Int) + 1) (by omega)] at *
      have fin : ∀ Q2, Has Q2 (zm' + (cell lb [.int .i64 le, .int .i64 lm] + (fr + m2))) → ∃ k', k' < k ∧ ∃ (i' : Nat) (z : ZSt) (zm m' : Mem), i' + k' = rows.length ∧ (((Value.string (if z'.il then listS else packN), Value.int .i64 ((i : Int) + 1)), []) : (Value × Value) × List Deferred) = ((.string (if z.il then listS else packN), .int .i64 i'), []) ∧ z.le = le ∧ z.lm = lm ∧ ZRep z s zm ∧ ZOk z ∧ Has Q2 (zm + (cell lb [.int .i64 le, .int .i64 lm] + (fr + m'))) :=
        fun Q2 hh => ⟨k - 1, by omega, i + 1, z', zm', m2, by omega, rfl, hle', hlm', hz', ok', hh⟩
      generalize (added && (decide (le < (z'.L.length : Int)) || decide (lm < (nm.size : Int)))) = long at hil ⊢
      have fin2 := fin Q2 hh
      have e1 : ¬ packN = listS := strs_ne
      have e2 : ¬ listS = packN := strs_ne'
      cases hzi : z.il <;> cases long <;> rw [hzi] at hil <;> simp only [Bool.or_false, Bool.or_true, Bool.false_or, Bool.true_or] at hil <;> rw [hil] at fin2 ⊢ <;> simp only [Bool.false_eq_true, if_false, if_true, e1, e2, x_splitNb, x_split, x_neqS, x_eqlS, x_not, decide_true, decide_false, Bool.not_true, Bool.not_false, x_splitT, x_splitF, reduceCtorEq] at fin2 ⊢ <;> exact fin2
    · intro J hJ
      cases added with
      | false =>
        (try simp only [xl, xo, Bool.not_eq_true', decide_eq_false_iff_not, ite_not, List.size_toArray, List.length_cons, List.length_nil, Nat.reduceAdd, qt, decide_eq_true_eq, Int.toNat_zero, Int.toNat_natCast, Nat.zero_mul, Nat.mul_one, Nat.one_mul, List.toList_toArray, List.cons_append, List.nil_append, List.append_nil, true_and, and_true, Nat.zero_add, Nat.add_zero, Bool.not_true, Bool.not_false, if_true, if_false, reduceCtorEq, List.set_cons_zero, List.set_cons_succ])
        exact hJ _ Q ⟨by simp, hh⟩
      | true =>
        (try simp only [xl, xo, Bool.not_eq_true', decide_eq_false_iff_not, ite_not, List.size_toArray, List.length_cons, List.length_nil, Nat.reduceAdd, qt, decide_eq_true_eq, Int.toNat_zero, Int.toNat_natCast, Nat.zero_mul, Nat.mul_one, Nat.one_mul, List.toList_toArray, List.cons_append, List.nil_append, List.append_nil, true_and, and_true, Nat.zero_add, Nat.add_zero, Bool.not_true, Bool.not_false, if_true, if_false, reduceCtorEq, List.set_cons_zero, List.set_cons_succ])
        refine h_load (b := lb) hh rfl ?_
        refine zset_Len_h hz' ok' hh fun Q2 hh => ⟨h_loadIs (b := lb) hh rfl, ?_⟩
        (try simp only [xl, xo, Bool.not_eq_true', decide_eq_false_iff_not, ite_not, List.size_toArray, List.length_cons, List.length_nil, Nat.reduceAdd, qt, decide_eq_true_eq, Int.toNat_zero, Int.toNat_natCast, Nat.zero_mul, Nat.mul_one, Nat.one_mul, List.toList_toArray, List.cons_append, List.nil_append, List.append_nil, true_and, and_true, Nat.zero_add, Nat.add_zero, Bool.not_true, Bool.not_false, if_true, if_false, reduceCtorEq, List.set_cons_zero, List.set_cons_succ])
        by_cases h5 : le < (z'.L.length : Int)
        · rw [if_pos h5]
          exact hJ _ Q2 ⟨by simp [h5], hh⟩
        · rw [if_neg h5]
          refine h_load (b := lb) hh rfl ?_
          (try simp only [xl, xo, Bool.not_eq_true', decide_eq_false_iff_not, ite_not, List.size_toArray, List.length_cons, List.length_nil, Nat.reduceAdd, qt, decide_eq_true_eq, Int.toNat_zero, Int.toNat_natCast, Nat.zero_mul, Nat.mul_one, Nat.one_mul, List.toList_toArray, List.cons_append, List.nil_append, List.append_nil, true_and, and_true, Nat.zero_add, Nat.add_zero, Bool.not_true, Bool.not_false, if_true, if_false, reduceCtorEq, List.set_cons_zero, List.set_cons_succ])
          exact hJ _ Q2 ⟨by simp [h5], hh⟩
  · intro J hJ
    refine h_load (b := xb) hh rfl ?_
    (try simp only [xl, xo, Bool.not_eq_true', decide_eq_false_iff_not, ite_not, List.size_toArray, List.length_cons, List.length_nil, Nat.reduceAdd, qt, decide_eq_true_eq, Int.toNat_zero, Int.toNat_natCast, Nat.zero_mul, Nat.mul_one, Nat.one_mul, List.toList_toArray, List.cons_append, List.nil_append, List.append_nil, true_and, and_true, Nat.zero_add, Nat.add_zero, Bool.not_true, Bool.not_false, if_true, if_false, reduceCtorEq, List.set_cons_zero, List.set_cons_succ])
    refine ⟨by omega, ?_⟩
    generalize (IntKind.u64.wrap x.act).tmod 8 = o
    have hh : Has G2 (zm + (cell xb (actC x) + (cell lb [.int .i64 le, .int .i64 lm] + (fr + m')))) := hh.to (by ac_rfl)
    by_cases h5 : o < 5
    · rw [if_pos h5]
      refine h_load (b := xb) hh rfl (h_load (b := xb) hh rfl ?_)
      refine zset_Add_h hn hx hz ok hh fun G3 zm3 hz3 hh => ?_
      (try simp only [xl, xo, Bool.not_eq_true', decide_eq_false_iff_not, ite_not, List.size_toArray, List.length_cons, List.length_nil, Nat.reduceAdd, qt, decide_eq_true_eq, Int.toNat_zero, Int.toNat_natCast, Nat.zero_mul, Nat.mul_one, Nat.one_mul, List.toList_toArray, List.cons_append, List.nil_append, List.append_nil, true_and, and_true, Nat.zero_add, Nat.add_zero, Bool.not_true, Bool.not_false, if_true, if_false, reduceCtorEq, List.set_cons_zero, List.set_cons_succ])
      obtain ⟨w1, w2, w3⟩ := zAdd_ways ok nm x.sc x.lv
      refine hJ _ G3 ⟨(zAdd z nm x.sc x.lv).2.2, zm3, decide ((zAdd z nm x.sc x.lv).2.1 = 0), _, rfl, by rw [w2, hle], by rw [w3, hlm], hz3, ok.add nm x.lv hx, ?_, (hh.front (zm3 + (cell lb [.int .i64 le, .int .i64 lm] + fr))).to (by simp only [mem_assoc]; rfl)⟩
      rw [w1, hle, hlm]
    · rw [if_neg h5]
      refine zset_Remove_h hn hz ok hh fun G3 zm3 hz3 hh => ?_
      refine hJ _ G3 ⟨{ z with L := rem nm z.L }, zm3, false, _, rfl, hle, hlm, hz3, ok.rem nm, by simp, (hh.front (zm3 + (cell lb [.int .i64 le, .int .i64 lm] + fr))).to (by simp only [mem_assoc]; rfl)⟩
end Go.X.W
