/- Contracts: sets: place, Rank. From a call that is said of heaps alone to what a statement's row asks for. The statements about sets: what comes in; names; shown. What the rows of the statements about sets open. The library's sort of texts, out of the kit's contract: said of parts of memory. Cursors: a number's digits turned; slots and places. Plain. Contracts: a scan's masks, cursors. Slices that are read row by row: pieces of them, appends of them. -/
import Derived.Test.YtochkahbnhegaaaGreatZS16
import Derived.Test.YtochkahbnhegaaaGreatZS11
import Derived.Carry
import Derived.OpenShut
import Derived.JoinedCond
import Derived.Deep.Slices
import Derived.Test.YtochkahbnhegaaaGreatRows
import Derived.Test.YtochkahbnhegaaaGreatZS10
import Derived.Shelf.Lays
import Derived.Shelf.Sort.Plain
import Derived.Shelf.Slices.In.SortNone
import Derived.Sort.Grow
set_option linter.unusedVariables false
set_option linter.unusedSimpArgs false
namespace Go.X.W
open Go Go.X Go.Proofs

variable {H : Heap} {m : Mem} {K : Value → Heap → Prop}

theorem ZOk.lists {z : ZSt} (ok : ZOk z) : ZOk { z with il := true } := ⟨ok.ok, ok.le, ok.lm, fun h => by cases h⟩
theorem ZOk.add {z : ZSt} (ok : ZOk z) (x : ByteArray) {sc : Int} (lv : Int) (hsc : -9223372036854775808 ≤ sc ∧ sc ≤ 9223372036854775807) : ZOk (zAdd z x sc lv).2.2 := by
  unfold zAdd
  split
  · exact ok
  · split
    · exact ok
    · rename_i h1 h2
      have hrl := rem_len (x := x) (l := z.L)
      have h400 := ok.ok.len
      have hlt : (X.W.rem x z.L).length < 400 := by
        cases hfx : fnd x z.L with
        | none => rw [hfx] at h2 hrl; simp at h2 hrl; omega
        | some i => rw [hfx] at hrl; simp at hrl; omega
      refine ⟨(ok.ok.rem x).ins (e := (x, sc)) ⟨by simp only; omega, hsc⟩ (rem_none ok.ok.nodup) hlt, ok.le, ok.lm, fun h => ?_⟩
      have h3 : zAddI z x = false := h
      unfold zAddI at h3
      simp only [Bool.or_eq_false_iff, decide_eq_false_iff_not] at h3
      have hc := cntE_le (x, sc) (X.W.rem x z.L)
      simp only [zAddL, insAt, List.length_append, List.length_take, List.length_cons, List.length_drop]
      omega

section
variable {z : ZSt} {s : Nat} {zm : Mem}
theorem rng_one {l : List Ent} {i : Nat} {e : Ent} (h : l[i]? = some e) : rng (i : Nat) ((i : Int) + 1) l = [e] := by
  have hi := (List.getElem?_eq_some_iff.1 h).1
  unfold rng
  have h1 : fromN (i : Nat) l.length = i := by unfold fromN; omega
  have h2 : toN (i : Nat) ((i : Int) + 1) l.length = i + 1 := by unfold toN; omega
  rw [h1, h2, show i + 1 - i = 1 by omega, List.drop_eq_getElem_cons hi, List.take_succ_cons, List.take_zero, (List.getElem?_eq_some_iff.1 h).2]

theorem zset_place_h {fv : Value} {R : Mem} {p : Ent → Bool} {c : Nat} (hz : ZRep z s zm) (ok : ZOk z) (hfv : fv.oneCell = true) (hh : Has H (zm + (R + m))) (hc : c ≤ z.L.length) (hp : ∀ i e, z.L[i]? = some e → p e = decide (i < c))
    (hf : ∀ e G m', e ∈ z.L → Has G (R + m') → CallV P fv [entV e] G fun v G' => v = .bool (p e) ∧ Has G' (R + m')) (hK : ∀ H', Has H' (zm + (R + m)) → K (.int .i64 c) H') : CallH P f_zset_Set_place [ptrV s, fv] H K := by
  apply k_zset_Set_place
  unfold c_zset_Set_place
  have h400 := ok.ok.len
  rw [x_box]
  refine ⟨rfl, ?_⟩
  refine h_alloc hh fun sb H1 hh => ?_
  refine ⟨hfv, ?_⟩
  refine h_alloc hh fun fb H2 hh => ?_
  refine h_load (b := sb) hh rfl ?_
  refine zset_Len_h hz ok (hh.front zm) fun H3 hh => ?_
  refine sort_Search_h (c := c) hc (by omega) (fun Q => ∃ m', Has Q (zm + (cell fb [fv] + (cell sb [ptrV s] + (R + (m + m')))))) ⟨emp, hh.to (by rw [add_emp])⟩ ?_ fun G ⟨m', hh⟩ => hK G ((hh.to (show _ = (zm + (R + m)) + (cell fb [fv] + (cell sb [ptrV s] + m')) by ac_rfl)).left)
  rintro i G hi ⟨m', hh⟩
  rw [x_callV]
  apply k_zset_Set_place_1
  unfold c_zset_Set_place_1
  have hg : z.L[i]? = some (z.L[i]'hi) := List.getElem?_eq_getElem hi
  generalize z.L[i]'hi = e at hg
  refine h_load (b := sb) hh rfl ?_
  (try simp only [xl, xo, Bool.not_eq_true', decide_eq_false_iff_not, ite_not, List.size_toArray, List.length_cons, List.length_nil, Nat.reduceAdd, qt, decide_eq_true_eq, Int.toNat_zero, Int.toNat_natCast, Nat.zero_mul, Nat.mul_one, Nat.one_mul, List.toList_toArray, List.cons_append, List.nil_append, List.append_nil, true_and, and_true, Nat.zero_add, Nat.add_zero, Bool.not_true, Bool.not_false, if_true, if_false, reduceCtorEq, List.set_cons_zero, List.set_cons_succ])
  rw [w64 (n := (i : Int) + 1) (by omega)]
  refine zset_Range_h hz ok hh fun G2 v sl hv hlv hh => ?_
  rw [rng_one hg] at hv hlv
  refine own_len hv ?_
  rw [hlv]
  refine loop_i (fun k st Q => st = (.int .i64 0, []) ∧ Has Q (sl + (zm + (cell fb [fv] + (cell sb [ptrV s] + (R + (m + m'))))))) 0 ⟨rfl, hh⟩ ?_
  clear hh
  rintro k _ g Q ⟨rfl, hh⟩
  (try simp only [xl, xo, Bool.not_eq_true', decide_eq_false_iff_not, ite_not, List.size_toArray, List.length_cons, List.length_nil, Nat.reduceAdd, qt, decide_eq_true_eq, Int.toNat_zero, Int.toNat_natCast, Nat.zero_mul, Nat.mul_one, Nat.one_mul, List.toList_toArray, List.cons_append, List.nil_append, List.append_nil, true_and, and_true, Nat.zero_add, Nat.add_zero, Bool.not_true, Bool.not_false, if_true, if_false, reduceCtorEq, List.set_cons_zero, List.set_cons_succ])
  obtain ⟨b, hb1, hb2, _⟩ := own_at (i := 0) hv (by rw [entsC_length, hlv]) (by rw [hlv]; simp)
  rw [if_pos (by simp)]
  refine hb1 _ ?_
  refine hb2 Q _ _ hh ?_
  rw [entsC_get (i := 0) (e := e) rfl]
  refine h_alloc hh fun eb Q1 hh => ?_
  refine h_store2 (b := eb) hh rfl rfl (by simp) fun Q2 hh => ?_
  refine h_load (b := fb) hh rfl (h_load2 (b := eb) hh rfl rfl ?_)
  refine CallV.mono (hf e Q2 _ (List.mem_of_getElem? hg) (hh.front R)) ?_
  rintro w Q3 ⟨rfl, hh⟩
  (try simp only [xl, xo, Bool.not_eq_true', decide_eq_false_iff_not, ite_not, List.size_toArray, List.length_cons, List.length_nil, Nat.reduceAdd, qt, decide_eq_true_eq, Int.toNat_zero, Int.toNat_natCast, Nat.zero_mul, Nat.mul_one, Nat.one_mul, List.toList_toArray, List.cons_append, List.nil_append, List.append_nil, true_and, and_true, Nat.zero_add, Nat.add_zero, Bool.not_true, Bool.not_false, if_true, if_false, reduceCtorEq, List.set_cons_zero, List.set_cons_succ])
  refine ⟨?_, _, (hh.front (zm + (cell fb [fv] + (cell sb [ptrV s] + (R + m))))).to (by simp only [mem_assoc]; rfl)⟩
  rw [hp i e hg, ← decide_not]
  congr 1
  rw [decide_eq_decide]
  omega

theorem zset_Rank_h {x : ByteArray} (hx : x.size < 4611686018427387904) (hz : ZRep z s zm) (ok : ZOk z) (hh : Has H (zm + m))
    (hK : ∀ H' zm', ZRep z s zm' → Has H' (zm' + m) → K (.tuple #[.int .i64 (((fnd x z.L).getD 0 : Nat) : Int), .bool (fnd x z.L).isSome]) H') : CallH P f_zset_Set_Rank [ptrV s, .string x] H K := by
  apply k_zset_Set_Rank
  unfold c_zset_Set_Rank
  refine zset_Score_h hx hz ok hh fun H1 zm1 hz hh => ?_
  (try simp only [xl, xo, Bool.not_eq_true', decide_eq_false_iff_not, ite_not, List.size_toArray, List.length_cons, List.length_nil, Nat.reduceAdd, qt, decide_eq_true_eq, Int.toNat_zero, Int.toNat_natCast, Nat.zero_mul, Nat.mul_one, Nat.one_mul, List.toList_toArray, List.cons_append, List.nil_append, List.append_nil, true_and, and_true, Nat.zero_add, Nat.add_zero, Bool.not_true, Bool.not_false, if_true, if_false, reduceCtorEq, List.set_cons_zero, List.set_cons_succ])
  cases hfx : fnd x z.L with
  | none =>
    rw [hfx] at hK
    rw [sco_none hfx]
    simp only [Option.isSome_none]
    (try simp only [xl, xo, Bool.not_eq_true', decide_eq_false_iff_not, ite_not, List.size_toArray, List.length_cons, List.length_nil, Nat.reduceAdd, qt, decide_eq_true_eq, Int.toNat_zero, Int.toNat_natCast, Nat.zero_mul, Nat.mul_one, Nat.one_mul, List.toList_toArray, List.cons_append, List.nil_append, List.append_nil, true_and, and_true, Nat.zero_add, Nat.add_zero, Bool.not_true, Bool.not_false, if_true, if_false, reduceCtorEq, List.set_cons_zero, List.set_cons_succ])
    exact hK H1 zm1 hz hh
  | some i =>
    obtain ⟨sc, h1, h2⟩ := sco_fnd hfx
    rw [hfx] at hK
    rw [h2]
    simp only [Option.isSome_some, Option.getD_some]
    (try simp only [xl, xo, Bool.not_eq_true', decide_eq_false_iff_not, ite_not, List.size_toArray, List.length_cons, List.length_nil, Nat.reduceAdd, qt, decide_eq_true_eq, Int.toNat_zero, Int.toNat_natCast, Nat.zero_mul, Nat.mul_one, Nat.one_mul, List.toList_toArray, List.cons_append, List.nil_append, List.append_nil, true_and, and_true, Nat.zero_add, Nat.add_zero, Bool.not_true, Bool.not_false, if_true, if_false, reduceCtorEq, List.set_cons_zero, List.set_cons_succ])
    refine h_alloc hh fun wb H2 hh => ?_
    refine h_store2 (b := wb) hh rfl rfl (by simp) fun H3 hh => ?_
    have hh : Has H3 (zm1 + (cell wb (entC (x, sc)) + m)) := hh.to (by
      have : ([Value.string ⟨#[]⟩, Value.int .i64 0].set 0 (.string x)).set (0 + 1) (.int .i64 sc) = entC (x, sc) := rfl
      rw [this]; ac_rfl)
    have hi := (List.getElem?_eq_some_iff.1 h1).1
    have hcnt := cnt_get ok.ok.sorted h1
    refine zset_place_h (c := i) (R := cell wb (entC (x, sc))) (p := fun e => elt e (x, sc)) hz ok rfl hh (by omega) ?_ ?_ fun H4 hh => ?_
    · intro j e hj
      show elt e (x, sc) = decide (j < i)
      rw [cntE_spec ok.ok.sorted j e hj, hcnt]
      rfl
    · intro e G m' he hh
      rw [x_callV]
      apply k_zset_Set_Rank_1
      unfold c_zset_Set_Rank_1
      rw [x_boxN]
      refine h_allocA hh fun eb G1 hh => ?_
      refine h_load2 (b := eb) hh rfl rfl (h_load2 (b := wb) hh rfl rfl ?_)
      refine bound_Less_h (a := e) (b := (x, sc)) hh fun G2 hh => ⟨rfl, hh.right⟩
    · have := hK H4 zm1 hz ((hh.front (zm1 + m)).left)
      exact this
end
end Go.X.W
set_option linter.unusedVariables false
set_option linter.unusedSimpArgs false
namespace Go.X
open Go Go.ChangeShapes Go.WideShapes Go.ChangeAt Go.RowKit
variable {P : Program}

/-- A whole memory, as parts. -/
def allM (H : Heap) : Mem := Mem.of ((List.range H.size).filterMap fun b => (H[b]?).map fun o => (b, .obj o))
theorem allM_keys (H : Heap) : (((List.range H.size).filterMap fun b => (H[b]?).map fun o => (b, Chunk.obj o)).map (·.1)) = List.range H.size := by
  have : ∀ l : List Nat, (∀ b ∈ l, b < H.size) → ((l.filterMap fun b => (H[b]?).map fun o => (b, Chunk.obj o)).map (·.1)) = l := by
    intro l
    induction l with
    | nil => intro _; rfl
    | cons a l ih =>
      intro h
      have ha := h a (by simp)
      rw [List.filterMap_cons, Array.getElem?_eq_getElem ha]
      simp only [Option.map_some, List.map_cons]
      rw [ih fun b hb => h b (by simp [hb])]
  exact this _ fun b hb => by simpa using hb
theorem has_all (H : Heap) : Has H (allM H) := by
  refine ⟨by rw [allM_keys]; exact List.nodup_range, fun p hp => ?_⟩
  obtain ⟨b, _, h⟩ := List.mem_filterMap.1 hp
  obtain ⟨o, ho, rfl⟩ := Option.map_eq_some_iff.1 h
  exact ho
theorem all_frm {H H' : Heap} (h : Has H' (allM H)) : Frm E0 H H' := by
  have key : ∀ b, b < H.size → H'[b]? = H[b]? := fun b hb => by
    have ho := Array.getElem?_eq_getElem hb
    rw [ho]
    exact h.2 (b, .obj H[b]) (List.mem_filterMap.2 ⟨b, by simpa using hb, by rw [ho]; rfl⟩)
  refine ⟨Nat.le_of_not_lt fun hlt => ?_, fun b hb _ => key b hb⟩
  have h1 := key H'.size hlt
  rw [Array.getElem?_eq_none (Nat.le_refl _), Array.getElem?_eq_getElem hlt] at h1
  cases h1

theorem kept_of {W W' : World} {may : MemPlace → Prop} (hio : SameIO W W') (hs : ∀ b, b < W.heap.size → W'.heap[b]? = W.heap[b]?) : W.keptBut W' may := by
  refine ⟨hio.1, hio.2, fun i hi => ?_⟩
  rw [hs i hi]
  cases W.heap[i]? with
  | none => rfl
  | some o => cases o <;> simp

theorem trodAll_keep {H : Type} {enc : TypeId × Value → H} {W W' : World} (hl : laidOutB P = true) : ∀ {ts : List TypeId} {vs : List Value} {ds : List (DataW H)} {ps : List MemPlace} (sp : Nat → Bool),
    (∀ t ∈ ts, P.readableRec t = true ∧ t < P.types.size) → DataW.TrodAll enc P W 0 (fun _ => true) true ts vs ds ps → (∀ p ∈ ps, W.sameAt W' p) → (∀ p ∈ ps, sp p.block = true) → DataW.TrodAll enc P W' 0 sp true ts vs ds ps
  | [], _, _, _, sp, _, h, _, _ => by
    obtain ⟨rfl, rfl, rfl⟩ := trodAll_nil h
    exact trodAll_mk0
  | t :: ts, _, _, _, sp, ht, h, hk, hs => by
    obtain ⟨v, vs, d, ds, p, q, rfl, rfl, rfl, h1, h2⟩ := trodAll_cons h
    obtain ⟨a, b⟩ := ht t (by simp)
    exact trodAll_cons_mk (WideElems.Trod_stays hl a b h1 (fun x hx => hk x (by simp [hx])) (fun x hx => hs x (by simp [hx]))) (trodAll_keep hl sp (fun t ht' => ht t (by simp [ht'])) h2 (fun x hx => hk x (by simp [hx])) (fun x hx => hs x (by simp [hx])))

/-- A law's post: true was told; what was there is as it was. -/
theorem post_law {H : Type} {enc : TypeId × Value → H} {f : Func} {s : ChangeSpec} {apart fresh handsOn again : Bool} {W W' : World} {args : Array Value} {ds gs : List (DataW H)} {before : List MemPlace} {t : TypeId}
    (hl : laidOutB P = true) (hW : DataW.Whole enc P f.params.toList s.vars apart W args.toList ds gs before) (hv : s.vars = []) (hf : s.fn H (ds ++ gs) = { results := [.lit (.bool true)], args := ds })
    (hr : f.resultTypes = #[t]) (ht : P.underlying t = some .bool) (hp : ∀ t ∈ f.params.toList, P.readableRec t = true ∧ t < P.types.size)
    (hs : ∀ b, b < W.heap.size → W'.heap[b]? = W.heap[b]?) (hio : SameIO W W') : s.post enc P f apart fresh handsOn again W args (.bool true) W' := by
  have hlt : ∀ p ∈ before, p.block < W.heap.size := fun p hp => hW.lt p hp
  have hW0 := hW
  obtain ⟨pa, pv, hA, hV, rfl, hz, hn⟩ := hW
  rw [hv] at hV
  obtain ⟨rfl, rfl⟩ := trodVars_none hV
  have hsame : ∀ p ∈ pa, W.sameAt W' p := fun p hp => by
    have := hs p.block (hlt p (by simp [hp]))
    cases p with
    | cell b o => simp only [World.sameAt, World.cell?]; simp only [MemPlace.block] at this; rw [this]
    | map b => exact this
  have hargs : ∀ sp : Nat → Bool, (∀ p ∈ pa, sp p.block = true) → DataW.TrodAll enc P W' 0 sp true f.params.toList args.toList ds pa := fun sp hsp => trodAll_keep hl sp hp hA hsame hsp
  have hres : ∀ (b : Nat) (sp : Nat → Bool) (hd : Bool), DataW.TrodAll enc P W' b sp hd f.resultTypes.toList ((Value.bool true).resultList f.resultTypes.size) [.lit (.bool true)] [] := fun b sp hd => by
    rw [hr]
    exact trodAll_cons_mk (shut_bool ht _) trodAll_mk0
  have hold : ∀ p ∈ pa, (fun b => decide (b < W.heap.size)) p.block = true := fun p hp => by simpa using hlt p (by simp [hp])
  refine ⟨ds, [], pa ++ [], [], pa, [], hW0, by rw [hf]; exact hres _ _ _, by rw [hf]; exact hargs _ hold, ?_, kept_of hio hs, fun _ => ⟨ok_one hr rfl (okWide_bool_mk ht _), .lit (.bool true) :: ds, [], pa ++ [], ⟨[] ++ pa, [], ?_, ?_, by simp, ?_, ?_⟩, fun p hp _ => hp⟩⟩
  · rw [hf, hv]; rfl
  · exact trodAll_append (hargs _ fun _ _ => rfl) (hres _ _ _)
  · rw [hv]; rfl
  · intro b off hb
    have hb' := hlt _ hb
    have := hz b off hb
    simp only [MemPlace.block] at hb'
    simp only [World.frozen?] at this ⊢
    rw [hs b hb']
    exact this
  · exact hn

/-! ### Slices that come in -/
theorem cells_readN {W : World} {a : Addr} {n : Nat} {cs : List Value} (h : W.cells? 0 a n = some cs) : readN W.heap a 0 n = some cs := by
  unfold World.cells? at h
  rw [if_pos (Nat.zero_le _)] at h
  have key : ∀ (n i : Nat) (cs : List Value), ((List.range' i n).mapM fun j => W.cell? (a.add j)) = some cs → readN W.heap a i n = some cs := by
    intro n
    induction n with
    | zero => intro i cs h; simpa [readN] using h
    | succ n ih =>
      intro i cs h
      rw [List.range'_succ, List.mapM_cons] at h
      simp only [Option.pure_def, Option.bind_eq_bind, Option.bind_eq_some_iff, Option.some.injEq] at h
      obtain ⟨v, h1, r, h2, rfl⟩ := h
      rw [cell_eq] at h1
      simp only [readN, h1, ih (i + 1) r h2]
  exact key n 0 cs (by rw [← List.range_eq_range']; exact h)
theorem readN_keep {H H' : Heap} (f : Frm E0 H H') {a : Addr} : ∀ (n i : Nat) (cs : List Value), readN H a i n = some cs → readN H' a i n = some cs
  | 0, _, _, h => h
  | n + 1, i, cs, h => by
    have hc : ∀ p v, hcell H p = some v → hcell H' p = some v := fun p v h => by
      unfold hcell at *
      cases hb : H[p.block]? with
      | none => rw [hb] at h; cases h
      | some o =>
        rw [f.eq _ (Array.getElem?_eq_some_iff.1 hb).1 id]
        exact h
    simp only [readN] at h ⊢
    cases h1 : hcell H (a.add i) with
    | none => rw [h1] at h; cases h
    | some v =>
      rw [h1] at h
      rw [hc _ _ h1]
      simp only at h ⊢
      cases h2 : readN H a (i + 1) n with
      | none => rw [h2] at h; cases h
      | some r => rw [h2] at h; rw [readN_keep f n (i + 1) r h2]; exact h

/-- A slice that reads as these rows. -/
def RowsAt (sz : Nat) (H : Heap) (v : Value) (l : List (List Value)) : Prop :=
  (v = .slice none 0 0 ∧ l = []) ∨ ∃ a c, v = .slice (some a) l.length c ∧ ∀ (i : Nat) r, l[i]? = some r → readN H (a.add (i * sz)) 0 sz = some r
theorem RowsAt.keep {sz : Nat} {H H' : Heap} {v : Value} {l : List (List Value)} (h : RowsAt sz H v l) (f : Frm E0 H H') : RowsAt sz H' v l := by
  rcases h with h | ⟨a, c, e, h⟩
  · exact .inl h
  · exact .inr ⟨a, c, e, fun i r hr => readN_keep f _ _ _ (h i r hr)⟩
theorem RowsAt.len {sz : Nat} {H : Heap} {v : Value} {l : List (List Value)} (h : RowsAt sz H v l) {K : Value → Prop} (hK : K (.int .i64 l.length)) : LenP v K := by
  rcases h with ⟨rfl, rfl⟩ | ⟨a, c, rfl, _⟩ <;> exact hK
theorem RowsAt.at {sz : Nat} {H : Heap} {v : Value} {l : List (List Value)} (h : RowsAt sz H v l) {i : Nat} {r : List Value} (hr : l[i]? = some r) :
    ∃ p, (∀ {K : Value → Prop}, K (.pointer (some p)) → IdxSliceP sz v (.int .i64 i) K) ∧ readN H p 0 sz = some r := by
  have hi := (List.getElem?_eq_some_iff.1 hr).1
  rcases h with ⟨rfl, rfl⟩ | ⟨a, c, rfl, h⟩
  · simp at hi
  · refine ⟨a.add (i * sz), fun {K} hK => ⟨⟨by omega, by omega⟩, ?_⟩, h i r hr⟩
    rw [Int.toNat_natCast]
    exact hK
theorem load_row {sz : Nat} {H : Heap} {p : Addr} {r : List Value} {K : Value → Prop} (h : readN H p 0 sz = some r) (hK : K (.agg r.toArray)) : LoadP (some sz) H (.pointer (some p)) K := ⟨_, ⟨r, h, rfl⟩, hK⟩

theorem list_of {α : Type} {p : Nat → α → Prop} : ∀ n : Nat, (∀ i, i < n → ∃ x, p i x) → ∃ l : List α, l.length = n ∧ ∀ (i : Nat) x, l[i]? = some x → p i x
  | 0, _ => ⟨[], rfl, fun i x h => by simp at h⟩
  | n + 1, h => by
    obtain ⟨l, hl, hp⟩ := list_of n fun i hi => h i (by omega)
    obtain ⟨x, hx⟩ := h n (by omega)
    refine ⟨l ++ [x], by simp [hl], fun i y hy => ?_⟩
    by_cases hi : i < n
    · rw [List.getElem?_append_left (by omega)] at hy
      exact hp i y hy
    · rw [List.getElem?_append_right (by omega)] at hy
      have : i = n := by
        have := (List.getElem?_eq_some_iff.1 hy).1
        simp at this; omega
      subst this
      rw [hl, Nat.sub_self] at hy
      simp at hy
      rw [← hy]; exact hx

/-- A cell's kind. -/
inductive CK where
  | int (k : IntKind)
  | str
  | bool
def CK.ok : CK → Value → Prop
  | .int k, v => ∃ n, v = .int k n ∧ (Lit.int k n).wf = true
  | .str, v => ∃ s : ByteArray, v = .string s ∧ s.size ≤ maxLen
  | .bool, v => ∃ b, v = .bool b
def CK.is : CK → TypeDesc → Prop
  | .int k, d => d = .int k
  | .str, d => d = .string
  | .bool, d => d = .bool

theorem trod_ck {H : Type} {enc : TypeId × Value → H} {W : World} {sp : Nat → Bool} {held : Bool} {n : Nat} {t : TypeId} {ck : CK} {d : TypeDesc} {cs : List Value} {x : DataW H × List MemPlace} (hd : P.underlying t = some d) (hk : ck.is d)
    (h : DataW.trod enc P W 0 sp held n t cs = some x) : ∃ v, cs = [v] ∧ ck.ok v := by
  cases ck with
  | int k =>
    cases hk
    obtain ⟨n', h1, h2, h3⟩ := DataW.trod_int hd h
    exact ⟨_, h1, n', rfl, h3⟩
  | str =>
    cases hk
    obtain ⟨s, h1, h2, h3⟩ := DataW.trod_string hd h
    exact ⟨_, h1, s, rfl, h3⟩
  | bool =>
    cases hk
    obtain ⟨b, h1, h2⟩ := DataW.trod_bool hd h
    exact ⟨_, h1, b, rfl⟩

/-- A struct of one-cell fields. -/
theorem trod_cks {H : Type} {enc : TypeId × Value → H} {W : World} {sp : Nat → Bool} {held : Bool} {n : Nat} {t : TypeId} {fs : Array Field} {cks : List CK} {cs : List Value} {x : DataW H × List MemPlace} (hd : P.underlying t = some (.struct fs))
    (hc : P.cellsOf t = cks.length) (hf : ∀ (i : Nat) ck, cks[i]? = some ck → ∃ f d, fs[i]? = some f ∧ f.offset = i ∧ P.cellsOf f.type = 1 ∧ P.underlying f.type = some d ∧ ck.is d)
    (h : DataW.trod enc P W 0 sp held n t cs = some x) : cs.length = cks.length ∧ ∀ (i : Nat) ck, cks[i]? = some ck → ∃ v, cs[i]? = some v ∧ ck.ok v := by
  obtain ⟨xs, m, _, _, hl, hlen, hall⟩ := DataW.trod_struct hd h
  refine ⟨by rw [hl, hc], fun i ck hi => ?_⟩
  obtain ⟨f, d, h1, h2, h3, h4, h5⟩ := hf i ck hi
  have h6 := hall i f h1
  rw [h2, h3] at h6
  have hi' := (List.getElem?_eq_some_iff.1 hi).1
  have hlt : i < xs.length := by rw [hlen]; exact (Array.getElem?_eq_some_iff.1 h1).1
  rw [List.getElem?_eq_getElem hlt] at h6
  obtain ⟨v, hv, hok⟩ := trod_ck h4 h5 h6
  refine ⟨v, ?_, hok⟩
  have := congrArg (fun l => l[0]?) hv
  simpa [List.getElem?_take, List.getElem?_drop] using this

theorem open_rows {H : Type} {enc : TypeId × Value → H} {W : World} {held : Bool} {t e : TypeId} {v : Value} {d : DataW H} {ps : List MemPlace} {fs : Array Field} {cks : List CK} (ht : P.underlying t = some (.slice e)) (hd : P.underlying e = some (.struct fs))
    (hc : P.cellsOf e = cks.length) (hf : ∀ (i : Nat) ck, cks[i]? = some ck → ∃ f d, fs[i]? = some f ∧ f.offset = i ∧ P.cellsOf f.type = 1 ∧ P.underlying f.type = some d ∧ ck.is d) (hv : v.cells = #[v])
    (h : DataW.Trod enc P W 0 (fun _ => true) held t v d ps) :
    ∃ l : List (List Value), RowsAt cks.length W.heap v l ∧ l.length ≤ maxLen ∧ ∀ r ∈ l, r.length = cks.length ∧ ∀ (i : Nat) ck, cks[i]? = some ck → ∃ u, r[i]? = some u ∧ ck.ok u := by
  obtain ⟨fuel, h⟩ := h
  rcases Deep.open_slice ht h with ⟨h0, _⟩ | ⟨a, len, cap, m, n, D, Pl, h0, hb, hl, hm, hmm, _, hall⟩
  · rw [hv] at h0
    simp only [List.cons.injEq, and_true] at h0
    exact ⟨[], .inl ⟨h0, rfl⟩, by simp, fun r hr => by cases hr⟩
  · rw [hv] at h0
    simp only [List.cons.injEq, and_true] at h0
    obtain ⟨l, hll, hp⟩ := list_of (p := fun i r => readN W.heap (a.add (i * cks.length)) 0 cks.length = some r ∧ (r.length = cks.length ∧ ∀ (i : Nat) ck, cks[i]? = some ck → ∃ u, r[i]? = some u ∧ ck.ok u)) len fun i hi => by
      obtain ⟨cs', h1, h2⟩ := hall i (by rw [hmm]; simp; omega)
      rw [hc] at h1
      exact ⟨cs', cells_readN h1, trod_cks hd hc hf h2⟩
    refine ⟨l, .inr ⟨a, cap, by rw [h0, hll], fun i r hr => (hp i r hr).1⟩, by omega, fun r hr => ?_⟩
    obtain ⟨i, hi⟩ := List.getElem?_of_mem hr
    exact (hp i r hi).2

def ckIs (P : Program) (t : TypeId) : CK → Bool
  | .int k => match P.underlying t with | some (.int k') => decide (k' = k) | _ => false
  | .str => match P.underlying t with | some .string => true | _ => false
  | .bool => match P.underlying t with | some .bool => true | _ => false
theorem ckIs_spec {t : TypeId} {ck : CK} (h : ckIs P t ck = true) : ∃ d, P.underlying t = some d ∧ ck.is d := by
  unfold ckIs at h
  cases ck with
  | int k =>
    simp only at h
    split at h
    · rename_i k' hk; have := of_decide_eq_true h; subst this; exact ⟨_, hk, rfl⟩
    · cases h
  | str =>
    simp only at h
    split at h
    · rename_i hk; exact ⟨_, hk, rfl⟩
    · cases h
  | bool =>
    simp only at h
    split at h
    · rename_i hk; exact ⟨_, hk, rfl⟩
    · cases h
def ckAll (P : Program) : Nat → List Field → List CK → Bool
  | i, f :: fs, c :: cs => Nat.beq f.offset i && Nat.beq (P.cellsOf f.type) 1 && ckIs P f.type c && ckAll P (i + 1) fs cs
  | _, [], [] => true
  | _, _, _ => false
theorem ckAll_spec : ∀ {cks : List CK} {fs : List Field} {o : Nat}, ckAll P o fs cks = true → ∀ (i : Nat) ck, cks[i]? = some ck → ∃ f d, fs[i]? = some f ∧ f.offset = o + i ∧ P.cellsOf f.type = 1 ∧ P.underlying f.type = some d ∧ ck.is d
  | [], _, _, _, i, ck, hi => by simp at hi
  | c :: cs, [], _, h, i, ck, hi => by simp [ckAll] at h
  | c :: cs, f :: fs, o, h, i, ck, hi => by
    simp only [ckAll, Bool.and_eq_true] at h
    obtain ⟨⟨⟨h1, h2⟩, h3⟩, h4⟩ := h
    cases i with
    | zero =>
      simp only [List.getElem?_cons_zero, Option.some.injEq] at hi
      subst hi
      obtain ⟨d, hd, hk⟩ := ckIs_spec h3
      exact ⟨f, d, rfl, Nat.eq_of_beq_eq_true h1, Nat.eq_of_beq_eq_true h2, hd, hk⟩
    | succ i =>
      simp only [List.getElem?_cons_succ] at hi
      obtain ⟨f', d, e1, e2, e3⟩ := ckAll_spec h4 i ck hi
      exact ⟨f', d, by simpa using e1, by omega, e3⟩
theorem ck_fields {fs : Array Field} {cks : List CK} (h : ckAll P 0 fs.toList cks = true) : ∀ (i : Nat) ck, cks[i]? = some ck → ∃ f d, fs[i]? = some f ∧ f.offset = i ∧ P.cellsOf f.type = 1 ∧ P.underlying f.type = some d ∧ ck.is d := by
  intro i ck hi
  obtain ⟨f, d, h1, h2, h3⟩ := ckAll_spec h i ck hi
  exact ⟨f, d, by simpa using h1, by omega, h3⟩

theorem open_cks {H : Type} {enc : TypeId × Value → H} {W : World} {sp : Nat → Bool} {held : Bool} {base : Nat} {t : TypeId} {fs : Array Field} {cks : List CK} {v : Value} {d : DataW H} {ps : List MemPlace} (ht : P.underlying t = some (.struct fs)) (hc : P.cellsOf t = cks.length)
    (hf : ckAll P 0 fs.toList cks = true) (hv : Value.okWide P W .any base t v) (h : DataW.Trod enc P W 0 sp held t v d ps) :
    ∃ cs : List Value, v = .agg cs.toArray ∧ cs.length = cks.length ∧ ∀ (i : Nat) ck, cks[i]? = some ck → ∃ u, cs[i]? = some u ∧ ck.ok u := by
  obtain ⟨cs, rfl, _⟩ := okWide_struct ht hv
  obtain ⟨fuel, h⟩ := h
  obtain ⟨h1, h2⟩ := trod_cks ht hc (ck_fields hf) h
  exact ⟨cs.toList, by simp, h1, h2⟩
theorem open_rowsV {H : Type} {enc : TypeId × Value → H} {W : World} {held : Bool} {base : Nat} {t e : TypeId} {v : Value} {d : DataW H} {ps : List MemPlace} {fs : Array Field} {cks : List CK} (ht : P.underlying t = some (.slice e)) (hd : P.underlying e = some (.struct fs))
    (hc : P.cellsOf e = cks.length) (hf : ckAll P 0 fs.toList cks = true) (hv : Value.okWide P W .any base t v) (h : DataW.Trod enc P W 0 (fun _ => true) held t v d ps) :
    ∃ l : List (List Value), RowsAt cks.length W.heap v l ∧ l.length ≤ maxLen ∧ ∀ r ∈ l, r.length = cks.length ∧ ∀ (i : Nat) ck, cks[i]? = some ck → ∃ u, r[i]? = some u ∧ ck.ok u := by
  obtain ⟨a, n, c, rfl⟩ := okWide_slice ht hv
  exact open_rows ht hd hc (ck_fields hf) rfl h

theorem ck_i64 {v : Value} (h : (CK.int .i64).ok v) : ∃ n : Int, v = .int .i64 n ∧ -9223372036854775808 ≤ n ∧ n ≤ 9223372036854775807 := by
  obtain ⟨n, rfl, h⟩ := h
  refine ⟨n, rfl, ?_⟩
  simpa [Lit.wf, IntKind.min, IntKind.max, IntKind.signed, IntKind.bits] using h
end Go.X
set_option linter.unusedVariables false
set_option linter.unusedSimpArgs false
namespace Go.X.W
open Go Go.X Go.Proofs

variable {H : Heap} {m : Mem} {K : Value → Heap → Prop}

/-- An act. -/
structure ActR where
  act : Int
  mem : ByteArray
  sc : Int
  lv : Int
  fr : Int
  to : Int
abbrev actC (x : ActR) : List Value := [.int .i64 x.act, .string x.mem, .int .i64 x.sc, .int .i64 x.lv, .int .i64 x.fr, .int .i64 x.to]
def ActOk (x : ActR) : Prop := -9223372036854775808 ≤ x.sc ∧ x.sc ≤ 9223372036854775807

/-- The first seventy bytes. -/
def name70 (s : ByteArray) : ByteArray := s.extract 0 (min s.size 70)
theorem name70_size (s : ByteArray) : (name70 s).size ≤ 70 := by
  unfold name70
  rw [ByteArray.size_extract]
  omega
theorem name70_lt (s : ByteArray) : (name70 s).size < 4611686018427387904 := by have := name70_size s; omega
theorem law_Name_h {s : ByteArray} (hK : K (.string (name70 s)) H) : CallH P f_paliolaw11_Name [.string s] H K := by
  apply k_paliolaw11_Name
  unfold c_paliolaw11_Name
  (try simp only [xl, xo, Bool.not_eq_true', decide_eq_false_iff_not, ite_not, List.size_toArray, List.length_cons, List.length_nil, Nat.reduceAdd, qt, decide_eq_true_eq, Int.toNat_zero, Int.toNat_natCast, Nat.zero_mul, Nat.mul_one, Nat.one_mul, List.toList_toArray, List.cons_append, List.nil_append, List.append_nil, true_and, and_true, Nat.zero_add, Nat.add_zero, Bool.not_true, Bool.not_false, if_true, if_false, reduceCtorEq, List.set_cons_zero, List.set_cons_succ])
  have e : min (s.size : Int) 70 = ((min s.size 70 : Nat) : Int) := by omega
  rw [e]
  refine ⟨min s.size 70, 0, ⟨by omega, by simp⟩, rfl, hK⟩

abbrev sA : ByteArray := ⟨#[97]⟩
abbrev sB : ByteArray := ⟨#[98]⟩
abbrev sC : ByteArray := ⟨#[99]⟩
theorem shown_1 : zAdd ⟨[], false, clampI 0 200 2, clampI 0 64 9, 7⟩ sA 1 1 = (true, 0, ⟨[(sA, 1)], false, 2, 9, 7⟩) := by
  have h1 : ¬ (64 < sA.size ∨ (1 : Int) < 1 ∨ (32 : Int) < 1) := by decide
  have h2 : sA.size = 1 := rfl
  unfold zAdd
  rw [if_neg h1]
  simp [fnd, zAddL, zAddI, rem, insAt, cntE, clampI, h2]
  omega
theorem shown_2 : zAdd ⟨[(sA, 1)], false, 2, 9, 7⟩ sB 0 1 = (true, 0, ⟨[(sB, 0), (sA, 1)], false, 2, 9, 7⟩) := by
  have h1 : ¬ (64 < sB.size ∨ (1 : Int) < 1 ∨ (32 : Int) < 1) := by decide
  have h2 : sB.size = 1 := rfl
  have h3 : ¬ sA = sB := by decide
  unfold zAdd
  rw [if_neg h1]
  simp [fnd, zAddL, zAddI, rem, insAt, cntE, h2, h3, elt]
theorem shown_h (hh : Has H m) (hK : ∀ H', Has H' m → K (.bool true) H') : CallH P f_paliolaw11_shown [] H K := by
  apply k_paliolaw11_shown
  unfold c_paliolaw11_shown
  have h3 : ¬ sA = sB := by decide
  have h4 : ¬ sB = sA := by decide
  have h5 : ¬ sA = sC := by decide
  have h6 : ¬ sB = sC := by decide
  have hs1 : sA.size < 4611686018427387904 := by decide
  have hs2 : sB.size < 4611686018427387904 := by decide
  have hs3 : sC.size < 4611686018427387904 := by decide
  (try simp only [xl, xo, Bool.not_eq_true', decide_eq_false_iff_not, ite_not, List.size_toArray, List.length_cons, List.length_nil, Nat.reduceAdd, qt, decide_eq_true_eq, Int.toNat_zero, Int.toNat_natCast, Nat.zero_mul, Nat.mul_one, Nat.one_mul, List.toList_toArray, List.cons_append, List.nil_append, List.append_nil, true_and, and_true, Nat.zero_add, Nat.add_zero, Bool.not_true, Bool.not_false, if_true, if_false, reduceCtorEq, List.set_cons_zero, List.set_cons_succ])
  refine zset_New_h hh fun H1 s zm hz hh => ?_
  refine zset_Add_h (x := sA) hs1 (by omega) hz (ZOk.new _ _ _) hh fun H2 zm2 hz2 hh => ?_
  have ok1 := (ZOk.new 2 9 7).add sA (sc := 1) 1 (by omega)
  rw [shown_1] at hz2 ok1 ⊢
  simp only at hz2 ok1
  (try simp only [xl, xo, Bool.not_eq_true', decide_eq_false_iff_not, ite_not, List.size_toArray, List.length_cons, List.length_nil, Nat.reduceAdd, qt, decide_eq_true_eq, Int.toNat_zero, Int.toNat_natCast, Nat.zero_mul, Nat.mul_one, Nat.one_mul, List.toList_toArray, List.cons_append, List.nil_append, List.append_nil, true_and, and_true, Nat.zero_add, Nat.add_zero, Bool.not_true, Bool.not_false, if_true, if_false, reduceCtorEq, List.set_cons_zero, List.set_cons_succ])
  refine zset_Add_h (x := sB) hs2 (by omega) hz2 ok1 hh fun H3 zm3 hz3 hh => ?_
  have ok2 := ok1.add sB (sc := 0) 1 (by omega)
  rw [shown_2] at hz3 ok2 ⊢
  simp only at hz3 ok2
  (try simp only [xl, xo, Bool.not_eq_true', decide_eq_false_iff_not, ite_not, List.size_toArray, List.length_cons, List.length_nil, Nat.reduceAdd, qt, decide_eq_true_eq, Int.toNat_zero, Int.toNat_natCast, Nat.zero_mul, Nat.mul_one, Nat.one_mul, List.toList_toArray, List.cons_append, List.nil_append, List.append_nil, true_and, and_true, Nat.zero_add, Nat.add_zero, Bool.not_true, Bool.not_false, if_true, if_false, reduceCtorEq, List.set_cons_zero, List.set_cons_succ])
  refine zset_Rank_h (x := sA) hs1 hz3 ok2 hh fun H4 zm4 hz4 hh => ?_
  have hf1 : fnd sA [(sB, 0), (sA, 1)] = some 1 := by simp [fnd, h4]
  rw [show (⟨[(sB, 0), (sA, 1)], false, 2, 9, 7⟩ : ZSt).L = [(sB, 0), (sA, 1)] from rfl, hf1]
  (try simp only [Option.getD_some, Option.isSome_some])
  (try simp only [xl, xo, Bool.not_eq_true', decide_eq_false_iff_not, ite_not, List.size_toArray, List.length_cons, List.length_nil, Nat.reduceAdd, qt, decide_eq_true_eq, Int.toNat_zero, Int.toNat_natCast, Nat.zero_mul, Nat.mul_one, Nat.one_mul, List.toList_toArray, List.cons_append, List.nil_append, List.append_nil, true_and, and_true, Nat.zero_add, Nat.add_zero, Bool.not_true, Bool.not_false, if_true, if_false, reduceCtorEq, List.set_cons_zero, List.set_cons_succ])
  refine zset_Score_h (x := sC) hs3 hz4 ok2 hh fun H5 zm5 hz5 hh => ?_
  have hf2 : fnd sC [(sB, 0), (sA, 1)] = none := by simp [fnd, h5, h6]
  rw [show (⟨[(sB, 0), (sA, 1)], false, 2, 9, 7⟩ : ZSt).L = [(sB, 0), (sA, 1)] from rfl, sco_none hf2]
  (try simp only [Option.getD_none, Option.isSome_none])
  (try simp only [xl, xo, Bool.not_eq_true', decide_eq_false_iff_not, ite_not, List.size_toArray, List.length_cons, List.length_nil, Nat.reduceAdd, qt, decide_eq_true_eq, Int.toNat_zero, Int.toNat_natCast, Nat.zero_mul, Nat.mul_one, Nat.one_mul, List.toList_toArray, List.cons_append, List.nil_append, List.append_nil, true_and, and_true, Nat.zero_add, Nat.add_zero, Bool.not_true, Bool.not_false, if_true, if_false, reduceCtorEq, List.set_cons_zero, List.set_cons_succ])
  rw [if_pos (by simp), if_pos (by rfl)]
  refine zset_Encoding_h hz5 hh ?_
  (try dsimp only)
  (try simp only [Bool.false_eq_true, if_false])
  (try simp only [xl, xo, Bool.not_eq_true', decide_eq_false_iff_not, ite_not, List.size_toArray, List.length_cons, List.length_nil, Nat.reduceAdd, qt, decide_eq_true_eq, Int.toNat_zero, Int.toNat_natCast, Nat.zero_mul, Nat.mul_one, Nat.one_mul, List.toList_toArray, List.cons_append, List.nil_append, List.append_nil, true_and, and_true, Nat.zero_add, Nat.add_zero, Bool.not_true, Bool.not_false, if_true, if_false, reduceCtorEq, List.set_cons_zero, List.set_cons_succ])
  refine zset_Bytes_h hz5 ok2 hh fun H6 hh => ?_
  have hb : byts false [(sB, 0), (sA, 1)] = 24 := by
    have e1 : sA.size = 1 := rfl
    have e2 : sB.size = 1 := rfl
    simp [byts, packL_len, body_szs, szs, e1, e2]
  rw [hb]
  (try simp only [xl, xo, Bool.not_eq_true', decide_eq_false_iff_not, ite_not, List.size_toArray, List.length_cons, List.length_nil, Nat.reduceAdd, qt, decide_eq_true_eq, Int.toNat_zero, Int.toNat_natCast, Nat.zero_mul, Nat.mul_one, Nat.one_mul, List.toList_toArray, List.cons_append, List.nil_append, List.append_nil, true_and, and_true, Nat.zero_add, Nat.add_zero, Bool.not_true, Bool.not_false, if_true, if_false, reduceCtorEq, List.set_cons_zero, List.set_cons_succ])
  exact hK H6 hh.right
end Go.X.W
set_option linter.unusedVariables false
set_option linter.unusedSimpArgs false
namespace Go.Proofs.YtochkahbnhegaaaGreat
open Go Go.X Go.X.W Go.ChangeShapes Go.WideShapes Go.ChangeAt Go.RowKit

theorem own_law : ownKnob Tryz.prog.godebug = none := by kernel_rfl
theorem laidOut_law : laidOutB Tryz.prog = true := by kernel_rfl
abbrev actK : List CK := [.int .i64, .str, .int .i64, .int .i64, .int .i64, .int .i64]
abbrev limK : List CK := [.int .i64, .int .i64]
abbrev bndK : List CK := [.int .i64, .bool, .int .i64]
abbrev edgK : List CK := [.str, .bool, .int .i64]

theorem act_row {r : List Value} (hl : r.length = 6) (h : ∀ (i : Nat) ck, actK[i]? = some ck → ∃ u, r[i]? = some u ∧ ck.ok u) : ∃ x, r = actC x ∧ ActOk x := by
  match r, hl with
  | [a, b, c, d, e, f], _ =>
    obtain ⟨_, e0, h0⟩ := h 0 _ rfl; simp only [List.getElem?_cons_zero, Option.some.injEq] at e0; subst e0
    obtain ⟨_, e1, h1⟩ := h 1 _ rfl; simp only [List.getElem?_cons_zero, List.getElem?_cons_succ, Option.some.injEq] at e1; subst e1
    obtain ⟨_, e2, h2⟩ := h 2 _ rfl; simp only [List.getElem?_cons_zero, List.getElem?_cons_succ, Option.some.injEq] at e2; subst e2
    obtain ⟨_, e3, h3⟩ := h 3 _ rfl; simp only [List.getElem?_cons_zero, List.getElem?_cons_succ, Option.some.injEq] at e3; subst e3
    obtain ⟨_, e4, h4⟩ := h 4 _ rfl; simp only [List.getElem?_cons_zero, List.getElem?_cons_succ, Option.some.injEq] at e4; subst e4
    obtain ⟨_, e5, h5⟩ := h 5 _ rfl; simp only [List.getElem?_cons_zero, List.getElem?_cons_succ, Option.some.injEq] at e5; subst e5
    obtain ⟨n0, rfl, _⟩ := ck_i64 h0
    obtain ⟨s, rfl, _⟩ := h1
    obtain ⟨n2, rfl, r2⟩ := ck_i64 h2
    obtain ⟨n3, rfl, _⟩ := ck_i64 h3
    obtain ⟨n4, rfl, _⟩ := ck_i64 h4
    obtain ⟨n5, rfl, _⟩ := ck_i64 h5
    exact ⟨⟨n0, s, n2, n3, n4, n5⟩, rfl, r2⟩
theorem acts_of : ∀ {rows : List (List Value)}, (∀ r ∈ rows, r.length = 6 ∧ ∀ (i : Nat) ck, actK[i]? = some ck → ∃ u, r[i]? = some u ∧ ck.ok u) → ∃ acts : List ActR, rows = acts.map actC ∧ ∀ x ∈ acts, ActOk x
  | [], _ => ⟨[], rfl, fun _ h => by cases h⟩
  | r :: rows, h => by
    obtain ⟨x, rfl, hx⟩ := act_row (h r (by simp)).1 (h r (by simp)).2
    obtain ⟨acts, rfl, ha⟩ := acts_of (rows := rows) fun q hq => h q (by simp [hq])
    exact ⟨x :: acts, rfl, fun y hy => by
      rcases List.mem_cons.1 hy with rfl | hy
      · exact hx
      · exact ha y hy⟩
theorem lim_row {cs : List Value} (hl : cs.length = 2) (h : ∀ (i : Nat) ck, limK[i]? = some ck → ∃ u, cs[i]? = some u ∧ ck.ok u) : ∃ le lm, cs = [.int .i64 le, .int .i64 lm] := by
  match cs, hl with
  | [a, b], _ =>
    obtain ⟨_, e0, h0⟩ := h 0 _ rfl; simp only [List.getElem?_cons_zero, Option.some.injEq] at e0; subst e0
    obtain ⟨_, e1, h1⟩ := h 1 _ rfl; simp only [List.getElem?_cons_zero, List.getElem?_cons_succ, Option.some.injEq] at e1; subst e1
    obtain ⟨n0, rfl, _⟩ := ck_i64 h0
    obtain ⟨n1, rfl, _⟩ := ck_i64 h1
    exact ⟨n0, n1, rfl⟩
theorem bnd_row {cs : List Value} (hl : cs.length = 3) (h : ∀ (i : Nat) ck, bndK[i]? = some ck → ∃ u, cs[i]? = some u ∧ ck.ok u) : ∃ b : Bnd, cs = [.int .i64 b.n, .bool b.out, .int .i64 b.inf] := by
  match cs, hl with
  | [a, b, c], _ =>
    obtain ⟨_, e0, h0⟩ := h 0 _ rfl; simp only [List.getElem?_cons_zero, Option.some.injEq] at e0; subst e0
    obtain ⟨_, e1, h1⟩ := h 1 _ rfl; simp only [List.getElem?_cons_zero, List.getElem?_cons_succ, Option.some.injEq] at e1; subst e1
    obtain ⟨_, e2, h2⟩ := h 2 _ rfl; simp only [List.getElem?_cons_zero, List.getElem?_cons_succ, Option.some.injEq] at e2; subst e2
    obtain ⟨n0, rfl, _⟩ := ck_i64 h0
    obtain ⟨o, rfl⟩ := h1
    obtain ⟨n2, rfl, _⟩ := ck_i64 h2
    exact ⟨⟨n0, o, n2⟩, rfl⟩
theorem edg_row {cs : List Value} (hl : cs.length = 3) (h : ∀ (i : Nat) ck, edgK[i]? = some ck → ∃ u, cs[i]? = some u ∧ ck.ok u) : ∃ b : Edg, cs = [.string b.s, .bool b.out, .int .i64 b.inf] ∧ b.s.size ≤ 9223372036854775807 := by
  match cs, hl with
  | [a, b, c], _ =>
    obtain ⟨_, e0, h0⟩ := h 0 _ rfl; simp only [List.getElem?_cons_zero, Option.some.injEq] at e0; subst e0
    obtain ⟨_, e1, h1⟩ := h 1 _ rfl; simp only [List.getElem?_cons_zero, List.getElem?_cons_succ, Option.some.injEq] at e1; subst e1
    obtain ⟨_, e2, h2⟩ := h 2 _ rfl; simp only [List.getElem?_cons_zero, List.getElem?_cons_succ, Option.some.injEq] at e2; subst e2
    obtain ⟨s, rfl, hs⟩ := h0
    obtain ⟨o, rfl⟩ := h1
    obtain ⟨n2, rfl, _⟩ := ck_i64 h2
    have : maxLen = 9223372036854775807 := by decide
    exact ⟨⟨s, o, n2⟩, rfl, by simp only; omega⟩
end Go.Proofs.YtochkahbnhegaaaGreat
set_option linter.unusedVariables false
set_option linter.unusedSimpArgs false
namespace Go.Proofs
open Go.Shelf
def Tryz.laysSort_ren : Go.Shelf.Ren := ⟨fun | 190 => 98 | 125 => 107 | 258 => 106 | 128 => 121 | 129 => 122 | 302 => 112 | 303 => 113 | 304 => 114 | 305 => 115 | 306 => 116 | 307 => 117 | 308 => 118 | 309 => 119 | 310 => 120 | 333 => 126 | 329 => 127 | 330 => 128 | 334 => 129 | 335 => 130 | 336 => 80 | 344 => 131 | n => n, fun | 31 => 92 | 9 => 9 | 3 => 3 | 46 => 32 | 0 => 0 | 51 => 24 | 53 => 203 | 4 => 4 | 183 => 196 | 182 => 195 | 131 => 49 | 5 => 5 | 218 => 207 | 222 => 211 | 228 => 213 | 229 => 62 | n => n, fun | n => n⟩
theorem Tryz.laysSort : Go.Proofs.Lays.n190 Tryz.prog Tryz.laysSort_ren where
  mixed := by kernel_rfl
  f125 := Tryz.func107.trans (congrArg some (by kernel_rfl))
  f128 := Tryz.func121.trans (congrArg some (by kernel_rfl))
  f129 := Tryz.func122.trans (congrArg some (by kernel_rfl))
  f190 := Tryz.func98.trans (congrArg some (by kernel_rfl))
  f258 := Tryz.func106.trans (congrArg some (by kernel_rfl))
  f302 := Tryz.func112.trans (congrArg some (by kernel_rfl))
  f303 := Tryz.func113.trans (congrArg some (by kernel_rfl))
  f304 := Tryz.func114.trans (congrArg some (by kernel_rfl))
  f305 := Tryz.func115.trans (congrArg some (by kernel_rfl))
  f306 := Tryz.func116.trans (congrArg some (by kernel_rfl))
  f307 := Tryz.func117.trans (congrArg some (by kernel_rfl))
  f308 := Tryz.func118.trans (congrArg some (by kernel_rfl))
  f309 := Tryz.func119.trans (congrArg some (by kernel_rfl))
  f310 := Tryz.func120.trans (congrArg some (by kernel_rfl))
  f329 := Tryz.func127.trans (congrArg some (by kernel_rfl))
  f330 := Tryz.func128.trans (congrArg some (by kernel_rfl))
  f333 := Tryz.func126.trans (congrArg some (by kernel_rfl))
  f334 := Tryz.func129.trans (congrArg some (by kernel_rfl))
  f335 := Tryz.func130.trans (congrArg some (by kernel_rfl))
  f336 := Tryz.func80.trans (congrArg some (by kernel_rfl))
  f344 := Tryz.func131.trans (congrArg some (by kernel_rfl))
  t0 := Tryz.underlying0
  a0 := Tryz.isAgg0
  z0 := Tryz.sizeOf0
  v0 := Tryz.zeroValue0
  t3 := Tryz.underlying3
  a3 := Tryz.isAgg3
  z3 := Tryz.sizeOf3
  v3 := Tryz.zeroValue3
  t4 := Tryz.underlying4
  a4 := Tryz.isAgg4
  z4 := Tryz.sizeOf4
  v4 := Tryz.zeroValue4
  t5 := Tryz.underlying5
  a5 := Tryz.isAgg5
  z5 := Tryz.sizeOf5
  v5 := Tryz.zeroValue5
  t9 := Tryz.underlying9
  a9 := Tryz.isAgg9
  z9 := Tryz.sizeOf9
  v9 := Tryz.zeroValue9
  t31 := Tryz.underlying92
  a31 := Tryz.isAgg92
  z31 := Tryz.sizeOf92
  v31 := Tryz.zeroValue92
  t46 := Tryz.underlying32
  a46 := Tryz.isAgg32
  z46 := Tryz.sizeOf32
  v46 := Tryz.zeroValue32
  t51 := Tryz.underlying24
  a51 := Tryz.isAgg24
  z51 := Tryz.sizeOf24
  v51 := Tryz.zeroValue24
  t53 := Tryz.underlying203
  a53 := Tryz.isAgg203
  z53 := Tryz.sizeOf203
  v53 := Tryz.zeroValue203
  t131 := Tryz.underlying49
  a131 := Tryz.isAgg49
  z131 := Tryz.sizeOf49
  v131 := Tryz.zeroValue49
  t182 := Tryz.underlying195
  a182 := Tryz.isAgg195
  z182 := Tryz.sizeOf195
  v182 := Tryz.zeroValue195
  t183 := Tryz.underlying196
  a183 := Tryz.isAgg196
  z183 := Tryz.sizeOf196
  v183 := Tryz.zeroValue196
  t218 := Tryz.underlying207
  a218 := Tryz.isAgg207
  z218 := Tryz.sizeOf207
  v218 := Tryz.zeroValue207
  t222 := Tryz.underlying211
  a222 := Tryz.isAgg211
  z222 := Tryz.sizeOf211
  v222 := Tryz.zeroValue211
  t228 := Tryz.underlying213
  a228 := Tryz.isAgg213
  z228 := Tryz.sizeOf213
  v228 := Tryz.zeroValue213
  t229 := Tryz.underlying62
  a229 := Tryz.isAgg62
  z229 := Tryz.sizeOf62
  v229 := Tryz.zeroValue62
end Go.Proofs
namespace Go.X.W
open Go Go.X Go.Proofs

/-- Texts in their order. -/
def sortD (l : List ByteArray) : List ByteArray := ((l.map fun x => x.data.toList).mergeSort fun x y => decide (x ≤ y)).map fun s => ⟨s.toArray⟩
theorem sortB_ex : ∃ f : List ByteArray → List ByteArray, f = sortD := ⟨_, rfl⟩
noncomputable def sortB : List ByteArray → List ByteArray := Classical.choose sortB_ex
theorem sortB_def : sortB = sortD := Classical.choose_spec sortB_ex

theorem sortB_perm (l : List ByteArray) : (sortB l).Perm l := by
  rw [sortB_def, sortD]
  refine ((List.mergeSort_perm _ _).map _).trans ?_
  rw [List.map_map]
  have : ((fun s : List UInt8 => (⟨s.toArray⟩ : ByteArray)) ∘ fun x : ByteArray => x.data.toList) = id := by
    funext x; simp
  rw [this, List.map_id]

theorem sortB_len (l : List ByteArray) : (sortB l).length = l.length := (sortB_perm l).length_eq

theorem slices_Sort_h {b cap : Nat} {l : List ByteArray} {sp : List Value} {H : Heap} {r : Mem} {K : Value → Heap → Prop} {n : Nat} (hh : Has H (cell b (l.map Value.string ++ sp) + r)) (hl : l.length < 4611686018427387904) (hn : n = l.length)
    (hK : ∀ H', Has H' (cell b ((sortB l).map Value.string ++ sp) + r) → K (.tuple #[]) H') : CallH P f_slices_Sort_s_string_string [.slice (some ⟨b, 0, none⟩) n cap] H K := by
  subst hn
  refine ⟨by kernel_rfl, fun w hw => ?_⟩
  subst hw
  obtain ⟨t, hb⟩ := hh.blk (b := b)
  have hlt : b < w.heap.size := (Array.getElem?_eq_some_iff.1 hb).1
  have hH : Go.Sort.Holds encStr w b 0 (l.map fun x => x.data.toList).toArray := by
    intro j hj
    simp only [List.size_toArray, List.length_map] at hj
    constructor
    · simp only [World.cell?, hb]
      simp [hj, List.getElem?_append, encStr]
    · simp [World.frozen?, hb]
  have hc := Any.slices_Sort_string Tryz.laysSort b 0 cap (l.map fun x => x.data.toList) w hH hlt (by simpa using hl)
  rw [List.length_map] at hc
  refine Calls.mono hc ?_
  rintro e w' ⟨rfl, k, os, rfl⟩
  refine ⟨_, rfl, hK _ ?_, ⟨rfl, rfl⟩⟩
  have hlen : ((l.map fun x => x.data.toList).mergeSort fun x y => decide (x ≤ y)).length = l.length := by simp
  refine hh.set ⟨by simp [Go.Sort.grow, Go.Sort.putRow, Go.Sort.mapBlock, Go.Sort.ahead], fun c hc hne => ?_⟩ (show Blk _ b _ from ⟨t, ?_⟩)
  · simp only [Go.Sort.grow, Go.Sort.putRow, Go.Sort.mapBlock, Go.Sort.ahead]
    rw [Array.getElem?_append_left (by simpa using hc), Array.getElem?_modify, if_neg (fun e => hne e.symm)]
  · simp only [Go.Sort.grow, Go.Sort.putRow, Go.Sort.mapBlock, Go.Sort.ahead]
    rw [Array.getElem?_append_left (by simpa using hlt), Array.getElem?_modify, if_pos rfl, hb]
    simp only [Option.map_some, Go.Sort.onCells]
    congr 2
    apply Array.ext'
    rw [sortB_def, sortD]
    apply List.ext_getElem?
    intro i
    generalize hS : ((l.map fun x => x.data.toList).mergeSort fun x y => decide (x ≤ y)) = S at *
    simp only [Go.Sort.putCells, Array.getElem?_toList, Array.getElem?_mapIdx, List.getElem?_toArray, Nat.sub_zero, Nat.zero_add, List.size_toArray, Nat.zero_le, true_and, List.map_map]
    by_cases hi : i < S.length
    · rw [List.getElem?_append_left (by simpa using (hlen ▸ hi)), List.getElem?_append_left (by simpa using hi)]
      simp only [List.getElem?_map, hi, if_true]
      rw [List.getElem?_eq_getElem (show i < l.length by omega), List.getElem?_eq_getElem hi]
      simp [encStr, hi]
    · rw [List.getElem?_append_right (by simpa using (by omega : l.length ≤ i)), List.getElem?_append_right (by simpa using (by omega : S.length ≤ i))]
      simp only [List.length_map, hlen, hi, if_false]
      have hi2 : ¬ i < l.length := by omega
      cases sp[i - l.length]? <;> simp [hi2]

theorem slices_Sort0_h {a : Option Addr} {cap : Nat} {H : Heap} {K : Value → Heap → Prop} (hK : K (.tuple #[]) H) : CallH P f_slices_Sort_s_string_string [.slice a 0 cap] H K := by
  refine ⟨by kernel_rfl, fun w hw => ?_⟩
  subst hw
  refine Calls.mono (Any.slices_Sort_string_none Tryz.laysSort a cap w) ?_
  rintro e w' ⟨rfl, rfl⟩
  exact ⟨_, rfl, hK, ⟨rfl, rfl⟩⟩
end Go.X.W
set_option linter.unusedVariables false
set_option linter.unusedSimpArgs false
namespace Go.X.W
open Go Go.X Go.Proofs

/-- The lowest k digits of a number, turned. -/
def revN : Nat → Nat → Nat
  | 0, _ => 0
  | k + 1, n => 2 * revN k n + n / 2 ^ k % 2

theorem rev_lt (n : Nat) : ∀ k, revN k n < 2 ^ k
  | 0 => by simp [revN]
  | k + 1 => by
    have := rev_lt n k
    rw [revN, Nat.pow_succ]
    omega
theorem rev_split (n a : Nat) : ∀ b, revN (a + b) n = revN a n * 2 ^ b + revN b (n / 2 ^ a)
  | 0 => by simp [revN]
  | b + 1 => by
    rw [← Nat.add_assoc, revN, rev_split n a b, revN, Nat.div_div_eq_div_mul, ← Nat.pow_add, Nat.pow_succ]
    rw [Nat.mul_add, Nat.add_assoc]
    congr 1
    rw [Nat.mul_comm (2 ^ b) 2, ← Nat.mul_assoc, Nat.mul_comm 2 (revN a n), Nat.mul_assoc]
theorem rev_mod (n : Nat) : ∀ k j, k ≤ j → revN k (n % 2 ^ j) = revN k n
  | 0, j, _ => rfl
  | k + 1, j, h => by
    rw [revN, revN, rev_mod n k j (by omega)]
    congr 1
    obtain ⟨i, rfl⟩ : ∃ i, j = k + (i + 1) := ⟨j - k - 1, by omega⟩
    rw [Nat.pow_add, Nat.mod_mul_right_div_self, Nat.pow_succ, Nat.mul_comm (2 ^ i) 2, Nat.mod_mul_right_mod]
theorem rev_rev (n : Nat) : ∀ k, revN k (revN k n) = n % 2 ^ k
  | 0 => by simp [revN, Nat.mod_one]
  | k + 1 => by
    have h := rev_split (revN (k + 1) n) 1 k
    rw [Nat.add_comm 1 k] at h
    rw [h]
    have e1 : revN (k + 1) n / 2 ^ 1 = revN k n := by
      have := Nat.mod_lt (n / 2 ^ k) (show 0 < 2 by omega)
      rw [revN]; omega
    have e2 : revN 1 (revN (k + 1) n) = n / 2 ^ k % 2 := by
      have := Nat.mod_lt (n / 2 ^ k) (show 0 < 2 by omega)
      simp only [revN]
      omega
    rw [e1, e2, rev_rev n k, Nat.pow_succ, Nat.mod_mul, Nat.mul_comm]
    omega
theorem rev_zero : ∀ k, revN k 0 = 0
  | 0 => rfl
  | k + 1 => by rw [revN, rev_zero k]; simp
theorem rev_ones : ∀ k, revN k (2 ^ k - 1) = 2 ^ k - 1
  | 0 => rfl
  | k + 1 => by
    have hp : 0 < 2 ^ k := Nat.pow_pos (by omega)
    have e1 : revN k (2 ^ (k + 1) - 1) = 2 ^ k - 1 := by
      rw [← rev_mod _ k k (Nat.le_refl _)]
      have : (2 ^ (k + 1) - 1) % 2 ^ k = 2 ^ k - 1 := by
        rw [Nat.pow_succ, show 2 ^ k * 2 - 1 = 2 ^ k - 1 + 2 ^ k by omega, Nat.add_mod_right, Nat.mod_eq_of_lt (by omega)]
      rw [this, rev_ones k]
    have e2 : (2 ^ (k + 1) - 1) / 2 ^ k = 1 := by
      rw [Nat.pow_succ]
      refine Nat.div_eq_of_lt_le (by omega) (by omega)
    rw [revN, e1, e2, Nat.pow_succ]
    omega

theorem turn_div {k : Nat} (n : Nat) (hk : k ≤ 32) : revN 32 n / 2 ^ (32 - k) = revN k n := by
  have h := rev_split n k (32 - k)
  rw [Nat.add_sub_cancel' hk] at h
  rw [h, Nat.add_comm, Nat.add_mul_div_right _ _ (Nat.pow_pos (by omega)), Nat.div_eq_of_lt (rev_lt _ _), Nat.zero_add]
theorem turn_mod {k : Nat} (n : Nat) (hk : k ≤ 32) : revN 32 n % 2 ^ (32 - k) = revN (32 - k) (n / 2 ^ k) := by
  have h := rev_split n k (32 - k)
  rw [Nat.add_sub_cancel' hk] at h
  rw [h, Nat.add_comm, Nat.add_mul_mod_self_right, Nat.mod_eq_of_lt (rev_lt _ _)]

theorem rev_inj {k a b : Nat} (h : revN k a = revN k b) : a % 2 ^ k = b % 2 ^ k := by
  rw [← rev_rev a k, ← rev_rev b k, h]

/-- The place of a slot's beginning. -/
def blkN (n : Nat) : Nat := 4294967296 / n
theorem blk_pow {k : Nat} (hk : k ≤ 32) : blkN (2 ^ k) = 2 ^ (32 - k) := by
  unfold blkN
  rw [show (4294967296 : Nat) = 2 ^ (32 - k) * 2 ^ k by rw [← Nat.pow_add, Nat.sub_add_cancel hk], Nat.mul_div_cancel _ (Nat.pow_pos (by omega))]

/-- Two numbers are in one slot just where their places are in one block. -/
theorem slot_turn {a b n : Nat} (hn : IsSz n) : a % n = b % n ↔ revN 32 a / blkN n = revN 32 b / blkN n := by
  obtain ⟨k, h2, h16, rfl⟩ := hn
  rw [blk_pow (by omega), turn_div _ (by omega), turn_div _ (by omega)]
  constructor
  · intro h
    rw [← rev_mod a k k (Nat.le_refl _), ← rev_mod b k k (Nat.le_refl _), h]
  · exact rev_inj

theorem rev32_lt (n : Nat) : revN 32 n < 4294967296 := rev_lt n 32
theorem rev32_rev {n : Nat} (h : n < 4294967296) : revN 32 (revN 32 n) = n := by rw [rev_rev, Nat.mod_eq_of_lt h]

/-- A number with all digits outside a mask. -/
theorem or_high {c k : Nat} (hc : c < 4294967296) (hk : k ≤ 32) : c ||| (4294967296 - 2 ^ k) = c % 2 ^ k + (4294967296 - 2 ^ k) := by
  have hp : 0 < 2 ^ k := Nat.pow_pos (by omega)
  have e : 4294967296 - 2 ^ k = 2 ^ k * (2 ^ (32 - k) - 1) := by
    rw [Nat.mul_sub, ← Nat.pow_add, Nat.add_sub_cancel' hk, Nat.mul_one]
  rw [e, Nat.add_comm]
  have hcm : c % 2 ^ k < 2 ^ k := Nat.mod_lt _ hp
  apply Nat.eq_of_testBit_eq
  intro i
  rw [Nat.testBit_or, Nat.testBit_two_pow_mul_add _ hcm]
  by_cases hi : i < k
  · rw [if_pos hi, Nat.testBit_two_pow_mul, Nat.testBit_mod_two_pow]
    simp [hi, Nat.not_le.2 hi]
  · rw [if_neg hi, Nat.testBit_two_pow_mul, Nat.testBit_two_pow_sub_one]
    by_cases h32 : i < 32
    · have : i - k < 32 - k := by omega
      simp [this, Nat.not_lt.1 hi]
    · have h1 : c.testBit i = false := Nat.testBit_lt_two_pow (Nat.lt_of_lt_of_le hc (Nat.pow_le_pow_right (n := 2) (i := 32) (by omega) (by omega)))
      have : ¬ i - k < 32 - k := by omega
      simp [this, h1]

def nextN (c n : Nat) : Nat := revN 32 ((revN 32 (c % n + (4294967296 - n)) + 1) % 4294967296)
theorem next_lt (c n : Nat) : nextN c n < 4294967296 := rev32_lt _
theorem next_turn {c n : Nat} (hn : IsSz n) : revN 32 (nextN c n) = (revN 32 c / blkN n + 1) * blkN n % 4294967296 := by
  obtain ⟨k, h2, h16, rfl⟩ := hn
  have hp : 0 < 2 ^ k := Nat.pow_pos (by omega)
  have hq : 0 < 2 ^ (32 - k) := Nat.pow_pos (by omega)
  unfold nextN
  rw [rev32_rev (Nat.mod_lt _ (by omega)), blk_pow (by omega), turn_div _ (by omega)]
  congr 1
  have h := rev_split (c % 2 ^ k + (4294967296 - 2 ^ k)) k (32 - k)
  rw [Nat.add_sub_cancel' (by omega)] at h
  have e : 4294967296 - 2 ^ k = 2 ^ k * (2 ^ (32 - k) - 1) := by
    rw [Nat.mul_sub, ← Nat.pow_add, Nat.add_sub_cancel' (by omega), Nat.mul_one]
  have hcm : c % 2 ^ k < 2 ^ k := Nat.mod_lt _ hp
  have e1 : revN k (c % 2 ^ k + (4294967296 - 2 ^ k)) = revN k c := by
    rw [← rev_mod _ k k (Nat.le_refl _), e, Nat.add_mul_mod_self_left, Nat.mod_mod, rev_mod _ k k (Nat.le_refl _)]
  have e2 : (c % 2 ^ k + (4294967296 - 2 ^ k)) / 2 ^ k = 2 ^ (32 - k) - 1 := by
    rw [e, Nat.add_mul_div_left _ _ hp, Nat.div_eq_of_lt hcm, Nat.zero_add]
  rw [h, e1, e2, rev_ones, Nat.add_mul, Nat.one_mul]
  omega

/-- The digits that the greater table has alone. -/
theorem within_iff {c s g : Nat} (hs : IsSz s) (hg : IsSz g) (hsg : s ≤ g) (hc : revN 32 c % blkN g = 0) : c &&& (g - s) = 0 ↔ revN 32 c % blkN s = 0 := by
  obtain ⟨a, ha2, ha, rfl⟩ := hs
  obtain ⟨b, hb2, hb, rfl⟩ := hg
  have hab : a ≤ b := (Nat.pow_le_pow_iff_right (by omega)).1 hsg
  have hp : 0 < 2 ^ a := Nat.pow_pos (by omega)
  rw [blk_pow (by omega)] at *
  rw [turn_mod _ (by omega)] at *
  have e : 2 ^ b - 2 ^ a = 2 ^ a * (2 ^ (b - a) - 1) := by
    rw [Nat.mul_sub, ← Nat.pow_add, Nat.add_sub_cancel' hab, Nat.mul_one]
  have e2 : c &&& (2 ^ b - 2 ^ a) = 2 ^ a * (c / 2 ^ a % 2 ^ (b - a)) := by
    rw [e]
    apply Nat.eq_of_testBit_eq
    intro i
    rw [Nat.testBit_and, Nat.testBit_two_pow_mul, Nat.testBit_two_pow_mul, Nat.testBit_two_pow_sub_one, Nat.testBit_mod_two_pow, Nat.testBit_div_two_pow]
    by_cases hi : a ≤ i
    · rw [Nat.sub_add_cancel hi]
      cases c.testBit i <;> simp [hi]
    · simp [hi]
  have h3 := rev_split (c / 2 ^ a) (b - a) (32 - b)
  rw [show b - a + (32 - b) = 32 - a by omega, Nat.div_div_eq_div_mul, ← Nat.pow_add, Nat.add_sub_cancel' hab, hc, Nat.add_zero] at h3
  rw [e2, h3]
  have hq : 0 < 2 ^ (32 - b) := Nat.pow_pos (by omega)
  constructor
  · intro h
    have h1 : c / 2 ^ a % 2 ^ (b - a) = 0 := by
      rcases Nat.mul_eq_zero.1 h with h | h
      · omega
      · exact h
    rw [← rev_mod _ (b - a) (b - a) (Nat.le_refl _), h1, rev_zero, Nat.zero_mul]
  · intro h
    have h1 : revN (b - a) (c / 2 ^ a) = 0 := by
      rcases Nat.mul_eq_zero.1 h with h | h
      · exact h
      · omega
    rw [← rev_rev, h1, rev_zero, Nat.mul_zero]
end Go.X.W
set_option linter.unusedVariables false
set_option linter.unusedSimpArgs false
namespace Go.X.W
open Go Go.X Go.Proofs

theorem bv32 {n : Int} (h : 0 ≤ n ∧ n < 4294967296) : (BitVec.ofInt 32 n).toNat = n.toNat := by
  rw [BitVec.toNat_ofInt]; omega

theorem scan_mask_k {n : Nat} {H : Heap} {K : Value → Heap → Prop} (hn : IsSz n) (hK : K (.int .u32 (n - 1 : Nat)) H) : CallH P f_scan_mask [.int .i64 n] H K := by
  have hb := hn.bd
  apply k_scan_mask
  unfold c_scan_mask
  (repeat (first | (refine Blk.load (by assumption) (by rfl) ?_) | (simp only [xl, xo, Bool.not_eq_true', decide_eq_false_iff_not, ite_not, List.size_toArray, List.length_cons, List.length_nil, Nat.reduceAdd, qt, decide_eq_true_eq, Int.toNat_zero, Int.toNat_natCast, Nat.zero_mul, Nat.mul_one, Nat.one_mul, List.toList_toArray, List.cons_append, List.nil_append, List.append_nil, true_and, and_true, Nat.zero_add, Nat.add_zero, Bool.not_true, Bool.not_false, if_true, if_false, reduceCtorEq, List.set_cons_zero, List.set_cons_succ])))
  rw [show ((n - 1 : Nat) : Int) = (n : Int) - 1 by omega] at hK
  rw [w64 (n := (n : Int) - 1) (by omega), wu32 (n := (n : Int) - 1) (by omega)]
  exact hK

theorem turn_step {c k : Nat} (hk : k < 32) (h : revN k c < 2 ^ k) :
    IntKind.u32.wrap (BitVec.ofInt 32 (IntKind.u32.wrap ((revN k c : Nat) * 2 ^ 1)) ||| BitVec.ofInt 32 (IntKind.u32.wrap (BitVec.ofInt 32 ((c / 2 ^ k : Nat) : Int) &&& BitVec.ofInt 32 1).toNat)).toNat = (revN (k + 1) c : Nat) := by
  have h31 : (2 ^ k : Nat) ≤ 2 ^ 31 := Nat.pow_le_pow_right (by omega) (by omega)
  have hm : c / 2 ^ k % 2 < 2 := Nat.mod_lt _ (by omega)
  rw [BitVec.toNat_and, show (BitVec.ofInt 32 1).toNat = 2 ^ 1 - 1 by rfl, Nat.and_two_pow_sub_one_eq_mod]
  have e1 : (BitVec.ofInt 32 ((c / 2 ^ k : Nat) : Int)).toNat % 2 ^ 1 = c / 2 ^ k % 2 := by
    rw [BitVec.toNat_ofInt]; omega
  rw [e1, wu32 (n := ((c / 2 ^ k % 2 : Nat) : Int)) (by omega), wu32 (n := (revN k c : Int) * 2 ^ 1) (by omega), BitVec.toNat_or, bv32 (by omega), bv32 (by omega)]
  have e2 : ((revN k c : Int) * 2 ^ 1).toNat = 2 ^ 1 * revN k c := by omega
  have e3 : (((c / 2 ^ k % 2 : Nat) : Int)).toNat = c / 2 ^ k % 2 := by omega
  rw [e2, e3, ← Nat.two_pow_add_eq_or_of_lt (by omega), wu32 (by omega), revN]

theorem hash_Turn_k {c : Nat} {H : Heap} {K : Value → Heap → Prop} (hc : c < 4294967296) (hK : K (.int .u32 (revN 32 c : Nat)) H) : CallH P f_hash_Turn [.int .u32 c] H K := by
  apply k_hash_Turn
  unfold c_hash_Turn
  refine loop_i (fun m s G => ∃ k : Nat, k + m = 32 ∧ s = ((.int .u32 (c / 2 ^ k : Nat), .int .u32 (revN k c : Nat), .int .i64 k), []) ∧ G = H) 32 ⟨0, rfl, by simp [revN], rfl⟩ ?_
  rintro m _ g G ⟨k, hk, rfl, rfl⟩
  (repeat (first | (refine Blk.load (by assumption) (by rfl) ?_) | (simp only [xl, xo, Bool.not_eq_true', decide_eq_false_iff_not, ite_not, List.size_toArray, List.length_cons, List.length_nil, Nat.reduceAdd, qt, decide_eq_true_eq, Int.toNat_zero, Int.toNat_natCast, Nat.zero_mul, Nat.mul_one, Nat.one_mul, List.toList_toArray, List.cons_append, List.nil_append, List.append_nil, true_and, and_true, Nat.zero_add, Nat.add_zero, Bool.not_true, Bool.not_false, if_true, if_false, reduceCtorEq, List.set_cons_zero, List.set_cons_succ])))
  by_cases h : k < 32
  · rw [if_pos (by omega)]
    (repeat (first | (refine Blk.load (by assumption) (by rfl) ?_) | (simp only [xl, xo, Bool.not_eq_true', decide_eq_false_iff_not, ite_not, List.size_toArray, List.length_cons, List.length_nil, Nat.reduceAdd, qt, decide_eq_true_eq, Int.toNat_zero, Int.toNat_natCast, Nat.zero_mul, Nat.mul_one, Nat.one_mul, List.toList_toArray, List.cons_append, List.nil_append, List.append_nil, true_and, and_true, Nat.zero_add, Nat.add_zero, Bool.not_true, Bool.not_false, if_true, if_false, reduceCtorEq, List.set_cons_zero, List.set_cons_succ])))
    refine ⟨by omega, by omega, m - 1, by omega, k + 1, by omega, ?_⟩
    have e := turn_step h (rev_lt c k)
    have e0 : min (Int.toNat 1) IntKind.u32.bits = 1 := rfl
    have eb : IntKind.u32.bits = 32 := rfl
    rw [e0, eb, e, w64 (n := (k : Int) + 1) (by omega)]
    have e4 : ((c / 2 ^ k : Nat) : Int).fdiv (2 ^ 1) = ((c / 2 ^ (k + 1) : Nat) : Int) := by
      rw [Int.fdiv_eq_ediv_of_nonneg _ (by omega), Nat.pow_succ, ← Nat.div_div_eq_div_mul]
      omega
    rw [e4]
    rfl
  · rw [if_neg (by omega)]
    obtain rfl : k = 32 := by omega
    (repeat (first | (refine Blk.load (by assumption) (by rfl) ?_) | (simp only [xl, xo, Bool.not_eq_true', decide_eq_false_iff_not, ite_not, List.size_toArray, List.length_cons, List.length_nil, Nat.reduceAdd, qt, decide_eq_true_eq, Int.toNat_zero, Int.toNat_natCast, Nat.zero_mul, Nat.mul_one, Nat.one_mul, List.toList_toArray, List.cons_append, List.nil_append, List.append_nil, true_and, and_true, Nat.zero_add, Nat.add_zero, Bool.not_true, Bool.not_false, if_true, if_false, reduceCtorEq, List.set_cons_zero, List.set_cons_succ])))
    exact hK

theorem x_xor32 {n : Nat} {K : Value → Prop} (hn : n < 4294967296) : UnP .xor (.int .u32 n) K = K (.int .u32 (4294967295 - n : Nat)) := by
  have e1 : (if IntKind.u32.signed then -1 else IntKind.u32.max) = (4294967295 : Int) := rfl
  have e2 : BitVec.ofInt 32 (4294967295 : Int) = BitVec.allOnes 32 := by decide
  have e : IntKind.u32.wrap (BitVec.ofInt 32 (4294967295 : Int) ^^^ BitVec.ofInt 32 (n : Int)).toNat = ((4294967295 - n : Nat) : Int) := by
    rw [e2, BitVec.allOnes_xor, BitVec.toNat_not, bv32 (by omega), Int.toNat_natCast, wu32 (by omega)]
  simp only [UnP]
  rw [e1]
  exact congrArg (fun z => K (.int .u32 z)) e

theorem scan_next_k {c n : Nat} {H : Heap} {K : Value → Heap → Prop} (hn : IsSz n) (hc : c < 4294967296) (hK : K (.int .u32 (nextN c n : Nat)) H) : CallH P f_scan_next [.int .u32 c, .int .i64 n] H K := by
  apply k_scan_next
  unfold c_scan_next
  refine scan_mask_k hn ?_
  have hb := hn.bd
  rw [x_xor32 (by omega)]
  (repeat (first | (refine Blk.load (by assumption) (by rfl) ?_) | (simp only [xl, xo, Bool.not_eq_true', decide_eq_false_iff_not, ite_not, List.size_toArray, List.length_cons, List.length_nil, Nat.reduceAdd, qt, decide_eq_true_eq, Int.toNat_zero, Int.toNat_natCast, Nat.zero_mul, Nat.mul_one, Nat.one_mul, List.toList_toArray, List.cons_append, List.nil_append, List.append_nil, true_and, and_true, Nat.zero_add, Nat.add_zero, Bool.not_true, Bool.not_false, if_true, if_false, reduceCtorEq, List.set_cons_zero, List.set_cons_succ])))
  have hor : IntKind.u32.wrap (BitVec.ofInt IntKind.u32.bits (c : Int) ||| BitVec.ofInt IntKind.u32.bits ((4294967295 - (n - 1) : Nat) : Int)).toNat = ((c % n + (4294967296 - n) : Nat) : Int) := by
    have eb : IntKind.u32.bits = 32 := rfl
    rw [eb, BitVec.toNat_or, bv32 (by omega), bv32 (by omega), Int.toNat_natCast, Int.toNat_natCast, show 4294967295 - (n - 1) = 4294967296 - n by omega]
    have h := Nat.mod_lt c (show 0 < n by omega)
    rw [wu32]
    · obtain ⟨k, h2, h16, rfl⟩ := hn
      rw [or_high hc (by omega)]
    · obtain ⟨k, h2, h16, rfl⟩ := hn
      rw [or_high hc (by omega)]
      omega
  rw [hor]
  have h := Nat.mod_lt c (show 0 < n by omega)
  refine hash_Turn_k (by omega) ?_
  (repeat (first | (refine Blk.load (by assumption) (by rfl) ?_) | (simp only [xl, xo, Bool.not_eq_true', decide_eq_false_iff_not, ite_not, List.size_toArray, List.length_cons, List.length_nil, Nat.reduceAdd, qt, decide_eq_true_eq, Int.toNat_zero, Int.toNat_natCast, Nat.zero_mul, Nat.mul_one, Nat.one_mul, List.toList_toArray, List.cons_append, List.nil_append, List.append_nil, true_and, and_true, Nat.zero_add, Nat.add_zero, Bool.not_true, Bool.not_false, if_true, if_false, reduceCtorEq, List.set_cons_zero, List.set_cons_succ])))
  have h3 := rev32_lt (c % n + (4294967296 - n))
  have hw : IntKind.u32.wrap ((revN 32 (c % n + (4294967296 - n)) : Nat) + 1) = (((revN 32 (c % n + (4294967296 - n)) + 1) % 4294967296 : Nat) : Int) := by
    by_cases h5 : revN 32 (c % n + (4294967296 - n)) + 1 < 4294967296
    · rw [Nat.mod_eq_of_lt h5, wu32 (by omega)]; omega
    · have : revN 32 (c % n + (4294967296 - n)) = 4294967295 := by omega
      rw [this]; rfl
  rw [hw]
  exact hash_Turn_k (Nat.mod_lt _ (by omega)) hK

theorem scan_within_k {s g : Nat} {H : Heap} {K : Value → Heap → Prop} (hs : IsSz s) (hg : IsSz g) (hsg : s ≤ g) (hK : K (.int .u32 (g - s : Nat)) H) : CallH P f_scan_within [.int .i64 s, .int .i64 g] H K := by
  apply k_scan_within
  unfold c_scan_within
  refine scan_mask_k hg ?_
  refine scan_mask_k hs ?_
  (repeat (first | (refine Blk.load (by assumption) (by rfl) ?_) | (simp only [xl, xo, Bool.not_eq_true', decide_eq_false_iff_not, ite_not, List.size_toArray, List.length_cons, List.length_nil, Nat.reduceAdd, qt, decide_eq_true_eq, Int.toNat_zero, Int.toNat_natCast, Nat.zero_mul, Nat.mul_one, Nat.one_mul, List.toList_toArray, List.cons_append, List.nil_append, List.append_nil, true_and, and_true, Nat.zero_add, Nat.add_zero, Bool.not_true, Bool.not_false, if_true, if_false, reduceCtorEq, List.set_cons_zero, List.set_cons_succ])))
  have eb : IntKind.u32.bits = 32 := rfl
  have hsb := hs.bd
  have hgb := hg.bd
  rw [eb, BitVec.toNat_and, BitVec.toNat_not, bv32 (by omega), bv32 (by omega), Int.toNat_natCast, Int.toNat_natCast]
  have e : (g - 1) &&& (2 ^ 32 - 1 - (s - 1)) = g - s := by
    obtain ⟨a, ha2, ha, rfl⟩ := hs
    obtain ⟨b, hb2, hb, rfl⟩ := hg
    have hab : a ≤ b := (Nat.pow_le_pow_iff_right (by omega)).1 hsg
    rw [Nat.and_comm, Nat.and_two_pow_sub_one_eq_mod]
    have hp : 0 < 2 ^ a := Nat.pow_pos (by omega)
    obtain ⟨i, rfl⟩ : ∃ i, b = a + i := ⟨b - a, by omega⟩
    have h32 : (2 ^ 32 : Nat) = 2 ^ (a + i) * 2 ^ (32 - (a + i)) := by rw [← Nat.pow_add, Nat.add_sub_cancel' (by omega)]
    have hq : 0 < 2 ^ (32 - (a + i)) := Nat.pow_pos (by omega)
    obtain ⟨q, hq2⟩ : ∃ q, 2 ^ (32 - (a + i)) = q + 1 := ⟨2 ^ (32 - (a + i)) - 1, by omega⟩
    rw [h32, hq2, Nat.mul_add, Nat.mul_one, show 2 ^ (a + i) * q + 2 ^ (a + i) - 1 - (2 ^ a - 1) = (2 ^ (a + i) - 2 ^ a) + 2 ^ (a + i) * q by omega, Nat.add_mul_mod_self_left, Nat.mod_eq_of_lt (by omega)]
  rw [e, wu32 (by omega)]
  exact hK

def sndN (R : Option (Nat × Tabl)) : Nat := match R with | none => 0 | some p => p.2.length
theorem dict_Sizes_h {H : Heap} {d : Nat} {D : DSt} {m : Mem} {K : Value → Heap → Prop} (hh : Has H (dictM d D + m))
    (hK : K (.tuple #[.int .i64 D.T0.length, .int .i64 (sndN D.R : Nat), .int .i64 D.pos]) H) : CallH P f_dict_Dict_int64_Sizes [.pointer (some ⟨d, 0, none⟩)] H K := by
  obtain ⟨seed, tb0, T0, R, pos, n⟩ := D
  rw [dictM] at hh
  apply k_dict_Dict_int64_Sizes
  unfold c_dict_Dict_int64_Sizes
  cases R with
  | none =>
    simp only [dictCells, sndV, sndN] at hh hK
    (repeat (first | (refine h_load hh (by rfl) ?_) | (simp only [xl, xo, Bool.not_eq_true', decide_eq_false_iff_not, ite_not, List.size_toArray, List.length_cons, List.length_nil, Nat.reduceAdd, qt, decide_eq_true_eq, Int.toNat_zero, Int.toNat_natCast, Nat.zero_mul, Nat.mul_one, Nat.one_mul, List.toList_toArray, List.cons_append, List.nil_append, List.append_nil, true_and, and_true, Nat.zero_add, Nat.add_zero, Bool.not_true, Bool.not_false, if_true, if_false, reduceCtorEq, List.set_cons_zero, List.set_cons_succ])))
    refine ⟨by omega, ?_⟩
    (repeat (first | (refine h_load hh (by rfl) ?_) | (simp only [xl, xo, Bool.not_eq_true', decide_eq_false_iff_not, ite_not, List.size_toArray, List.length_cons, List.length_nil, Nat.reduceAdd, qt, decide_eq_true_eq, Int.toNat_zero, Int.toNat_natCast, Nat.zero_mul, Nat.mul_one, Nat.one_mul, List.toList_toArray, List.cons_append, List.nil_append, List.append_nil, true_and, and_true, Nat.zero_add, Nat.add_zero, Bool.not_true, Bool.not_false, if_true, if_false, reduceCtorEq, List.set_cons_zero, List.set_cons_succ])))
    refine ⟨by omega, ?_⟩
    (repeat (first | (refine h_load hh (by rfl) ?_) | (simp only [xl, xo, Bool.not_eq_true', decide_eq_false_iff_not, ite_not, List.size_toArray, List.length_cons, List.length_nil, Nat.reduceAdd, qt, decide_eq_true_eq, Int.toNat_zero, Int.toNat_natCast, Nat.zero_mul, Nat.mul_one, Nat.one_mul, List.toList_toArray, List.cons_append, List.nil_append, List.append_nil, true_and, and_true, Nat.zero_add, Nat.add_zero, Bool.not_true, Bool.not_false, if_true, if_false, reduceCtorEq, List.set_cons_zero, List.set_cons_succ])))
    exact hK
  | some R =>
    obtain ⟨tb1, T1⟩ := R
    simp only [dictCells, sndV, sndN] at hh hK
    (repeat (first | (refine h_load hh (by rfl) ?_) | (simp only [xl, xo, Bool.not_eq_true', decide_eq_false_iff_not, ite_not, List.size_toArray, List.length_cons, List.length_nil, Nat.reduceAdd, qt, decide_eq_true_eq, Int.toNat_zero, Int.toNat_natCast, Nat.zero_mul, Nat.mul_one, Nat.one_mul, List.toList_toArray, List.cons_append, List.nil_append, List.append_nil, true_and, and_true, Nat.zero_add, Nat.add_zero, Bool.not_true, Bool.not_false, if_true, if_false, reduceCtorEq, List.set_cons_zero, List.set_cons_succ])))
    refine ⟨by omega, ?_⟩
    (repeat (first | (refine h_load hh (by rfl) ?_) | (simp only [xl, xo, Bool.not_eq_true', decide_eq_false_iff_not, ite_not, List.size_toArray, List.length_cons, List.length_nil, Nat.reduceAdd, qt, decide_eq_true_eq, Int.toNat_zero, Int.toNat_natCast, Nat.zero_mul, Nat.mul_one, Nat.one_mul, List.toList_toArray, List.cons_append, List.nil_append, List.append_nil, true_and, and_true, Nat.zero_add, Nat.add_zero, Bool.not_true, Bool.not_false, if_true, if_false, reduceCtorEq, List.set_cons_zero, List.set_cons_succ])))
    refine ⟨by omega, ?_⟩
    (repeat (first | (refine h_load hh (by rfl) ?_) | (simp only [xl, xo, Bool.not_eq_true', decide_eq_false_iff_not, ite_not, List.size_toArray, List.length_cons, List.length_nil, Nat.reduceAdd, qt, decide_eq_true_eq, Int.toNat_zero, Int.toNat_natCast, Nat.zero_mul, Nat.mul_one, Nat.one_mul, List.toList_toArray, List.cons_append, List.nil_append, List.append_nil, true_and, and_true, Nat.zero_add, Nat.add_zero, Bool.not_true, Bool.not_false, if_true, if_false, reduceCtorEq, List.set_cons_zero, List.set_cons_succ])))
    exact hK
end Go.X.W
set_option linter.unusedVariables false
set_option linter.unusedSimpArgs false
namespace Go.X
open Go
variable {P : Program}

theorem addr_add2 (a : Addr) (i j : Nat) : (a.add i).add j = a.add (i + j) := Deep.add_add a i j

theorem readN_base {H : Heap} {a : Addr} : ∀ (n i k : Nat), readN H (a.add k) i n = readN H a (k + i) n
  | 0, _, _ => rfl
  | n + 1, i, k => by
    simp only [readN]
    rw [addr_add2, readN_base n (i + 1) k, Nat.add_assoc]
theorem readN_app {H : Heap} {a : Addr} : ∀ (n m i : Nat) (r s : List Value), readN H a i n = some r → readN H a (i + n) m = some s → readN H a i (n + m) = some (r ++ s)
  | 0, m, i, r, s, h1, h2 => by
    simp only [readN, Option.some.injEq] at h1
    subst h1
    simpa using h2
  | n + 1, m, i, r, s, h1, h2 => by
    rw [show n + 1 + m = (n + m) + 1 by omega]
    simp only [readN] at h1 ⊢
    cases hc : hcell H (a.add i) with
    | none => rw [hc] at h1; cases h1
    | some v =>
      rw [hc] at h1
      simp only at h1 ⊢
      cases hr : readN H a (i + 1) n with
      | none => rw [hr] at h1; cases h1
      | some r' =>
        rw [hr] at h1
        simp only [Option.some.injEq] at h1
        subst h1
        rw [readN_app n m (i + 1) r' s hr (by rw [show i + 1 + n = i + (n + 1) by omega]; exact h2)]
        rfl

/-- All rows at once. -/
theorem RowsAt.read {sz : Nat} {H : Heap} {v : Value} {l : List (List Value)} (h : RowsAt sz H v l) : readCells sz (lenV v) H v = some l.flatten ∧ lenV v = l.length := by
  rcases h with ⟨rfl, rfl⟩ | ⟨a, c, rfl, h⟩
  · exact ⟨rfl, rfl⟩
  · refine ⟨?_, rfl⟩
    simp only [readCells, lenV]
    have key : ∀ (l : List (List Value)) (k : Nat), (∀ (i : Nat) r, l[i]? = some r → readN H (a.add ((k + i) * sz)) 0 sz = some r) → readN H a (k * sz) (l.length * sz) = some l.flatten := by
      intro l
      induction l with
      | nil => intro k _; simp [readN]
      | cons r l ih =>
        intro k hk
        have h0 := hk 0 r rfl
        rw [Nat.add_zero, readN_base, Nat.add_zero] at h0
        have h1 := ih (k + 1) fun i x hx => by
          have := hk (i + 1) x (by simpa using hx)
          rwa [show k + (i + 1) = k + 1 + i by omega] at this
        rw [List.length_cons, List.flatten_cons, Nat.add_mul, Nat.one_mul, Nat.add_comm (l.length * sz) sz]
        refine readN_app sz _ _ _ _ h0 ?_
        rwa [Nat.add_mul, Nat.one_mul] at h1
    have := key l 0 fun i r hr => by rw [Nat.zero_add]; exact h i r hr
    rwa [Nat.zero_mul] at this

/-- A piece of such a slice. -/
theorem RowsAt.piece {sz : Nat} {H : Heap} {v : Value} {l : List (List Value)} {lo hi : Option Value} {f t : Nat} {K : Value → Prop} (h : RowsAt sz H v l) (hc : ∀ a n c, v = .slice a n c → n ≤ c) (hft : f ≤ t ∧ t ≤ l.length)
    (hhi : ∀ c, l.length ≤ c → BoundIs hi l.length c t) (hlo : BoundIs lo 0 t f) (hK : ∀ w, RowsAt sz H w ((l.drop f).take (t - f)) → (∀ H', RowsAt sz H' v l → RowsAt sz H' w ((l.drop f).take (t - f))) → (∀ a n c, w = .slice a n c → n ≤ c) → K w) :
    SliceSlP sz v lo hi none K := by
  have hmx : ∀ c : Nat, ((none : Option Value).isSome = true → hi.isSome = true) := fun _ h => by cases h
  rcases h with ⟨rfl, rfl⟩ | ⟨a, c, rfl, h⟩
  · simp only [List.length_nil] at hft hhi
    have ht : t = 0 := by omega
    have hf : f = 0 := by omega
    subst ht hf
    refine ⟨0, 0, 0, rfl, hmx 0, hhi 0 (Nat.le_refl _), hlo, ?_⟩
    refine hK _ (.inl ⟨by simp, by simp⟩) (fun H' _ => .inl ⟨by simp, by simp⟩) (fun a n c e => ?_)
    injection e; omega
  · have hlc := hc _ _ _ rfl
    have hll : ((l.drop f).take (t - f)).length = t - f := by rw [List.length_take, List.length_drop]; omega
    refine ⟨c, t, f, rfl, hmx 0, hhi c hlc, hlo, ?_⟩
    have rows : ∀ (H' : Heap) (p : Addr), (c ≠ f → p = a.add (f * sz)) → RowsAt sz H' (.slice (some a) l.length c) l → ∀ (i : Nat) r, ((l.drop f).take (t - f))[i]? = some r → readN H' (p.add (i * sz)) 0 sz = some r := by
      intro H' p hp h' i r hr
      have hi' := (List.getElem?_eq_some_iff.1 hr).1
      rw [hll] at hi'
      rw [hp (by omega), addr_add2, ← Nat.add_mul]
      rcases h' with ⟨h0, _⟩ | ⟨a', c', h0, h'⟩
      · cases h0
      · injection h0 with e1 e2 e3
        injection e1 with e1
        subst e1
        rw [List.getElem?_take, if_pos hi', List.getElem?_drop] at hr
        exact h' _ _ hr
    by_cases hcf : c = f
    · rw [if_pos hcf]
      refine hK _ (.inr ⟨a, c - f, by rw [hll], rows H a (fun h => absurd hcf h) (.inr ⟨a, c, rfl, h⟩)⟩) (fun H' h' => .inr ⟨a, c - f, by rw [hll], rows H' a (fun h => absurd hcf h) h'⟩) (fun a n c e => ?_)
      injection e; omega
    · rw [if_neg hcf]
      simp only [Option.map_some]
      refine hK _ (.inr ⟨a.add (f * sz), c - f, by rw [hll], rows H _ (fun _ => rfl) (.inr ⟨a, c, rfl, h⟩)⟩) (fun H' h' => .inr ⟨a.add (f * sz), c - f, by rw [hll], rows H' _ (fun _ => rfl) h'⟩) (fun a n c e => ?_)
      injection e; omega

/-- append of such a slice. -/
theorem h_appendR {elem : TypeId} {sz bt : Nat} {s x : Value} {cs : List Value} {rows : List (List Value)} {sl m : Mem} {H : Heap} {K : Value → Heap → Prop} {len : Nat} (hsz : sizeT P elem = sz) (hbt : bytesT P elem = bt) (hz : (zeroT P elem).cells.size = sz)
    (h0 : 0 < sz ∧ 0 < bt ∧ bt ≤ 100) (hown : SlOwn sz s cs sl) (hh : Has H (sl + m)) (hl : cs.length = len * sz) (hx : RowsAt sz H x rows) (hn : rows.flatten.length = rows.length * sz) (hoc : ∀ v ∈ rows.flatten, v.oneCell = true)
    (hb : len + rows.length ≤ 1000000000) (hk : ∀ v' sl' H', SlOwn sz v' (cs ++ rows.flatten) sl' → Has H' (sl' + m) → lenV v' = len + rows.length → K v' H') : AppendP P elem s x H K := by
  obtain ⟨h1, h2⟩ := hx.read
  rw [← h2] at hn hb hk
  exact h_append hsz hbt hz h0 hown hh hl h1 hn hoc hb hk

/-! ### Slices of whole numbers that come in -/
abbrev IntsAt (H : Heap) (v : Value) (l : List Int) : Prop := RowsAt 1 H v (l.map fun n => [.int .i64 n])
theorem IntsAt.at {H : Heap} {v : Value} {l : List Int} (h : IntsAt H v l) {i : Nat} {n : Int} (hg : l[i]? = some n) :
    ∃ p, (∀ {K : Value → Prop}, K (.pointer (some p)) → IdxSliceP 1 v (.int .i64 i) K) ∧ ∀ {K : Value → Prop}, K (.int .i64 n) → LoadP none H (.pointer (some p)) K := by
  obtain ⟨p, h1, h2⟩ := RowsAt.at h (i := i) (r := [.int .i64 n]) (by rw [List.getElem?_map, hg]; rfl)
  refine ⟨p, h1, fun {K} hK => ⟨_, ?_, hK⟩⟩
  simp only [readN] at h2
  cases hc : hcell H (p.add 0) with
  | none => rw [hc] at h2; cases h2
  | some u =>
    rw [hc] at h2
    simp only [Option.some.injEq, List.cons.injEq, and_true] at h2
    rw [h2, add_zero] at hc
    exact hc
open Go.WideShapes in
theorem open_i64s {H : Type} {enc : TypeId × Value → H} {W : World} {held : Bool} {base : Nat} {t e : TypeId} {v : Value} {d : DataW H} {ps : List MemPlace} (ht : P.underlying t = some (.slice e)) (hd : P.underlying e = some (.int .i64))
    (hc : P.cellsOf e = 1) (hv : Value.okWide P W .any base t v) (h : DataW.Trod enc P W 0 (fun _ => true) held t v d ps) : ∃ l : List Int, IntsAt W.heap v l ∧ l.length ≤ maxLen := by
  obtain ⟨a0, n0, c0, rfl⟩ := okWide_slice ht hv
  obtain ⟨fuel, h⟩ := h
  rcases Deep.open_slice ht h with ⟨h0, _⟩ | ⟨a, len, cap, m, n, D, Pl, h0, hb, hl, hm, hmm, _, hall⟩
  · simp only [Value.cells, List.cons.injEq, and_true] at h0
    exact ⟨[], .inl ⟨by simpa using h0, rfl⟩, by simp⟩
  · have h0 : Value.slice a0 n0 c0 = .slice (some a) len cap := by simpa [Value.cells] using h0
    obtain ⟨l, hll, hp⟩ := list_of (p := fun i (x : Int) => readN W.heap (a.add (i * 1)) 0 1 = some [.int .i64 x]) len fun i hi => by
      obtain ⟨cs', h1, h2⟩ := hall i (by rw [hmm]; simp; omega)
      rw [hc] at h1
      obtain ⟨u, hu, hk⟩ := trod_ck (ck := .int .i64) hd rfl h2
      obtain ⟨x, rfl, _⟩ := hk
      rw [hu] at h1
      exact ⟨x, cells_readN h1⟩
    refine ⟨l, .inr ⟨a, cap, by rw [h0, List.length_map, hll], fun i r hr => ?_⟩, by omega⟩
    rw [List.getElem?_map] at hr
    obtain ⟨x, hx, rfl⟩ := Option.map_eq_some_iff.1 hr
    exact hp i x hx
end Go.X
