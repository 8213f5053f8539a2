/- Contracts: the reference's sets. Contracts: an act on a set and on the reference's set. The statement ZsetTwice: the walk. The statement ZsetForms: the walk. -/
import Derived.Test.YtochkahbnhegaaaGreatZO17
set_option linter.unusedVariables false
set_option linter.unusedSimpArgs false
namespace Go.X.W
open Go Go.X Go.Proofs

variable {H : Heap} {m : Mem} {K : Value → Heap → Prop}

/-- The reference's set. -/
def RRep (z : ZSt) (r : Nat) (rm : Mem) : Prop := ∃ v sl, SlOwn 2 v (entsC z.L) sl ∧ lenV v = z.L.length ∧ rm = cell r [v, .int .i64 z.le, .int .i64 z.lm, .bool z.il] + sl

theorem ref_New_h {le lm : Int} (seed : Int) (hh : Has H m) (hK : ∀ H' r rm, RRep ⟨[], false, clampI 0 200 le, clampI 0 64 lm, seed⟩ r rm → Has H' (rm + m) → K (ptrV r) H') : CallH P f_palioref11_New [.agg #[.int .i64 le, .int .i64 lm]] H K := by
  apply k_palioref11_New
  unfold c_palioref11_New
  rw [x_boxN]
  refine h_allocA hh fun lb H1 hh => ?_
  (try simp only [xl, xo, Bool.not_eq_true', decide_eq_false_iff_not, ite_not, List.size_toArray, List.length_cons, List.length_nil, Nat.reduceAdd, qt, decide_eq_true_eq, Int.toNat_zero, Int.toNat_natCast, Nat.zero_mul, Nat.mul_one, Nat.one_mul, List.toList_toArray, List.cons_append, List.nil_append, List.append_nil, true_and, and_true, Nat.zero_add, Nat.add_zero, Bool.not_true, Bool.not_false, if_true, if_false, reduceCtorEq, List.set_cons_zero, List.set_cons_succ])
  refine h_load (b := lb) hh rfl ?_
  (try simp only [xl, xo, Bool.not_eq_true', decide_eq_false_iff_not, ite_not, List.size_toArray, List.length_cons, List.length_nil, Nat.reduceAdd, qt, decide_eq_true_eq, Int.toNat_zero, Int.toNat_natCast, Nat.zero_mul, Nat.mul_one, Nat.one_mul, List.toList_toArray, List.cons_append, List.nil_append, List.append_nil, true_and, and_true, Nat.zero_add, Nat.add_zero, Bool.not_true, Bool.not_false, if_true, if_false, reduceCtorEq, List.set_cons_zero, List.set_cons_succ])
  refine h_load (b := lb) hh rfl ?_
  (try simp only [xl, xo, Bool.not_eq_true', decide_eq_false_iff_not, ite_not, List.size_toArray, List.length_cons, List.length_nil, Nat.reduceAdd, qt, decide_eq_true_eq, Int.toNat_zero, Int.toNat_natCast, Nat.zero_mul, Nat.mul_one, Nat.one_mul, List.toList_toArray, List.cons_append, List.nil_append, List.append_nil, true_and, and_true, Nat.zero_add, Nat.add_zero, Bool.not_true, Bool.not_false, if_true, if_false, reduceCtorEq, List.set_cons_zero, List.set_cons_succ])
  refine h_alloc hh fun rb H2 hh => ?_
  refine hK H2 rb _ ⟨.slice none 0 0, emp, .inl ⟨rfl, rfl, rfl⟩, rfl, rfl⟩ ?_
  rw [add_emp]
  exact (hh.front (cell rb [.slice none 0 0, .int .i64 (max 0 (min 200 le)), .int .i64 (max 0 (min 64 lm)), .bool false] + m)).left

section
variable {z : ZSt} {r : Nat} {rm : Mem}
theorem RRep.ents {v : Value} {sl : Mem} {l : List Ent} (h : SlOwn 2 v (entsC l) sl) (hl : lenV v = l.length) {m' : Mem} (hm : ∃ x, m' = sl + x) : ∀ H', Has H' m' → EntsAt H' v l := fun H' hh => by
  obtain ⟨x, rfl⟩ := hm
  exact own_ents h hl hh

theorem ref_Sorted_h {v : Value} {l : List Ent} {e : Ent} (hh : Has H m) (hr : ∀ H', Has H' m → EntsAt H' v l) (hc : ∀ a n c, v = .slice a n c → n ≤ c) (ok : LOk l) (hb : l.length < 100000)
    (hK : ∀ H' w sl, SlOwn 2 w (entsC (insAt l (cntE e l) e)) sl → lenV w = (insAt l (cntE e l) e).length → Has H' (sl + m) → K w H') : CallH P f_palioref11_Sorted [v, entV e] H K := by
  apply k_palioref11_Sorted
  unfold c_palioref11_Sorted
  rw [x_boxN]
  refine h_allocA hh fun eb H1 hh => ?_
  have hcl := cntE_le e l
  refine join_of (.int .i64 (cntE e l : Nat), []) (fun Q => ∃ m', Has Q (cell eb (entC e) + (m + m'))) ?_ ?_
  · rintro Q ⟨m', hh⟩ g
    (try simp only [xl, xo, Bool.not_eq_true', decide_eq_false_iff_not, ite_not, List.size_toArray, List.length_cons, List.length_nil, Nat.reduceAdd, qt, decide_eq_true_eq, Int.toNat_zero, Int.toNat_natCast, Nat.zero_mul, Nat.mul_one, Nat.one_mul, List.toList_toArray, List.cons_append, List.nil_append, List.append_nil, true_and, and_true, Nat.zero_add, Nat.add_zero, Bool.not_true, Bool.not_false, if_true, if_false, reduceCtorEq, List.set_cons_zero, List.set_cons_succ])
    refine h_load2 (b := eb) hh rfl rfl ?_
    refine ref05_Insert_h (m := m + (cell eb (entC e) + m')) (hh.to (by ac_rfl)) (fun H' h => hr H' h.left) hc hcl hb fun H2 w sl hw hlw hh => ?_
    exact hK H2 w sl hw hlw (hh.front (sl + m)).left
  · intro J hJ
    refine loop_i (fun k s Q => ∃ (i : Nat) (m' : Mem), i + k = cntE e l ∧ s = (.int .i64 i, []) ∧ Has Q (cell eb (entC e) + (m + m'))) (cntE e l) ⟨0, emp, by omega, rfl, hh.to (by rw [add_emp])⟩ ?_
    clear hh
    rintro k _ g Q ⟨i, m', hik, rfl, hh⟩
    have hrq := hr Q (hh.front m).left
    refine hrq.len ?_
    (try simp only [xl, xo, Bool.not_eq_true', decide_eq_false_iff_not, ite_not, List.size_toArray, List.length_cons, List.length_nil, Nat.reduceAdd, qt, decide_eq_true_eq, Int.toNat_zero, Int.toNat_natCast, Nat.zero_mul, Nat.mul_one, Nat.one_mul, List.toList_toArray, List.cons_append, List.nil_append, List.append_nil, true_and, and_true, Nat.zero_add, Nat.add_zero, Bool.not_true, Bool.not_false, if_true, if_false, reduceCtorEq, List.set_cons_zero, List.set_cons_succ])
    by_cases hi : i < l.length
    · rw [if_pos (by omega)]
      have hg : l[i]? = some (l[i]'hi) := List.getElem?_eq_getElem hi
      generalize l[i]'hi = a at hg
      obtain ⟨p, hp1, hp2⟩ := hrq.at hg
      refine hp1 (load_row hp2 (h_load2 (b := eb) hh rfl rfl ?_))
      refine ref09_Less_h (a := a) (b := e) (Nat.le_of_lt (Nat.lt_of_lt_of_le (ekey (ok.ok a (List.mem_of_getElem? hg))) (by omega))) hh fun Q2 hh => ?_
      rw [cntE_spec ok.sorted i a hg]
      (try simp only [xl, xo, Bool.not_eq_true', decide_eq_false_iff_not, ite_not, List.size_toArray, List.length_cons, List.length_nil, Nat.reduceAdd, qt, decide_eq_true_eq, Int.toNat_zero, Int.toNat_natCast, Nat.zero_mul, Nat.mul_one, Nat.one_mul, List.toList_toArray, List.cons_append, List.nil_append, List.append_nil, true_and, and_true, Nat.zero_add, Nat.add_zero, Bool.not_true, Bool.not_false, if_true, if_false, reduceCtorEq, List.set_cons_zero, List.set_cons_succ])
      by_cases hc2 : i + 1 ≤ cntE e l
      · rw [if_pos (by simpa using hc2), w64 (by omega)]
        exact ⟨k - 1, by omega, i + 1, m', by omega, rfl, hh⟩
      · rw [if_neg (by simpa using hc2)]
        have : i = cntE e l := by omega
        subst this
        exact hJ Q2 ⟨m', hh⟩
    · rw [if_neg (by omega)]
      have : i = cntE e l := by omega
      subst this
      exact hJ Q ⟨m', hh⟩

theorem fndI_neg {x : ByteArray} {l : List Ent} : (fndI x l < 0) ↔ fnd x l = none := by
  unfold fndI
  cases fnd x l with
  | none => simp
  | some i => simp
theorem fndI_some {x : ByteArray} {l : List Ent} {i : Nat} (h : fnd x l = some i) : fndI x l = i := by simp [fndI, h]

theorem ref_Add_h {x : ByteArray} {sc lv : Int} (hsc : -9223372036854775808 ≤ sc ∧ sc ≤ 9223372036854775807) (hz : RRep z r rm) (ok : ZOk z) (hh : Has H (rm + m))
    (hK : ∀ H' rm', RRep (zAdd z x sc lv).2.2 r rm' → Has H' (rm' + m) → K (.tuple #[.bool (zAdd z x sc lv).1, .int .i64 (zAdd z x sc lv).2.1]) H') : CallH P f_palioref11_Set_Add [ptrV r, .string x, .int .i64 sc, .int .i64 lv] H K := by
  apply k_palioref11_Set_Add
  unfold c_palioref11_Set_Add
  (try simp only [xl, xo, Bool.not_eq_true', decide_eq_false_iff_not, ite_not, List.size_toArray, List.length_cons, List.length_nil, Nat.reduceAdd, qt, decide_eq_true_eq, Int.toNat_zero, Int.toNat_natCast, Nat.zero_mul, Nat.mul_one, Nat.one_mul, List.toList_toArray, List.cons_append, List.nil_append, List.append_nil, true_and, and_true, Nat.zero_add, Nat.add_zero, Bool.not_true, Bool.not_false, if_true, if_false, reduceCtorEq, List.set_cons_zero, List.set_cons_succ])
  by_cases hbad : 64 < x.size ∨ lv < 1 ∨ 32 < lv
  · have ez : zAdd z x sc lv = (false, 2, z) := by unfold zAdd; rw [if_pos hbad]
    rw [ez] at hK
    by_cases h1 : (64 : Int) < x.size
    · rw [if_pos h1]; exact hK H rm hz hh
    · rw [if_neg h1]
      by_cases h2 : lv < 1
      · rw [if_pos h2]; exact hK H rm hz hh
      · rw [if_neg h2, if_pos (by omega)]; exact hK H rm hz hh
  · rw [if_neg (by omega), if_neg (by omega), if_neg (by omega)]
    obtain ⟨v, sl, hv, hlv, rfl⟩ := hz
    have h400 := ok.ok.len
    refine h_load (b := r) hh rfl ?_
    refine ref05_Find_h (own_ents (m := cell r [v, .int .i64 z.le, .int .i64 z.lm, .bool z.il] + m) hv hlv (hh.to (by ac_rfl))) (by omega) ?_
    have okr := ok.rem x
    have hrn := rem_none (x := x) ok.ok.nodup
    have hrl := rem_len (x := x) (l := z.L)
    refine join_of ((), []) (fun Q => Q = H ∧ ¬ ((fnd x z.L).isNone = true ∧ z.L.length = 400)) ?_ ?_
    · rintro Q ⟨rfl, hnf⟩ g1
      have ez : zAdd z x sc lv = ((fnd x z.L).isNone, 0, { z with L := zAddL z x sc, il := zAddI z x }) := by unfold zAdd; rw [if_neg hbad, if_neg hnf]
      rw [ez] at hK
      refine join_of ((), []) (fun Q => ∃ w wl m', SlOwn 2 w (entsC (rem x z.L)) wl ∧ lenV w = (rem x z.L).length ∧ Has Q (cell r [w, .int .i64 z.le, .int .i64 z.lm, .bool z.il] + (wl + (m + m')))) ?_ ?_
      · rintro Q2 ⟨w, wl, m', hw, hlw, hh⟩ g2
        (try simp only [xl, xo, Bool.not_eq_true', decide_eq_false_iff_not, ite_not, List.size_toArray, List.length_cons, List.length_nil, Nat.reduceAdd, qt, decide_eq_true_eq, Int.toNat_zero, Int.toNat_natCast, Nat.zero_mul, Nat.mul_one, Nat.one_mul, List.toList_toArray, List.cons_append, List.nil_append, List.append_nil, true_and, and_true, Nat.zero_add, Nat.add_zero, Bool.not_true, Bool.not_false, if_true, if_false, reduceCtorEq, List.set_cons_zero, List.set_cons_succ])
        refine h_load (b := r) hh rfl ?_
        (try simp only [xl, xo, Bool.not_eq_true', decide_eq_false_iff_not, ite_not, List.size_toArray, List.length_cons, List.length_nil, Nat.reduceAdd, qt, decide_eq_true_eq, Int.toNat_zero, Int.toNat_natCast, Nat.zero_mul, Nat.mul_one, Nat.one_mul, List.toList_toArray, List.cons_append, List.nil_append, List.append_nil, true_and, and_true, Nat.zero_add, Nat.add_zero, Bool.not_true, Bool.not_false, if_true, if_false, reduceCtorEq, List.set_cons_zero, List.set_cons_succ])
        refine ref_Sorted_h (e := (x, sc)) hh (fun H' h => own_ents (m := cell r [w, .int .i64 z.le, .int .i64 z.lm, .bool z.il] + (m + m')) hw hlw (h.to (by ac_rfl))) (own_cap hw) okr.ok (by omega) fun H3 u ul hu hlu hh => ?_
        have hcl := cntE_le (x, sc) (rem x z.L)
        have hll : (insAt (rem x z.L) (cntE (x, sc) (rem x z.L)) (x, sc)).length = (rem x z.L).length + 1 := by simp [insAt]; omega
        refine h_store (b := r) hh (own_oc hu) (by simp) fun H4 hh => ?_
        simp only [List.set_cons_zero] at hh
        refine h_load (b := r) hh rfl ?_
        refine own_len hu ?_
        rw [hlu, hll]
        refine h_load (b := r) hh rfl ?_
        (try simp only [xl, xo, Bool.not_eq_true', decide_eq_false_iff_not, ite_not, List.size_toArray, List.length_cons, List.length_nil, Nat.reduceAdd, qt, decide_eq_true_eq, Int.toNat_zero, Int.toNat_natCast, Nat.zero_mul, Nat.mul_one, Nat.one_mul, List.toList_toArray, List.cons_append, List.nil_append, List.append_nil, true_and, and_true, Nat.zero_add, Nat.add_zero, Bool.not_true, Bool.not_false, if_true, if_false, reduceCtorEq, List.set_cons_zero, List.set_cons_succ])
        have fin : ∀ Q, zAddI z x = true → Has Q (cell r [u, .int .i64 z.le, .int .i64 z.lm, .bool true] + (ul + m)) → K (.tuple #[.bool (fnd x z.L).isNone, .int .i64 0]) Q := fun Q hi hh => by
          have := hK Q _ ⟨u, ul, hu, hlu, rfl⟩ (hh.to (by rw [hi]; ac_rfl))
          exact this
        have hneg : decide (fndI x z.L < 0) = (fnd x z.L).isNone := by
          cases hf : fnd x z.L with
          | none => simp [fndI, hf]
          | some i => simp [fndI, hf]
        by_cases h1 : z.le < ((rem x z.L).length : Int) + 1
        · rw [if_pos (by omega)]
          refine h_store (b := r) hh rfl (by simp) fun H5 hh => ?_
          simp only [List.set_cons_zero, List.set_cons_succ] at hh
          rw [hneg]
          exact fin H5 (by unfold zAddI; simp [h1]) (hh.front (cell r [u, .int .i64 z.le, .int .i64 z.lm, .bool true] + (ul + m))).left
        · rw [if_neg (by omega)]
          refine h_load (b := r) hh rfl ?_
          (try simp only [xl, xo, Bool.not_eq_true', decide_eq_false_iff_not, ite_not, List.size_toArray, List.length_cons, List.length_nil, Nat.reduceAdd, qt, decide_eq_true_eq, Int.toNat_zero, Int.toNat_natCast, Nat.zero_mul, Nat.mul_one, Nat.one_mul, List.toList_toArray, List.cons_append, List.nil_append, List.append_nil, true_and, and_true, Nat.zero_add, Nat.add_zero, Bool.not_true, Bool.not_false, if_true, if_false, reduceCtorEq, List.set_cons_zero, List.set_cons_succ])
          by_cases h2 : z.lm < (x.size : Int)
          · rw [if_pos h2]
            refine h_store (b := r) hh rfl (by simp) fun H5 hh => ?_
            simp only [List.set_cons_zero, List.set_cons_succ] at hh
            rw [hneg]
            exact fin H5 (by unfold zAddI; simp [h2]) (hh.front (cell r [u, .int .i64 z.le, .int .i64 z.lm, .bool true] + (ul + m))).left
          · rw [if_neg h2, hneg]
            have hi : zAddI z x = z.il := by unfold zAddI; simp [h1, h2]
            have := hK H4 _ ⟨u, ul, hu, hlu, rfl⟩ ((hh.front (cell r [u, .int .i64 z.le, .int .i64 z.lm, .bool z.il] + (ul + m))).left.to (by rw [hi]; ac_rfl))
            exact this
      · intro J hJ
        (try simp only [xl, xo, Bool.not_eq_true', decide_eq_false_iff_not, ite_not, List.size_toArray, List.length_cons, List.length_nil, Nat.reduceAdd, qt, decide_eq_true_eq, Int.toNat_zero, Int.toNat_natCast, Nat.zero_mul, Nat.mul_one, Nat.one_mul, List.toList_toArray, List.cons_append, List.nil_append, List.append_nil, true_and, and_true, Nat.zero_add, Nat.add_zero, Bool.not_true, Bool.not_false, if_true, if_false, reduceCtorEq, List.set_cons_zero, List.set_cons_succ])
        cases hfx : fnd x z.L with
        | none =>
          have e : rem x z.L = z.L := by simp [rem, hfx]
          rw [if_neg (by simp [fndI, hfx])]
          refine hJ Q ⟨v, sl, emp, by rw [e]; exact hv, by rw [e]; exact hlv, hh.to (by rw [add_emp]; ac_rfl)⟩
        | some i =>
          obtain ⟨sc0, h1, h2⟩ := sco_fnd hfx
          have hi := (List.getElem?_eq_some_iff.1 h1).1
          have e : rem x z.L = delAt z.L i := by simp [rem, hfx]
          rw [fndI_some hfx, if_pos (by omega)]
          refine h_load (b := r) hh rfl ?_
          refine ref05_Delete_h hh (fun H' h => own_ents (m := cell r [v, .int .i64 z.le, .int .i64 z.lm, .bool z.il] + m) hv hlv (h.to (by ac_rfl))) (own_cap hv) hi (by omega) fun H3 u ul hu hlu hh => ?_
          refine h_store (b := r) hh (own_oc hu) (by simp) fun H4 hh => ?_
          simp only [List.set_cons_zero] at hh
          refine hJ H4 ⟨u, ul, sl, by rw [e]; exact hu, by rw [e]; exact hlu, hh.to (by ac_rfl)⟩
    · intro J hJ
      (try simp only [xl, xo, Bool.not_eq_true', decide_eq_false_iff_not, ite_not, List.size_toArray, List.length_cons, List.length_nil, Nat.reduceAdd, qt, decide_eq_true_eq, Int.toNat_zero, Int.toNat_natCast, Nat.zero_mul, Nat.mul_one, Nat.one_mul, List.toList_toArray, List.cons_append, List.nil_append, List.append_nil, true_and, and_true, Nat.zero_add, Nat.add_zero, Bool.not_true, Bool.not_false, if_true, if_false, reduceCtorEq, List.set_cons_zero, List.set_cons_succ])
      cases hfx : fnd x z.L with
      | some i =>
        rw [fndI_some hfx, if_neg (by omega)]
        exact hJ H ⟨rfl, by rw [hfx]; simp⟩
      | none =>
        rw [if_pos (fndI_neg.2 hfx)]
        refine h_load (b := r) hh rfl ?_
        refine own_len hv ?_
        rw [hlv]
        (try simp only [xl, xo, Bool.not_eq_true', decide_eq_false_iff_not, ite_not, List.size_toArray, List.length_cons, List.length_nil, Nat.reduceAdd, qt, decide_eq_true_eq, Int.toNat_zero, Int.toNat_natCast, Nat.zero_mul, Nat.mul_one, Nat.one_mul, List.toList_toArray, List.cons_append, List.nil_append, List.append_nil, true_and, and_true, Nat.zero_add, Nat.add_zero, Bool.not_true, Bool.not_false, if_true, if_false, reduceCtorEq, List.set_cons_zero, List.set_cons_succ])
        by_cases hfull : z.L.length = 400
        · rw [if_pos (by omega)]
          have ez : zAdd z x sc lv = (false, 51, z) := by unfold zAdd; rw [if_neg hbad, if_pos ⟨by rw [hfx]; rfl, hfull⟩]
          rw [ez] at hK
          exact hK H _ ⟨v, sl, hv, hlv, rfl⟩ hh
        · rw [if_neg (by omega)]
          exact hJ H ⟨rfl, by simp [hfull]⟩

theorem ref_Remove_h {x : ByteArray} (hz : RRep z r rm) (ok : ZOk z) (hh : Has H (rm + m)) (hK : ∀ H' rm', RRep { z with L := rem x z.L } r rm' → Has H' (rm' + m) → K (.bool (fnd x z.L).isSome) H') : CallH P f_palioref11_Set_Remove [ptrV r, .string x] H K := by
  obtain ⟨v, sl, hv, hlv, rfl⟩ := hz
  apply k_palioref11_Set_Remove
  unfold c_palioref11_Set_Remove
  have h400 := ok.ok.len
  (try simp only [xl, xo, Bool.not_eq_true', decide_eq_false_iff_not, ite_not, List.size_toArray, List.length_cons, List.length_nil, Nat.reduceAdd, qt, decide_eq_true_eq, Int.toNat_zero, Int.toNat_natCast, Nat.zero_mul, Nat.mul_one, Nat.one_mul, List.toList_toArray, List.cons_append, List.nil_append, List.append_nil, true_and, and_true, Nat.zero_add, Nat.add_zero, Bool.not_true, Bool.not_false, if_true, if_false, reduceCtorEq, List.set_cons_zero, List.set_cons_succ])
  refine h_load (b := r) hh rfl ?_
  refine ref05_Find_h (own_ents (m := cell r [v, .int .i64 z.le, .int .i64 z.lm, .bool z.il] + m) hv hlv (hh.to (by ac_rfl))) (by omega) ?_
  (try simp only [xl, xo, Bool.not_eq_true', decide_eq_false_iff_not, ite_not, List.size_toArray, List.length_cons, List.length_nil, Nat.reduceAdd, qt, decide_eq_true_eq, Int.toNat_zero, Int.toNat_natCast, Nat.zero_mul, Nat.mul_one, Nat.one_mul, List.toList_toArray, List.cons_append, List.nil_append, List.append_nil, true_and, and_true, Nat.zero_add, Nat.add_zero, Bool.not_true, Bool.not_false, if_true, if_false, reduceCtorEq, List.set_cons_zero, List.set_cons_succ])
  cases hfx : fnd x z.L with
  | none =>
    have e : rem x z.L = z.L := by simp [rem, hfx]
    have hneg : ¬ 0 ≤ fndI x z.L := by simp [fndI, hfx]
    rw [if_neg hneg]
    have := hK H _ ⟨v, sl, by rw [e]; exact hv, by rw [e]; exact hlv, rfl⟩ hh
    rw [hfx] at this
    simp only [hneg, decide_false]
    exact this
  | some i =>
    obtain ⟨sc0, h1, h2⟩ := sco_fnd hfx
    have hi := (List.getElem?_eq_some_iff.1 h1).1
    have e : rem x z.L = delAt z.L i := by simp [rem, hfx]
    rw [fndI_some hfx, if_pos (by omega)]
    refine h_load (b := r) hh rfl ?_
    refine ref05_Delete_h hh (fun H' h => own_ents (m := cell r [v, .int .i64 z.le, .int .i64 z.lm, .bool z.il] + m) hv hlv (h.to (by ac_rfl))) (own_cap hv) hi (by omega) fun H3 u ul hu hlu hh => ?_
    refine h_store (b := r) hh (own_oc hu) (by simp) fun H4 hh => ?_
    simp only [List.set_cons_zero] at hh
    have := hK H4 (cell r [u, .int .i64 z.le, .int .i64 z.lm, .bool z.il] + ul) ⟨u, ul, by rw [e]; exact hu, by rw [e]; exact hlu, rfl⟩ (hh.front (cell r [u, .int .i64 z.le, .int .i64 z.lm, .bool z.il] + ul + m)).left
    rw [hfx] at this
    have hp : decide ((0 : Int) ≤ (i : Int)) = true := by simp
    rw [hp]
    exact this

theorem ref_Range_h {f t : Int} (hz : RRep z r rm) (hh : Has H (rm + m)) (hK : ∀ v, EntsAt H v (rng f t z.L) → (∀ H', Has H' (rm + m) → EntsAt H' v (rng f t z.L)) → K v H) : CallH P f_palioref11_Set_Range [ptrV r, .int .i64 f, .int .i64 t] H K := by
  obtain ⟨v, sl, hv, hlv, rfl⟩ := hz
  apply k_palioref11_Set_Range
  unfold c_palioref11_Set_Range
  have hft := fromto f t z.L.length
  (try simp only [xl, xo, Bool.not_eq_true', decide_eq_false_iff_not, ite_not, List.size_toArray, List.length_cons, List.length_nil, Nat.reduceAdd, qt, decide_eq_true_eq, Int.toNat_zero, Int.toNat_natCast, Nat.zero_mul, Nat.mul_one, Nat.one_mul, List.toList_toArray, List.cons_append, List.nil_append, List.append_nil, true_and, and_true, Nat.zero_add, Nat.add_zero, Bool.not_true, Bool.not_false, if_true, if_false, reduceCtorEq, List.set_cons_zero, List.set_cons_succ])
  refine h_load (b := r) hh rfl ?_
  refine own_len hv ?_
  rw [hlv]
  (try simp only [xl, xo, Bool.not_eq_true', decide_eq_false_iff_not, ite_not, List.size_toArray, List.length_cons, List.length_nil, Nat.reduceAdd, qt, decide_eq_true_eq, Int.toNat_zero, Int.toNat_natCast, Nat.zero_mul, Nat.mul_one, Nat.one_mul, List.toList_toArray, List.cons_append, List.nil_append, List.append_nil, true_and, and_true, Nat.zero_add, Nat.add_zero, Bool.not_true, Bool.not_false, if_true, if_false, reduceCtorEq, List.set_cons_zero, List.set_cons_succ])
  refine h_load (b := r) hh rfl ?_
  refine own_len hv ?_
  rw [hlv]
  (try simp only [xl, xo, Bool.not_eq_true', decide_eq_false_iff_not, ite_not, List.size_toArray, List.length_cons, List.length_nil, Nat.reduceAdd, qt, decide_eq_true_eq, Int.toNat_zero, Int.toNat_natCast, Nat.zero_mul, Nat.mul_one, Nat.one_mul, List.toList_toArray, List.cons_append, List.nil_append, List.append_nil, true_and, and_true, Nat.zero_add, Nat.add_zero, Bool.not_true, Bool.not_false, if_true, if_false, reduceCtorEq, List.set_cons_zero, List.set_cons_succ])
  refine h_load (b := r) hh rfl ?_
  rw [toN_eq, fromN_eq]
  have hr : ∀ H', Has H' (cell r [v, .int .i64 z.le, .int .i64 z.lm, .bool z.il] + sl + m) → EntsAt H' v z.L := fun H' h => own_ents (m := cell r [v, .int .i64 z.le, .int .i64 z.lm, .bool z.il] + m) hv hlv (h.to (by ac_rfl))
  refine RowsAt.piece (f := fromN f z.L.length) (t := toN f t z.L.length) (hr H hh) (own_cap hv) (by rw [List.length_map]; exact hft) (fun c h => ⟨by rw [List.length_map] at h; omega, (Int.toNat_natCast _).symm⟩) ⟨by omega, (Int.toNat_natCast _).symm⟩ fun w hw hw2 _ => ?_
  rw [map_take_drop] at hw
  refine hK w hw fun H' h => ?_
  have := hw2 H' (hr H' h)
  rwa [map_take_drop] at this

theorem ref_Cut_h {f t : Int} (hz : RRep z r rm) (ok : ZOk z) (hh : Has H (rm + m)) (hK : ∀ H' rm', RRep { z with L := cutL f t z.L } r rm' → Has H' (rm' + m) → K (.int .i64 (cutN f t z.L : Nat)) H') : CallH P f_palioref11_Set_Cut [ptrV r, .int .i64 f, .int .i64 t] H K := by
  obtain ⟨v, sl, hv, hlv, rfl⟩ := hz
  apply k_palioref11_Set_Cut
  unfold c_palioref11_Set_Cut
  have hft := fromto f t z.L.length
  have h400 := ok.ok.len
  (try simp only [xl, xo, Bool.not_eq_true', decide_eq_false_iff_not, ite_not, List.size_toArray, List.length_cons, List.length_nil, Nat.reduceAdd, qt, decide_eq_true_eq, Int.toNat_zero, Int.toNat_natCast, Nat.zero_mul, Nat.mul_one, Nat.one_mul, List.toList_toArray, List.cons_append, List.nil_append, List.append_nil, true_and, and_true, Nat.zero_add, Nat.add_zero, Bool.not_true, Bool.not_false, if_true, if_false, reduceCtorEq, List.set_cons_zero, List.set_cons_succ])
  refine h_load (b := r) hh rfl ?_
  refine own_len hv ?_
  rw [hlv]
  (try simp only [xl, xo, Bool.not_eq_true', decide_eq_false_iff_not, ite_not, List.size_toArray, List.length_cons, List.length_nil, Nat.reduceAdd, qt, decide_eq_true_eq, Int.toNat_zero, Int.toNat_natCast, Nat.zero_mul, Nat.mul_one, Nat.one_mul, List.toList_toArray, List.cons_append, List.nil_append, List.append_nil, true_and, and_true, Nat.zero_add, Nat.add_zero, Bool.not_true, Bool.not_false, if_true, if_false, reduceCtorEq, List.set_cons_zero, List.set_cons_succ])
  refine h_load (b := r) hh rfl ?_
  refine own_len hv ?_
  rw [hlv]
  (try simp only [xl, xo, Bool.not_eq_true', decide_eq_false_iff_not, ite_not, List.size_toArray, List.length_cons, List.length_nil, Nat.reduceAdd, qt, decide_eq_true_eq, Int.toNat_zero, Int.toNat_natCast, Nat.zero_mul, Nat.mul_one, Nat.one_mul, List.toList_toArray, List.cons_append, List.nil_append, List.append_nil, true_and, and_true, Nat.zero_add, Nat.add_zero, Bool.not_true, Bool.not_false, if_true, if_false, reduceCtorEq, List.set_cons_zero, List.set_cons_succ])
  refine h_load (b := r) hh rfl ?_
  rw [toN_eq, fromN_eq]
  have hr : ∀ H', Has H' (cell r [v, .int .i64 z.le, .int .i64 z.lm, .bool z.il] + sl + m) → EntsAt H' v z.L := fun H' h => own_ents (m := cell r [v, .int .i64 z.le, .int .i64 z.lm, .bool z.il] + m) hv hlv (h.to (by ac_rfl))
  have hct : (cutL f t z.L) = z.L.take (fromN f z.L.length) ++ z.L.drop (toN f t z.L.length) := rfl
  have hcn : cutN f t z.L = toN f t z.L.length - fromN f z.L.length := rfl
  rw [hct, hcn] at hK
  generalize fromN f z.L.length = a at *
  generalize toN f t z.L.length = y at *
  refine RowsAt.piece (f := 0) (t := a) (hr H hh) (own_cap hv) (by rw [List.length_map]; omega) (fun c h => ⟨by rw [List.length_map] at h; omega, by simp⟩) rfl fun w hw _ _ => ?_
  rw [map_take_drop, List.drop_zero, Nat.sub_zero] at hw
  refine h_appendE (l := []) (sl := emp) (.inl ⟨rfl, rfl, rfl⟩) (by rw [emp_add]; exact hh) hw (by simp; omega) fun u ul H2 hu hh hlu => ?_
  rw [List.nil_append] at hu hlu
  (try simp only [xl, xo, Bool.not_eq_true', decide_eq_false_iff_not, ite_not, List.size_toArray, List.length_cons, List.length_nil, Nat.reduceAdd, qt, decide_eq_true_eq, Int.toNat_zero, Int.toNat_natCast, Nat.zero_mul, Nat.mul_one, Nat.one_mul, List.toList_toArray, List.cons_append, List.nil_append, List.append_nil, true_and, and_true, Nat.zero_add, Nat.add_zero, Bool.not_true, Bool.not_false, if_true, if_false, reduceCtorEq, List.set_cons_zero, List.set_cons_succ])
  refine h_load (b := r) hh rfl ?_
  refine RowsAt.piece (f := y) (t := z.L.length) (hr H2 hh.right) (own_cap hv) (by rw [List.length_map]; omega) (fun c h => by rw [List.length_map]; rfl) ⟨by omega, by simp⟩ fun w' hw' _ _ => ?_
  rw [map_take_drop, List.take_of_length_le (by rw [List.length_drop]; omega)] at hw'
  refine h_appendE hu hh hw' (by simp; omega) fun u' ul' H3 hu' hh hlu' => ?_
  refine h_store (b := r) hh (own_oc hu') (by simp) fun H4 hh => ?_
  simp only [List.set_cons_zero] at hh
  (try simp only [xl, xo, Bool.not_eq_true', decide_eq_false_iff_not, ite_not, List.size_toArray, List.length_cons, List.length_nil, Nat.reduceAdd, qt, decide_eq_true_eq, Int.toNat_zero, Int.toNat_natCast, Nat.zero_mul, Nat.mul_one, Nat.one_mul, List.toList_toArray, List.cons_append, List.nil_append, List.append_nil, true_and, and_true, Nat.zero_add, Nat.add_zero, Bool.not_true, Bool.not_false, if_true, if_false, reduceCtorEq, List.set_cons_zero, List.set_cons_succ])
  rw [w64 (by omega)]
  have := hK H4 (cell r [u', .int .i64 z.le, .int .i64 z.lm, .bool z.il] + ul') ⟨u', ul', hu', hlu', rfl⟩ (hh.front (cell r [u', .int .i64 z.le, .int .i64 z.lm, .bool z.il] + ul' + m)).left
  rw [show ((y - a : Nat) : Int) = (y : Int) - a by omega] at this
  exact this

theorem ref_Encoding_h (hz : RRep z r rm) (hh : Has H (rm + m)) (hK : K (.string (if z.il then listS else packN)) H) : CallH P f_palioref11_Set_Encoding [ptrV r] H K := by
  obtain ⟨v, sl, hv, hlv, rfl⟩ := hz
  apply k_palioref11_Set_Encoding
  unfold c_palioref11_Set_Encoding
  (try simp only [xl, xo, Bool.not_eq_true', decide_eq_false_iff_not, ite_not, List.size_toArray, List.length_cons, List.length_nil, Nat.reduceAdd, qt, decide_eq_true_eq, Int.toNat_zero, Int.toNat_natCast, Nat.zero_mul, Nat.mul_one, Nat.one_mul, List.toList_toArray, List.cons_append, List.nil_append, List.append_nil, true_and, and_true, Nat.zero_add, Nat.add_zero, Bool.not_true, Bool.not_false, if_true, if_false, reduceCtorEq, List.set_cons_zero, List.set_cons_succ])
  refine h_load (b := r) hh rfl ?_
  (try simp only [xl, xo, Bool.not_eq_true', decide_eq_false_iff_not, ite_not, List.size_toArray, List.length_cons, List.length_nil, Nat.reduceAdd, qt, decide_eq_true_eq, Int.toNat_zero, Int.toNat_natCast, Nat.zero_mul, Nat.mul_one, Nat.one_mul, List.toList_toArray, List.cons_append, List.nil_append, List.append_nil, true_and, and_true, Nat.zero_add, Nat.add_zero, Bool.not_true, Bool.not_false, if_true, if_false, reduceCtorEq, List.set_cons_zero, List.set_cons_succ])
  cases hi : z.il <;> rw [hi] at hK <;> exact hK

theorem ref_Bytes_h (hz : RRep z r rm) (ok : ZOk z) (hh : Has H (rm + m)) (hK : K (.int .i64 (byts z.il z.L : Nat)) H) : CallH P f_palioref11_Set_Bytes [ptrV r] H K := by
  obtain ⟨v, sl, hv, hlv, rfl⟩ := hz
  apply k_palioref11_Set_Bytes
  unfold c_palioref11_Set_Bytes
  have h400 := ok.ok.len
  have hr : EntsAt H v z.L := own_ents (m := cell r [v, .int .i64 z.le, .int .i64 z.lm, .bool z.il] + m) hv hlv (hh.to (by ac_rfl))
  have hsz : ∀ j, szs (z.L.take j) ≤ 64 * 400 := fun j => by
    have h1 := szs_le (l := z.L.take j) fun x hx => ok.ok.ok x (List.mem_of_mem_take hx)
    have h2 : (z.L.take j).length ≤ z.L.length := by rw [List.length_take]; omega
    omega
  refine join_of (.int .i64 (if z.il then 0 else 2), []) (fun Q => Q = H) ?_ ?_
  · rintro Q rfl g
    refine loop_i (fun k s G => G = Q ∧ ∃ i : Nat, i + k = z.L.length ∧ s = ((.int .i64 ((if z.il then 64 * i + 2 * szs (z.L.take i) else 2 + (10 * i + szs (z.L.take i)) : Nat) : Int), .int .i64 i), [])) z.L.length ⟨rfl, 0, by omega, ?_⟩ ?_
    · cases z.il <;> simp [szs]
    · rintro k _ g G ⟨rfl, i, hik, rfl⟩
      (try simp only [xl, xo, Bool.not_eq_true', decide_eq_false_iff_not, ite_not, List.size_toArray, List.length_cons, List.length_nil, Nat.reduceAdd, qt, decide_eq_true_eq, Int.toNat_zero, Int.toNat_natCast, Nat.zero_mul, Nat.mul_one, Nat.one_mul, List.toList_toArray, List.cons_append, List.nil_append, List.append_nil, true_and, and_true, Nat.zero_add, Nat.add_zero, Bool.not_true, Bool.not_false, if_true, if_false, reduceCtorEq, List.set_cons_zero, List.set_cons_succ])
      refine h_load (b := r) hh rfl ?_
      refine own_len hv ?_
      rw [hlv]
      (try simp only [xl, xo, Bool.not_eq_true', decide_eq_false_iff_not, ite_not, List.size_toArray, List.length_cons, List.length_nil, Nat.reduceAdd, qt, decide_eq_true_eq, Int.toNat_zero, Int.toNat_natCast, Nat.zero_mul, Nat.mul_one, Nat.one_mul, List.toList_toArray, List.cons_append, List.nil_append, List.append_nil, true_and, and_true, Nat.zero_add, Nat.add_zero, Bool.not_true, Bool.not_false, if_true, if_false, reduceCtorEq, List.set_cons_zero, List.set_cons_succ])
      by_cases hi : i < z.L.length
      · rw [if_pos (by omega)]
        refine h_load (b := r) hh rfl ?_
        have hg : z.L[i]? = some (z.L[i]'hi) := List.getElem?_eq_getElem hi
        generalize z.L[i]'hi = e at hg
        obtain ⟨b, hb1, _, hb3⟩ := own_at (i := i) hv (by rw [entsC_length, hlv]) (by rw [hlv]; exact hi)
        refine hb1 _ ?_
        have hx : (entsC z.L)[i * 2 + 0]? = some (.string e.1) := by
          have := congrArg (fun l => l[0]?) (entsC_get hg)
          simpa [List.getElem?_take, List.getElem?_drop] using this
        (try simp only [xl, xo, Bool.not_eq_true', decide_eq_false_iff_not, ite_not, List.size_toArray, List.length_cons, List.length_nil, Nat.reduceAdd, qt, decide_eq_true_eq, Int.toNat_zero, Int.toNat_natCast, Nat.zero_mul, Nat.mul_one, Nat.one_mul, List.toList_toArray, List.cons_append, List.nil_append, List.append_nil, true_and, and_true, Nat.zero_add, Nat.add_zero, Bool.not_true, Bool.not_false, if_true, if_false, reduceCtorEq, List.set_cons_zero, List.set_cons_succ])
        refine hb3 G (cell r [v, .int .i64 z.le, .int .i64 z.lm, .bool z.il] + m) 0 _ _ (hh.to (by ac_rfl)) hx ?_
        (try simp only [xl, xo, Bool.not_eq_true', decide_eq_false_iff_not, ite_not, List.size_toArray, List.length_cons, List.length_nil, Nat.reduceAdd, qt, decide_eq_true_eq, Int.toNat_zero, Int.toNat_natCast, Nat.zero_mul, Nat.mul_one, Nat.one_mul, List.toList_toArray, List.cons_append, List.nil_append, List.append_nil, true_and, and_true, Nat.zero_add, Nat.add_zero, Bool.not_true, Bool.not_false, if_true, if_false, reduceCtorEq, List.set_cons_zero, List.set_cons_succ])
        refine h_load (b := r) hh rfl ?_
        have ht := szs_take hg
        have h1 := hsz (i + 1)
        have h2 := hsz i
        cases hil : z.il with
        | true =>
          (try simp only [xl, xo, Bool.not_eq_true', decide_eq_false_iff_not, ite_not, List.size_toArray, List.length_cons, List.length_nil, Nat.reduceAdd, qt, decide_eq_true_eq, Int.toNat_zero, Int.toNat_natCast, Nat.zero_mul, Nat.mul_one, Nat.one_mul, List.toList_toArray, List.cons_append, List.nil_append, List.append_nil, true_and, and_true, Nat.zero_add, Nat.add_zero, Bool.not_true, Bool.not_false, if_true, if_false, reduceCtorEq, List.set_cons_zero, List.set_cons_succ])
          rw [w64 (n := (i : Int) + 1) (by omega), w64 (n := ((64 * i + 2 * szs (z.L.take i) : Nat) : Int) + 64) (by omega), w64 (n := 2 * (e.1.size : Int)) (by omega), w64 (by omega)]
          refine ⟨k - 1, by omega, i + 1, by omega, ?_⟩
          rw [ht]
          congr 3
          omega
        | false =>
          simp only [Bool.false_eq_true, if_false]
          (try simp only [xl, xo, Bool.not_eq_true', decide_eq_false_iff_not, ite_not, List.size_toArray, List.length_cons, List.length_nil, Nat.reduceAdd, qt, decide_eq_true_eq, Int.toNat_zero, Int.toNat_natCast, Nat.zero_mul, Nat.mul_one, Nat.one_mul, List.toList_toArray, List.cons_append, List.nil_append, List.append_nil, true_and, and_true, Nat.zero_add, Nat.add_zero, Bool.not_true, Bool.not_false, if_true, if_false, reduceCtorEq, List.set_cons_zero, List.set_cons_succ])
          rw [w64 (n := (i : Int) + 1) (by omega), w64 (n := ((2 + (10 * i + szs (z.L.take i)) : Nat) : Int) + 10) (by omega), w64 (by omega)]
          refine ⟨k - 1, by omega, i + 1, by omega, ?_⟩
          rw [ht]
          congr 3
          omega
      · rw [if_neg (by omega)]
        have : i = z.L.length := by omega
        subst this
        rw [List.take_length]
        unfold byts at hK
        cases hil : z.il with
        | true => rw [hil] at hK; exact hK
        | false => rw [hil] at hK; simp only [Bool.false_eq_true, if_false, packL_len, body_szs] at hK ⊢; exact hK
  · intro J hJ
    (try simp only [xl, xo, Bool.not_eq_true', decide_eq_false_iff_not, ite_not, List.size_toArray, List.length_cons, List.length_nil, Nat.reduceAdd, qt, decide_eq_true_eq, Int.toNat_zero, Int.toNat_natCast, Nat.zero_mul, Nat.mul_one, Nat.one_mul, List.toList_toArray, List.cons_append, List.nil_append, List.append_nil, true_and, and_true, Nat.zero_add, Nat.add_zero, Bool.not_true, Bool.not_false, if_true, if_false, reduceCtorEq, List.set_cons_zero, List.set_cons_succ])
    refine h_load (b := r) hh rfl ?_
    cases hil : z.il with
    | true => rw [hil] at hJ; (try simp only [xl, xo, Bool.not_eq_true', decide_eq_false_iff_not, ite_not, List.size_toArray, List.length_cons, List.length_nil, Nat.reduceAdd, qt, decide_eq_true_eq, Int.toNat_zero, Int.toNat_natCast, Nat.zero_mul, Nat.mul_one, Nat.one_mul, List.toList_toArray, List.cons_append, List.nil_append, List.append_nil, true_and, and_true, Nat.zero_add, Nat.add_zero, Bool.not_true, Bool.not_false, if_true, if_false, reduceCtorEq, List.set_cons_zero, List.set_cons_succ]); exact hJ H rfl
    | false => rw [hil] at hJ; (try simp only [xl, xo, Bool.not_eq_true', decide_eq_false_iff_not, ite_not, List.size_toArray, List.length_cons, List.length_nil, Nat.reduceAdd, qt, decide_eq_true_eq, Int.toNat_zero, Int.toNat_natCast, Nat.zero_mul, Nat.mul_one, Nat.one_mul, List.toList_toArray, List.cons_append, List.nil_append, List.append_nil, true_and, and_true, Nat.zero_add, Nat.add_zero, Bool.not_true, Bool.not_false, if_true, if_false, reduceCtorEq, List.set_cons_zero, List.set_cons_succ]); exact hJ H rfl
end
end Go.X.W
set_option linter.unusedVariables false
set_option linter.unusedSimpArgs false
namespace Go.X.W
open Go Go.X Go.Proofs

variable {H : Heap} {m : Mem} {K : Value → Heap → Prop}

/-- What an act does. -/
noncomputable def stepZ (z : ZSt) (x : ActR) : ZSt :=
  let o := (IntKind.u64.wrap x.act).tmod 8
  if o = 0 ∨ o = 1 ∨ o = 2 ∨ o = 3 ∨ o = 4 then (zAdd z (name70 x.mem) x.sc x.lv).2.2
  else if o = 5 ∨ o = 6 then { z with L := rem (name70 x.mem) z.L }
  else { z with L := cutL x.fr x.to z.L }
theorem ZOk.step {z : ZSt} (ok : ZOk z) {x : ActR} (hx : ActOk x) : ZOk (stepZ z x) := by
  unfold stepZ
  simp only
  split
  · exact ok.add _ _ hx
  · split
    · exact ok.rem _
    · exact ok.cut _ _

section
variable {z : ZSt} {s r : Nat} {zm rm : Mem}
theorem law_did_h {x : ActR} (hx : ActOk x) (hz : ZRep z s zm) (hr : RRep z r rm) (ok : ZOk z) (hh : Has H (zm + (rm + m))) (hK : ∀ H' zm' rm', ZRep (stepZ z x) s zm' → RRep (stepZ z x) r rm' → Has H' (zm' + (rm' + m)) → K (.bool true) H') :
    CallH P f_paliolaw11_did [ptrV s, ptrV r, .agg (actC x).toArray] H K := by
  apply k_paliolaw11_did
  unfold c_paliolaw11_did
  rw [x_boxN]
  refine h_allocA hh fun xb H1 hh => ?_
  have hn := name70_lt x.mem
  (try simp only [xl, xo, Bool.not_eq_true', decide_eq_false_iff_not, ite_not, List.size_toArray, List.length_cons, List.length_nil, Nat.reduceAdd, qt, decide_eq_true_eq, Int.toNat_zero, Int.toNat_natCast, Nat.zero_mul, Nat.mul_one, Nat.one_mul, List.toList_toArray, List.cons_append, List.nil_append, List.append_nil, true_and, and_true, Nat.zero_add, Nat.add_zero, Bool.not_true, Bool.not_false, if_true, if_false, reduceCtorEq, List.set_cons_zero, List.set_cons_succ])
  refine h_load (b := xb) (cs := actC x) hh rfl ?_
  (try simp only [xl, xo, Bool.not_eq_true', decide_eq_false_iff_not, ite_not, List.size_toArray, List.length_cons, List.length_nil, Nat.reduceAdd, qt, decide_eq_true_eq, Int.toNat_zero, Int.toNat_natCast, Nat.zero_mul, Nat.mul_one, Nat.one_mul, List.toList_toArray, List.cons_append, List.nil_append, List.append_nil, true_and, and_true, Nat.zero_add, Nat.add_zero, Bool.not_true, Bool.not_false, if_true, if_false, reduceCtorEq, List.set_cons_zero, List.set_cons_succ])
  refine ⟨by omega, ?_⟩
  unfold stepZ at hK
  simp only at hK
  generalize (IntKind.u64.wrap x.act).tmod 8 = o at hK ⊢
  refine join_of (.bool (decide (o = 0 ∨ o = 1 ∨ o = 2 ∨ o = 3 ∨ o = 4)), []) (fun Q => Has Q (cell xb (actC x) + (zm + (rm + m)))) ?_ ?_
  · rintro Q hh g1
    by_cases h1 : o = 0 ∨ o = 1 ∨ o = 2 ∨ o = 3 ∨ o = 4
    · rw [if_pos h1] at hK
      simp only [h1, decide_true]
      (try simp only [xl, xo, Bool.not_eq_true', decide_eq_false_iff_not, ite_not, List.size_toArray, List.length_cons, List.length_nil, Nat.reduceAdd, qt, decide_eq_true_eq, Int.toNat_zero, Int.toNat_natCast, Nat.zero_mul, Nat.mul_one, Nat.one_mul, List.toList_toArray, List.cons_append, List.nil_append, List.append_nil, true_and, and_true, Nat.zero_add, Nat.add_zero, Bool.not_true, Bool.not_false, if_true, if_false, reduceCtorEq, List.set_cons_zero, List.set_cons_succ])
      refine h_load (b := xb) hh rfl (h_load (b := xb) hh rfl (h_load (b := xb) hh rfl ?_))
      refine law_Name_h ⟨h_loadIs (b := xb) hh rfl, h_loadIs (b := xb) hh rfl, ?_⟩
      refine zset_Add_h hn hx hz ok (hh.front zm) fun H2 zm2 hz2 hh => ?_
      (try simp only [xl, xo, Bool.not_eq_true', decide_eq_false_iff_not, ite_not, List.size_toArray, List.length_cons, List.length_nil, Nat.reduceAdd, qt, decide_eq_true_eq, Int.toNat_zero, Int.toNat_natCast, Nat.zero_mul, Nat.mul_one, Nat.one_mul, List.toList_toArray, List.cons_append, List.nil_append, List.append_nil, true_and, and_true, Nat.zero_add, Nat.add_zero, Bool.not_true, Bool.not_false, if_true, if_false, reduceCtorEq, List.set_cons_zero, List.set_cons_succ])
      refine h_load (b := xb) hh rfl (h_load (b := xb) hh rfl (h_load (b := xb) hh rfl ?_))
      refine law_Name_h ⟨h_loadIs (b := xb) hh rfl, h_loadIs (b := xb) hh rfl, ?_⟩
      refine ref_Add_h hx hr ok (hh.front rm) fun H3 rm2 hr2 hh => ?_
      (try simp only [xl, xo, Bool.not_eq_true', decide_eq_false_iff_not, ite_not, List.size_toArray, List.length_cons, List.length_nil, Nat.reduceAdd, qt, decide_eq_true_eq, Int.toNat_zero, Int.toNat_natCast, Nat.zero_mul, Nat.mul_one, Nat.one_mul, List.toList_toArray, List.cons_append, List.nil_append, List.append_nil, true_and, and_true, Nat.zero_add, Nat.add_zero, Bool.not_true, Bool.not_false, if_true, if_false, reduceCtorEq, List.set_cons_zero, List.set_cons_succ])
      simp only [beq_self_eq_true, if_true, decide_true]
      exact hK H3 zm2 rm2 hz2 hr2 (hh.front (zm2 + (rm2 + m))).left
    · rw [if_neg h1] at hK
      simp only [h1, decide_false]
      (try simp only [xl, xo, Bool.not_eq_true', decide_eq_false_iff_not, ite_not, List.size_toArray, List.length_cons, List.length_nil, Nat.reduceAdd, qt, decide_eq_true_eq, Int.toNat_zero, Int.toNat_natCast, Nat.zero_mul, Nat.mul_one, Nat.one_mul, List.toList_toArray, List.cons_append, List.nil_append, List.append_nil, true_and, and_true, Nat.zero_add, Nat.add_zero, Bool.not_true, Bool.not_false, if_true, if_false, reduceCtorEq, List.set_cons_zero, List.set_cons_succ])
      refine join_of (.bool (decide (o = 5 ∨ o = 6)), []) (fun Q => Has Q (cell xb (actC x) + (zm + (rm + m)))) ?_ ?_
      · rintro Q2 hh g2
        by_cases h2 : o = 5 ∨ o = 6
        · rw [if_pos h2] at hK
          simp only [h2, decide_true]
          (try simp only [xl, xo, Bool.not_eq_true', decide_eq_false_iff_not, ite_not, List.size_toArray, List.length_cons, List.length_nil, Nat.reduceAdd, qt, decide_eq_true_eq, Int.toNat_zero, Int.toNat_natCast, Nat.zero_mul, Nat.mul_one, Nat.one_mul, List.toList_toArray, List.cons_append, List.nil_append, List.append_nil, true_and, and_true, Nat.zero_add, Nat.add_zero, Bool.not_true, Bool.not_false, if_true, if_false, reduceCtorEq, List.set_cons_zero, List.set_cons_succ])
          refine h_load (b := xb) hh rfl (h_load (b := xb) hh rfl ?_)
          refine law_Name_h ⟨h_loadIs (b := xb) hh rfl, ?_⟩
          refine zset_Remove_h hn hz ok (hh.front zm) fun H2 zm2 hz2 hh => ⟨h_loadIs (b := xb) hh rfl, ?_⟩
          refine law_Name_h ?_
          refine ref_Remove_h hr ok (hh.front rm) fun H3 rm2 hr2 hh => ?_
          (try simp only [xl, xo, Bool.not_eq_true', decide_eq_false_iff_not, ite_not, List.size_toArray, List.length_cons, List.length_nil, Nat.reduceAdd, qt, decide_eq_true_eq, Int.toNat_zero, Int.toNat_natCast, Nat.zero_mul, Nat.mul_one, Nat.one_mul, List.toList_toArray, List.cons_append, List.nil_append, List.append_nil, true_and, and_true, Nat.zero_add, Nat.add_zero, Bool.not_true, Bool.not_false, if_true, if_false, reduceCtorEq, List.set_cons_zero, List.set_cons_succ])
          simp only [beq_self_eq_true]
          exact hK H3 zm2 rm2 hz2 hr2 (hh.front (zm2 + (rm2 + m))).left
        · rw [if_neg h2] at hK
          simp only [h2, decide_false]
          (try simp only [xl, xo, Bool.not_eq_true', decide_eq_false_iff_not, ite_not, List.size_toArray, List.length_cons, List.length_nil, Nat.reduceAdd, qt, decide_eq_true_eq, Int.toNat_zero, Int.toNat_natCast, Nat.zero_mul, Nat.mul_one, Nat.one_mul, List.toList_toArray, List.cons_append, List.nil_append, List.append_nil, true_and, and_true, Nat.zero_add, Nat.add_zero, Bool.not_true, Bool.not_false, if_true, if_false, reduceCtorEq, List.set_cons_zero, List.set_cons_succ])
          refine h_load (b := xb) hh rfl (h_load (b := xb) hh rfl (h_load (b := xb) hh rfl (h_load (b := xb) hh rfl ?_)))
          refine zset_Cut_h hz ok (hh.front zm) fun H2 zm2 hz2 hh => ⟨h_loadIs (b := xb) hh rfl, h_loadIs (b := xb) hh rfl, ?_⟩
          refine ref_Cut_h hr ok (hh.front rm) fun H3 rm2 hr2 hh => ?_
          (try simp only [xl, xo, Bool.not_eq_true', decide_eq_false_iff_not, ite_not, List.size_toArray, List.length_cons, List.length_nil, Nat.reduceAdd, qt, decide_eq_true_eq, Int.toNat_zero, Int.toNat_natCast, Nat.zero_mul, Nat.mul_one, Nat.one_mul, List.toList_toArray, List.cons_append, List.nil_append, List.append_nil, true_and, and_true, Nat.zero_add, Nat.add_zero, Bool.not_true, Bool.not_false, if_true, if_false, reduceCtorEq, List.set_cons_zero, List.set_cons_succ])
          simp only [decide_true]
          exact hK H3 zm2 rm2 hz2 hr2 (hh.front (zm2 + (rm2 + m))).left
      · intro J hJ
        by_cases h3 : o = 5
        · simp only [h3, decide_true, if_true] at hJ ⊢
          exact hJ Q hh
        · simp only [h3, decide_false, false_or, Bool.false_eq_true, if_false] at hJ ⊢
          exact hJ Q hh
  · intro J hJ
    have hJ := hJ H1 hh
    by_cases h0 : o = 0
    · simp only [h0, decide_true, if_true, true_or] at hJ ⊢; exact hJ
    simp only [h0, decide_false, false_or, Bool.false_eq_true, if_false] at hJ ⊢
    by_cases h1 : o = 1
    · simp only [h1, decide_true, if_true, true_or] at hJ ⊢; exact hJ
    simp only [h1, decide_false, false_or, Bool.false_eq_true, if_false] at hJ ⊢
    by_cases h2 : o = 2
    · simp only [h2, decide_true, if_true, true_or] at hJ ⊢; exact hJ
    simp only [h2, decide_false, false_or, Bool.false_eq_true, if_false] at hJ ⊢
    by_cases h3 : o = 3
    · simp only [h3, decide_true, if_true, true_or] at hJ ⊢; exact hJ
    simp only [h3, decide_false, false_or, Bool.false_eq_true, if_false] at hJ ⊢
    exact hJ
end

/-- A set that acts have made. -/
noncomputable def madeZ (z : ZSt) (l : List ActR) : ZSt := l.foldl stepZ z
theorem ZOk.made {z : ZSt} (ok : ZOk z) {l : List ActR} (hl : ∀ x ∈ l, ActOk x) : ZOk (madeZ z l) := by
  unfold madeZ
  induction l generalizing z with
  | nil => exact ok
  | cons x l ih => exact ih (ok.step (hl x (by simp))) fun y hy => hl y (by simp [hy])
noncomputable def newZ (le lm seed : Int) : ZSt := ⟨[], false, clampI 0 200 le, clampI 0 64 lm, seed⟩

theorem law_made_h {le lm seed : Int} {v : Value} {acts : List ActR} {fr : Mem} (hh : Has H fr) (hA : ∀ H', Has H' fr → RowsAt 6 H' v (acts.map actC)) (hrow : ∀ x ∈ acts, ActOk x)
    (hK : ∀ H' s r zm rm, ZRep (madeZ (newZ le lm seed) (acts.take 100)) s zm → RRep (madeZ (newZ le lm seed) (acts.take 100)) r rm → Has H' (zm + (rm + fr)) → K (.tuple #[ptrV s, ptrV r]) H') :
    CallH P f_paliolaw11_made [.agg #[.int .i64 le, .int .i64 lm], .int .u32 seed, v] H K := by
  apply k_paliolaw11_made
  unfold c_paliolaw11_made
  rw [x_boxN]
  refine h_allocA hh fun lb H1 hh => ?_
  refine h_load2 (b := lb) hh rfl rfl ?_
  refine zset_New_h hh fun H2 s zm hz hh => ?_
  refine h_load2 (b := lb) hh rfl rfl ?_
  refine ref_New_h seed hh fun H3 r rm hr hh => ?_
  refine loop_i (fun k st G => ∃ (i : Nat) (zm rm m' : Mem), i + k = acts.length ∧ i ≤ 100 ∧ st = (.int .i64 i, []) ∧ ZRep (madeZ (newZ le lm seed) (acts.take i)) s zm ∧ RRep (madeZ (newZ le lm seed) (acts.take i)) r rm ∧ Has G (zm + (rm + (fr + m')))) acts.length
    ⟨0, zm, rm, cell lb [.int .i64 le, .int .i64 lm], by omega, by omega, rfl, hz, hr, hh.to (by ac_rfl)⟩ ?_
  clear hz hr hh
  rintro k _ g G ⟨i, zm, rm, m', hik, h100, rfl, hz, hr, hh⟩
  have hfr := hA G (hh.front fr).left
  refine hfr.len ?_
  rw [List.length_map]
  (try simp only [xl, xo, Bool.not_eq_true', decide_eq_false_iff_not, ite_not, List.size_toArray, List.length_cons, List.length_nil, Nat.reduceAdd, qt, decide_eq_true_eq, Int.toNat_zero, Int.toNat_natCast, Nat.zero_mul, Nat.mul_one, Nat.one_mul, List.toList_toArray, List.cons_append, List.nil_append, List.append_nil, true_and, and_true, Nat.zero_add, Nat.add_zero, Bool.not_true, Bool.not_false, if_true, if_false, reduceCtorEq, List.set_cons_zero, List.set_cons_succ])
  have fin : acts.length ≤ i ∨ i = 100 → K (.tuple #[ptrV s, ptrV r]) G := by
    intro h
    have e : acts.take i = acts.take 100 := by
      rcases h with h | h
      · rw [List.take_of_length_le h, List.take_of_length_le (by omega)]
      · rw [h]
    rw [e] at hz hr
    exact hK G s r zm rm hz hr (hh.front (zm + (rm + fr))).left
  by_cases hi : acts.length ≤ i
  · rw [if_neg (by omega)]; exact fin (.inl hi)
  rw [if_pos (by omega)]
  by_cases h1 : i = 100
  · rw [if_neg (by omega)]; exact fin (.inr h1)
  rw [if_pos (by omega)]
  have hg : acts[i]? = some (acts[i]'(by omega)) := List.getElem?_eq_getElem (by omega)
  generalize acts[i]'(by omega) = x at hg
  obtain ⟨p, hp1, hp2⟩ := hfr.at (i := i) (r := actC x) (by rw [List.getElem?_map, hg]; rfl)
  refine hp1 (load_row hp2 ?_)
  have ok := (ZOk.new le lm seed).made (l := acts.take i) fun x hx => hrow x (List.mem_of_mem_take hx)
  refine law_did_h (hrow x (List.mem_of_getElem? hg)) hz hr ok hh fun H' zm' rm' hz' hr' hh => ?_
  have e : madeZ (newZ le lm seed) (acts.take (i + 1)) = stepZ (madeZ (newZ le lm seed) (acts.take i)) x := by
    unfold madeZ
    rw [List.take_add_one, hg, Option.toList_some, List.foldl_append]
    rfl
  rw [w64 (by omega)]
  exact ⟨k - 1, by omega, i + 1, zm', rm', m', by omega, by omega, rfl, by rw [e]; exact hz', by rw [e]; exact hr', hh⟩
end Go.X.W
set_option linter.unusedVariables false
set_option linter.unusedSimpArgs false
namespace Go.X.W
open Go Go.X Go.Proofs

variable {H : Heap} {fr : Mem} {K : Value → Heap → Prop}

theorem ins_fnd {l : List Ent} {c : Nat} {e : Ent} (hc : c ≤ l.length) (hn : fnd e.1 l = none) : fnd e.1 (insAt l c e) = some c := by
  have hal : (l.take c).length = c := by rw [List.length_take]; omega
  refine fnd_some.2 ⟨⟨e.2, ?_⟩, fun j hj a ha => ?_⟩
  · unfold insAt
    rw [List.getElem?_append_right (by omega), hal, Nat.sub_self]
    rfl
  · unfold insAt at ha
    rw [List.getElem?_append_left (by omega), List.getElem?_take, if_pos hj] at ha
    exact fnd_none.1 hn a (List.mem_of_getElem? ha)
theorem del_ins {l : List Ent} {c : Nat} {e : Ent} (hc : c ≤ l.length) : delAt (insAt l c e) c = l := by
  have hal : (l.take c).length = c := by rw [List.length_take]; omega
  unfold delAt insAt
  rw [List.take_append_of_le_length (by omega), List.take_of_length_le (by omega), List.drop_append, hal, List.drop_eq_nil_of_le (by omega), List.nil_append, show c + 1 - c = 1 by omega, List.drop_succ_cons, List.drop_zero, List.take_append_drop]
theorem rem_ins {l : List Ent} {e : Ent} (hn : fnd e.1 l = none) : rem e.1 (insAt l (cntE e l) e) = l := by
  unfold rem
  rw [ins_fnd (cntE_le e l) hn]
  exact del_ins (cntE_le e l)
theorem rem_same {l : List Ent} {x : ByteArray} (hn : fnd x l = none) : rem x l = l := by simp [rem, hn]

theorem zsetTwice_h {le lm seed : Int} {v : Value} {acts : List ActR} {mb : ByteArray} {sc : Int} (hh : Has H fr) (hA : ∀ H', Has H' fr → RowsAt 6 H' v (acts.map actC)) (hrow : ∀ x ∈ acts, ActOk x) (hsc : -9223372036854775808 ≤ sc ∧ sc ≤ 9223372036854775807)
    (hK : ∀ H', Has H' fr → K (.bool true) H') : CallH P f_paliolaw11_ZsetTwice [.agg #[.int .i64 le, .int .i64 lm], .int .u32 seed, v, .string mb, .int .i64 sc] H K := by
  apply k_paliolaw11_ZsetTwice
  unfold c_paliolaw11_ZsetTwice
  rw [x_boxN]
  refine h_allocA hh fun lb H1 hh => ?_
  refine shown_h hh fun H2 hh => ?_
  refine h_load2 (b := lb) hh rfl rfl ?_
  refine law_made_h (fr := cell lb [.int .i64 le, .int .i64 lm] + fr) hh (fun H' h => hA H' h.right) hrow fun H3 s r zm rm hz hr hh => ?_
  have ok0 := (ZOk.new le lm seed).made (l := acts.take 100) fun x hx => hrow x (List.mem_of_mem_take hx)
  have ok0 : ZOk (madeZ (newZ le lm seed) (acts.take 100)) := ok0
  generalize madeZ (newZ le lm seed) (acts.take 100) = z0 at *
  clear hr
  (try simp only [xl, xo, Bool.not_eq_true', decide_eq_false_iff_not, ite_not, List.size_toArray, List.length_cons, List.length_nil, Nat.reduceAdd, qt, decide_eq_true_eq, Int.toNat_zero, Int.toNat_natCast, Nat.zero_mul, Nat.mul_one, Nat.one_mul, List.toList_toArray, List.cons_append, List.nil_append, List.append_nil, true_and, and_true, Nat.zero_add, Nat.add_zero, Bool.not_true, Bool.not_false, if_true, if_false, reduceCtorEq, List.set_cons_zero, List.set_cons_succ])
  refine law_Name_h ?_
  have hn := name70_lt mb
  generalize name70 mb = nm at *
  refine zset_Remove_h hn hz ok0 hh fun H4 zm1 hz hh => ?_
  have ok := ok0.rem nm
  have hfn : fnd nm ({ z0 with L := rem nm z0.L } : ZSt).L = none := rem_none ok0.ok.nodup
  generalize ({ z0 with L := rem nm z0.L } : ZSt) = z at hz ok hfn
  have h400 := ok.ok.len
  refine zset_Len_h hz ok hh fun H5 hh => ?_
  refine zset_Range_h hz ok hh fun H6 w0 wl0 hw0 hlw0 hh => ?_
  rw [rng_all] at hw0 hlw0
  refine zset_Add_h hn hsc hz ok (hh.front zm1) fun H7 zm2 hz2 hh => ?_
  have ok2 := ok.add nm 1 hsc
  (try simp only [xl, xo, Bool.not_eq_true', decide_eq_false_iff_not, ite_not, List.size_toArray, List.length_cons, List.length_nil, Nat.reduceAdd, qt, decide_eq_true_eq, Int.toNat_zero, Int.toNat_natCast, Nat.zero_mul, Nat.mul_one, Nat.one_mul, List.toList_toArray, List.cons_append, List.nil_append, List.append_nil, true_and, and_true, Nat.zero_add, Nat.add_zero, Bool.not_true, Bool.not_false, if_true, if_false, reduceCtorEq, List.set_cons_zero, List.set_cons_succ])
  by_cases hbad : 64 < nm.size
  · have ez : zAdd z nm sc 1 = (false, 2, z) := by unfold zAdd; rw [if_pos (by omega)]
    rw [ez]
    (try simp only [xl, xo, Bool.not_eq_true', decide_eq_false_iff_not, ite_not, List.size_toArray, List.length_cons, List.length_nil, Nat.reduceAdd, qt, decide_eq_true_eq, Int.toNat_zero, Int.toNat_natCast, Nat.zero_mul, Nat.mul_one, Nat.one_mul, List.toList_toArray, List.cons_append, List.nil_append, List.append_nil, true_and, and_true, Nat.zero_add, Nat.add_zero, Bool.not_true, Bool.not_false, if_true, if_false, reduceCtorEq, List.set_cons_zero, List.set_cons_succ])
    simp only [show ¬ ((2 : Int) = 0) by omega, if_false]
    rw [if_pos (by omega)]
    exact hK H7 (hh.front fr).left
  by_cases hfull : z.L.length = 400
  · have ez : zAdd z nm sc 1 = (false, 51, z) := by unfold zAdd; rw [if_neg (by omega), if_pos ⟨by rw [hfn]; rfl, hfull⟩]
    rw [ez] at hz2 ⊢
    simp only at hz2
    (try simp only [xl, xo, Bool.not_eq_true', decide_eq_false_iff_not, ite_not, List.size_toArray, List.length_cons, List.length_nil, Nat.reduceAdd, qt, decide_eq_true_eq, Int.toNat_zero, Int.toNat_natCast, Nat.zero_mul, Nat.mul_one, Nat.one_mul, List.toList_toArray, List.cons_append, List.nil_append, List.append_nil, true_and, and_true, Nat.zero_add, Nat.add_zero, Bool.not_true, Bool.not_false, if_true, if_false, reduceCtorEq, List.set_cons_zero, List.set_cons_succ])
    simp only [show ¬ ((51 : Int) = 0) by omega, show ¬ ((51 : Int) = 2) by omega, if_false]
    refine zset_Len_h hz2 ok hh fun H8 hh => ?_
    rw [hfull]
    (try simp only [xl, xo, Bool.not_eq_true', decide_eq_false_iff_not, ite_not, List.size_toArray, List.length_cons, List.length_nil, Nat.reduceAdd, qt, decide_eq_true_eq, Int.toNat_zero, Int.toNat_natCast, Nat.zero_mul, Nat.mul_one, Nat.one_mul, List.toList_toArray, List.cons_append, List.nil_append, List.append_nil, true_and, and_true, Nat.zero_add, Nat.add_zero, Bool.not_true, Bool.not_false, if_true, if_false, reduceCtorEq, List.set_cons_zero, List.set_cons_succ])
    exact hK H8 (hh.front fr).left
  have e1 : rem nm z.L = z.L := rem_same hfn
  have ez : zAdd z nm sc 1 = (true, 0, { z with L := insAt z.L (cntE (nm, sc) z.L) (nm, sc), il := zAddI z nm }) := by
    unfold zAdd
    rw [if_neg (by omega), if_neg (fun h => hfull h.2), hfn]
    unfold zAddL
    rw [e1]
    rfl
  have hrn := rem_ins (e := (nm, sc)) (l := z.L) hfn
  have hfi := ins_fnd (e := (nm, sc)) (cntE_le (nm, sc) z.L) hfn
  simp only at hrn hfi
  rw [ez] at hz2 ok2 ⊢
  simp only at hz2 ok2
  generalize hl2 : insAt z.L (cntE (nm, sc) z.L) (nm, sc) = L2 at *
  have h402 := ok2.ok.len
  simp only at h402
  (try simp only [xl, xo, Bool.not_eq_true', decide_eq_false_iff_not, ite_not, List.size_toArray, List.length_cons, List.length_nil, Nat.reduceAdd, qt, decide_eq_true_eq, Int.toNat_zero, Int.toNat_natCast, Nat.zero_mul, Nat.mul_one, Nat.one_mul, List.toList_toArray, List.cons_append, List.nil_append, List.append_nil, true_and, and_true, Nat.zero_add, Nat.add_zero, Bool.not_true, Bool.not_false, if_true, if_false, reduceCtorEq, List.set_cons_zero, List.set_cons_succ])
  refine zset_Len_h hz2 ok2 hh fun H8 hh => ?_
  refine zset_Range_h hz2 ok2 hh fun H9 w1 wl1 hw1 hlw1 hh => ?_
  rw [rng_all] at hw1 hlw1
  refine zset_Add_h hn hsc hz2 ok2 (hh.front zm2) fun H10 zm3 hz3 hh => ?_
  have ok3 := ok2.add nm 7 hsc
  have ez3 : ∃ b, zAdd { z with L := L2, il := zAddI z nm } nm sc 7 = (false, 0, { z with L := L2, il := b }) := by
    unfold zAdd
    rw [if_neg (by omega), if_neg (by simp only [hfi]; simp)]
    unfold zAddL
    simp only [hrn, hfi, hl2]
    exact ⟨_, rfl⟩
  obtain ⟨b3, ez3⟩ := ez3
  rw [ez3] at hz3 ok3 ⊢
  simp only at hz3 ok3
  (try simp only [xl, xo, Bool.not_eq_true', decide_eq_false_iff_not, ite_not, List.size_toArray, List.length_cons, List.length_nil, Nat.reduceAdd, qt, decide_eq_true_eq, Int.toNat_zero, Int.toNat_natCast, Nat.zero_mul, Nat.mul_one, Nat.one_mul, List.toList_toArray, List.cons_append, List.nil_append, List.append_nil, true_and, and_true, Nat.zero_add, Nat.add_zero, Bool.not_true, Bool.not_false, if_true, if_false, reduceCtorEq, List.set_cons_zero, List.set_cons_succ])
  refine zset_Len_h hz3 ok3 hh fun H11 hh => ?_
  refine zset_Range_h hz3 ok3 hh fun H12 w2 wl2 hw2 hlw2 hh => ?_
  rw [rng_all] at hw2 hlw2
  refine zset_Remove_h hn hz3 ok3 (hh.front zm3) fun H13 zm4 hz4 hh => ?_
  have ok4 := ok3.rem nm
  simp only [hfi, hrn, Option.isSome_some] at hz4 ok4 ⊢
  (try simp only [xl, xo, Bool.not_eq_true', decide_eq_false_iff_not, ite_not, List.size_toArray, List.length_cons, List.length_nil, Nat.reduceAdd, qt, decide_eq_true_eq, Int.toNat_zero, Int.toNat_natCast, Nat.zero_mul, Nat.mul_one, Nat.one_mul, List.toList_toArray, List.cons_append, List.nil_append, List.append_nil, true_and, and_true, Nat.zero_add, Nat.add_zero, Bool.not_true, Bool.not_false, if_true, if_false, reduceCtorEq, List.set_cons_zero, List.set_cons_succ])
  refine ref05_Same_h (l := L2) (own_ents hw1 hlw1 (hh.front wl1)) (own_ents hw2 hlw2 (hh.front wl2)) (by omega) ?_
  (try simp only [xl, xo, Bool.not_eq_true', decide_eq_false_iff_not, ite_not, List.size_toArray, List.length_cons, List.length_nil, Nat.reduceAdd, qt, decide_eq_true_eq, Int.toNat_zero, Int.toNat_natCast, Nat.zero_mul, Nat.mul_one, Nat.one_mul, List.toList_toArray, List.cons_append, List.nil_append, List.append_nil, true_and, and_true, Nat.zero_add, Nat.add_zero, Bool.not_true, Bool.not_false, if_true, if_false, reduceCtorEq, List.set_cons_zero, List.set_cons_succ])
  refine zset_Len_h hz4 ok4 hh fun H14 hh => ?_
  refine zset_Range_h hz4 ok4 hh fun H15 w3 wl3 hw3 hlw3 hh => ?_
  rw [rng_all] at hw3 hlw3
  refine ref05_Same_h (l := z.L) (own_ents hw0 hlw0 (hh.front wl0)) (own_ents hw3 hlw3 hh) (by omega) ?_
  exact hK H15 (hh.front fr).left
end Go.X.W
set_option linter.unusedVariables false
set_option linter.unusedSimpArgs false
namespace Go.X.W
open Go Go.X Go.Proofs

variable {H : Heap} {fr : Mem} {K : Value → Heap → Prop}

theorem zAdd_form {z z' : ZSt} {x : ByteArray} {sc lv lv' : Int} (hl : 1 ≤ lv ∧ lv ≤ 32) (hl' : 1 ≤ lv' ∧ lv' ≤ 32) (h : z.L = z'.L) :
    (zAdd z x sc lv).1 = (zAdd z' x sc lv').1 ∧ (zAdd z x sc lv).2.1 = (zAdd z' x sc lv').2.1 ∧ (zAdd z x sc lv).2.2.L = (zAdd z' x sc lv').2.2.L := by
  unfold zAdd zAddL
  rw [h]
  by_cases h1 : 64 < x.size
  · rw [if_pos (show 64 < x.size ∨ lv < 1 ∨ 32 < lv from .inl h1), if_pos (show 64 < x.size ∨ lv' < 1 ∨ 32 < lv' from .inl h1)]
    exact ⟨rfl, rfl, h⟩
  · rw [if_neg (show ¬ (64 < x.size ∨ lv < 1 ∨ 32 < lv) by omega), if_neg (show ¬ (64 < x.size ∨ lv' < 1 ∨ 32 < lv') by omega)]
    split
    · exact ⟨rfl, rfl, h⟩
    · exact ⟨rfl, rfl, rfl⟩
theorem and31 (i : Int) : 0 ≤ IntKind.i64.wrap ((BitVec.ofInt IntKind.i64.bits i &&& BitVec.ofInt IntKind.i64.bits 31).toNat : Nat) ∧ IntKind.i64.wrap ((BitVec.ofInt IntKind.i64.bits i &&& BitVec.ofInt IntKind.i64.bits 31).toNat : Nat) ≤ 31 := by
  have h : (BitVec.ofInt IntKind.i64.bits i &&& BitVec.ofInt IntKind.i64.bits 31).toNat ≤ 31 := by
    rw [BitVec.toNat_and]
    exact Nat.le_trans Nat.and_le_right (by decide)
  rw [w64 (by omega)]
  omega

/-- Two sets of the same entries. -/
structure Two (s t : Nat) (G : Heap) (m : Mem) : Prop where
  ex : ∃ (z z' : ZSt) (zm zm' m' : Mem), z.L = z'.L ∧ ZRep z s zm ∧ ZRep z' t zm' ∧ ZOk z ∧ ZOk z' ∧ Has G (zm + (zm' + (m + m')))

/-- Behind each act: places and numbers are the same. -/
theorem forms_tail {s t : Nat} {G : Heap} {m : Mem} {x : ByteArray} {D : List Deferred} (hx : x.size < 4611686018427387904) (h : Two s t G m) {Kf : Heap → Prop} {Kt : Heap → Prop} (hK : ∀ G', Two s t G' m → Kt G') :
    CallH P f_zset_Set_Rank [ptrV s, .string x] G fun t_87 H88 =>
                      ExtractP t_87 0 fun t_89 =>
                      ExtractP t_87 1 fun t_90 =>
                      CallH P f_zset_Set_Rank [ptrV t, .string x] H88 fun t_91 H92 =>
                      ExtractP t_91 0 fun t_93 =>
                      ExtractP t_91 1 fun t_94 =>
                      BinP .neq t_89 t_93 fun t_95 =>
                      SplitP t_95
                        (Kf H92)
                        (EqP P T_bool false H92 t_90 t_94 fun b_97 =>
                        if b_97 = false then (Kf H92) else
                          (CallH P f_zset_Set_Len [ptrV s] H92 fun t_99 H100 =>
                          CallH P f_zset_Set_Len [ptrV t] H100 fun t_101 H102 =>
                          BinP .neq t_99 t_101 fun t_103 =>
                          SplitP t_103
                            (Kf H102)
                            (Kt H102))) := by
  obtain ⟨z, z', zm, zm', m', hL, hz, hz', ok, ok', hh⟩ := h.ex
  refine zset_Rank_h hx hz ok hh fun G1 zm1 hz hh => ?_
  (try simp only [xl, xo, Bool.not_eq_true', decide_eq_false_iff_not, ite_not, List.size_toArray, List.length_cons, List.length_nil, Nat.reduceAdd, qt, decide_eq_true_eq, Int.toNat_zero, Int.toNat_natCast, Nat.zero_mul, Nat.mul_one, Nat.one_mul, List.toList_toArray, List.cons_append, List.nil_append, List.append_nil, true_and, and_true, Nat.zero_add, Nat.add_zero, Bool.not_true, Bool.not_false, if_true, if_false, reduceCtorEq, List.set_cons_zero, List.set_cons_succ])
  refine zset_Rank_h hx hz' ok' (hh.front zm') fun G2 zm2 hz' hh => ?_
  rw [hL]
  (try simp only [xl, xo, Bool.not_eq_true', decide_eq_false_iff_not, ite_not, List.size_toArray, List.length_cons, List.length_nil, Nat.reduceAdd, qt, decide_eq_true_eq, Int.toNat_zero, Int.toNat_natCast, Nat.zero_mul, Nat.mul_one, Nat.one_mul, List.toList_toArray, List.cons_append, List.nil_append, List.append_nil, true_and, and_true, Nat.zero_add, Nat.add_zero, Bool.not_true, Bool.not_false, if_true, if_false, reduceCtorEq, List.set_cons_zero, List.set_cons_succ])
  simp only [beq_self_eq_true]
  (try simp only [xl, xo, Bool.not_eq_true', decide_eq_false_iff_not, ite_not, List.size_toArray, List.length_cons, List.length_nil, Nat.reduceAdd, qt, decide_eq_true_eq, Int.toNat_zero, Int.toNat_natCast, Nat.zero_mul, Nat.mul_one, Nat.one_mul, List.toList_toArray, List.cons_append, List.nil_append, List.append_nil, true_and, and_true, Nat.zero_add, Nat.add_zero, Bool.not_true, Bool.not_false, if_true, if_false, reduceCtorEq, List.set_cons_zero, List.set_cons_succ])
  refine zset_Len_h hz ok (hh.front zm1) fun G3 hh => ?_
  refine zset_Len_h hz' ok' (hh.front zm2) fun G4 hh => ?_
  rw [hL]
  (try simp only [xl, xo, Bool.not_eq_true', decide_eq_false_iff_not, ite_not, List.size_toArray, List.length_cons, List.length_nil, Nat.reduceAdd, qt, decide_eq_true_eq, Int.toNat_zero, Int.toNat_natCast, Nat.zero_mul, Nat.mul_one, Nat.one_mul, List.toList_toArray, List.cons_append, List.nil_append, List.append_nil, true_and, and_true, Nat.zero_add, Nat.add_zero, Bool.not_true, Bool.not_false, if_true, if_false, reduceCtorEq, List.set_cons_zero, List.set_cons_succ])
  exact hK G4 ⟨z, z', zm1, zm2, m', hL, hz, hz', ok, ok', hh.to (by ac_rfl)⟩

theorem zsetForms_h {le lm le' lm' seed seed' : Int} {v u : Value} {acts : List ActR} {levs : List Int} (hh : Has H fr) (hA : ∀ H', Has H' fr → RowsAt 6 H' v (acts.map actC)) (hrow : ∀ x ∈ acts, ActOk x) (hB : ∀ H', Has H' fr → IntsAt H' u levs)
    (hK : ∀ H', Has H' fr → K (.bool true) H') : CallH P f_paliolaw11_ZsetForms [.agg #[.int .i64 le, .int .i64 lm], .agg #[.int .i64 le', .int .i64 lm'], .int .u32 seed, .int .u32 seed', v, u] H K := by
  apply k_paliolaw11_ZsetForms
  unfold c_paliolaw11_ZsetForms
  rw [x_boxN]
  refine h_allocA hh fun ab H1 hh => ?_
  rw [x_boxN]
  refine h_allocA hh fun bb H2 hh => ?_
  refine shown_h hh fun H3 hh => ?_
  refine h_load2 (b := ab) hh rfl rfl ?_
  refine zset_New_h hh fun H4 s zm hz hh => ?_
  refine h_load2 (b := bb) hh rfl rfl ?_
  refine zset_New_h hh fun H5 t zm' hz' hh => ?_
  have h0 : Two s t H5 fr := ⟨newZ le lm seed, newZ le' lm' seed', zm, zm', _, rfl, hz, hz', ZOk.new le lm seed, ZOk.new le' lm' seed', hh.to (show _ = zm + (zm' + (fr + (cell bb [.int .i64 le', .int .i64 lm'] + cell ab [.int .i64 le, .int .i64 lm]))) by ac_rfl)⟩
  clear hz hz' hh
  refine join_of ((), []) (fun Q => Two s t Q fr) ?_ ?_
  · rintro Q h g1
    obtain ⟨z, z', zm, zm', m', hL, hz, hz', ok, ok', hh⟩ := h.ex
    have h400 := ok.ok.len
    (try simp only [xl, xo, Bool.not_eq_true', decide_eq_false_iff_not, ite_not, List.size_toArray, List.length_cons, List.length_nil, Nat.reduceAdd, qt, decide_eq_true_eq, Int.toNat_zero, Int.toNat_natCast, Nat.zero_mul, Nat.mul_one, Nat.one_mul, List.toList_toArray, List.cons_append, List.nil_append, List.append_nil, true_and, and_true, Nat.zero_add, Nat.add_zero, Bool.not_true, Bool.not_false, if_true, if_false, reduceCtorEq, List.set_cons_zero, List.set_cons_succ])
    refine zset_Len_h hz ok hh fun G1 hh => ?_
    refine zset_Range_h hz ok hh fun G2 w wl hw hlw hh => ?_
    rw [rng_all] at hw hlw
    refine zset_Len_h hz' ok' (hh.front zm') fun G3 hh => ?_
    refine zset_Range_h hz' ok' hh fun G4 w2 wl2 hw2 hlw2 hh => ?_
    rw [rng_all, ← hL] at hw2 hlw2
    refine ref05_Same_h (l := z.L) (own_ents hw hlw (hh.front wl)) (own_ents hw2 hlw2 hh) (by omega) ?_
    exact hK G4 (hh.front fr).left
  · intro J hJ
    refine loop_i (fun k st G => ∃ i : Nat, i + k = acts.length ∧ st = (.int .i64 i, []) ∧ Two s t G fr) acts.length ⟨0, by omega, rfl, h0⟩ ?_
    clear h0
    rintro k _ g G ⟨i, hik, rfl, h⟩
    have hfr0 : Has G fr := by obtain ⟨z, z', zm, zm', m', _, _, _, _, _, hh⟩ := h.ex; exact (hh.front fr).left
    have hfr := hA G hfr0
    refine hfr.len ?_
    rw [List.length_map]
    (try simp only [xl, xo, Bool.not_eq_true', decide_eq_false_iff_not, ite_not, List.size_toArray, List.length_cons, List.length_nil, Nat.reduceAdd, qt, decide_eq_true_eq, Int.toNat_zero, Int.toNat_natCast, Nat.zero_mul, Nat.mul_one, Nat.one_mul, List.toList_toArray, List.cons_append, List.nil_append, List.append_nil, true_and, and_true, Nat.zero_add, Nat.add_zero, Bool.not_true, Bool.not_false, if_true, if_false, reduceCtorEq, List.set_cons_zero, List.set_cons_succ])
    by_cases hi : acts.length ≤ i
    · rw [if_neg (by omega)]; exact hJ G h
    rw [if_pos (by omega)]
    by_cases h1 : ¬ (i : Int) < 100
    · rw [if_neg h1]; exact hJ G h
    have h1 := Classical.not_not.1 h1
    rw [if_pos h1]
    have hg : acts[i]? = some (acts[i]'(by omega)) := List.getElem?_eq_getElem (by omega)
    generalize acts[i]'(by omega) = x at hg
    have hx := hrow x (List.mem_of_getElem? hg)
    obtain ⟨p, hp1, hp2⟩ := hfr.at (i := i) (r := actC x) (by rw [List.getElem?_map, hg]; rfl)
    refine hp1 (load_row hp2 ?_)
    obtain ⟨z, z', zm, zm', m', hL, hz, hz', ok, ok', hh⟩ := h.ex
    refine h_alloc hh fun xb G1 hh => ?_
    refine h_storeAll (b := xb) hh rfl rfl (by simp [Value.oneCell]) fun G2 hh => ?_
    have hn := name70_lt x.mem
    refine join_ofS (fun st Q => ∃ lv : Int, 1 ≤ lv ∧ lv ≤ 32 ∧ st = (.int .i64 lv, []) ∧ Has Q (cell xb (actC x) + (zm + (zm' + (fr + m'))))) ?_ ?_
    · rintro st Q ⟨lv, hl1, hl2, rfl, hh⟩ g1
      (try simp only [xl, xo, Bool.not_eq_true', decide_eq_false_iff_not, ite_not, List.size_toArray, List.length_cons, List.length_nil, Nat.reduceAdd, qt, decide_eq_true_eq, Int.toNat_zero, Int.toNat_natCast, Nat.zero_mul, Nat.mul_one, Nat.one_mul, List.toList_toArray, List.cons_append, List.nil_append, List.append_nil, true_and, and_true, Nat.zero_add, Nat.add_zero, Bool.not_true, Bool.not_false, if_true, if_false, reduceCtorEq, List.set_cons_zero, List.set_cons_succ])
      refine h_load (b := xb) hh rfl ?_
      refine law_Name_h ?_
      generalize name70 x.mem = nm at hn ⊢
      refine h_load (b := xb) hh rfl ?_
      (try simp only [xl, xo, Bool.not_eq_true', decide_eq_false_iff_not, ite_not, List.size_toArray, List.length_cons, List.length_nil, Nat.reduceAdd, qt, decide_eq_true_eq, Int.toNat_zero, Int.toNat_natCast, Nat.zero_mul, Nat.mul_one, Nat.one_mul, List.toList_toArray, List.cons_append, List.nil_append, List.append_nil, true_and, and_true, Nat.zero_add, Nat.add_zero, Bool.not_true, Bool.not_false, if_true, if_false, reduceCtorEq, List.set_cons_zero, List.set_cons_succ])
      refine ⟨by omega, ?_⟩
      generalize (IntKind.u64.wrap x.act).tmod 8 = o
      rw [w64 (n := (i : Int) + 1) (by omega)]
      have done : ∀ G', Two s t G' fr → ∃ k', k' < k ∧ ∃ i' : Nat, i' + k' = acts.length ∧ ((Value.int .i64 ((i : Int) + 1), []) : Value × List Deferred) = (.int .i64 i', []) ∧ Two s t G' fr := fun G' h => ⟨k - 1, by omega, i + 1, by omega, rfl, h⟩
      have nop : Two s t Q fr := ⟨z, z', zm, zm', _, hL, hz, hz', ok, ok', (hh.front (zm + (zm' + fr))).to (by simp only [mem_assoc]; rfl)⟩
      refine join_of (.bool (decide (o = 0 ∨ o = 1 ∨ o = 2 ∨ o = 3 ∨ o = 4)), []) (fun Q2 => Q2 = Q) ?_ ?_
      · rintro Q2 rfl g2
        by_cases h2 : o = 0 ∨ o = 1 ∨ o = 2 ∨ o = 3 ∨ o = 4
        · simp only [h2, decide_true]
          rw [x_splitT]
          (try simp only [xl, xo, Bool.not_eq_true', decide_eq_false_iff_not, ite_not, List.size_toArray, List.length_cons, List.length_nil, Nat.reduceAdd, qt, decide_eq_true_eq, Int.toNat_zero, Int.toNat_natCast, Nat.zero_mul, Nat.mul_one, Nat.one_mul, List.toList_toArray, List.cons_append, List.nil_append, List.append_nil, true_and, and_true, Nat.zero_add, Nat.add_zero, Bool.not_true, Bool.not_false, if_true, if_false, reduceCtorEq, List.set_cons_zero, List.set_cons_succ])
          refine h_load (b := xb) hh rfl ?_
          refine zset_Add_h hn hx hz ok (hh.front zm) fun G3 zm3 hz3 hh => ?_
          (try simp only [xl, xo, Bool.not_eq_true', decide_eq_false_iff_not, ite_not, List.size_toArray, List.length_cons, List.length_nil, Nat.reduceAdd, qt, decide_eq_true_eq, Int.toNat_zero, Int.toNat_natCast, Nat.zero_mul, Nat.mul_one, Nat.one_mul, List.toList_toArray, List.cons_append, List.nil_append, List.append_nil, true_and, and_true, Nat.zero_add, Nat.add_zero, Bool.not_true, Bool.not_false, if_true, if_false, reduceCtorEq, List.set_cons_zero, List.set_cons_succ])
          refine h_load (b := xb) hh rfl ?_
          refine zset_Add_h hn hx hz' ok' (hh.front zm') fun G4 zm4 hz4 hh => ?_
          obtain ⟨f1, f2, f3⟩ := zAdd_form (z := z) (z' := z') (x := nm) (sc := x.sc) (lv := 1) (lv' := lv) (by omega) ⟨hl1, hl2⟩ hL
          rw [f1, f2]
          (try simp only [xl, xo, Bool.not_eq_true', decide_eq_false_iff_not, ite_not, List.size_toArray, List.length_cons, List.length_nil, Nat.reduceAdd, qt, decide_eq_true_eq, Int.toNat_zero, Int.toNat_natCast, Nat.zero_mul, Nat.mul_one, Nat.one_mul, List.toList_toArray, List.cons_append, List.nil_append, List.append_nil, true_and, and_true, Nat.zero_add, Nat.add_zero, Bool.not_true, Bool.not_false, if_true, if_false, reduceCtorEq, List.set_cons_zero, List.set_cons_succ])
          simp only [beq_self_eq_true]
          (try simp only [xl, xo, Bool.not_eq_true', decide_eq_false_iff_not, ite_not, List.size_toArray, List.length_cons, List.length_nil, Nat.reduceAdd, qt, decide_eq_true_eq, Int.toNat_zero, Int.toNat_natCast, Nat.zero_mul, Nat.mul_one, Nat.one_mul, List.toList_toArray, List.cons_append, List.nil_append, List.append_nil, true_and, and_true, Nat.zero_add, Nat.add_zero, Bool.not_true, Bool.not_false, if_true, if_false, reduceCtorEq, List.set_cons_zero, List.set_cons_succ])
          exact forms_tail (Kf := fun H' => K (.bool false) H') (D := []) hn ⟨_, _, zm3, zm4, _, f3, hz3, hz4, ok.add nm 1 hx, ok'.add nm lv hx, (hh.front (zm3 + (zm4 + fr))).to (by simp only [mem_assoc]; rfl)⟩ done
        · simp only [h2, decide_false]
          rw [x_splitF]
          refine join_of (.bool (decide (o = 5 ∨ o = 6)), []) (fun Q3 => Q3 = Q2) ?_ ?_
          · rintro Q3 rfl g3
            by_cases h3 : o = 5 ∨ o = 6
            · simp only [h3, decide_true]
              rw [x_splitT]
              (try simp only [xl, xo, Bool.not_eq_true', decide_eq_false_iff_not, ite_not, List.size_toArray, List.length_cons, List.length_nil, Nat.reduceAdd, qt, decide_eq_true_eq, Int.toNat_zero, Int.toNat_natCast, Nat.zero_mul, Nat.mul_one, Nat.one_mul, List.toList_toArray, List.cons_append, List.nil_append, List.append_nil, true_and, and_true, Nat.zero_add, Nat.add_zero, Bool.not_true, Bool.not_false, if_true, if_false, reduceCtorEq, List.set_cons_zero, List.set_cons_succ])
              refine zset_Remove_h hn hz ok (hh.front zm) fun G3 zm3 hz3 hh => ?_
              refine zset_Remove_h hn hz' ok' (hh.front zm') fun G4 zm4 hz4 hh => ?_
              rw [hL]
              (try simp only [xl, xo, Bool.not_eq_true', decide_eq_false_iff_not, ite_not, List.size_toArray, List.length_cons, List.length_nil, Nat.reduceAdd, qt, decide_eq_true_eq, Int.toNat_zero, Int.toNat_natCast, Nat.zero_mul, Nat.mul_one, Nat.one_mul, List.toList_toArray, List.cons_append, List.nil_append, List.append_nil, true_and, and_true, Nat.zero_add, Nat.add_zero, Bool.not_true, Bool.not_false, if_true, if_false, reduceCtorEq, List.set_cons_zero, List.set_cons_succ])
              simp only [beq_self_eq_true]
              (try simp only [xl, xo, Bool.not_eq_true', decide_eq_false_iff_not, ite_not, List.size_toArray, List.length_cons, List.length_nil, Nat.reduceAdd, qt, decide_eq_true_eq, Int.toNat_zero, Int.toNat_natCast, Nat.zero_mul, Nat.mul_one, Nat.one_mul, List.toList_toArray, List.cons_append, List.nil_append, List.append_nil, true_and, and_true, Nat.zero_add, Nat.add_zero, Bool.not_true, Bool.not_false, if_true, if_false, reduceCtorEq, List.set_cons_zero, List.set_cons_succ])
              exact forms_tail (Kf := fun H' => K (.bool false) H') (D := []) hn ⟨_, _, zm3, zm4, _, by simp only [hL], hz3, hz4, ok.rem nm, ok'.rem nm, (hh.front (zm3 + (zm4 + fr))).to (by simp only [mem_assoc]; rfl)⟩ done
            · simp only [h3, decide_false]
              rw [x_splitF]
              (try simp only [xl, xo, Bool.not_eq_true', decide_eq_false_iff_not, ite_not, List.size_toArray, List.length_cons, List.length_nil, Nat.reduceAdd, qt, decide_eq_true_eq, Int.toNat_zero, Int.toNat_natCast, Nat.zero_mul, Nat.mul_one, Nat.one_mul, List.toList_toArray, List.cons_append, List.nil_append, List.append_nil, true_and, and_true, Nat.zero_add, Nat.add_zero, Bool.not_true, Bool.not_false, if_true, if_false, reduceCtorEq, List.set_cons_zero, List.set_cons_succ])
              by_cases h7 : o = 7
              · rw [if_pos h7]
                refine h_load (b := xb) hh rfl (h_load (b := xb) hh rfl (h_load (b := xb) hh rfl (h_load (b := xb) hh rfl ?_)))
                refine zset_Cut_h hz ok (hh.front zm) fun G3 zm3 hz3 hh => ⟨h_loadIs (b := xb) hh rfl, h_loadIs (b := xb) hh rfl, ?_⟩
                refine zset_Cut_h hz' ok' (hh.front zm') fun G4 zm4 hz4 hh => ?_
                rw [hL]
                (try simp only [xl, xo, Bool.not_eq_true', decide_eq_false_iff_not, ite_not, List.size_toArray, List.length_cons, List.length_nil, Nat.reduceAdd, qt, decide_eq_true_eq, Int.toNat_zero, Int.toNat_natCast, Nat.zero_mul, Nat.mul_one, Nat.one_mul, List.toList_toArray, List.cons_append, List.nil_append, List.append_nil, true_and, and_true, Nat.zero_add, Nat.add_zero, Bool.not_true, Bool.not_false, if_true, if_false, reduceCtorEq, List.set_cons_zero, List.set_cons_succ])
                exact forms_tail (Kf := fun H' => K (.bool false) H') (D := []) hn ⟨_, _, zm3, zm4, _, by simp only [hL], hz3, hz4, ok.cut x.fr x.to, ok'.cut x.fr x.to, (hh.front (zm3 + (zm4 + fr))).to (by simp only [mem_assoc]; rfl)⟩ done
              · rw [if_neg h7]
                exact forms_tail (Kf := fun H' => K (.bool false) H') (D := []) hn nop done
          · intro J3 hJ3
            have hJ3 := hJ3 Q2 rfl
            by_cases h3 : o = 5
            · simp only [h3, decide_true, if_true, true_or] at hJ3 ⊢
              exact hJ3
            · simp only [h3, decide_false, false_or, Bool.false_eq_true, if_false] at hJ3 ⊢
              exact hJ3
      · intro J3 hJ3
        have hJ := hJ3 Q rfl
        by_cases h0 : o = 0
        · simp only [h0, decide_true, if_true, true_or] at hJ ⊢; exact hJ
        simp only [h0, decide_false, false_or, Bool.false_eq_true, if_false] at hJ ⊢
        by_cases h1 : o = 1
        · simp only [h1, decide_true, if_true, true_or] at hJ ⊢; exact hJ
        simp only [h1, decide_false, false_or, Bool.false_eq_true, if_false] at hJ ⊢
        by_cases h2 : o = 2
        · simp only [h2, decide_true, if_true, true_or] at hJ ⊢; exact hJ
        simp only [h2, decide_false, false_or, Bool.false_eq_true, if_false] at hJ ⊢
        by_cases h3 : o = 3
        · simp only [h3, decide_true, if_true, true_or] at hJ ⊢; exact hJ
        simp only [h3, decide_false, false_or, Bool.false_eq_true, if_false] at hJ ⊢
        exact hJ
    · intro J2 hJ2
      have hB2 := hB G2 (hh.front fr).left
      refine RowsAt.len hB2 ?_
      rw [List.length_map]
      (try simp only [xl, xo, Bool.not_eq_true', decide_eq_false_iff_not, ite_not, List.size_toArray, List.length_cons, List.length_nil, Nat.reduceAdd, qt, decide_eq_true_eq, Int.toNat_zero, Int.toNat_natCast, Nat.zero_mul, Nat.mul_one, Nat.one_mul, List.toList_toArray, List.cons_append, List.nil_append, List.append_nil, true_and, and_true, Nat.zero_add, Nat.add_zero, Bool.not_true, Bool.not_false, if_true, if_false, reduceCtorEq, List.set_cons_zero, List.set_cons_succ])
      by_cases h3 : i < levs.length
      · rw [if_pos (by omega)]
        have hg3 : levs[i]? = some (levs[i]'h3) := List.getElem?_eq_getElem h3
        generalize levs[i]'h3 = n at hg3
        obtain ⟨q, hq1, hq2⟩ := IntsAt.at hB2 hg3
        refine hq1 (hq2 ?_)
        (try simp only [xl, xo, Bool.not_eq_true', decide_eq_false_iff_not, ite_not, List.size_toArray, List.length_cons, List.length_nil, Nat.reduceAdd, qt, decide_eq_true_eq, Int.toNat_zero, Int.toNat_natCast, Nat.zero_mul, Nat.mul_one, Nat.one_mul, List.toList_toArray, List.cons_append, List.nil_append, List.append_nil, true_and, and_true, Nat.zero_add, Nat.add_zero, Bool.not_true, Bool.not_false, if_true, if_false, reduceCtorEq, List.set_cons_zero, List.set_cons_succ])
        have h4 := and31 n
        generalize IntKind.i64.wrap ((BitVec.ofInt IntKind.i64.bits n &&& BitVec.ofInt IntKind.i64.bits 31).toNat : Nat) = a3 at h4 ⊢
        rw [w64 (n := 1 + a3) (by omega)]
        exact hJ2 _ G2 ⟨1 + a3, by omega, by omega, rfl, hh⟩
      · rw [if_neg (by omega)]
        exact hJ2 _ G2 ⟨1, by omega, by omega, rfl, hh⟩
end Go.X.W
