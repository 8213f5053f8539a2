/- Contracts: the reference's sets. Contracts: an act on a set and on the reference's set. Contract: Set.Scan. Contracts: ranges of scores and of members: the sets' and the reference's. -/
import Derived.Test.YtochkahbnhegaaaGreatZS18
set_option linter.unusedVariables false
set_option linter.unusedSimpArgs false
namespace Go.X.W
open Go Go.X Go.Proofs

variable {H : Heap} {m : Mem} {K : Value → Heap → Prop}

/-- The reference's set. -/
def RRep (z : ZSt) (r : Nat) (rm : Mem) : Prop := ∃ v sl, SlOwn 2 v (entsC z.L) sl ∧ lenV v = z.L.length ∧ rm = cell r [v, .int .i64 z.le, .int .i64 z.lm, .bool z.il] + sl

theorem ref_New_h {le lm : Int} (seed : Int) (hh : Has H m) (hK : ∀ H' r rm, RRep ⟨[], false, clampI 0 200 le, clampI 0 64 lm, seed⟩ r rm → Has H' (rm + m) → K (ptrV r) H') : CallH P f_palioref11_New [.agg #[.int .i64 le, .int .i64 lm]] H K := by
  apply k_palioref11_New
  unfold c_palioref11_New
  rw [x_boxN]
  refine h_allocA hh fun lb H1 hh => ?_
  (try simp only [xl, xo, Bool.not_eq_true', decide_eq_false_iff_not, ite_not, List.size_toArray, List.length_cons, List.length_nil, Nat.reduceAdd, qt, decide_eq_true_eq, Int.toNat_zero, Int.toNat_natCast, Nat.zero_mul, Nat.mul_one, Nat.one_mul, List.toList_toArray, List.cons_append, List.nil_append, List.append_nil, true_and, and_true, Nat.zero_add, Nat.add_zero, Bool.not_true, Bool.not_false, if_true, if_false, reduceCtorEq, List.set_cons_zero, List.set_cons_succ])
  refine h_load (b := lb) hh rfl ?_
  (try simp only [xl, xo, Bool.not_eq_true', decide_eq_false_iff_not, ite_not, List.size_toArray, List.length_cons, List.length_nil, Nat.reduceAdd, qt, decide_eq_true_eq, Int.toNat_zero, Int.toNat_natCast, Nat.zero_mul, Nat.mul_one, Nat.one_mul, List.toList_toArray, List.cons_append, List.nil_append, List.append_nil, true_and, and_true, Nat.zero_add, Nat.add_zero, Bool.not_true, Bool.not_false, if_true, if_false, reduceCtorEq, List.set_cons_zero, List.set_cons_succ])
  refine h_load (b := lb) hh rfl ?_
  (try simp only [xl, xo, Bool.not_eq_true', decide_eq_false_iff_not, ite_not, List.size_toArray, List.length_cons, List.length_nil, Nat.reduceAdd, qt, decide_eq_true_eq, Int.toNat_zero, Int.toNat_natCast, Nat.zero_mul, Nat.mul_one, Nat.one_mul, List.toList_toArray, List.cons_append, List.nil_append, List.append_nil, true_and, and_true, Nat.zero_add, Nat.add_zero, Bool.not_true, Bool.not_false, if_true, if_false, reduceCtorEq, List.set_cons_zero, List.set_cons_succ])
  refine h_alloc hh fun rb H2 hh => ?_
  refine hK H2 rb _ ⟨.slice none 0 0, emp, .inl ⟨rfl, rfl, rfl⟩, rfl, rfl⟩ ?_
  rw [add_emp]
  exact (hh.front (cell rb [.slice none 0 0, .int .i64 (max 0 (min 200 le)), .int .i64 (max 0 (min 64 lm)), .bool false] + m)).left

section
variable {z : ZSt} {r : Nat} {rm : Mem}
theorem RRep.ents {v : Value} {sl : Mem} {l : List Ent} (h : SlOwn 2 v (entsC l) sl) (hl : lenV v = l.length) {m' : Mem} (hm : ∃ x, m' = sl + x) : ∀ H', Has H' m' → EntsAt H' v l := fun H' hh => by
  obtain ⟨x, rfl⟩ := hm
  exact own_ents h hl hh

theorem ref_Sorted_h {v : Value} {l : List Ent} {e : Ent} (hh : Has H m) (hr : ∀ H', Has H' m → EntsAt H' v l) (hc : ∀ a n c, v = .slice a n c → n ≤ c) (ok : LOk l) (hb : l.length < 100000)
    (hK : ∀ H' w sl, SlOwn 2 w (entsC (insAt l (cntE e l) e)) sl → lenV w = (insAt l (cntE e l) e).length → Has H' (sl + m) → K w H') : CallH P f_palioref11_Sorted [v, entV e] H K := by
  apply k_palioref11_Sorted
  unfold c_palioref11_Sorted
  rw [x_boxN]
  refine h_allocA hh fun eb H1 hh => ?_
  have hcl := cntE_le e l
  refine join_of (.int .i64 (cntE e l : Nat), []) (fun Q => ∃ m', Has Q (cell eb (entC e) + (m + m'))) ?_ ?_
  · rintro Q ⟨m', hh⟩ g
    (try simp only [xl, xo, Bool.not_eq_true', decide_eq_false_iff_not, ite_not, List.size_toArray, List.length_cons, List.length_nil, Nat.reduceAdd, qt, decide_eq_true_eq, Int.toNat_zero, Int.toNat_natCast, Nat.zero_mul, Nat.mul_one, Nat.one_mul, List.toList_toArray, List.cons_append, List.nil_append, List.append_nil, true_and, and_true, Nat.zero_add, Nat.add_zero, Bool.not_true, Bool.not_false, if_true, if_false, reduceCtorEq, List.set_cons_zero, List.set_cons_succ])
    refine h_load2 (b := eb) hh rfl rfl ?_
    refine ref05_Insert_h (m := m + (cell eb (entC e) + m')) (hh.to (by ac_rfl)) (fun H' h => hr H' h.left) hc hcl hb fun H2 w sl hw hlw hh => ?_
    exact hK H2 w sl hw hlw (hh.front (sl + m)).left
  · intro J hJ
    refine loop_i (fun k s Q => ∃ (i : Nat) (m' : Mem), i + k = cntE e l ∧ s = (.int .i64 i, []) ∧ Has Q (cell eb (entC e) + (m + m'))) (cntE e l) ⟨0, emp, by omega, rfl, hh.to (by rw [add_emp])⟩ ?_
    clear hh
    rintro k _ g Q ⟨i, m', hik, rfl, hh⟩
    have hrq := hr Q (hh.front m).left
    refine hrq.len ?_
    (try simp only [xl, xo, Bool.not_eq_true', decide_eq_false_iff_not, ite_not, List.size_toArray, List.length_cons, List.length_nil, Nat.reduceAdd, qt, decide_eq_true_eq, Int.toNat_zero, Int.toNat_natCast, Nat.zero_mul, Nat.mul_one, Nat.one_mul, List.toList_toArray, List.cons_append, List.nil_append, List.append_nil, true_and, and_true, Nat.zero_add, Nat.add_zero, Bool.not_true, Bool.not_false, if_true, if_false, reduceCtorEq, List.set_cons_zero, List.set_cons_succ])
    by_cases hi : i < l.length
    · rw [if_pos (by omega)]
      have hg : l[i]? = some (l[i]'hi) := List.getElem?_eq_getElem hi
      generalize l[i]'hi = a at hg
      obtain ⟨p, hp1, hp2⟩ := hrq.at hg
      refine hp1 (load_row hp2 (h_load2 (b := eb) hh rfl rfl ?_))
      refine ref09_Less_h (a := a) (b := e) (Nat.le_of_lt (Nat.lt_of_lt_of_le (ekey (ok.ok a (List.mem_of_getElem? hg))) (by omega))) hh fun Q2 hh => ?_
      rw [cntE_spec ok.sorted i a hg]
      (try simp only [xl, xo, Bool.not_eq_true', decide_eq_false_iff_not, ite_not, List.size_toArray, List.length_cons, List.length_nil, Nat.reduceAdd, qt, decide_eq_true_eq, Int.toNat_zero, Int.toNat_natCast, Nat.zero_mul, Nat.mul_one, Nat.one_mul, List.toList_toArray, List.cons_append, List.nil_append, List.append_nil, true_and, and_true, Nat.zero_add, Nat.add_zero, Bool.not_true, Bool.not_false, if_true, if_false, reduceCtorEq, List.set_cons_zero, List.set_cons_succ])
      by_cases hc2 : i + 1 ≤ cntE e l
      · rw [if_pos (by simpa using hc2), w64 (by omega)]
        exact ⟨k - 1, by omega, i + 1, m', by omega, rfl, hh⟩
      · rw [if_neg (by simpa using hc2)]
        have : i = cntE e l := by omega
        subst this
        exact hJ Q2 ⟨m', hh⟩
    · rw [if_neg (by omega)]
      have : i = cntE e l := by omega
      subst this
      exact hJ Q ⟨m', hh⟩

theorem fndI_neg {x : ByteArray} {l : List Ent} : (fndI x l < 0) ↔ fnd x l = none := by
  unfold fndI
  cases fnd x l with
  | none => simp
  | some i => simp
theorem fndI_some {x : ByteArray} {l : List Ent} {i : Nat} (h : fnd x l = some i) : fndI x l = i := by simp [fndI, h]

theorem ref_Add_h {x : ByteArray} {sc lv : Int} (hsc : -9223372036854775808 ≤ sc ∧ sc ≤ 9223372036854775807) (hz : RRep z r rm) (ok : ZOk z) (hh : Has H (rm + m))
    (hK : ∀ H' rm', RRep (zAdd z x sc lv).2.2 r rm' → Has H' (rm' + m) → K (.tuple #[.bool (zAdd z x sc lv).1, .int .i64 (zAdd z x sc lv).2.1]) H') : CallH P f_palioref11_Set_Add [ptrV r, .string x, .int .i64 sc, .int .i64 lv] H K := by
  apply k_palioref11_Set_Add
  unfold c_palioref11_Set_Add
  (try simp only [xl, xo, Bool.not_eq_true', decide_eq_false_iff_not, ite_not, List.size_toArray, List.length_cons, List.length_nil, Nat.reduceAdd, qt, decide_eq_true_eq, Int.toNat_zero, Int.toNat_natCast, Nat.zero_mul, Nat.mul_one, Nat.one_mul, List.toList_toArray, List.cons_append, List.nil_append, List.append_nil, true_and, and_true, Nat.zero_add, Nat.add_zero, Bool.not_true, Bool.not_false, if_true, if_false, reduceCtorEq, List.set_cons_zero, List.set_cons_succ])
  by_cases hbad : 64 < x.size ∨ lv < 1 ∨ 32 < lv
  · have ez : zAdd z x sc lv = (false, 2, z) := by unfold zAdd; rw [if_pos hbad]
    rw [ez] at hK
    by_cases h1 : (64 : Int) < x.size
    · rw [if_pos h1]; exact hK H rm hz hh
    · rw [if_neg h1]
      by_cases h2 : lv < 1
      · rw [if_pos h2]; exact hK H rm hz hh
      · rw [if_neg h2, if_pos (by omega)]; exact hK H rm hz hh
  · rw [if_neg (by omega), if_neg (by omega), if_neg (by omega)]
    obtain ⟨v, sl, hv, hlv, rfl⟩ := hz
    have h400 := ok.ok.len
    refine h_load (b := r) hh rfl ?_
    refine ref05_Find_h (own_ents (m := cell r [v, .int .i64 z.le, .int .i64 z.lm, .bool z.il] + m) hv hlv (hh.to (by ac_rfl))) (by omega) ?_
    have okr := ok.rem x
    have hrn := rem_none (x := x) ok.ok.nodup
    have hrl := rem_len (x := x) (l := z.L)
    refine join_of ((), []) (fun Q => Q = H ∧ ¬ ((fnd x z.L).isNone = true ∧ z.L.length = 400)) ?_ ?_
    · rintro Q ⟨rfl, hnf⟩ g1
      have ez : zAdd z x sc lv = ((fnd x z.L).isNone, 0, { z with L := zAddL z x sc, il := zAddI z x }) := by unfold zAdd; rw [if_neg hbad, if_neg hnf]
      rw [ez] at hK
      refine join_of ((), []) (fun Q => ∃ w wl m', SlOwn 2 w (entsC (rem x z.L)) wl ∧ lenV w = (rem x z.L).length ∧ Has Q (cell r [w, .int .i64 z.le, .int .i64 z.lm, .bool z.il] + (wl + (m + m')))) ?_ ?_
      · rintro Q2 ⟨w, wl, m', hw, hlw, hh⟩ g2
        (try simp only [xl, xo, Bool.not_eq_true', decide_eq_false_iff_not, ite_not, List.size_toArray, List.length_cons, List.length_nil, Nat.reduceAdd, qt, decide_eq_true_eq, Int.toNat_zero, Int.toNat_natCast, Nat.zero_mul, Nat.mul_one, Nat.one_mul, List.toList_toArray, List.cons_append, List.nil_append, List.append_nil, true_and, and_true, Nat.zero_add, Nat.add_zero, Bool.not_true, Bool.not_false, if_true, if_false, reduceCtorEq, List.set_cons_zero, List.set_cons_succ])
        refine h_load (b := r) hh rfl ?_
        (try simp only [xl, xo, Bool.not_eq_true', decide_eq_false_iff_not, ite_not, List.size_toArray, List.length_cons, List.length_nil, Nat.reduceAdd, qt, decide_eq_true_eq, Int.toNat_zero, Int.toNat_natCast, Nat.zero_mul, Nat.mul_one, Nat.one_mul, List.toList_toArray, List.cons_append, List.nil_append, List.append_nil, true_and, and_true, Nat.zero_add, Nat.add_zero, Bool.not_true, Bool.not_false, if_true, if_false, reduceCtorEq, List.set_cons_zero, List.set_cons_succ])
        refine ref_Sorted_h (e := (x, sc)) hh (fun H' h => own_ents (m := cell r [w, .int .i64 z.le, .int .i64 z.lm, .bool z.il] + (m + m')) hw hlw (h.to (by ac_rfl))) (own_cap hw) okr.ok (by omega) fun H3 u ul hu hlu hh => ?_
        have hcl := cntE_le (x, sc) (rem x z.L)
        have hll : (insAt (rem x z.L) (cntE (x, sc) (rem x z.L)) (x, sc)).length = (rem x z.L).length + 1 := by simp [insAt]; omega
        refine h_store (b := r) hh (own_oc hu) (by simp) fun H4 hh => ?_
        simp only [List.set_cons_zero] at hh
        refine h_load (b := r) hh rfl ?_
        refine own_len hu ?_
        rw [hlu, hll]
        refine h_load (b := r) hh rfl ?_
        (try simp only [xl, xo, Bool.not_eq_true', decide_eq_false_iff_not, ite_not, List.size_toArray, List.length_cons, List.length_nil, Nat.reduceAdd, qt, decide_eq_true_eq, Int.toNat_zero, Int.toNat_natCast, Nat.zero_mul, Nat.mul_one, Nat.one_mul, List.toList_toArray, List.cons_append, List.nil_append, List.append_nil, true_and, and_true, Nat.zero_add, Nat.add_zero, Bool.not_true, Bool.not_false, if_true, if_false, reduceCtorEq, List.set_cons_zero, List.set_cons_succ])
        have fin : ∀ Q, zAddI z x = true → Has Q (cell r [u, .int .i64 z.le, .int .i64 z.lm, .bool true] + (ul + m)) → K (.tuple #[.bool (fnd x z.L).isNone, .int .i64 0]) Q := fun Q hi hh => by
          have := hK Q _ ⟨u, ul, hu, hlu, rfl⟩ (hh.to (by rw [hi]; ac_rfl))
          exact this
        have hneg : decide (fndI x z.L < 0) = (fnd x z.L).isNone := by
          cases hf : fnd x z.L with
          | none => simp [fndI, hf]
          | some i => simp [fndI, hf]
        by_cases h1 : z.le < ((rem x z.L).length : Int) + 1
        · rw [if_pos (by omega)]
          refine h_store (b := r) hh rfl (by simp) fun H5 hh => ?_
          simp only [List.set_cons_zero, List.set_cons_succ] at hh
          rw [hneg]
          exact fin H5 (by unfold zAddI; simp [h1]) (hh.front (cell r [u, .int .i64 z.le, .int .i64 z.lm, .bool true] + (ul + m))).left
        · rw [if_neg (by omega)]
          refine h_load (b := r) hh rfl ?_
          (try simp only [xl, xo, Bool.not_eq_true', decide_eq_false_iff_not, ite_not, List.size_toArray, List.length_cons, List.length_nil, Nat.reduceAdd, qt, decide_eq_true_eq, Int.toNat_zero, Int.toNat_natCast, Nat.zero_mul, Nat.mul_one, Nat.one_mul, List.toList_toArray, List.cons_append, List.nil_append, List.append_nil, true_and, and_true, Nat.zero_add, Nat.add_zero, Bool.not_true, Bool.not_false, if_true, if_false, reduceCtorEq, List.set_cons_zero, List.set_cons_succ])
          by_cases h2 : z.lm < (x.size : Int)
          · rw [if_pos h2]
            refine h_store (b := r) hh rfl (by simp) fun H5 hh => ?_
            simp only [List.set_cons_zero, List.set_cons_succ] at hh
            rw [hneg]
            exact fin H5 (by unfold zAddI; simp [h2]) (hh.front (cell r [u, .int .i64 z.le, .int .i64 z.lm, .bool true] + (ul + m))).left
          · rw [if_neg h2, hneg]
            have hi : zAddI z x = z.il := by unfold zAddI; simp [h1, h2]
            have := hK H4 _ ⟨u, ul, hu, hlu, rfl⟩ ((hh.front (cell r [u, .int .i64 z.le, .int .i64 z.lm, .bool z.il] + (ul + m))).left.to (by rw [hi]; ac_rfl))
            exact this
      · intro J hJ
        (try simp only [xl, xo, Bool.not_eq_true', decide_eq_false_iff_not, ite_not, List.size_toArray, List.length_cons, List.length_nil, Nat.reduceAdd, qt, decide_eq_true_eq, Int.toNat_zero, Int.toNat_natCast, Nat.zero_mul, Nat.mul_one, Nat.one_mul, List.toList_toArray, List.cons_append, List.nil_append, List.append_nil, true_and, and_true, Nat.zero_add, Nat.add_zero, Bool.not_true, Bool.not_false, if_true, if_false, reduceCtorEq, List.set_cons_zero, List.set_cons_succ])
        cases hfx : fnd x z.L with
        | none =>
          have e : rem x z.L = z.L := by simp [rem, hfx]
          rw [if_neg (by simp [fndI, hfx])]
          refine hJ Q ⟨v, sl, emp, by rw [e]; exact hv, by rw [e]; exact hlv, hh.to (by rw [add_emp]; ac_rfl)⟩
        | some i =>
          obtain ⟨sc0, h1, h2⟩ := sco_fnd hfx
          have hi := (List.getElem?_eq_some_iff.1 h1).1
          have e : rem x z.L = delAt z.L i := by simp [rem, hfx]
          rw [fndI_some hfx, if_pos (by omega)]
          refine h_load (b := r) hh rfl ?_
          refine ref05_Delete_h hh (fun H' h => own_ents (m := cell r [v, .int .i64 z.le, .int .i64 z.lm, .bool z.il] + m) hv hlv (h.to (by ac_rfl))) (own_cap hv) hi (by omega) fun H3 u ul hu hlu hh => ?_
          refine h_store (b := r) hh (own_oc hu) (by simp) fun H4 hh => ?_
          simp only [List.set_cons_zero] at hh
          refine hJ H4 ⟨u, ul, sl, by rw [e]; exact hu, by rw [e]; exact hlu, hh.to (by ac_rfl)⟩
    · intro J hJ
      (try simp only [xl, xo, Bool.not_eq_true', decide_eq_false_iff_not, ite_not, List.size_toArray, List.length_cons, List.length_nil, Nat.reduceAdd, qt, decide_eq_true_eq, Int.toNat_zero, Int.toNat_natCast, Nat.zero_mul, Nat.mul_one, Nat.one_mul, List.toList_toArray, List.cons_append, List.nil_append, List.append_nil, true_and, and_true, Nat.zero_add, Nat.add_zero, Bool.not_true, Bool.not_false, if_true, if_false, reduceCtorEq, List.set_cons_zero, List.set_cons_succ])
      cases hfx : fnd x z.L with
      | some i =>
        rw [fndI_some hfx, if_neg (by omega)]
        exact hJ H ⟨rfl, by rw [hfx]; simp⟩
      | none =>
        rw [if_pos (fndI_neg.2 hfx)]
        refine h_load (b := r) hh rfl ?_
        refine own_len hv ?_
        rw [hlv]
        (try simp only [xl, xo, Bool.not_eq_true', decide_eq_false_iff_not, ite_not, List.size_toArray, List.length_cons, List.length_nil, Nat.reduceAdd, qt, decide_eq_true_eq, Int.toNat_zero, Int.toNat_natCast, Nat.zero_mul, Nat.mul_one, Nat.one_mul, List.toList_toArray, List.cons_append, List.nil_append, List.append_nil, true_and, and_true, Nat.zero_add, Nat.add_zero, Bool.not_true, Bool.not_false, if_true, if_false, reduceCtorEq, List.set_cons_zero, List.set_cons_succ])
        by_cases hfull : z.L.length = 400
        · rw [if_pos (by omega)]
          have ez : zAdd z x sc lv = (false, 51, z) := by unfold zAdd; rw [if_neg hbad, if_pos ⟨by rw [hfx]; rfl, hfull⟩]
          rw [ez] at hK
          exact hK H _ ⟨v, sl, hv, hlv, rfl⟩ hh
        · rw [if_neg (by omega)]
          exact hJ H ⟨rfl, by simp [hfull]⟩

theorem ref_Remove_h {x : ByteArray} (hz : RRep z r rm) (ok : ZOk z) (hh : Has H (rm + m)) (hK : ∀ H' rm', RRep { z with L := rem x z.L } r rm' → Has H' (rm' + m) → K (.bool (fnd x z.L).isSome) H') : CallH P f_palioref11_Set_Remove [ptrV r, .string x] H K := by
  obtain ⟨v, sl, hv, hlv, rfl⟩ := hz
  apply k_palioref11_Set_Remove
  unfold c_palioref11_Set_Remove
  have h400 := ok.ok.len
  (try simp only [xl, xo, Bool.not_eq_true', decide_eq_false_iff_not, ite_not, List.size_toArray, List.length_cons, List.length_nil, Nat.reduceAdd, qt, decide_eq_true_eq, Int.toNat_zero, Int.toNat_natCast, Nat.zero_mul, Nat.mul_one, Nat.one_mul, List.toList_toArray, List.cons_append, List.nil_append, List.append_nil, true_and, and_true, Nat.zero_add, Nat.add_zero, Bool.not_true, Bool.not_false, if_true, if_false, reduceCtorEq, List.set_cons_zero, List.set_cons_succ])
  refine h_load (b := r) hh rfl ?_
  refine ref05_Find_h (own_ents (m := cell r [v, .int .i64 z.le, .int .i64 z.lm, .bool z.il] + m) hv hlv (hh.to (by ac_rfl))) (by omega) ?_
  (try simp only [xl, xo, Bool.not_eq_true', decide_eq_false_iff_not, ite_not, List.size_toArray, List.length_cons, List.length_nil, Nat.reduceAdd, qt, decide_eq_true_eq, Int.toNat_zero, Int.toNat_natCast, Nat.zero_mul, Nat.mul_one, Nat.one_mul, List.toList_toArray, List.cons_append, List.nil_append, List.append_nil, true_and, and_true, Nat.zero_add, Nat.add_zero, Bool.not_true, Bool.not_false, if_true, if_false, reduceCtorEq, List.set_cons_zero, List.set_cons_succ])
  cases hfx : fnd x z.L with
  | none =>
    have e : rem x z.L = z.L := by simp [rem, hfx]
    have hneg : ¬ 0 ≤ fndI x z.L := by simp [fndI, hfx]
    rw [if_neg hneg]
    have := hK H _ ⟨v, sl, by rw [e]; exact hv, by rw [e]; exact hlv, rfl⟩ hh
    rw [hfx] at this
    simp only [hneg, decide_false]
    exact this
  | some i =>
    obtain ⟨sc0, h1, h2⟩ := sco_fnd hfx
    have hi := (List.getElem?_eq_some_iff.1 h1).1
    have e : rem x z.L = delAt z.L i := by simp [rem, hfx]
    rw [fndI_some hfx, if_pos (by omega)]
    refine h_load (b := r) hh rfl ?_
    refine ref05_Delete_h hh (fun H' h => own_ents (m := cell r [v, .int .i64 z.le, .int .i64 z.lm, .bool z.il] + m) hv hlv (h.to (by ac_rfl))) (own_cap hv) hi (by omega) fun H3 u ul hu hlu hh => ?_
    refine h_store (b := r) hh (own_oc hu) (by simp) fun H4 hh => ?_
    simp only [List.set_cons_zero] at hh
    have := hK H4 (cell r [u, .int .i64 z.le, .int .i64 z.lm, .bool z.il] + ul) ⟨u, ul, by rw [e]; exact hu, by rw [e]; exact hlu, rfl⟩ (hh.front (cell r [u, .int .i64 z.le, .int .i64 z.lm, .bool z.il] + ul + m)).left
    rw [hfx] at this
    have hp : decide ((0 : Int) ≤ (i : Int)) = true := by simp
    rw [hp]
    exact this

theorem ref_Range_h {f t : Int} (hz : RRep z r rm) (hh : Has H (rm + m)) (hK : ∀ v, EntsAt H v (rng f t z.L) → (∀ H', Has H' (rm + m) → EntsAt H' v (rng f t z.L)) → K v H) : CallH P f_palioref11_Set_Range [ptrV r, .int .i64 f, .int .i64 t] H K := by
  obtain ⟨v, sl, hv, hlv, rfl⟩ := hz
  apply k_palioref11_Set_Range
  unfold c_palioref11_Set_Range
  have hft := fromto f t z.L.length
  (try simp only [xl, xo, Bool.not_eq_true', decide_eq_false_iff_not, ite_not, List.size_toArray, List.length_cons, List.length_nil, Nat.reduceAdd, qt, decide_eq_true_eq, Int.toNat_zero, Int.toNat_natCast, Nat.zero_mul, Nat.mul_one, Nat.one_mul, List.toList_toArray, List.cons_append, List.nil_append, List.append_nil, true_and, and_true, Nat.zero_add, Nat.add_zero, Bool.not_true, Bool.not_false, if_true, if_false, reduceCtorEq, List.set_cons_zero, List.set_cons_succ])
  refine h_load (b := r) hh rfl ?_
  refine own_len hv ?_
  rw [hlv]
  (try simp only [xl, xo, Bool.not_eq_true', decide_eq_false_iff_not, ite_not, List.size_toArray, List.length_cons, List.length_nil, Nat.reduceAdd, qt, decide_eq_true_eq, Int.toNat_zero, Int.toNat_natCast, Nat.zero_mul, Nat.mul_one, Nat.one_mul, List.toList_toArray, List.cons_append, List.nil_append, List.append_nil, true_and, and_true, Nat.zero_add, Nat.add_zero, Bool.not_true, Bool.not_false, if_true, if_false, reduceCtorEq, List.set_cons_zero, List.set_cons_succ])
  refine h_load (b := r) hh rfl ?_
  refine own_len hv ?_
  rw [hlv]
  (try simp only [xl, xo, Bool.not_eq_true', decide_eq_false_iff_not, ite_not, List.size_toArray, List.length_cons, List.length_nil, Nat.reduceAdd, qt, decide_eq_true_eq, Int.toNat_zero, Int.toNat_natCast, Nat.zero_mul, Nat.mul_one, Nat.one_mul, List.toList_toArray, List.cons_append, List.nil_append, List.append_nil, true_and, and_true, Nat.zero_add, Nat.add_zero, Bool.not_true, Bool.not_false, if_true, if_false, reduceCtorEq, List.set_cons_zero, List.set_cons_succ])
  refine h_load (b := r) hh rfl ?_
  rw [toN_eq, fromN_eq]
  have hr : ∀ H', Has H' (cell r [v, .int .i64 z.le, .int .i64 z.lm, .bool z.il] + sl + m) → EntsAt H' v z.L := fun H' h => own_ents (m := cell r [v, .int .i64 z.le, .int .i64 z.lm, .bool z.il] + m) hv hlv (h.to (by ac_rfl))
  refine RowsAt.piece (f := fromN f z.L.length) (t := toN f t z.L.length) (hr H hh) (own_cap hv) (by rw [List.length_map]; exact hft) (fun c h => ⟨by rw [List.length_map] at h; omega, (Int.toNat_natCast _).symm⟩) ⟨by omega, (Int.toNat_natCast _).symm⟩ fun w hw hw2 _ => ?_
  rw [map_take_drop] at hw
  refine hK w hw fun H' h => ?_
  have := hw2 H' (hr H' h)
  rwa [map_take_drop] at this

theorem ref_Cut_h {f t : Int} (hz : RRep z r rm) (ok : ZOk z) (hh : Has H (rm + m)) (hK : ∀ H' rm', RRep { z with L := cutL f t z.L } r rm' → Has H' (rm' + m) → K (.int .i64 (cutN f t z.L : Nat)) H') : CallH P f_palioref11_Set_Cut [ptrV r, .int .i64 f, .int .i64 t] H K := by
  obtain ⟨v, sl, hv, hlv, rfl⟩ := hz
  apply k_palioref11_Set_Cut
  unfold c_palioref11_Set_Cut
  have hft := fromto f t z.L.length
  have h400 := ok.ok.len
  (try simp only [xl, xo, Bool.not_eq_true', decide_eq_false_iff_not, ite_not, List.size_toArray, List.length_cons, List.length_nil, Nat.reduceAdd, qt, decide_eq_true_eq, Int.toNat_zero, Int.toNat_natCast, Nat.zero_mul, Nat.mul_one, Nat.one_mul, List.toList_toArray, List.cons_append, List.nil_append, List.append_nil, true_and, and_true, Nat.zero_add, Nat.add_zero, Bool.not_true, Bool.not_false, if_true, if_false, reduceCtorEq, List.set_cons_zero, List.set_cons_succ])
  refine h_load (b := r) hh rfl ?_
  refine own_len hv ?_
  rw [hlv]
  (try simp only [xl, xo, Bool.not_eq_true', decide_eq_false_iff_not, ite_not, List.size_toArray, List.length_cons, List.length_nil, Nat.reduceAdd, qt, decide_eq_true_eq, Int.toNat_zero, Int.toNat_natCast, Nat.zero_mul, Nat.mul_one, Nat.one_mul, List.toList_toArray, List.cons_append, List.nil_append, List.append_nil, true_and, and_true, Nat.zero_add, Nat.add_zero, Bool.not_true, Bool.not_false, if_true, if_false, reduceCtorEq, List.set_cons_zero, List.set_cons_succ])
  refine h_load (b := r) hh rfl ?_
  refine own_len hv ?_
  rw [hlv]
  (try simp only [xl, xo, Bool.not_eq_true', decide_eq_false_iff_not, ite_not, List.size_toArray, List.length_cons, List.length_nil, Nat.reduceAdd, qt, decide_eq_true_eq, Int.toNat_zero, Int.toNat_natCast, Nat.zero_mul, Nat.mul_one, Nat.one_mul, List.toList_toArray, List.cons_append, List.nil_append, List.append_nil, true_and, and_true, Nat.zero_add, Nat.add_zero, Bool.not_true, Bool.not_false, if_true, if_false, reduceCtorEq, List.set_cons_zero, List.set_cons_succ])
  refine h_load (b := r) hh rfl ?_
  rw [toN_eq, fromN_eq]
  have hr : ∀ H', Has H' (cell r [v, .int .i64 z.le, .int .i64 z.lm, .bool z.il] + sl + m) → EntsAt H' v z.L := fun H' h => own_ents (m := cell r [v, .int .i64 z.le, .int .i64 z.lm, .bool z.il] + m) hv hlv (h.to (by ac_rfl))
  have hct : (cutL f t z.L) = z.L.take (fromN f z.L.length) ++ z.L.drop (toN f t z.L.length) := rfl
  have hcn : cutN f t z.L = toN f t z.L.length - fromN f z.L.length := rfl
  rw [hct, hcn] at hK
  generalize fromN f z.L.length = a at *
  generalize toN f t z.L.length = y at *
  refine RowsAt.piece (f := 0) (t := a) (hr H hh) (own_cap hv) (by rw [List.length_map]; omega) (fun c h => ⟨by rw [List.length_map] at h; omega, by simp⟩) rfl fun w hw _ _ => ?_
  rw [map_take_drop, List.drop_zero, Nat.sub_zero] at hw
  refine h_appendE (l := []) (sl := emp) (.inl ⟨rfl, rfl, rfl⟩) (by rw [emp_add]; exact hh) hw (by simp; omega) fun u ul H2 hu hh hlu => ?_
  rw [List.nil_append] at hu hlu
  (try simp only [xl, xo, Bool.not_eq_true', decide_eq_false_iff_not, ite_not, List.size_toArray, List.length_cons, List.length_nil, Nat.reduceAdd, qt, decide_eq_true_eq, Int.toNat_zero, Int.toNat_natCast, Nat.zero_mul, Nat.mul_one, Nat.one_mul, List.toList_toArray, List.cons_append, List.nil_append, List.append_nil, true_and, and_true, Nat.zero_add, Nat.add_zero, Bool.not_true, Bool.not_false, if_true, if_false, reduceCtorEq, List.set_cons_zero, List.set_cons_succ])
  refine h_load (b := r) hh rfl ?_
  refine RowsAt.piece (f := y) (t := z.L.length) (hr H2 hh.right) (own_cap hv) (by rw [List.length_map]; omega) (fun c h => by rw [List.length_map]; rfl) ⟨by omega, by simp⟩ fun w' hw' _ _ => ?_
  rw [map_take_drop, List.take_of_length_le (by rw [List.length_drop]; omega)] at hw'
  refine h_appendE hu hh hw' (by simp; omega) fun u' ul' H3 hu' hh hlu' => ?_
  refine h_store (b := r) hh (own_oc hu') (by simp) fun H4 hh => ?_
  simp only [List.set_cons_zero] at hh
  (try simp only [xl, xo, Bool.not_eq_true', decide_eq_false_iff_not, ite_not, List.size_toArray, List.length_cons, List.length_nil, Nat.reduceAdd, qt, decide_eq_true_eq, Int.toNat_zero, Int.toNat_natCast, Nat.zero_mul, Nat.mul_one, Nat.one_mul, List.toList_toArray, List.cons_append, List.nil_append, List.append_nil, true_and, and_true, Nat.zero_add, Nat.add_zero, Bool.not_true, Bool.not_false, if_true, if_false, reduceCtorEq, List.set_cons_zero, List.set_cons_succ])
  rw [w64 (by omega)]
  have := hK H4 (cell r [u', .int .i64 z.le, .int .i64 z.lm, .bool z.il] + ul') ⟨u', ul', hu', hlu', rfl⟩ (hh.front (cell r [u', .int .i64 z.le, .int .i64 z.lm, .bool z.il] + ul' + m)).left
  rw [show ((y - a : Nat) : Int) = (y : Int) - a by omega] at this
  exact this

theorem ref_Encoding_h (hz : RRep z r rm) (hh : Has H (rm + m)) (hK : K (.string (if z.il then listS else packN)) H) : CallH P f_palioref11_Set_Encoding [ptrV r] H K := by
  obtain ⟨v, sl, hv, hlv, rfl⟩ := hz
  apply k_palioref11_Set_Encoding
  unfold c_palioref11_Set_Encoding
  (try simp only [xl, xo, Bool.not_eq_true', decide_eq_false_iff_not, ite_not, List.size_toArray, List.length_cons, List.length_nil, Nat.reduceAdd, qt, decide_eq_true_eq, Int.toNat_zero, Int.toNat_natCast, Nat.zero_mul, Nat.mul_one, Nat.one_mul, List.toList_toArray, List.cons_append, List.nil_append, List.append_nil, true_and, and_true, Nat.zero_add, Nat.add_zero, Bool.not_true, Bool.not_false, if_true, if_false, reduceCtorEq, List.set_cons_zero, List.set_cons_succ])
  refine h_load (b := r) hh rfl ?_
  (try simp only [xl, xo, Bool.not_eq_true', decide_eq_false_iff_not, ite_not, List.size_toArray, List.length_cons, List.length_nil, Nat.reduceAdd, qt, decide_eq_true_eq, Int.toNat_zero, Int.toNat_natCast, Nat.zero_mul, Nat.mul_one, Nat.one_mul, List.toList_toArray, List.cons_append, List.nil_append, List.append_nil, true_and, and_true, Nat.zero_add, Nat.add_zero, Bool.not_true, Bool.not_false, if_true, if_false, reduceCtorEq, List.set_cons_zero, List.set_cons_succ])
  cases hi : z.il <;> rw [hi] at hK <;> exact hK

theorem ref_Bytes_h (hz : RRep z r rm) (ok : ZOk z) (hh : Has H (rm + m)) (hK : K (.int .i64 (byts z.il z.L : Nat)) H) : CallH P f_palioref11_Set_Bytes [ptrV r] H K := by
  obtain ⟨v, sl, hv, hlv, rfl⟩ := hz
  apply k_palioref11_Set_Bytes
  unfold c_palioref11_Set_Bytes
  have h400 := ok.ok.len
  have hr : EntsAt H v z.L := own_ents (m := cell r [v, .int .i64 z.le, .int .i64 z.lm, .bool z.il] + m) hv hlv (hh.to (by ac_rfl))
  have hsz : ∀ j, szs (z.L.take j) ≤ 64 * 400 := fun j => by
    have h1 := szs_le (l := z.L.take j) fun x hx => ok.ok.ok x (List.mem_of_mem_take hx)
    have h2 : (z.L.take j).length ≤ z.L.length := by rw [List.length_take]; omega
    omega
  refine join_of (.int .i64 (if z.il then 0 else 2), []) (fun Q => Q = H) ?_ ?_
  · rintro Q rfl g
    refine loop_i (fun k s G => G = Q ∧ ∃ i : Nat, i + k = z.L.length ∧ s = ((.int .i64 ((if z.il then 64 * i + 2 * szs (z.L.take i) else 2 + (10 * i + szs (z.L.take i)) : Nat) : Int), .int .i64 i), [])) z.L.length ⟨rfl, 0, by omega, ?_⟩ ?_
    · cases z.il <;> simp [szs]
    · rintro k _ g G ⟨rfl, i, hik, rfl⟩
      (try simp only [xl, xo, Bool.not_eq_true', decide_eq_false_iff_not, ite_not, List.size_toArray, List.length_cons, List.length_nil, Nat.reduceAdd, qt, decide_eq_true_eq, Int.toNat_zero, Int.toNat_natCast, Nat.zero_mul, Nat.mul_one, Nat.one_mul, List.toList_toArray, List.cons_append, List.nil_append, List.append_nil, true_and, and_true, Nat.zero_add, Nat.add_zero, Bool.not_true, Bool.not_false, if_true, if_false, reduceCtorEq, List.set_cons_zero, List.set_cons_succ])
      refine h_load (b := r) hh rfl ?_
      refine own_len hv ?_
      rw [hlv]
      (try simp only [xl, xo, Bool.not_eq_true', decide_eq_false_iff_not, ite_not, List.size_toArray, List.length_cons, List.length_nil, Nat.reduceAdd, qt, decide_eq_true_eq, Int.toNat_zero, Int.toNat_natCast, Nat.zero_mul, Nat.mul_one, Nat.one_mul, List.toList_toArray, List.cons_append, List.nil_append, List.append_nil, true_and, and_true, Nat.zero_add, Nat.add_zero, Bool.not_true, Bool.not_false, if_true, if_false, reduceCtorEq, List.set_cons_zero, List.set_cons_succ])
      by_cases hi : i < z.L.length
      · rw [if_pos (by omega)]
        refine h_load (b := r) hh rfl ?_
        have hg : z.L[i]? = some (z.L[i]'hi) := List.getElem?_eq_getElem hi
        generalize z.L[i]'hi = e at hg
        obtain ⟨b, hb1, _, hb3⟩ := own_at (i := i) hv (by rw [entsC_length, hlv]) (by rw [hlv]; exact hi)
        refine hb1 _ ?_
        have hx : (entsC z.L)[i * 2 + 0]? = some (.string e.1) := by
          have := congrArg (fun l => l[0]?) (entsC_get hg)
          simpa [List.getElem?_take, List.getElem?_drop] using this
        (try simp only [xl, xo, Bool.not_eq_true', decide_eq_false_iff_not, ite_not, List.size_toArray, List.length_cons, List.length_nil, Nat.reduceAdd, qt, decide_eq_true_eq, Int.toNat_zero, Int.toNat_natCast, Nat.zero_mul, Nat.mul_one, Nat.one_mul, List.toList_toArray, List.cons_append, List.nil_append, List.append_nil, true_and, and_true, Nat.zero_add, Nat.add_zero, Bool.not_true, Bool.not_false, if_true, if_false, reduceCtorEq, List.set_cons_zero, List.set_cons_succ])
        refine hb3 G (cell r [v, .int .i64 z.le, .int .i64 z.lm, .bool z.il] + m) 0 _ _ (hh.to (by ac_rfl)) hx ?_
        (try simp only [xl, xo, Bool.not_eq_true', decide_eq_false_iff_not, ite_not, List.size_toArray, List.length_cons, List.length_nil, Nat.reduceAdd, qt, decide_eq_true_eq, Int.toNat_zero, Int.toNat_natCast, Nat.zero_mul, Nat.mul_one, Nat.one_mul, List.toList_toArray, List.cons_append, List.nil_append, List.append_nil, true_and, and_true, Nat.zero_add, Nat.add_zero, Bool.not_true, Bool.not_false, if_true, if_false, reduceCtorEq, List.set_cons_zero, List.set_cons_succ])
        refine h_load (b := r) hh rfl ?_
        have ht := szs_take hg
        have h1 := hsz (i + 1)
        have h2 := hsz i
        cases hil : z.il with
        | true =>
          (try simp only [xl, xo, Bool.not_eq_true', decide_eq_false_iff_not, ite_not, List.size_toArray, List.length_cons, List.length_nil, Nat.reduceAdd, qt, decide_eq_true_eq, Int.toNat_zero, Int.toNat_natCast, Nat.zero_mul, Nat.mul_one, Nat.one_mul, List.toList_toArray, List.cons_append, List.nil_append, List.append_nil, true_and, and_true, Nat.zero_add, Nat.add_zero, Bool.not_true, Bool.not_false, if_true, if_false, reduceCtorEq, List.set_cons_zero, List.set_cons_succ])
          rw [w64 (n := (i : Int) + 1) (by omega), w64 (n := ((64 * i + 2 * szs (z.L.take i) : Nat) : Int) + 64) (by omega), w64 (n := 2 * (e.1.size : Int)) (by omega), w64 (by omega)]
          refine ⟨k - 1, by omega, i + 1, by omega, ?_⟩
          rw [ht]
          congr 3
          omega
        | false =>
          simp only [Bool.false_eq_true, if_false]
          (try simp only [xl, xo, Bool.not_eq_true', decide_eq_false_iff_not, ite_not, List.size_toArray, List.length_cons, List.length_nil, Nat.reduceAdd, qt, decide_eq_true_eq, Int.toNat_zero, Int.toNat_natCast, Nat.zero_mul, Nat.mul_one, Nat.one_mul, List.toList_toArray, List.cons_append, List.nil_append, List.append_nil, true_and, and_true, Nat.zero_add, Nat.add_zero, Bool.not_true, Bool.not_false, if_true, if_false, reduceCtorEq, List.set_cons_zero, List.set_cons_succ])
          rw [w64 (n := (i : Int) + 1) (by omega), w64 (n := ((2 + (10 * i + szs (z.L.take i)) : Nat) : Int) + 10) (by omega), w64 (by omega)]
          refine ⟨k - 1, by omega, i + 1, by omega, ?_⟩
          rw [ht]
          congr 3
          omega
      · rw [if_neg (by omega)]
        have : i = z.L.length := by omega
        subst this
        rw [List.take_length]
        unfold byts at hK
        cases hil : z.il with
        | true => rw [hil] at hK; exact hK
        | false => rw [hil] at hK; simp only [Bool.false_eq_true, if_false, packL_len, body_szs] at hK ⊢; exact hK
  · intro J hJ
    (try simp only [xl, xo, Bool.not_eq_true', decide_eq_false_iff_not, ite_not, List.size_toArray, List.length_cons, List.length_nil, Nat.reduceAdd, qt, decide_eq_true_eq, Int.toNat_zero, Int.toNat_natCast, Nat.zero_mul, Nat.mul_one, Nat.one_mul, List.toList_toArray, List.cons_append, List.nil_append, List.append_nil, true_and, and_true, Nat.zero_add, Nat.add_zero, Bool.not_true, Bool.not_false, if_true, if_false, reduceCtorEq, List.set_cons_zero, List.set_cons_succ])
    refine h_load (b := r) hh rfl ?_
    cases hil : z.il with
    | true => rw [hil] at hJ; (try simp only [xl, xo, Bool.not_eq_true', decide_eq_false_iff_not, ite_not, List.size_toArray, List.length_cons, List.length_nil, Nat.reduceAdd, qt, decide_eq_true_eq, Int.toNat_zero, Int.toNat_natCast, Nat.zero_mul, Nat.mul_one, Nat.one_mul, List.toList_toArray, List.cons_append, List.nil_append, List.append_nil, true_and, and_true, Nat.zero_add, Nat.add_zero, Bool.not_true, Bool.not_false, if_true, if_false, reduceCtorEq, List.set_cons_zero, List.set_cons_succ]); exact hJ H rfl
    | false => rw [hil] at hJ; (try simp only [xl, xo, Bool.not_eq_true', decide_eq_false_iff_not, ite_not, List.size_toArray, List.length_cons, List.length_nil, Nat.reduceAdd, qt, decide_eq_true_eq, Int.toNat_zero, Int.toNat_natCast, Nat.zero_mul, Nat.mul_one, Nat.one_mul, List.toList_toArray, List.cons_append, List.nil_append, List.append_nil, true_and, and_true, Nat.zero_add, Nat.add_zero, Bool.not_true, Bool.not_false, if_true, if_false, reduceCtorEq, List.set_cons_zero, List.set_cons_succ]); exact hJ H rfl
end
end Go.X.W
set_option linter.unusedVariables false
set_option linter.unusedSimpArgs false
namespace Go.X.W
open Go Go.X Go.Proofs

variable {H : Heap} {m : Mem} {K : Value → Heap → Prop}

/-- What an act does. -/
noncomputable def stepZ (z : ZSt) (x : ActR) : ZSt :=
  let o := (IntKind.u64.wrap x.act).tmod 8
  if o = 0 ∨ o = 1 ∨ o = 2 ∨ o = 3 ∨ o = 4 then (zAdd z (name70 x.mem) x.sc x.lv).2.2
  else if o = 5 ∨ o = 6 then { z with L := rem (name70 x.mem) z.L }
  else { z with L := cutL x.fr x.to z.L }
theorem ZOk.step {z : ZSt} (ok : ZOk z) {x : ActR} (hx : ActOk x) : ZOk (stepZ z x) := by
  unfold stepZ
  simp only
  split
  · exact ok.add _ _ hx
  · split
    · exact ok.rem _
    · exact ok.cut _ _

section
variable {z : ZSt} {s r : Nat} {zm rm : Mem}
theorem law_did_h {x : ActR} (hx : ActOk x) (hz : ZRep z s zm) (hr : RRep z r rm) (ok : ZOk z) (hh : Has H (zm + (rm + m))) (hK : ∀ H' zm' rm', ZRep (stepZ z x) s zm' → RRep (stepZ z x) r rm' → Has H' (zm' + (rm' + m)) → K (.bool true) H') :
    CallH P f_paliolaw11_did [ptrV s, ptrV r, .agg (actC x).toArray] H K := by
  apply k_paliolaw11_did
  unfold c_paliolaw11_did
  rw [x_boxN]
  refine h_allocA hh fun xb H1 hh => ?_
  have hn := name70_lt x.mem
  (try simp only [xl, xo, Bool.not_eq_true', decide_eq_false_iff_not, ite_not, List.size_toArray, List.length_cons, List.length_nil, Nat.reduceAdd, qt, decide_eq_true_eq, Int.toNat_zero, Int.toNat_natCast, Nat.zero_mul, Nat.mul_one, Nat.one_mul, List.toList_toArray, List.cons_append, List.nil_append, List.append_nil, true_and, and_true, Nat.zero_add, Nat.add_zero, Bool.not_true, Bool.not_false, if_true, if_false, reduceCtorEq, List.set_cons_zero, List.set_cons_succ])
  refine h_load (b := xb) (cs := actC x) hh rfl ?_
  (try simp only [xl, xo, Bool.not_eq_true', decide_eq_false_iff_not, ite_not, List.size_toArray, List.length_cons, List.length_nil, Nat.reduceAdd, qt, decide_eq_true_eq, Int.toNat_zero, Int.toNat_natCast, Nat.zero_mul, Nat.mul_one, Nat.one_mul, List.toList_toArray, List.cons_append, List.nil_append, List.append_nil, true_and, and_true, Nat.zero_add, Nat.add_zero, Bool.not_true, Bool.not_false, if_true, if_false, reduceCtorEq, List.set_cons_zero, List.set_cons_succ])
  refine ⟨by omega, ?_⟩
  unfold stepZ at hK
  simp only at hK
  generalize (IntKind.u64.wrap x.act).tmod 8 = o at hK ⊢
  refine join_of (.bool (decide (o = 0 ∨ o = 1 ∨ o = 2 ∨ o = 3 ∨ o = 4)), []) (fun Q => Has Q (cell xb (actC x) + (zm + (rm + m)))) ?_ ?_
  · rintro Q hh g1
    by_cases h1 : o = 0 ∨ o = 1 ∨ o = 2 ∨ o = 3 ∨ o = 4
    · rw [if_pos h1] at hK
      simp only [h1, decide_true]
      (try simp only [xl, xo, Bool.not_eq_true', decide_eq_false_iff_not, ite_not, List.size_toArray, List.length_cons, List.length_nil, Nat.reduceAdd, qt, decide_eq_true_eq, Int.toNat_zero, Int.toNat_natCast, Nat.zero_mul, Nat.mul_one, Nat.one_mul, List.toList_toArray, List.cons_append, List.nil_append, List.append_nil, true_and, and_true, Nat.zero_add, Nat.add_zero, Bool.not_true, Bool.not_false, if_true, if_false, reduceCtorEq, List.set_cons_zero, List.set_cons_succ])
      refine h_load (b := xb) hh rfl (h_load (b := xb) hh rfl (h_load (b := xb) hh rfl ?_))
      refine law_Name_h ⟨h_loadIs (b := xb) hh rfl, h_loadIs (b := xb) hh rfl, ?_⟩
      refine zset_Add_h hn hx hz ok (hh.front zm) fun H2 zm2 hz2 hh => ?_
      (try simp only [xl, xo, Bool.not_eq_true', decide_eq_false_iff_not, ite_not, List.size_toArray, List.length_cons, List.length_nil, Nat.reduceAdd, qt, decide_eq_true_eq, Int.toNat_zero, Int.toNat_natCast, Nat.zero_mul, Nat.mul_one, Nat.one_mul, List.toList_toArray, List.cons_append, List.nil_append, List.append_nil, true_and, and_true, Nat.zero_add, Nat.add_zero, Bool.not_true, Bool.not_false, if_true, if_false, reduceCtorEq, List.set_cons_zero, List.set_cons_succ])
      refine h_load (b := xb) hh rfl (h_load (b := xb) hh rfl (h_load (b := xb) hh rfl ?_))
      refine law_Name_h ⟨h_loadIs (b := xb) hh rfl, h_loadIs (b := xb) hh rfl, ?_⟩
      refine ref_Add_h hx hr ok (hh.front rm) fun H3 rm2 hr2 hh => ?_
      (try simp only [xl, xo, Bool.not_eq_true', decide_eq_false_iff_not, ite_not, List.size_toArray, List.length_cons, List.length_nil, Nat.reduceAdd, qt, decide_eq_true_eq, Int.toNat_zero, Int.toNat_natCast, Nat.zero_mul, Nat.mul_one, Nat.one_mul, List.toList_toArray, List.cons_append, List.nil_append, List.append_nil, true_and, and_true, Nat.zero_add, Nat.add_zero, Bool.not_true, Bool.not_false, if_true, if_false, reduceCtorEq, List.set_cons_zero, List.set_cons_succ])
      simp only [beq_self_eq_true, if_true, decide_true]
      exact hK H3 zm2 rm2 hz2 hr2 (hh.front (zm2 + (rm2 + m))).left
    · rw [if_neg h1] at hK
      simp only [h1, decide_false]
      (try simp only [xl, xo, Bool.not_eq_true', decide_eq_false_iff_not, ite_not, List.size_toArray, List.length_cons, List.length_nil, Nat.reduceAdd, qt, decide_eq_true_eq, Int.toNat_zero, Int.toNat_natCast, Nat.zero_mul, Nat.mul_one, Nat.one_mul, List.toList_toArray, List.cons_append, List.nil_append, List.append_nil, true_and, and_true, Nat.zero_add, Nat.add_zero, Bool.not_true, Bool.not_false, if_true, if_false, reduceCtorEq, List.set_cons_zero, List.set_cons_succ])
      refine join_of (.bool (decide (o = 5 ∨ o = 6)), []) (fun Q => Has Q (cell xb (actC x) + (zm + (rm + m)))) ?_ ?_
      · rintro Q2 hh g2
        by_cases h2 : o = 5 ∨ o = 6
        · rw [if_pos h2] at hK
          simp only [h2, decide_true]
          (try simp only [xl, xo, Bool.not_eq_true', decide_eq_false_iff_not, ite_not, List.size_toArray, List.length_cons, List.length_nil, Nat.reduceAdd, qt, decide_eq_true_eq, Int.toNat_zero, Int.toNat_natCast, Nat.zero_mul, Nat.mul_one, Nat.one_mul, List.toList_toArray, List.cons_append, List.nil_append, List.append_nil, true_and, and_true, Nat.zero_add, Nat.add_zero, Bool.not_true, Bool.not_false, if_true, if_false, reduceCtorEq, List.set_cons_zero, List.set_cons_succ])
          refine h_load (b := xb) hh rfl (h_load (b := xb) hh rfl ?_)
          refine law_Name_h ⟨h_loadIs (b := xb) hh rfl, ?_⟩
          refine zset_Remove_h hn hz ok (hh.front zm) fun H2 zm2 hz2 hh => ⟨h_loadIs (b := xb) hh rfl, ?_⟩
          refine law_Name_h ?_
          refine ref_Remove_h hr ok (hh.front rm) fun H3 rm2 hr2 hh => ?_
          (try simp only [xl, xo, Bool.not_eq_true', decide_eq_false_iff_not, ite_not, List.size_toArray, List.length_cons, List.length_nil, Nat.reduceAdd, qt, decide_eq_true_eq, Int.toNat_zero, Int.toNat_natCast, Nat.zero_mul, Nat.mul_one, Nat.one_mul, List.toList_toArray, List.cons_append, List.nil_append, List.append_nil, true_and, and_true, Nat.zero_add, Nat.add_zero, Bool.not_true, Bool.not_false, if_true, if_false, reduceCtorEq, List.set_cons_zero, List.set_cons_succ])
          simp only [beq_self_eq_true]
          exact hK H3 zm2 rm2 hz2 hr2 (hh.front (zm2 + (rm2 + m))).left
        · rw [if_neg h2] at hK
          simp only [h2, decide_false]
          (try simp only [xl, xo, Bool.not_eq_true', decide_eq_false_iff_not, ite_not, List.size_toArray, List.length_cons, List.length_nil, Nat.reduceAdd, qt, decide_eq_true_eq, Int.toNat_zero, Int.toNat_natCast, Nat.zero_mul, Nat.mul_one, Nat.one_mul, List.toList_toArray, List.cons_append, List.nil_append, List.append_nil, true_and, and_true, Nat.zero_add, Nat.add_zero, Bool.not_true, Bool.not_false, if_true, if_false, reduceCtorEq, List.set_cons_zero, List.set_cons_succ])
          refine h_load (b := xb) hh rfl (h_load (b := xb) hh rfl (h_load (b := xb) hh rfl (h_load (b := xb) hh rfl ?_)))
          refine zset_Cut_h hz ok (hh.front zm) fun H2 zm2 hz2 hh => ⟨h_loadIs (b := xb) hh rfl, h_loadIs (b := xb) hh rfl, ?_⟩
          refine ref_Cut_h hr ok (hh.front rm) fun H3 rm2 hr2 hh => ?_
          (try simp only [xl, xo, Bool.not_eq_true', decide_eq_false_iff_not, ite_not, List.size_toArray, List.length_cons, List.length_nil, Nat.reduceAdd, qt, decide_eq_true_eq, Int.toNat_zero, Int.toNat_natCast, Nat.zero_mul, Nat.mul_one, Nat.one_mul, List.toList_toArray, List.cons_append, List.nil_append, List.append_nil, true_and, and_true, Nat.zero_add, Nat.add_zero, Bool.not_true, Bool.not_false, if_true, if_false, reduceCtorEq, List.set_cons_zero, List.set_cons_succ])
          simp only [decide_true]
          exact hK H3 zm2 rm2 hz2 hr2 (hh.front (zm2 + (rm2 + m))).left
      · intro J hJ
        by_cases h3 : o = 5
        · simp only [h3, decide_true, if_true] at hJ ⊢
          exact hJ Q hh
        · simp only [h3, decide_false, false_or, Bool.false_eq_true, if_false] at hJ ⊢
          exact hJ Q hh
  · intro J hJ
    have hJ := hJ H1 hh
    by_cases h0 : o = 0
    · simp only [h0, decide_true, if_true, true_or] at hJ ⊢; exact hJ
    simp only [h0, decide_false, false_or, Bool.false_eq_true, if_false] at hJ ⊢
    by_cases h1 : o = 1
    · simp only [h1, decide_true, if_true, true_or] at hJ ⊢; exact hJ
    simp only [h1, decide_false, false_or, Bool.false_eq_true, if_false] at hJ ⊢
    by_cases h2 : o = 2
    · simp only [h2, decide_true, if_true, true_or] at hJ ⊢; exact hJ
    simp only [h2, decide_false, false_or, Bool.false_eq_true, if_false] at hJ ⊢
    by_cases h3 : o = 3
    · simp only [h3, decide_true, if_true, true_or] at hJ ⊢; exact hJ
    simp only [h3, decide_false, false_or, Bool.false_eq_true, if_false] at hJ ⊢
    exact hJ
end

/-- A set that acts have made. -/
noncomputable def madeZ (z : ZSt) (l : List ActR) : ZSt := l.foldl stepZ z
theorem ZOk.made {z : ZSt} (ok : ZOk z) {l : List ActR} (hl : ∀ x ∈ l, ActOk x) : ZOk (madeZ z l) := by
  unfold madeZ
  induction l generalizing z with
  | nil => exact ok
  | cons x l ih => exact ih (ok.step (hl x (by simp))) fun y hy => hl y (by simp [hy])
noncomputable def newZ (le lm seed : Int) : ZSt := ⟨[], false, clampI 0 200 le, clampI 0 64 lm, seed⟩

theorem law_made_h {le lm seed : Int} {v : Value} {acts : List ActR} {fr : Mem} (hh : Has H fr) (hA : ∀ H', Has H' fr → RowsAt 6 H' v (acts.map actC)) (hrow : ∀ x ∈ acts, ActOk x)
    (hK : ∀ H' s r zm rm, ZRep (madeZ (newZ le lm seed) (acts.take 100)) s zm → RRep (madeZ (newZ le lm seed) (acts.take 100)) r rm → Has H' (zm + (rm + fr)) → K (.tuple #[ptrV s, ptrV r]) H') :
    CallH P f_paliolaw11_made [.agg #[.int .i64 le, .int .i64 lm], .int .u32 seed, v] H K := by
  apply k_paliolaw11_made
  unfold c_paliolaw11_made
  rw [x_boxN]
  refine h_allocA hh fun lb H1 hh => ?_
  refine h_load2 (b := lb) hh rfl rfl ?_
  refine zset_New_h hh fun H2 s zm hz hh => ?_
  refine h_load2 (b := lb) hh rfl rfl ?_
  refine ref_New_h seed hh fun H3 r rm hr hh => ?_
  refine loop_i (fun k st G => ∃ (i : Nat) (zm rm m' : Mem), i + k = acts.length ∧ i ≤ 100 ∧ st = (.int .i64 i, []) ∧ ZRep (madeZ (newZ le lm seed) (acts.take i)) s zm ∧ RRep (madeZ (newZ le lm seed) (acts.take i)) r rm ∧ Has G (zm + (rm + (fr + m')))) acts.length
    ⟨0, zm, rm, cell lb [.int .i64 le, .int .i64 lm], by omega, by omega, rfl, hz, hr, hh.to (by ac_rfl)⟩ ?_
  clear hz hr hh
  rintro k _ g G ⟨i, zm, rm, m', hik, h100, rfl, hz, hr, hh⟩
  have hfr := hA G (hh.front fr).left
  refine hfr.len ?_
  rw [List.length_map]
  (try simp only [xl, xo, Bool.not_eq_true', decide_eq_false_iff_not, ite_not, List.size_toArray, List.length_cons, List.length_nil, Nat.reduceAdd, qt, decide_eq_true_eq, Int.toNat_zero, Int.toNat_natCast, Nat.zero_mul, Nat.mul_one, Nat.one_mul, List.toList_toArray, List.cons_append, List.nil_append, List.append_nil, true_and, and_true, Nat.zero_add, Nat.add_zero, Bool.not_true, Bool.not_false, if_true, if_false, reduceCtorEq, List.set_cons_zero, List.set_cons_succ])
  have fin : acts.length ≤ i ∨ i = 100 → K (.tuple #[ptrV s, ptrV r]) G := by
    intro h
    have e : acts.take i = acts.take 100 := by
      rcases h with h | h
      · rw [List.take_of_length_le h, List.take_of_length_le (by omega)]
      · rw [h]
    rw [e] at hz hr
    exact hK G s r zm rm hz hr (hh.front (zm + (rm + fr))).left
  by_cases hi : acts.length ≤ i
  · rw [if_neg (by omega)]; exact fin (.inl hi)
  rw [if_pos (by omega)]
  by_cases h1 : i = 100
  · rw [if_neg (by omega)]; exact fin (.inr h1)
  rw [if_pos (by omega)]
  have hg : acts[i]? = some (acts[i]'(by omega)) := List.getElem?_eq_getElem (by omega)
  generalize acts[i]'(by omega) = x at hg
  obtain ⟨p, hp1, hp2⟩ := hfr.at (i := i) (r := actC x) (by rw [List.getElem?_map, hg]; rfl)
  refine hp1 (load_row hp2 ?_)
  have ok := (ZOk.new le lm seed).made (l := acts.take i) fun x hx => hrow x (List.mem_of_mem_take hx)
  refine law_did_h (hrow x (List.mem_of_getElem? hg)) hz hr ok hh fun H' zm' rm' hz' hr' hh => ?_
  have e : madeZ (newZ le lm seed) (acts.take (i + 1)) = stepZ (madeZ (newZ le lm seed) (acts.take i)) x := by
    unfold madeZ
    rw [List.take_add_one, hg, Option.toList_some, List.foldl_append]
    rfl
  rw [w64 (by omega)]
  exact ⟨k - 1, by omega, i + 1, zm', rm', m', by omega, by omega, rfl, by rw [e]; exact hz', by rw [e]; exact hr', hh⟩
end Go.X.W
set_option linter.unusedVariables false
set_option linter.unusedSimpArgs false
namespace Go.X.W
open Go Go.X Go.Proofs

theorem dict_GetA_h {H : Heap} {d : Nat} {D : DSt} {key : ByteArray} {m : Mem} {K : Value → Heap → Prop} (hkey : key.size < 4611686018427387904) (hh : Has H (dictM d D + m)) (hD : D.Ok)
    (hit : ∀ H' D' v, Has H' (dictM d D' + m) → D'.Ok → D'.flat.Perm D.flat → D'.seed = D.seed → D'.n = D.n → AlLe D D' → (key, v) ∈ D.flat.map kvOf → K (.tuple #[v, .bool true]) H')
    (miss : ∀ H' D', Has H' (dictM d D' + m) → D'.Ok → D'.flat.Perm D.flat → D'.seed = D.seed → D'.n = D.n → AlLe D D' → (∀ x ∈ D.flat, x.key ≠ key) → K (.tuple #[.int .i64 0, .bool false]) H') :
    CallH P f_dict_Dict_int64_Get [.pointer (some ⟨d, 0, none⟩), .string key] H K := by
  apply k_dict_Dict_int64_Get
  unfold c_dict_Dict_int64_Get
  refine h_alloc hh fun out H1 hh => ?_
  (repeat (first | (refine h_load hh (by rfl) ?_) | (simp only [xl, xo, Bool.not_eq_true', decide_eq_false_iff_not, ite_not, List.size_toArray, List.length_cons, List.length_nil, Nat.reduceAdd, qt, decide_eq_true_eq, Int.toNat_zero, Int.toNat_natCast, Nat.zero_mul, Nat.mul_one, Nat.one_mul, List.toList_toArray, List.cons_append, List.nil_append, List.append_nil, true_and, and_true, Nat.zero_add, Nat.add_zero, Bool.not_true, Bool.not_false, if_true, if_false, reduceCtorEq, List.set_cons_zero, List.set_cons_succ])))
  refine dict_StepA_h (by omega) (hh.to (show _ = dictM d D + (cell out [.int .i64 0] + m) by ac_rfl)) hD fun H2 D2 _ hh hD2 hP hse hnn hle => ?_
  refine dict_with_h hkey hh hD2 (fun H3 hh hm => ?_) (fun H3 b tb i T l1 x l2 hh ht hi hx => ?_)
  · (repeat (first | (refine h_load hh (by rfl) ?_) | (simp only [xl, xo, Bool.not_eq_true', decide_eq_false_iff_not, ite_not, List.size_toArray, List.length_cons, List.length_nil, Nat.reduceAdd, qt, decide_eq_true_eq, Int.toNat_zero, Int.toNat_natCast, Nat.zero_mul, Nat.mul_one, Nat.one_mul, List.toList_toArray, List.cons_append, List.nil_append, List.append_nil, true_and, and_true, Nat.zero_add, Nat.add_zero, Bool.not_true, Bool.not_false, if_true, if_false, reduceCtorEq, List.set_cons_zero, List.set_cons_succ])))
    exact miss H3 D2 (hh.to (show _ = dictM d D2 + m + cell out [.int .i64 0] by ac_rfl) |>.left) hD2 hP hse hnn hle fun x hx => hm x (hP.mem_iff.2 hx)
  · obtain ⟨g1, g2, g3, g4⟩ := dict_node hh hD2 ht hi
    (try simp only [xl, xo, Bool.not_eq_true', decide_eq_false_iff_not, ite_not, List.size_toArray, List.length_cons, List.length_nil, Nat.reduceAdd, qt, decide_eq_true_eq, Int.toNat_zero, Int.toNat_natCast, Nat.zero_mul, Nat.mul_one, Nat.one_mul, List.toList_toArray, List.cons_append, List.nil_append, List.append_nil, true_and, and_true, Nat.zero_add, Nat.add_zero, Bool.not_true, Bool.not_false, if_true, if_false, reduceCtorEq, List.set_cons_zero, List.set_cons_succ])
    refine dict_Get_1_h (hh.front (cell out [.int .i64 0])) g1 g2 g3 fun H4 hh => ?_
    (repeat (first | (refine h_load hh (by rfl) ?_) | (simp only [xl, xo, Bool.not_eq_true', decide_eq_false_iff_not, ite_not, List.size_toArray, List.length_cons, List.length_nil, Nat.reduceAdd, qt, decide_eq_true_eq, Int.toNat_zero, Int.toNat_natCast, Nat.zero_mul, Nat.mul_one, Nat.one_mul, List.toList_toArray, List.cons_append, List.nil_append, List.append_nil, true_and, and_true, Nat.zero_add, Nat.add_zero, Bool.not_true, Bool.not_false, if_true, if_false, reduceCtorEq, List.set_cons_zero, List.set_cons_succ])))
    exact hit H4 D2 x.v hh.right hD2 hP hse hnn hle (List.mem_map.2 ⟨x, hP.mem_iff.1 g4, by rw [kvOf, hx]⟩)

section
variable {H : Heap} {m : Mem} {K : Value → Heap → Prop}

/-- The list's form, its dict's hashes and places. -/
def LiRepA (sd : Int) (p : Nat) (lb : Nat) (L : List Ent) (fm : Mem) : Prop :=
  ∃ sk d hd lv S D, fm = cell lb [ptrV sk, ptrV d] + (listM sk hd S + dictM d D) ∧ SkOk hd lv S ∧ S.map (·.e) = L ∧ D.Ok ∧ (D.flat.map kvOf).Perm (L.map pairV) ∧ D.n = L.length ∧ D.seed = sd ∧ Al D p
theorem LiRepA.of {lb : Nat} {L : List Ent} {fm : Mem} (h : LiRep lb L fm) : ∃ sd, LiRepA sd 0 lb L fm := by
  obtain ⟨sk, d, hd, lv, S, dm, rfl, ok, he, D, rfl, hD, hM, hn, hl⟩ := h.ex
  exact ⟨D.seed, sk, d, hd, lv, S, D, rfl, ok, he, hD, hM, by rw [hl, List.length_map], rfl, by simp, by simp⟩
theorem LiRepA.to {sd : Int} {p lb : Nat} {L : List Ent} {fm : Mem} (hn : (L.map (·.1)).Nodup) (h : LiRepA sd p lb L fm) : LiRep lb L fm := by
  obtain ⟨sk, d, hd, lv, S, D, rfl, ok, he, hD, hM, hl, hs, ha⟩ := h
  exact ⟨sk, d, hd, lv, S, _, rfl, ok, he, D, rfl, hD, hM, by rw [pair_keys]; exact hn, by rw [hl, List.length_map]⟩

theorem listed_scoreA_h {sd : Int} {p lb : Nat} {L : List Ent} {fm : Mem} {x : ByteArray} (hx : x.size < 4611686018427387904) (hr : LiRepA sd p lb L fm) (hn : (L.map (·.1)).Nodup) (hh : Has H (fm + m))
    (hK : ∀ H' fm', LiRepA sd p lb L fm' → Has H' (fm' + m) → K (scoV (sco x L)) H') : CallH P f_zset_listed_score [ptrV lb, .string x] H K := by
  obtain ⟨sk, d, hd, lv, S, D, rfl, ok, he, hD, hM, hl, hs, ha⟩ := hr
  apply k_zset_listed_score
  unfold c_zset_listed_score
  (try simp only [xl, xo, Bool.not_eq_true', decide_eq_false_iff_not, ite_not, List.size_toArray, List.length_cons, List.length_nil, Nat.reduceAdd, qt, decide_eq_true_eq, Int.toNat_zero, Int.toNat_natCast, Nat.zero_mul, Nat.mul_one, Nat.one_mul, List.toList_toArray, List.cons_append, List.nil_append, List.append_nil, true_and, and_true, Nat.zero_add, Nat.add_zero, Bool.not_true, Bool.not_false, if_true, if_false, reduceCtorEq, List.set_cons_zero, List.set_cons_succ])
  refine h_load (b := lb) hh rfl ?_
  refine dict_GetA_h hx (hh.to (show _ = dictM d D + (cell lb [ptrV sk, ptrV d] + (listM sk hd S + m)) by ac_rfl)) hD (fun H' D' v hh hD' hP hse hnn hle hv => ?_) fun H' D' hh hD' hP hse hnn hle hv => ?_
  · obtain ⟨a, ha2, e⟩ := List.mem_map.1 (hM.mem_iff.1 hv)
    obtain ⟨i, hi⟩ := List.getElem?_of_mem ha2
    simp only [pairV, Prod.mk.injEq] at e
    have hf := fnd_of hn hi
    rw [e.1] at hf
    obtain ⟨s, h1, h2⟩ := sco_fnd hf
    rw [hi] at h1
    simp only [Option.some.injEq] at h1
    subst h1
    (try simp only [xl, xo, Bool.not_eq_true', decide_eq_false_iff_not, ite_not, List.size_toArray, List.length_cons, List.length_nil, Nat.reduceAdd, qt, decide_eq_true_eq, Int.toNat_zero, Int.toNat_natCast, Nat.zero_mul, Nat.mul_one, Nat.one_mul, List.toList_toArray, List.cons_append, List.nil_append, List.append_nil, true_and, and_true, Nat.zero_add, Nat.add_zero, Bool.not_true, Bool.not_false, if_true, if_false, reduceCtorEq, List.set_cons_zero, List.set_cons_succ])
    have := hK H' _ ⟨sk, d, hd, lv, S, D', rfl, ok, he, hD', (hP.map _).trans hM, by rw [hnn, hl], by rw [hse, hs], hle p ha⟩ (hh.to (by ac_rfl))
    rw [h2] at this
    rw [← e.2]
    exact this
  · have hf : fnd x L = none := fnd_none.2 fun e he2 hex => by
      have : pairV e ∈ D.flat.map kvOf := hM.mem_iff.2 (List.mem_map_of_mem he2)
      obtain ⟨y, hy, ey⟩ := List.mem_map.1 this
      simp only [kvOf, pairV, Prod.mk.injEq] at ey
      exact hv y hy (by rw [ey.1, hex])
    (try simp only [xl, xo, Bool.not_eq_true', decide_eq_false_iff_not, ite_not, List.size_toArray, List.length_cons, List.length_nil, Nat.reduceAdd, qt, decide_eq_true_eq, Int.toNat_zero, Int.toNat_natCast, Nat.zero_mul, Nat.mul_one, Nat.one_mul, List.toList_toArray, List.cons_append, List.nil_append, List.append_nil, true_and, and_true, Nat.zero_add, Nat.add_zero, Bool.not_true, Bool.not_false, if_true, if_false, reduceCtorEq, List.set_cons_zero, List.set_cons_succ])
    have := hK H' _ ⟨sk, d, hd, lv, S, D', rfl, ok, he, hD', (hP.map _).trans hM, by rw [hnn, hl], by rw [hse, hs], hle p ha⟩ (hh.to (by ac_rfl))
    rw [sco_none hf] at this
    exact this

/-- A set of the list's form. -/
def ZRepA (sd : Int) (p : Nat) (z : ZSt) (s : Nat) (zm : Mem) : Prop := z.il = true ∧ ∃ lb fm, LiRepA sd p lb z.L fm ∧ zm = cell s [.iface T_p_zset_listed (ptrV lb), .int .i64 z.le, .int .i64 z.lm, .int .u32 z.seed] + fm
theorem ZRepA.of {z : ZSt} {s : Nat} {zm : Mem} (h : ZRep z s zm) (hl : z.il = true) : ∃ sd, ZRepA sd 0 z s zm := by
  obtain ⟨fv, fm, hf, rfl⟩ := h
  rcases hf with ⟨h, _⟩ | ⟨h, lb, rfl, hli⟩
  · rw [hl] at h; cases h
  · obtain ⟨sd, hA⟩ := LiRepA.of hli
    exact ⟨sd, hl, lb, fm, hA, rfl⟩
theorem ZRepA.to {sd : Int} {p : Nat} {z : ZSt} {s : Nat} {zm : Mem} (ok : ZOk z) (h : ZRepA sd p z s zm) : ZRep z s zm := by
  obtain ⟨hl, lb, fm, hA, rfl⟩ := h
  exact ⟨_, fm, .inr ⟨hl, lb, rfl, hA.to ok.ok.nodup⟩, rfl⟩

theorem zset_ScanP_h {z : ZSt} {s : Nat} {zm : Mem} {c : Int} (hz : ZRep z s zm) (ok : ZOk z) (hl : z.il = false) (hh : Has H (zm + m)) (hK : ∀ H' v sl, SlOwn 2 v (entsC z.L) sl → lenV v = z.L.length → Has H' (sl + (zm + m)) → K (.tuple #[v, .int .u32 0]) H') :
    CallH P f_zset_Set_Scan [ptrV s, .int .u32 c] H K := by
  have hz0 := hz
  obtain ⟨fv, fm, hf, rfl⟩ := hz
  apply k_zset_Set_Scan
  unfold c_zset_Set_Scan
  (try simp only [xl, xo, Bool.not_eq_true', decide_eq_false_iff_not, ite_not, List.size_toArray, List.length_cons, List.length_nil, Nat.reduceAdd, qt, decide_eq_true_eq, Int.toNat_zero, Int.toNat_natCast, Nat.zero_mul, Nat.mul_one, Nat.one_mul, List.toList_toArray, List.cons_append, List.nil_append, List.append_nil, true_and, and_true, Nat.zero_add, Nat.add_zero, Bool.not_true, Bool.not_false, if_true, if_false, reduceCtorEq, List.set_cons_zero, List.set_cons_succ])
  refine h_load (b := s) hh rfl ?_
  rcases hf with ⟨h, pb, rfl, rfl, _⟩ | ⟨h, lb, rfl, hli⟩
  · simp only [TypeAssertP]
    rw [show Nat.beq T_p_zset_packed T_p_zset_listed = false by decide, cond_false]
    (try simp only [xl, xo, Bool.not_eq_true', decide_eq_false_iff_not, ite_not, List.size_toArray, List.length_cons, List.length_nil, Nat.reduceAdd, qt, decide_eq_true_eq, Int.toNat_zero, Int.toNat_natCast, Nat.zero_mul, Nat.mul_one, Nat.one_mul, List.toList_toArray, List.cons_append, List.nil_append, List.append_nil, true_and, and_true, Nat.zero_add, Nat.add_zero, Bool.not_true, Bool.not_false, if_true, if_false, reduceCtorEq, List.set_cons_zero, List.set_cons_succ])
    refine zset_Len_h hz0 ok hh fun H1 hh => ?_
    refine zset_Range_h hz0 ok hh fun H2 v sl hv hlv hh => ?_
    rw [rng_all] at hv hlv
    exact hK H2 v sl hv hlv hh
  · rw [hl] at h; cases h

theorem zset_ScanL_h {sd : Int} {p s : Nat} {z : ZSt} {zm : Mem} (hp : p < 4294967296) (hz : ZRepA sd p z s zm) (ok : ZOk z) (hh : Has H (zm + m))
    (hK : ∀ H' zm' v sl o e, SlOwn 2 v (entsC o) sl → lenV v = o.length → p + 4194304 ≤ e → e ≤ 4294967296 → ZRepA sd e z s zm' → o.Perm (z.L.filter fun x => inR sd p e x.1) → Has H' (sl + (zm' + m)) → K (.tuple #[v, curV e]) H') :
    CallH P f_zset_Set_Scan [ptrV s, curV p] H K := by
  obtain ⟨hl, lb, fm, hA, rfl⟩ := hz
  have h400 := ok.ok.len
  have hnd := ok.ok.nodup
  apply k_zset_Set_Scan
  unfold c_zset_Set_Scan
  (try simp only [xl, xo, Bool.not_eq_true', decide_eq_false_iff_not, ite_not, List.size_toArray, List.length_cons, List.length_nil, Nat.reduceAdd, qt, decide_eq_true_eq, Int.toNat_zero, Int.toNat_natCast, Nat.zero_mul, Nat.mul_one, Nat.one_mul, List.toList_toArray, List.cons_append, List.nil_append, List.append_nil, true_and, and_true, Nat.zero_add, Nat.add_zero, Bool.not_true, Bool.not_false, if_true, if_false, reduceCtorEq, List.set_cons_zero, List.set_cons_succ])
  refine h_load (b := s) hh rfl ?_
  simp only [TypeAssertP]
  rw [show Nat.beq T_p_zset_listed T_p_zset_listed = true by decide, cond_true, cond_true]
  (try simp only [xl, xo, Bool.not_eq_true', decide_eq_false_iff_not, ite_not, List.size_toArray, List.length_cons, List.length_nil, Nat.reduceAdd, qt, decide_eq_true_eq, Int.toNat_zero, Int.toNat_natCast, Nat.zero_mul, Nat.mul_one, Nat.one_mul, List.toList_toArray, List.cons_append, List.nil_append, List.append_nil, true_and, and_true, Nat.zero_add, Nat.add_zero, Bool.not_true, Bool.not_false, if_true, if_false, reduceCtorEq, List.set_cons_zero, List.set_cons_succ])
  obtain ⟨sk, d, hd, lv, S, D, rfl, okS, he, hD, hM, hn, hs, ha⟩ := hA
  refine h_load (b := lb) hh rfl ?_
  have hfl : D.flat.length = z.L.length := by simpa using hM.length_eq
  refine scan_Scan_h (m := cell s [.iface T_p_zset_listed (ptrV lb), .int .i64 z.le, .int .i64 z.lm, .int .u32 z.seed] + (cell lb [ptrV sk, ptrV d] + (listM sk hd S + m))) hp (hh.to (by ac_rfl)) hD ha (by omega) fun H1 v sl l e h1 h2 h3 h4 h5 h6 hh => ?_
  have hkeys : (keysD D).Perm (z.L.map (·.1)) := by
    have := hM.map (·.1)
    rw [List.map_map, pair_keys] at this
    exact this
  rw [hs] at h6
  have h7 : l.Perm ((z.L.map (·.1)).filter (inR sd p e)) := h6.trans (hkeys.filter _)
  have hll : l.length ≤ 400 := by
    rw [h7.length_eq]
    exact Nat.le_trans (List.length_filter_le _ _) (by rw [List.length_map]; exact h400)
  have hin : ∀ k ∈ l, ∃ a, (k, a) ∈ z.L ∧ sco k z.L = some a := fun k hk => by
    have := (List.mem_filter.1 (h7.mem_iff.1 hk)).1
    obtain ⟨a, ha, rfl⟩ := List.mem_map.1 this
    obtain ⟨i, hi⟩ := List.getElem?_of_mem ha
    obtain ⟨q, hq1, hq2⟩ := sco_fnd (fnd_of hnd hi)
    rw [hi] at hq1
    simp only [Option.some.injEq] at hq1
    refine ⟨a.2, ha, ?_⟩
    rw [hq2, hq1]
  let f : ByteArray → Ent := fun k => (k, (sco k z.L).getD 0)
  have hf : ∀ x ∈ z.L, f x.1 = x := fun x hx => by
    obtain ⟨i, hi⟩ := List.getElem?_of_mem hx
    obtain ⟨q, hq1, hq2⟩ := sco_fnd (fnd_of hnd hi)
    rw [hi] at hq1
    simp only [Option.some.injEq] at hq1
    show (x.1, (sco x.1 z.L).getD 0) = x
    rw [hq2]
    exact hq1.symm
  have hperm : (l.map f).Perm (z.L.filter fun x => inR sd p e x.1) := by
    refine (h7.map f).trans (List.Perm.of_eq ?_)
    rw [List.filter_map, List.map_map]
    have : ∀ x ∈ z.L.filter (inR sd p e ∘ fun x => x.1), (f ∘ fun x => x.1) x = id x := fun x hx => hf x (List.mem_filter.1 hx).1
    rw [List.map_congr_left this, List.map_id]
    rfl
  (try simp only [xl, xo, Bool.not_eq_true', decide_eq_false_iff_not, ite_not, List.size_toArray, List.length_cons, List.length_nil, Nat.reduceAdd, qt, decide_eq_true_eq, Int.toNat_zero, Int.toNat_natCast, Nat.zero_mul, Nat.mul_one, Nat.one_mul, List.toList_toArray, List.cons_append, List.nil_append, List.append_nil, true_and, and_true, Nat.zero_add, Nat.add_zero, Bool.not_true, Bool.not_false, if_true, if_false, reduceCtorEq, List.set_cons_zero, List.set_cons_succ])
  refine own_len h1 ?_
  refine loop_i (fun k st G => ∃ (i : Nat) (w : Value) (wl fm m2 : Mem), i + k = l.length ∧ st = ((w, .int .i64 i), []) ∧ SlOwn 2 w (entsC ((l.take i).map f)) wl ∧ lenV w = i ∧ LiRepA sd e lb z.L fm ∧
      Has G (wl + (sl + (cell s [.iface T_p_zset_listed (ptrV lb), .int .i64 z.le, .int .i64 z.lm, .int .u32 z.seed] + (fm + (m + m2)))))) l.length
    ⟨0, .slice none 0 0, emp, _, emp, by omega, rfl, .inl ⟨rfl, rfl, rfl⟩, rfl, ⟨sk, d, hd, lv, S, D, rfl, okS, he, hD, hM, hn, hs, h5⟩, hh.to (by simp only [emp_add, add_emp]; ac_rfl)⟩ ?_
  rintro k st g G ⟨i, w, wl, fm, m2, hk, rfl, hw, hlw, hA, hh⟩
  (try simp only [xl, xo, Bool.not_eq_true', decide_eq_false_iff_not, ite_not, List.size_toArray, List.length_cons, List.length_nil, Nat.reduceAdd, qt, decide_eq_true_eq, Int.toNat_zero, Int.toNat_natCast, Nat.zero_mul, Nat.mul_one, Nat.one_mul, List.toList_toArray, List.cons_append, List.nil_append, List.append_nil, true_and, and_true, Nat.zero_add, Nat.add_zero, Bool.not_true, Bool.not_false, if_true, if_false, reduceCtorEq, List.set_cons_zero, List.set_cons_succ])
  by_cases hlt : i < l.length
  · rw [if_pos (by omega)]
    obtain ⟨hb, a1, a2, a3⟩ := own_at (i := i) h1 (by simp [h2]) (by omega)
    refine a1 _ ?_
    have hg : l[i]? = some (l[i]'hlt) := List.getElem?_eq_getElem hlt
    generalize hkd : l[i]'hlt = key at *
    have hkm : key ∈ l := List.mem_of_getElem? hg
    refine a3 G _ 0 (.string key) _ (hh.front sl) (by simp [hg]) ?_
    obtain ⟨a, ha1, ha2⟩ := hin key hkm
    refine listed_scoreA_h (by have := (ok.ok.ok _ ha1).1; simp only at this; omega) hA hnd (hh.front fm) fun G2 fm2 hA2 hh => ?_
    rw [ha2]
    (try simp only [xl, xo, Bool.not_eq_true', decide_eq_false_iff_not, ite_not, List.size_toArray, List.length_cons, List.length_nil, Nat.reduceAdd, qt, decide_eq_true_eq, Int.toNat_zero, Int.toNat_natCast, Nat.zero_mul, Nat.mul_one, Nat.one_mul, List.toList_toArray, List.cons_append, List.nil_append, List.append_nil, true_and, and_true, Nat.zero_add, Nat.add_zero, Bool.not_true, Bool.not_false, if_true, if_false, reduceCtorEq, List.set_cons_zero, List.set_cons_succ])
    refine h_buildSl hh fun eb G3 hh => ?_
    have htk : (l.take (i + 1)).map f = (l.take i).map f ++ [f key] := by
      rw [List.take_add_one, hg, List.map_append]; rfl
    have one : EntsAt G3 (.slice (some ⟨eb, 0, none⟩) 1 1) [f key] := .inr ⟨_, 1, rfl, fun j r hr => by
        cases j with
        | zero =>
          simp at hr; subst hr
          have := (Has.blk (b := eb) (cs := entC (key, a)) hh).readN 0 2 0 (by simp)
          simpa [addr_add, f, ha2] using this
        | succ j => simp at hr⟩
    refine h_appendE hw (hh.front wl) one (by simp; omega) fun w' wl' G4 hw' hh hlw' => ?_
    refine ⟨k - 1, by omega, i + 1, w', wl', fm2, _, by omega, by rw [w64 (by omega)]; rfl, by rw [htk]; exact hw', by rw [hlw']; simp; omega, hA2, (hh.front (wl' + (sl + (cell s [.iface T_p_zset_listed (ptrV lb), .int .i64 z.le, .int .i64 z.lm, .int .u32 z.seed] + (fm2 + m))))).to (by simp only [mem_assoc]; rfl)⟩
  · rw [if_neg (by omega)]
    obtain rfl : i = l.length := by omega
    rw [List.take_length] at hw
    exact hK G _ w wl (l.map f) e hw (by simpa using hlw) h3 h4 ⟨hl, lb, fm, hA, rfl⟩ hperm (hh.front (wl + (cell s [.iface T_p_zset_listed (ptrV lb), .int .i64 z.le, .int .i64 z.lm, .int .u32 z.seed] + fm + m))).left
end
end Go.X.W
set_option linter.unusedVariables false
set_option linter.unusedSimpArgs false
namespace Go.X.W
open Go Go.X Go.Proofs

variable {H : Heap} {m : Mem} {K : Value → Heap → Prop}

theorem tw_spec {p : Ent → Bool} : ∀ {l : List Ent}, l.Pairwise (fun a b => p b = true → p a = true) → ∀ (i : Nat) e, l[i]? = some e → p e = decide (i < (l.takeWhile p).length)
  | [], _, i, e, h => by simp at h
  | x :: l, hm, i, e, h => by
    rw [List.takeWhile_cons]
    rw [List.pairwise_cons] at hm
    cases hx : p x with
    | false =>
      rw [if_neg (by simp)]
      cases i with
      | zero => simp at h; subst h; simp [hx]
      | succ i =>
        have h2 := hm.1 e (List.mem_of_getElem? (by simpa using h))
        cases he : p e with
        | false => simp
        | true => rw [h2 he] at hx; cases hx
    | true =>
      rw [if_pos rfl]
      cases i with
      | zero => simp at h; subst h; simp [hx]
      | succ i =>
        rw [tw_spec hm.2 i e (by simpa using h)]
        simp
theorem tw_le (p : Ent → Bool) : ∀ l : List Ent, (l.takeWhile p).length ≤ l.length
  | [] => by simp
  | x :: l => by rw [List.takeWhile_cons]; split <;> simp; exact tw_le p l

theorem elt_le {a b : Ent} (h : elt a b = true) : a.2 ≤ b.2 := by
  simp only [elt, Bool.or_eq_true, Bool.and_eq_true, decide_eq_true_eq] at h
  omega
theorem inLo_mono {x y : Int} {b : Bnd} (h : x ≤ y) (hx : inLo x b = true) : inLo y b = true := by
  simp only [inLo, Bool.or_eq_true, Bool.and_eq_true, decide_eq_true_eq, Bool.not_eq_true'] at *
  rcases hx with hx | ⟨h1, hx | ⟨h2, h3⟩⟩
  · exact .inl hx
  · exact .inr ⟨h1, .inl (by omega)⟩
  · by_cases e : y = b.n
    · exact .inr ⟨h1, .inr ⟨e, h3⟩⟩
    · exact .inr ⟨h1, .inl (by omega)⟩
theorem inHi_mono {x y : Int} {b : Bnd} (h : x ≤ y) (hx : inHi y b = true) : inHi x b = true := by
  simp only [inHi, Bool.or_eq_true, Bool.and_eq_true, decide_eq_true_eq, Bool.not_eq_true'] at *
  rcases hx with hx | ⟨h1, hx | ⟨h2, h3⟩⟩
  · exact .inl hx
  · exact .inr ⟨h1, .inl (by omega)⟩
  · by_cases e : x = b.n
    · exact .inr ⟨h1, .inr ⟨e, h3⟩⟩
    · exact .inr ⟨h1, .inl (by omega)⟩
def lowP (f : Bnd) (e : Ent) : Bool := !inLo e.2 f
def highP (t : Bnd) (e : Ent) : Bool := inHi e.2 t
theorem low_pw {l : List Ent} (hs : SortedE l) (f : Bnd) : l.Pairwise (fun a b => lowP f b = true → lowP f a = true) :=
  hs.imp fun {a b} h hb => by
    unfold lowP at *
    cases ha : inLo a.2 f with
    | false => rfl
    | true => rw [inLo_mono (elt_le h) ha] at hb; cases hb
theorem high_pw {l : List Ent} (hs : SortedE l) (t : Bnd) : l.Pairwise (fun a b => highP t b = true → highP t a = true) :=
  hs.imp fun {a b} h hb => inHi_mono (elt_le h) hb
/-- The places of a range of scores. -/
def btwA (f : Bnd) (l : List Ent) : Nat := (l.takeWhile (lowP f)).length
def btwB (t : Bnd) (l : List Ent) : Nat := (l.takeWhile (highP t)).length

section
variable {z : ZSt} {s : Nat} {zm : Mem}
theorem zset_Between_h {f t : Bnd} (hz : ZRep z s zm) (ok : ZOk z) (hh : Has H (zm + m)) (hK : ∀ H', Has H' (zm + m) → K (.tuple #[.int .i64 (btwA f z.L : Nat), .int .i64 ((max (btwA f z.L) (btwB t z.L) : Nat) : Int)]) H') :
    CallH P f_zset_Set_Between [ptrV s, bndV f, bndV t] H K := by
  apply k_zset_Set_Between
  unfold c_zset_Set_Between
  rw [x_boxN]
  refine h_allocA hh fun fb H1 hh => ?_
  rw [x_boxN]
  refine h_allocA hh fun tb H2 hh => ?_
  (try simp only [xl, xo, Bool.not_eq_true', decide_eq_false_iff_not, ite_not, List.size_toArray, List.length_cons, List.length_nil, Nat.reduceAdd, qt, decide_eq_true_eq, Int.toNat_zero, Int.toNat_natCast, Nat.zero_mul, Nat.mul_one, Nat.one_mul, List.toList_toArray, List.cons_append, List.nil_append, List.append_nil, true_and, and_true, Nat.zero_add, Nat.add_zero, Bool.not_true, Bool.not_false, if_true, if_false, reduceCtorEq, List.set_cons_zero, List.set_cons_succ])
  refine h_alloc hh fun lb H3 hh => ?_
  refine h_alloc hh fun mb H4 hh => ?_
  refine h_storeAll (b := lb) hh rfl rfl (by simp [Value.oneCell]) fun H5 hh => ?_
  refine h_storeAll (b := mb) hh rfl rfl (by simp [Value.oneCell]) fun H6 hh => ?_
  have hh : Has H6 (zm + ((cell fb [.int .i64 f.n, .bool f.out, .int .i64 f.inf] + (cell mb [.int .i64 0, .bool false, .int .i64 1] + (cell lb [.int .i64 0, .bool false, .int .i64 (-1)] + cell tb [.int .i64 t.n, .bool t.out, .int .i64 t.inf]))) + m)) := hh.to (by simp only [List.toList_toArray]; ac_rfl)
  generalize hRR : (cell fb [.int .i64 f.n, .bool f.out, .int .i64 f.inf] + (cell mb [.int .i64 0, .bool false, .int .i64 1] + (cell lb [.int .i64 0, .bool false, .int .i64 (-1)] + cell tb [.int .i64 t.n, .bool t.out, .int .i64 t.inf]))) = RR at hh
  refine zset_place_h (c := btwA f z.L) (R := RR) (p := lowP f) hz ok rfl hh (tw_le _ _) (tw_spec (low_pw ok.ok.sorted f)) ?_ fun H7 hh => ?_
  · intro e G m' he hh
    subst hRR
    rw [x_callV]
    apply k_zset_Set_Between_1
    unfold c_zset_Set_Between_1
    rw [x_boxN]
    refine h_allocA hh fun eb G1 hh => ?_
    (try simp only [xl, xo, Bool.not_eq_true', decide_eq_false_iff_not, ite_not, List.size_toArray, List.length_cons, List.length_nil, Nat.reduceAdd, qt, decide_eq_true_eq, Int.toNat_zero, Int.toNat_natCast, Nat.zero_mul, Nat.mul_one, Nat.one_mul, List.toList_toArray, List.cons_append, List.nil_append, List.append_nil, true_and, and_true, Nat.zero_add, Nat.add_zero, Bool.not_true, Bool.not_false, if_true, if_false, reduceCtorEq, List.set_cons_zero, List.set_cons_succ])
    refine h_load (b := eb) hh rfl ?_
    refine h_loadAll (b := fb) hh rfl (h_loadAll (b := mb) hh rfl ?_)
    refine bound_In_h (x := e.2) (a := f) (b := ⟨0, false, 1⟩) hh fun G2 hh => ?_
    (try simp only [xl, xo, Bool.not_eq_true', decide_eq_false_iff_not, ite_not, List.size_toArray, List.length_cons, List.length_nil, Nat.reduceAdd, qt, decide_eq_true_eq, Int.toNat_zero, Int.toNat_natCast, Nat.zero_mul, Nat.mul_one, Nat.one_mul, List.toList_toArray, List.cons_append, List.nil_append, List.append_nil, true_and, and_true, Nat.zero_add, Nat.add_zero, Bool.not_true, Bool.not_false, if_true, if_false, reduceCtorEq, List.set_cons_zero, List.set_cons_succ])
    refine ⟨?_, hh.right⟩
    simp [lowP, inHi]
  · refine zset_place_h (c := btwB t z.L) (R := RR) (p := highP t) hz ok rfl hh (tw_le _ _) (tw_spec (high_pw ok.ok.sorted t)) ?_ fun H8 hh => ?_
    · intro e G m' he hh
      subst hRR
      rw [x_callV]
      apply k_zset_Set_Between_2
      unfold c_zset_Set_Between_2
      rw [x_boxN]
      refine h_allocA hh fun eb G1 hh => ?_
      (try simp only [xl, xo, Bool.not_eq_true', decide_eq_false_iff_not, ite_not, List.size_toArray, List.length_cons, List.length_nil, Nat.reduceAdd, qt, decide_eq_true_eq, Int.toNat_zero, Int.toNat_natCast, Nat.zero_mul, Nat.mul_one, Nat.one_mul, List.toList_toArray, List.cons_append, List.nil_append, List.append_nil, true_and, and_true, Nat.zero_add, Nat.add_zero, Bool.not_true, Bool.not_false, if_true, if_false, reduceCtorEq, List.set_cons_zero, List.set_cons_succ])
      refine h_load (b := eb) hh rfl ?_
      refine h_loadAll (b := lb) hh rfl (h_loadAll (b := tb) hh rfl ?_)
      refine bound_In_h (x := e.2) (a := ⟨0, false, -1⟩) (b := t) hh fun G2 hh => ?_
      refine ⟨?_, hh.right⟩
      simp [highP, inLo]
    · (try simp only [xl, xo, Bool.not_eq_true', decide_eq_false_iff_not, ite_not, List.size_toArray, List.length_cons, List.length_nil, Nat.reduceAdd, qt, decide_eq_true_eq, Int.toNat_zero, Int.toNat_natCast, Nat.zero_mul, Nat.mul_one, Nat.one_mul, List.toList_toArray, List.cons_append, List.nil_append, List.append_nil, true_and, and_true, Nat.zero_add, Nat.add_zero, Bool.not_true, Bool.not_false, if_true, if_false, reduceCtorEq, List.set_cons_zero, List.set_cons_succ])
      have := hK H8 (hh.front (zm + m)).left
      rw [show ((max (btwA f z.L) (btwB t z.L) : Nat) : Int) = max (btwA f z.L : Int) (btwB t z.L : Int) by omega] at this
      exact this

theorem values_i {l xb : Nat} {v : Value} {L : List Ent} (Inv : Nat → Heap → Prop) (hI : ∀ j G, Inv j G → ∃ m', Has G (cell xb [v] + m') ∧ EntsAt G v L ∧ ∀ G', Has G' (cell xb [v] + m') → Inv j G') (hb : L.length < 1000000)
    (hY : ∀ j e G, L[j]? = some e → Inv j G → YieldH P l [entV e] G fun u G' => u = .bool true ∧ Inv (j + 1) G') (h0 : Inv 0 H) (hK : ∀ G, Inv L.length G → K (.tuple #[]) G) :
    CallH P f_slices_Values_s_api_Entry_api_Entry_1 [.func (.yield l) #[] #[], ptrV xb] H K := by
  apply k_slices_Values_s_api_Entry_api_Entry_1
  unfold c_slices_Values_s_api_Entry_api_Entry_1
  obtain ⟨m0, hh0, he0, _⟩ := hI 0 H h0
  refine h_load (b := xb) hh0 rfl ?_
  refine he0.len ?_
  refine loop_i (fun k st G => ∃ j : Nat, j + k = L.length ∧ st = (.int .i64 j, []) ∧ Inv j G) L.length ⟨0, by omega, rfl, h0⟩ ?_
  rintro k _ g G ⟨j, hjk, rfl, hi⟩
  (try simp only [xl, xo, Bool.not_eq_true', decide_eq_false_iff_not, ite_not, List.size_toArray, List.length_cons, List.length_nil, Nat.reduceAdd, qt, decide_eq_true_eq, Int.toNat_zero, Int.toNat_natCast, Nat.zero_mul, Nat.mul_one, Nat.one_mul, List.toList_toArray, List.cons_append, List.nil_append, List.append_nil, true_and, and_true, Nat.zero_add, Nat.add_zero, Bool.not_true, Bool.not_false, if_true, if_false, reduceCtorEq, List.set_cons_zero, List.set_cons_succ])
  by_cases hj : j < L.length
  · rw [if_pos (by omega)]
    obtain ⟨m', hh, he, hst⟩ := hI j G hi
    have hg : L[j]? = some (L[j]'hj) := List.getElem?_eq_getElem hj
    generalize L[j]'hj = e at hg
    obtain ⟨p, hp1, hp2⟩ := he.at hg
    refine hp1 (load_row hp2 ?_)
    refine h_alloc hh fun eb G1 hh => ?_
    refine h_store2 (b := eb) hh rfl rfl (by simp) fun G2 hh => ?_
    refine h_load2 (b := eb) hh rfl rfl ?_
    refine YieldH.mono (hY j e G2 hg (hst G2 hh.right)) ?_
    rintro u G3 ⟨rfl, h3⟩
    (try simp only [xl, xo, Bool.not_eq_true', decide_eq_false_iff_not, ite_not, List.size_toArray, List.length_cons, List.length_nil, Nat.reduceAdd, qt, decide_eq_true_eq, Int.toNat_zero, Int.toNat_natCast, Nat.zero_mul, Nat.mul_one, Nat.one_mul, List.toList_toArray, List.cons_append, List.nil_append, List.append_nil, true_and, and_true, Nat.zero_add, Nat.add_zero, Bool.not_true, Bool.not_false, if_true, if_false, reduceCtorEq, List.set_cons_zero, List.set_cons_succ])
    rw [w64 (by omega)]
    exact ⟨k - 1, by omega, j + 1, by omega, rfl, h3⟩
  · rw [if_neg (by omega)]
    have : j = L.length := by omega
    subst this
    exact hK G hi

noncomputable def inMem (a b : Edg) (e : Ent) : Bool := inLoS e.1 a && inHiS e.1 b
theorem filter_take {p : Ent → Bool} {l : List Ent} {i : Nat} {e : Ent} (h : l[i]? = some e) : (l.take (i + 1)).filter p = (l.take i).filter p ++ (if p e then [e] else []) := by
  rw [List.take_add_one, h, Option.toList_some, List.filter_append]
  congr 1
  cases hp : p e <;> simp [hp]

theorem zset_Members_h {a b : Edg} (hz : ZRep z s zm) (ok : ZOk z) (hh : Has H (zm + m)) (hK : ∀ H' v sl, SlOwn 2 v (entsC (z.L.filter (inMem a b))) sl → lenV v = (z.L.filter (inMem a b)).length → Has H' (sl + (zm + m)) → K v H') :
    CallH P f_zset_Set_Members [ptrV s, edgV a, edgV b] H K := by
  apply k_zset_Set_Members
  unfold c_zset_Set_Members
  have h400 := ok.ok.len
  rw [x_boxN]
  refine h_allocA hh fun ab H1 hh => ?_
  rw [x_boxN]
  refine h_allocA hh fun bb H2 hh => ?_
  refine h_alloc hh fun ob H3 hh => ?_
  apply k_zset_Set_each
  unfold c_zset_Set_each
  refine zset_Len_h hz ok (hh.front zm) fun H4 hh => ?_
  refine zset_Range_h hz ok hh fun H5 v sl hv hlv hh => ?_
  rw [rng_all] at hv hlv
  apply k_slices_Values_s_api_Entry_api_Entry
  unfold c_slices_Values_s_api_Entry_api_Entry
  rw [x_box]
  refine ⟨own_oc hv, ?_⟩
  refine h_alloc hh fun xb H6 hh => ?_
  refine h_range hh fun D l Lp G hh hst hpd hY => ?_
  (try simp only [xl, xo, Bool.not_eq_true', decide_eq_false_iff_not, ite_not, List.size_toArray, List.length_cons, List.length_nil, Nat.reduceAdd, qt, decide_eq_true_eq, Int.toNat_zero, Int.toNat_natCast, Nat.zero_mul, Nat.mul_one, Nat.one_mul, List.toList_toArray, List.cons_append, List.nil_append, List.append_nil, true_and, and_true, Nat.zero_add, Nat.add_zero, Bool.not_true, Bool.not_false, if_true, if_false, reduceCtorEq, List.set_cons_zero, List.set_cons_succ])
  refine values_i (l := l) (xb := xb) (v := v) (L := z.L) (fun j Q => ∃ u ul m', SlOwn 2 u (entsC ((z.L.take j).filter (inMem a b))) ul ∧ lenV u = ((z.L.take j).filter (inMem a b)).length ∧ j ≤ z.L.length ∧
      Has Q (cell xb [v] + (sl + (ul + (cell ob [u] + (cell ab [.string a.s, .bool a.out, .int .i64 a.inf] + (cell bb [.string b.s, .bool b.out, .int .i64 b.inf] + (objM l (.loop Lp) + (objM D (.deferred (some [])) + (zm + (m + m'))))))))))) ?_ (by omega) ?_ ?_ ?_
  · rintro j Q ⟨u, ul, m', h1, h2, h3, hh⟩
    exact ⟨_, hh, own_ents hv hlv (hh.front sl), fun G' hh => ⟨u, ul, m', h1, h2, h3, hh⟩⟩
  · rintro j e Q hg ⟨u, ul, m', h1, h2, h3, hh⟩
    have hj := (List.getElem?_eq_some_iff.1 hg).1
    refine hY (entV e) Q _ hh.obj ?_
    refine h_alloc hh fun eb Q1 hh => ?_
    refine h_store2 (b := eb) hh rfl rfl (by simp) fun Q2 hh => ?_
    refine h_begin hh hst fun Q3 hh => ?_
    refine h_load (b := eb) hh rfl ?_
    refine h_loadAll (b := ab) hh rfl (h_loadAll (b := bb) hh rfl ?_)
    refine bound_InEdge_h (x := e.1) (a := a) (b := b) hh fun Q4 hh => ?_
    have hf := filter_take (p := inMem a b) hg
    cases hp : inMem a b e with
    | false =>
      have hp' : (inLoS e.1 a && inHiS e.1 b) = false := hp
      rw [hp']
      rw [hp] at hf
      simp only [Bool.false_eq_true, if_false, List.append_nil] at hf
      (try simp only [xl, xo, Bool.not_eq_true', decide_eq_false_iff_not, ite_not, List.size_toArray, List.length_cons, List.length_nil, Nat.reduceAdd, qt, decide_eq_true_eq, Int.toNat_zero, Int.toNat_natCast, Nat.zero_mul, Nat.mul_one, Nat.one_mul, List.toList_toArray, List.cons_append, List.nil_append, List.append_nil, true_and, and_true, Nat.zero_add, Nat.add_zero, Bool.not_true, Bool.not_false, if_true, if_false, reduceCtorEq, List.set_cons_zero, List.set_cons_succ])
      refine h_end hh hst hpd fun Q5 hh => ⟨rfl, u, ul, _, by rw [hf]; exact h1, by rw [hf]; exact h2, by omega, (hh.front (cell xb [v] + (sl + (ul + (cell ob [u] + (cell ab [.string a.s, .bool a.out, .int .i64 a.inf] + (cell bb [.string b.s, .bool b.out, .int .i64 b.inf] + (objM l (.loop Lp) + (objM D (.deferred (some [])) + (zm + m)))))))))).to (by simp only [mem_assoc]; rfl)⟩
    | true =>
      have hp' : (inLoS e.1 a && inHiS e.1 b) = true := hp
      rw [hp']
      rw [hp, if_pos rfl] at hf
      (try simp only [xl, xo, Bool.not_eq_true', decide_eq_false_iff_not, ite_not, List.size_toArray, List.length_cons, List.length_nil, Nat.reduceAdd, qt, decide_eq_true_eq, Int.toNat_zero, Int.toNat_natCast, Nat.zero_mul, Nat.mul_one, Nat.one_mul, List.toList_toArray, List.cons_append, List.nil_append, List.append_nil, true_and, and_true, Nat.zero_add, Nat.add_zero, Bool.not_true, Bool.not_false, if_true, if_false, reduceCtorEq, List.set_cons_zero, List.set_cons_succ])
      refine h_load (b := ob) hh rfl (h_load2 (b := eb) hh rfl rfl ?_)
      (try simp only [xl, xo, Bool.not_eq_true', decide_eq_false_iff_not, ite_not, List.size_toArray, List.length_cons, List.length_nil, Nat.reduceAdd, qt, decide_eq_true_eq, Int.toNat_zero, Int.toNat_natCast, Nat.zero_mul, Nat.mul_one, Nat.one_mul, List.toList_toArray, List.cons_append, List.nil_append, List.append_nil, true_and, and_true, Nat.zero_add, Nat.add_zero, Bool.not_true, Bool.not_false, if_true, if_false, reduceCtorEq, List.set_cons_zero, List.set_cons_succ])
      refine h_buildSl hh fun tb Q5 hh => ?_
      have one : EntsAt Q5 (.slice (some ⟨tb, 0, none⟩) 1 1) [e] := .inr ⟨_, 1, rfl, fun j r hr => by
        cases j with
        | zero =>
          simp at hr; subst hr
          have := (Has.blk (b := tb) (cs := entC e) hh).readN 0 2 0 (by simp)
          simpa [addr_add] using this
        | succ j => simp at hr⟩
      have hlt : ((z.L.take j).filter (inMem a b)).length ≤ z.L.length := Nat.le_trans (List.length_filter_le _ _) (by rw [List.length_take]; omega)
      refine h_appendE h1 (hh.front ul) one (by simp only [List.length_cons, List.length_nil]; omega) fun u' ul' Q6 hu' hh hlu' => ?_
      refine h_put (b := ob) hh (own_oc hu') fun Q7 hh => ?_
      refine h_end hh hst hpd fun Q8 hh => ⟨rfl, u', ul', _, by rw [hf]; exact hu', by rw [hf]; exact hlu', by omega, (hh.front (cell xb [v] + (sl + (ul' + (cell ob [u'] + (cell ab [.string a.s, .bool a.out, .int .i64 a.inf] + (cell bb [.string b.s, .bool b.out, .int .i64 b.inf] + (objM l (.loop Lp) + (objM D (.deferred (some [])) + (zm + m)))))))))).to (by simp only [mem_assoc]; rfl)⟩
  · exact ⟨.slice none 0 0, emp, emp, .inl ⟨rfl, rfl, rfl⟩, rfl, by omega, hh.to (by simp only [emp_add, add_emp, List.toList_toArray]; ac_rfl)⟩
  · rintro Q ⟨u, ul, m', h1, h2, h3, hh⟩
    refine ⟨Lp, _, hh.front (objM l (.loop Lp)), by rw [hst]; simp, fun Q1 hh => ?_⟩
    simp only [x_alt1, x_j0, hpd, true_and]
    refine h_load (b := ob) hh rfl ?_
    refine h_ret1 hh fun Q2 hh => ?_
    rw [List.take_length] at h1 h2
    exact hK Q2 u ul h1 h2 (hh.front (ul + (zm + m))).left
end
end Go.X.W
