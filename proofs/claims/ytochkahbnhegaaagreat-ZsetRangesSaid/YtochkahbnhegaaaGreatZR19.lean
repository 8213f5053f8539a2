/- Contracts: the reference's ranges of scores and of members; the statement ZsetRanges: the walk. -/
import Derived.Test.YtochkahbnhegaaaGreatZR18
set_option linter.unusedVariables false
set_option linter.unusedSimpArgs false
namespace Go.X.W
open Go Go.X Go.Proofs

variable {H : Heap} {m : Mem} {K : Value → Heap → Prop}

theorem ref09_In_h {x : Int} {a b : Bnd} (hh : Has H m) (hK : ∀ H', Has H' m → K (.bool (inLo x a && inHi x b)) H') : CallH P f_palioref09_In [.int .i64 x, bndV a, bndV b] H K := by
  apply k_palioref09_In
  unfold c_palioref09_In
  rw [x_boxN]
  refine h_allocA hh fun fb H1 hh => ?_
  rw [x_boxN]
  refine h_allocA hh fun tb H2 hh => ?_
  refine join_of (.bool (inLo x a), []) (fun Q => Has Q (cell tb [.int .i64 b.n, .bool b.out, .int .i64 b.inf] + (cell fb [.int .i64 a.n, .bool a.out, .int .i64 a.inf] + m))) ?_ ?_
  · rintro Q hh g1
    refine join_of (.bool (inHi x b), []) (fun Q2 => Q2 = Q) ?_ ?_
    · rintro Q2 rfl g2
      have := hK Q2 hh.right.right
      cases h1 : inLo x a <;> rw [h1] at this <;> exact this
    · intro J hJ
      have hJ := hJ Q rfl
      (try simp only [xl, xo, Bool.not_eq_true', decide_eq_false_iff_not, ite_not, List.size_toArray, List.length_cons, List.length_nil, Nat.reduceAdd, qt, decide_eq_true_eq, Int.toNat_zero, Int.toNat_natCast, Nat.zero_mul, Nat.mul_one, Nat.one_mul, List.toList_toArray, List.cons_append, List.nil_append, List.append_nil, true_and, and_true, Nat.zero_add, Nat.add_zero, Bool.not_true, Bool.not_false, if_true, if_false, reduceCtorEq, List.set_cons_zero, List.set_cons_succ])
      refine h_load (b := tb) hh rfl ?_
      (try simp only [xl, xo, Bool.not_eq_true', decide_eq_false_iff_not, ite_not, List.size_toArray, List.length_cons, List.length_nil, Nat.reduceAdd, qt, decide_eq_true_eq, Int.toNat_zero, Int.toNat_natCast, Nat.zero_mul, Nat.mul_one, Nat.one_mul, List.toList_toArray, List.cons_append, List.nil_append, List.append_nil, true_and, and_true, Nat.zero_add, Nat.add_zero, Bool.not_true, Bool.not_false, if_true, if_false, reduceCtorEq, List.set_cons_zero, List.set_cons_succ])
      by_cases h1 : 0 < b.inf
      · rw [if_pos h1]
        have e : inHi x b = true := by simp [inHi, h1]
        rw [e] at hJ; exact hJ
      rw [if_neg h1]
      refine h_load (b := tb) hh rfl ?_
      (try simp only [xl, xo, Bool.not_eq_true', decide_eq_false_iff_not, ite_not, List.size_toArray, List.length_cons, List.length_nil, Nat.reduceAdd, qt, decide_eq_true_eq, Int.toNat_zero, Int.toNat_natCast, Nat.zero_mul, Nat.mul_one, Nat.one_mul, List.toList_toArray, List.cons_append, List.nil_append, List.append_nil, true_and, and_true, Nat.zero_add, Nat.add_zero, Bool.not_true, Bool.not_false, if_true, if_false, reduceCtorEq, List.set_cons_zero, List.set_cons_succ])
      by_cases h2 : b.inf = 0
      · rw [if_pos h2]
        refine h_load (b := tb) hh rfl ?_
        (try simp only [xl, xo, Bool.not_eq_true', decide_eq_false_iff_not, ite_not, List.size_toArray, List.length_cons, List.length_nil, Nat.reduceAdd, qt, decide_eq_true_eq, Int.toNat_zero, Int.toNat_natCast, Nat.zero_mul, Nat.mul_one, Nat.one_mul, List.toList_toArray, List.cons_append, List.nil_append, List.append_nil, true_and, and_true, Nat.zero_add, Nat.add_zero, Bool.not_true, Bool.not_false, if_true, if_false, reduceCtorEq, List.set_cons_zero, List.set_cons_succ])
        by_cases h3 : x < b.n
        · rw [if_pos h3]
          have e : inHi x b = true := by simp [inHi, h2, h3]
          rw [e] at hJ; exact hJ
        rw [if_neg h3]
        refine h_load (b := tb) hh rfl ?_
        (try simp only [xl, xo, Bool.not_eq_true', decide_eq_false_iff_not, ite_not, List.size_toArray, List.length_cons, List.length_nil, Nat.reduceAdd, qt, decide_eq_true_eq, Int.toNat_zero, Int.toNat_natCast, Nat.zero_mul, Nat.mul_one, Nat.one_mul, List.toList_toArray, List.cons_append, List.nil_append, List.append_nil, true_and, and_true, Nat.zero_add, Nat.add_zero, Bool.not_true, Bool.not_false, if_true, if_false, reduceCtorEq, List.set_cons_zero, List.set_cons_succ])
        by_cases h4 : x = b.n
        · rw [if_pos h4]
          refine h_load (b := tb) hh rfl ?_
          have e : inHi x b = !b.out := by simp [inHi, h2, h4]
          rw [e] at hJ; exact hJ
        · rw [if_neg h4]
          have e : inHi x b = false := by simp [inHi, h2, h3, h4]
          rw [e] at hJ; exact hJ
      · rw [if_neg h2]
        have e : inHi x b = false := by simp [inHi, h1, h2]
        rw [e] at hJ; exact hJ
  · intro J hJ
    have hJ := hJ H2 hh
    (try simp only [xl, xo, Bool.not_eq_true', decide_eq_false_iff_not, ite_not, List.size_toArray, List.length_cons, List.length_nil, Nat.reduceAdd, qt, decide_eq_true_eq, Int.toNat_zero, Int.toNat_natCast, Nat.zero_mul, Nat.mul_one, Nat.one_mul, List.toList_toArray, List.cons_append, List.nil_append, List.append_nil, true_and, and_true, Nat.zero_add, Nat.add_zero, Bool.not_true, Bool.not_false, if_true, if_false, reduceCtorEq, List.set_cons_zero, List.set_cons_succ])
    refine h_load (b := fb) hh rfl ?_
    (try simp only [xl, xo, Bool.not_eq_true', decide_eq_false_iff_not, ite_not, List.size_toArray, List.length_cons, List.length_nil, Nat.reduceAdd, qt, decide_eq_true_eq, Int.toNat_zero, Int.toNat_natCast, Nat.zero_mul, Nat.mul_one, Nat.one_mul, List.toList_toArray, List.cons_append, List.nil_append, List.append_nil, true_and, and_true, Nat.zero_add, Nat.add_zero, Bool.not_true, Bool.not_false, if_true, if_false, reduceCtorEq, List.set_cons_zero, List.set_cons_succ])
    by_cases h1 : a.inf < 0
    · rw [if_pos h1]
      have e : inLo x a = true := by simp [inLo, h1]
      rw [e] at hJ; exact hJ
    rw [if_neg h1]
    refine h_load (b := fb) hh rfl ?_
    (try simp only [xl, xo, Bool.not_eq_true', decide_eq_false_iff_not, ite_not, List.size_toArray, List.length_cons, List.length_nil, Nat.reduceAdd, qt, decide_eq_true_eq, Int.toNat_zero, Int.toNat_natCast, Nat.zero_mul, Nat.mul_one, Nat.one_mul, List.toList_toArray, List.cons_append, List.nil_append, List.append_nil, true_and, and_true, Nat.zero_add, Nat.add_zero, Bool.not_true, Bool.not_false, if_true, if_false, reduceCtorEq, List.set_cons_zero, List.set_cons_succ])
    by_cases h2 : a.inf = 0
    · rw [if_pos h2]
      refine h_load (b := fb) hh rfl ?_
      (try simp only [xl, xo, Bool.not_eq_true', decide_eq_false_iff_not, ite_not, List.size_toArray, List.length_cons, List.length_nil, Nat.reduceAdd, qt, decide_eq_true_eq, Int.toNat_zero, Int.toNat_natCast, Nat.zero_mul, Nat.mul_one, Nat.one_mul, List.toList_toArray, List.cons_append, List.nil_append, List.append_nil, true_and, and_true, Nat.zero_add, Nat.add_zero, Bool.not_true, Bool.not_false, if_true, if_false, reduceCtorEq, List.set_cons_zero, List.set_cons_succ])
      by_cases h3 : a.n < x
      · rw [if_pos h3]
        have e : inLo x a = true := by simp [inLo, h2, h3]
        rw [e] at hJ; exact hJ
      rw [if_neg h3]
      refine h_load (b := fb) hh rfl ?_
      (try simp only [xl, xo, Bool.not_eq_true', decide_eq_false_iff_not, ite_not, List.size_toArray, List.length_cons, List.length_nil, Nat.reduceAdd, qt, decide_eq_true_eq, Int.toNat_zero, Int.toNat_natCast, Nat.zero_mul, Nat.mul_one, Nat.one_mul, List.toList_toArray, List.cons_append, List.nil_append, List.append_nil, true_and, and_true, Nat.zero_add, Nat.add_zero, Bool.not_true, Bool.not_false, if_true, if_false, reduceCtorEq, List.set_cons_zero, List.set_cons_succ])
      by_cases h4 : x = a.n
      · rw [if_pos h4]
        refine h_load (b := fb) hh rfl ?_
        have e : inLo x a = !a.out := by simp [inLo, h2, h4]
        rw [e] at hJ; exact hJ
      · rw [if_neg h4]
        have e : inLo x a = false := by simp [inLo, h2, h3, h4]
        rw [e] at hJ; exact hJ
    · rw [if_neg h2]
      have e : inLo x a = false := by simp [inLo, h1, h2]
      rw [e] at hJ; exact hJ

theorem ref09_InEdge_h {x : ByteArray} {a b : Edg} (hx : x.size ≤ 9223372036854775807) (ha : a.s.size ≤ 9223372036854775807) (hh : Has H m) (hK : ∀ H', Has H' m → K (.bool (inLoS x a && inHiS x b)) H') : CallH P f_palioref09_InEdge [.string x, edgV a, edgV b] H K := by
  apply k_palioref09_InEdge
  unfold c_palioref09_InEdge
  rw [x_boxN]
  refine h_allocA hh fun fb H1 hh => ?_
  rw [x_boxN]
  refine h_allocA hh fun tb H2 hh => ?_
  refine join_of (.bool (inLoS x a), []) (fun Q => Has Q (cell tb [.string b.s, .bool b.out, .int .i64 b.inf] + (cell fb [.string a.s, .bool a.out, .int .i64 a.inf] + m))) ?_ ?_
  · rintro Q hh g1
    refine join_of (.bool (inHiS x b), []) (fun Q2 => Q2 = Q) ?_ ?_
    · rintro Q2 rfl g2
      have := hK Q2 hh.right.right
      cases h1 : inLoS x a <;> rw [h1] at this <;> exact this
    · intro J hJ
      have hJ := hJ Q rfl
      (try simp only [xl, xo, Bool.not_eq_true', decide_eq_false_iff_not, ite_not, List.size_toArray, List.length_cons, List.length_nil, Nat.reduceAdd, qt, decide_eq_true_eq, Int.toNat_zero, Int.toNat_natCast, Nat.zero_mul, Nat.mul_one, Nat.one_mul, List.toList_toArray, List.cons_append, List.nil_append, List.append_nil, true_and, and_true, Nat.zero_add, Nat.add_zero, Bool.not_true, Bool.not_false, if_true, if_false, reduceCtorEq, List.set_cons_zero, List.set_cons_succ])
      refine h_load (b := tb) hh rfl ?_
      (try simp only [xl, xo, Bool.not_eq_true', decide_eq_false_iff_not, ite_not, List.size_toArray, List.length_cons, List.length_nil, Nat.reduceAdd, qt, decide_eq_true_eq, Int.toNat_zero, Int.toNat_natCast, Nat.zero_mul, Nat.mul_one, Nat.one_mul, List.toList_toArray, List.cons_append, List.nil_append, List.append_nil, true_and, and_true, Nat.zero_add, Nat.add_zero, Bool.not_true, Bool.not_false, if_true, if_false, reduceCtorEq, List.set_cons_zero, List.set_cons_succ])
      by_cases h1 : 0 < b.inf
      · rw [if_pos h1]
        have e : inHiS x b = true := by simp [inHiS, h1]
        rw [e] at hJ; exact hJ
      rw [if_neg h1]
      refine h_load (b := tb) hh rfl ?_
      (try simp only [xl, xo, Bool.not_eq_true', decide_eq_false_iff_not, ite_not, List.size_toArray, List.length_cons, List.length_nil, Nat.reduceAdd, qt, decide_eq_true_eq, Int.toNat_zero, Int.toNat_natCast, Nat.zero_mul, Nat.mul_one, Nat.one_mul, List.toList_toArray, List.cons_append, List.nil_append, List.append_nil, true_and, and_true, Nat.zero_add, Nat.add_zero, Bool.not_true, Bool.not_false, if_true, if_false, reduceCtorEq, List.set_cons_zero, List.set_cons_succ])
      by_cases h2 : b.inf = 0
      · rw [if_pos h2]
        refine h_load (b := tb) hh rfl ?_
        refine ref07_Less_h hx ?_
        cases h3 : bl x b.s with
        | true =>
          (try simp only [xl, xo, Bool.not_eq_true', decide_eq_false_iff_not, ite_not, List.size_toArray, List.length_cons, List.length_nil, Nat.reduceAdd, qt, decide_eq_true_eq, Int.toNat_zero, Int.toNat_natCast, Nat.zero_mul, Nat.mul_one, Nat.one_mul, List.toList_toArray, List.cons_append, List.nil_append, List.append_nil, true_and, and_true, Nat.zero_add, Nat.add_zero, Bool.not_true, Bool.not_false, if_true, if_false, reduceCtorEq, List.set_cons_zero, List.set_cons_succ])
          have e : inHiS x b = true := by simp [inHiS, h2, h3]
          rw [e] at hJ; exact hJ
        | false =>
          (try simp only [xl, xo, Bool.not_eq_true', decide_eq_false_iff_not, ite_not, List.size_toArray, List.length_cons, List.length_nil, Nat.reduceAdd, qt, decide_eq_true_eq, Int.toNat_zero, Int.toNat_natCast, Nat.zero_mul, Nat.mul_one, Nat.one_mul, List.toList_toArray, List.cons_append, List.nil_append, List.append_nil, true_and, and_true, Nat.zero_add, Nat.add_zero, Bool.not_true, Bool.not_false, if_true, if_false, reduceCtorEq, List.set_cons_zero, List.set_cons_succ])
          refine h_load (b := tb) hh rfl ?_
          (try simp only [xl, xo, Bool.not_eq_true', decide_eq_false_iff_not, ite_not, List.size_toArray, List.length_cons, List.length_nil, Nat.reduceAdd, qt, decide_eq_true_eq, Int.toNat_zero, Int.toNat_natCast, Nat.zero_mul, Nat.mul_one, Nat.one_mul, List.toList_toArray, List.cons_append, List.nil_append, List.append_nil, true_and, and_true, Nat.zero_add, Nat.add_zero, Bool.not_true, Bool.not_false, if_true, if_false, reduceCtorEq, List.set_cons_zero, List.set_cons_succ])
          by_cases h4 : x = b.s
          · rw [if_pos h4]
            refine h_load (b := tb) hh rfl ?_
            have e : inHiS x b = !b.out := by
              have : bl b.s b.s = false := bl_irr _
              simp [inHiS, h2, h4, this]
            rw [e] at hJ; exact hJ
          · rw [if_neg h4]
            have e : inHiS x b = false := by simp [inHiS, h2, h3, h4]
            rw [e] at hJ; exact hJ
      · rw [if_neg h2]
        have e : inHiS x b = false := by simp [inHiS, h1, h2]
        rw [e] at hJ; exact hJ
  · intro J hJ
    have hJ := hJ H2 hh
    (try simp only [xl, xo, Bool.not_eq_true', decide_eq_false_iff_not, ite_not, List.size_toArray, List.length_cons, List.length_nil, Nat.reduceAdd, qt, decide_eq_true_eq, Int.toNat_zero, Int.toNat_natCast, Nat.zero_mul, Nat.mul_one, Nat.one_mul, List.toList_toArray, List.cons_append, List.nil_append, List.append_nil, true_and, and_true, Nat.zero_add, Nat.add_zero, Bool.not_true, Bool.not_false, if_true, if_false, reduceCtorEq, List.set_cons_zero, List.set_cons_succ])
    refine h_load (b := fb) hh rfl ?_
    (try simp only [xl, xo, Bool.not_eq_true', decide_eq_false_iff_not, ite_not, List.size_toArray, List.length_cons, List.length_nil, Nat.reduceAdd, qt, decide_eq_true_eq, Int.toNat_zero, Int.toNat_natCast, Nat.zero_mul, Nat.mul_one, Nat.one_mul, List.toList_toArray, List.cons_append, List.nil_append, List.append_nil, true_and, and_true, Nat.zero_add, Nat.add_zero, Bool.not_true, Bool.not_false, if_true, if_false, reduceCtorEq, List.set_cons_zero, List.set_cons_succ])
    by_cases h1 : a.inf < 0
    · rw [if_pos h1]
      have e : inLoS x a = true := by simp [inLoS, h1]
      rw [e] at hJ; exact hJ
    rw [if_neg h1]
    refine h_load (b := fb) hh rfl ?_
    (try simp only [xl, xo, Bool.not_eq_true', decide_eq_false_iff_not, ite_not, List.size_toArray, List.length_cons, List.length_nil, Nat.reduceAdd, qt, decide_eq_true_eq, Int.toNat_zero, Int.toNat_natCast, Nat.zero_mul, Nat.mul_one, Nat.one_mul, List.toList_toArray, List.cons_append, List.nil_append, List.append_nil, true_and, and_true, Nat.zero_add, Nat.add_zero, Bool.not_true, Bool.not_false, if_true, if_false, reduceCtorEq, List.set_cons_zero, List.set_cons_succ])
    by_cases h2 : a.inf = 0
    · rw [if_pos h2]
      refine h_load (b := fb) hh rfl ?_
      refine ref07_Less_h ha ?_
      cases h3 : bl a.s x with
      | true =>
        (try simp only [xl, xo, Bool.not_eq_true', decide_eq_false_iff_not, ite_not, List.size_toArray, List.length_cons, List.length_nil, Nat.reduceAdd, qt, decide_eq_true_eq, Int.toNat_zero, Int.toNat_natCast, Nat.zero_mul, Nat.mul_one, Nat.one_mul, List.toList_toArray, List.cons_append, List.nil_append, List.append_nil, true_and, and_true, Nat.zero_add, Nat.add_zero, Bool.not_true, Bool.not_false, if_true, if_false, reduceCtorEq, List.set_cons_zero, List.set_cons_succ])
        have e : inLoS x a = true := by simp [inLoS, h2, h3]
        rw [e] at hJ; exact hJ
      | false =>
        (try simp only [xl, xo, Bool.not_eq_true', decide_eq_false_iff_not, ite_not, List.size_toArray, List.length_cons, List.length_nil, Nat.reduceAdd, qt, decide_eq_true_eq, Int.toNat_zero, Int.toNat_natCast, Nat.zero_mul, Nat.mul_one, Nat.one_mul, List.toList_toArray, List.cons_append, List.nil_append, List.append_nil, true_and, and_true, Nat.zero_add, Nat.add_zero, Bool.not_true, Bool.not_false, if_true, if_false, reduceCtorEq, List.set_cons_zero, List.set_cons_succ])
        refine h_load (b := fb) hh rfl ?_
        (try simp only [xl, xo, Bool.not_eq_true', decide_eq_false_iff_not, ite_not, List.size_toArray, List.length_cons, List.length_nil, Nat.reduceAdd, qt, decide_eq_true_eq, Int.toNat_zero, Int.toNat_natCast, Nat.zero_mul, Nat.mul_one, Nat.one_mul, List.toList_toArray, List.cons_append, List.nil_append, List.append_nil, true_and, and_true, Nat.zero_add, Nat.add_zero, Bool.not_true, Bool.not_false, if_true, if_false, reduceCtorEq, List.set_cons_zero, List.set_cons_succ])
        by_cases h4 : x = a.s
        · rw [if_pos h4]
          refine h_load (b := fb) hh rfl ?_
          have e : inLoS x a = !a.out := by
            have : bl a.s a.s = false := bl_irr _
            simp [inLoS, h2, h4, this]
          rw [e] at hJ; exact hJ
        · rw [if_neg h4]
          have e : inLoS x a = false := by simp [inLoS, h2, h3, h4]
          rw [e] at hJ; exact hJ
    · rw [if_neg h2]
      have e : inLoS x a = false := by simp [inLoS, h1, h2]
      rw [e] at hJ; exact hJ

section
variable {z : ZSt} {r : Nat} {rm : Mem}
theorem own_mem {v : Value} {l : List Ent} {sl : Mem} {i : Nat} {e : Ent} (hu : SlOwn 2 v (entsC l) sl) (hl : lenV v = l.length) (hg : l[i]? = some e) :
    ∃ b, (∀ K : Value → Prop, K (.pointer (some ⟨b, i * 2, none⟩)) → IdxSliceP 2 v (.int .i64 i) K) ∧ (∀ H m (K : Value → Prop), Has H (sl + m) → K (.string e.1) → LoadP none H (.pointer (some ⟨b, i * 2 + 0, none⟩)) K) ∧
      (∀ H m (K : Value → Prop), Has H (sl + m) → K (.int .i64 e.2) → LoadP none H (.pointer (some ⟨b, i * 2 + 1, none⟩)) K) ∧ (∀ H m (K : Value → Prop), Has H (sl + m) → K (entV e) → LoadP (some 2) H (.pointer (some ⟨b, i * 2, none⟩)) K) := by
  have hi := (List.getElem?_eq_some_iff.1 hg).1
  obtain ⟨b, hb1, hb2, hb3⟩ := own_at (i := i) hu (by rw [entsC_length, hl]) (by rw [hl]; exact hi)
  have h0 : (entsC l)[i * 2 + 0]? = some (.string e.1) := by
    have := congrArg (fun l => l[0]?) (entsC_get hg)
    simpa [List.getElem?_take, List.getElem?_drop] using this
  have h1 : (entsC l)[i * 2 + 1]? = some (.int .i64 e.2) := by
    have := congrArg (fun l => l[1]?) (entsC_get hg)
    simpa [List.getElem?_take, List.getElem?_drop] using this
  refine ⟨b, hb1, fun H m K hh hK => hb3 H m 0 _ K hh h0 hK, fun H m K hh hK => hb3 H m 1 _ K hh h1 hK, fun H m K hh hK => hb2 H m K hh ?_⟩
  rw [entsC_get hg]
  exact hK

theorem ref_Between_h {f t : Bnd} (hz : RRep z r rm) (ok : ZOk z) (hh : Has H (rm + m)) (hK : ∀ H', Has H' (rm + m) → K (.tuple #[.int .i64 (btwA f z.L : Nat), .int .i64 ((max (btwA f z.L) (btwB t z.L) : Nat) : Int)]) H') :
    CallH P f_palioref11_Set_Between [ptrV r, bndV f, bndV t] H K := by
  obtain ⟨v, sl, hv, hlv, rfl⟩ := hz
  apply k_palioref11_Set_Between
  unfold c_palioref11_Set_Between
  have h400 := ok.ok.len
  have ha := tw_le (lowP f) z.L
  have hb := tw_le (highP t) z.L
  have hA := tw_spec (low_pw ok.ok.sorted f)
  have hB := tw_spec (high_pw ok.ok.sorted t)
  rw [x_boxN]
  refine h_allocA hh fun fb H1 hh => ?_
  rw [x_boxN]
  refine h_allocA hh fun tb H2 hh => ?_
  change btwA f z.L ≤ _ at ha
  change btwB t z.L ≤ _ at hb
  change ∀ (i : Nat) e, z.L[i]? = some e → lowP f e = decide (i < btwA f z.L) at hA
  change ∀ (i : Nat) e, z.L[i]? = some e → highP t e = decide (i < btwB t z.L) at hB
  generalize btwA f z.L = A at *
  generalize btwB t z.L = B at *
  have hh : Has H2 (sl + (cell r [v, .int .i64 z.le, .int .i64 z.lm, .bool z.il] + (cell fb [.int .i64 f.n, .bool f.out, .int .i64 f.inf] + (cell tb [.int .i64 t.n, .bool t.out, .int .i64 t.inf] + m)))) := hh.to (by simp only [List.toList_toArray]; ac_rfl)
  have fin : ∀ Q, Has Q (sl + (cell r [v, .int .i64 z.le, .int .i64 z.lm, .bool z.il] + (cell fb [.int .i64 f.n, .bool f.out, .int .i64 f.inf] + (cell tb [.int .i64 t.n, .bool t.out, .int .i64 t.inf] + m)))) → K (.tuple #[.int .i64 A, .int .i64 ((max A B : Nat) : Int)]) Q :=
    fun Q hh => hK Q (hh.front ((cell r [v, .int .i64 z.le, .int .i64 z.lm, .bool z.il] + sl) + m)).left
  refine join_of (.int .i64 A, []) (fun Q => Has Q (sl + (cell r [v, .int .i64 z.le, .int .i64 z.lm, .bool z.il] + (cell fb [.int .i64 f.n, .bool f.out, .int .i64 f.inf] + (cell tb [.int .i64 t.n, .bool t.out, .int .i64 t.inf] + m))))) ?_ ?_
  · rintro Q hh g1
    refine loop_i (fun k st G => ∃ i : Nat, i + k = max A B ∧ A ≤ i ∧ st = (.int .i64 i, []) ∧ Has G (sl + (cell r [v, .int .i64 z.le, .int .i64 z.lm, .bool z.il] + (cell fb [.int .i64 f.n, .bool f.out, .int .i64 f.inf] + (cell tb [.int .i64 t.n, .bool t.out, .int .i64 t.inf] + m))))) (max A B - A)
      ⟨A, by omega, by omega, rfl, hh⟩ ?_
    clear hh
    rintro k _ g G ⟨i, hik, hai, rfl, hh⟩
    (try simp only [xl, xo, Bool.not_eq_true', decide_eq_false_iff_not, ite_not, List.size_toArray, List.length_cons, List.length_nil, Nat.reduceAdd, qt, decide_eq_true_eq, Int.toNat_zero, Int.toNat_natCast, Nat.zero_mul, Nat.mul_one, Nat.one_mul, List.toList_toArray, List.cons_append, List.nil_append, List.append_nil, true_and, and_true, Nat.zero_add, Nat.add_zero, Bool.not_true, Bool.not_false, if_true, if_false, reduceCtorEq, List.set_cons_zero, List.set_cons_succ])
    refine h_load (b := r) hh rfl ?_
    refine own_len hv ?_
    rw [hlv]
    (try simp only [xl, xo, Bool.not_eq_true', decide_eq_false_iff_not, ite_not, List.size_toArray, List.length_cons, List.length_nil, Nat.reduceAdd, qt, decide_eq_true_eq, Int.toNat_zero, Int.toNat_natCast, Nat.zero_mul, Nat.mul_one, Nat.one_mul, List.toList_toArray, List.cons_append, List.nil_append, List.append_nil, true_and, and_true, Nat.zero_add, Nat.add_zero, Bool.not_true, Bool.not_false, if_true, if_false, reduceCtorEq, List.set_cons_zero, List.set_cons_succ])
    by_cases hi : i < z.L.length
    · rw [if_pos (by omega)]
      refine h_load (b := r) hh rfl ?_
      have hg : z.L[i]? = some (z.L[i]'hi) := List.getElem?_eq_getElem hi
      generalize z.L[i]'hi = e at hg
      obtain ⟨b, hb1, _, hb3, _⟩ := own_mem hv hlv hg
      refine hb1 _ ?_
      (try simp only [xl, xo, Bool.not_eq_true', decide_eq_false_iff_not, ite_not, List.size_toArray, List.length_cons, List.length_nil, Nat.reduceAdd, qt, decide_eq_true_eq, Int.toNat_zero, Int.toNat_natCast, Nat.zero_mul, Nat.mul_one, Nat.one_mul, List.toList_toArray, List.cons_append, List.nil_append, List.append_nil, true_and, and_true, Nat.zero_add, Nat.add_zero, Bool.not_true, Bool.not_false, if_true, if_false, reduceCtorEq, List.set_cons_zero, List.set_cons_succ])
      refine hb3 G _ _ hh ?_
      refine h_loadAll (b := fb) hh rfl (h_loadAll (b := tb) hh rfl ?_)
      refine ref09_In_h (x := e.2) (a := f) (b := t) hh fun G2 hh => ?_
      have e1 : inLo e.2 f = true := by
        have := hA i e hg
        unfold lowP at this
        rw [show decide (i < A) = false by simp; omega] at this
        simpa using this
      have e2 : inHi e.2 t = decide (i < B) := hB i e hg
      rw [e1, e2, Bool.true_and]
      by_cases hiB : i < B
      · simp only [hiB, decide_true]
        (try simp only [xl, xo, Bool.not_eq_true', decide_eq_false_iff_not, ite_not, List.size_toArray, List.length_cons, List.length_nil, Nat.reduceAdd, qt, decide_eq_true_eq, Int.toNat_zero, Int.toNat_natCast, Nat.zero_mul, Nat.mul_one, Nat.one_mul, List.toList_toArray, List.cons_append, List.nil_append, List.append_nil, true_and, and_true, Nat.zero_add, Nat.add_zero, Bool.not_true, Bool.not_false, if_true, if_false, reduceCtorEq, List.set_cons_zero, List.set_cons_succ])
        rw [w64 (by omega)]
        exact ⟨k - 1, by omega, i + 1, by omega, by omega, rfl, hh⟩
      · simp only [hiB, decide_false]
        have : i = max A B := by omega
        have := fin G2 hh
        (try simp only [xl, xo, Bool.not_eq_true', decide_eq_false_iff_not, ite_not, List.size_toArray, List.length_cons, List.length_nil, Nat.reduceAdd, qt, decide_eq_true_eq, Int.toNat_zero, Int.toNat_natCast, Nat.zero_mul, Nat.mul_one, Nat.one_mul, List.toList_toArray, List.cons_append, List.nil_append, List.append_nil, true_and, and_true, Nat.zero_add, Nat.add_zero, Bool.not_true, Bool.not_false, if_true, if_false, reduceCtorEq, List.set_cons_zero, List.set_cons_succ])
        rw [show (i : Int) = ((max A B : Nat) : Int) by omega]
        exact this
    · rw [if_neg (by omega)]
      rw [show (i : Int) = ((max A B : Nat) : Int) by omega]
      exact fin G hh
  · intro J hJ
    refine loop_i (fun k st G => ∃ i : Nat, i + k = A ∧ st = (.int .i64 i, []) ∧ Has G (sl + (cell r [v, .int .i64 z.le, .int .i64 z.lm, .bool z.il] + (cell fb [.int .i64 f.n, .bool f.out, .int .i64 f.inf] + (cell tb [.int .i64 t.n, .bool t.out, .int .i64 t.inf] + m))))) A
      ⟨0, by omega, rfl, hh⟩ ?_
    clear hh
    rintro k _ g G ⟨i, hik, rfl, hh⟩
    (try simp only [xl, xo, Bool.not_eq_true', decide_eq_false_iff_not, ite_not, List.size_toArray, List.length_cons, List.length_nil, Nat.reduceAdd, qt, decide_eq_true_eq, Int.toNat_zero, Int.toNat_natCast, Nat.zero_mul, Nat.mul_one, Nat.one_mul, List.toList_toArray, List.cons_append, List.nil_append, List.append_nil, true_and, and_true, Nat.zero_add, Nat.add_zero, Bool.not_true, Bool.not_false, if_true, if_false, reduceCtorEq, List.set_cons_zero, List.set_cons_succ])
    refine h_load (b := r) hh rfl ?_
    refine own_len hv ?_
    rw [hlv]
    (try simp only [xl, xo, Bool.not_eq_true', decide_eq_false_iff_not, ite_not, List.size_toArray, List.length_cons, List.length_nil, Nat.reduceAdd, qt, decide_eq_true_eq, Int.toNat_zero, Int.toNat_natCast, Nat.zero_mul, Nat.mul_one, Nat.one_mul, List.toList_toArray, List.cons_append, List.nil_append, List.append_nil, true_and, and_true, Nat.zero_add, Nat.add_zero, Bool.not_true, Bool.not_false, if_true, if_false, reduceCtorEq, List.set_cons_zero, List.set_cons_succ])
    by_cases hi : i < z.L.length
    · rw [if_pos (by omega)]
      refine h_load (b := r) hh rfl ?_
      have hg : z.L[i]? = some (z.L[i]'hi) := List.getElem?_eq_getElem hi
      generalize z.L[i]'hi = e at hg
      obtain ⟨b, hb1, _, hb3, _⟩ := own_mem hv hlv hg
      refine hb1 _ ?_
      (try simp only [xl, xo, Bool.not_eq_true', decide_eq_false_iff_not, ite_not, List.size_toArray, List.length_cons, List.length_nil, Nat.reduceAdd, qt, decide_eq_true_eq, Int.toNat_zero, Int.toNat_natCast, Nat.zero_mul, Nat.mul_one, Nat.one_mul, List.toList_toArray, List.cons_append, List.nil_append, List.append_nil, true_and, and_true, Nat.zero_add, Nat.add_zero, Bool.not_true, Bool.not_false, if_true, if_false, reduceCtorEq, List.set_cons_zero, List.set_cons_succ])
      refine hb3 G _ _ hh ?_
      refine h_loadAll (b := fb) hh rfl ?_
      (try simp only [xl, xo, Bool.not_eq_true', decide_eq_false_iff_not, ite_not, List.size_toArray, List.length_cons, List.length_nil, Nat.reduceAdd, qt, decide_eq_true_eq, Int.toNat_zero, Int.toNat_natCast, Nat.zero_mul, Nat.mul_one, Nat.one_mul, List.toList_toArray, List.cons_append, List.nil_append, List.append_nil, true_and, and_true, Nat.zero_add, Nat.add_zero, Bool.not_true, Bool.not_false, if_true, if_false, reduceCtorEq, List.set_cons_zero, List.set_cons_succ])
      refine ref09_In_h (x := e.2) (a := f) (b := ⟨0, false, 1⟩) hh fun G2 hh => ?_
      have e1 : (!(inLo e.2 f && inHi e.2 ⟨0, false, 1⟩)) = decide (i < A) := by
        rw [← hA i e hg]
        simp [lowP, inHi]
      rw [x_not, e1]
      by_cases hiA : i < A
      · simp only [hiA, decide_true]
        (try simp only [xl, xo, Bool.not_eq_true', decide_eq_false_iff_not, ite_not, List.size_toArray, List.length_cons, List.length_nil, Nat.reduceAdd, qt, decide_eq_true_eq, Int.toNat_zero, Int.toNat_natCast, Nat.zero_mul, Nat.mul_one, Nat.one_mul, List.toList_toArray, List.cons_append, List.nil_append, List.append_nil, true_and, and_true, Nat.zero_add, Nat.add_zero, Bool.not_true, Bool.not_false, if_true, if_false, reduceCtorEq, List.set_cons_zero, List.set_cons_succ])
        rw [w64 (by omega)]
        exact ⟨k - 1, by omega, i + 1, by omega, rfl, hh⟩
      · simp only [hiA, decide_false]
        have : i = A := by omega
        subst this
        exact hJ G2 hh
    · rw [if_neg (by omega)]
      have : i = A := by omega
      subst this
      exact hJ G hh

theorem ref_Members_h {a b : Edg} (ha : a.s.size ≤ 9223372036854775807) (hz : RRep z r rm) (ok : ZOk z) (hh : Has H (rm + m)) (hK : ∀ H' v sl, SlOwn 2 v (entsC (z.L.filter (inMem a b))) sl → lenV v = (z.L.filter (inMem a b)).length → Has H' (sl + (rm + m)) → K v H') :
    CallH P f_palioref11_Set_Members [ptrV r, edgV a, edgV b] H K := by
  obtain ⟨v, sl, hv, hlv, rfl⟩ := hz
  apply k_palioref11_Set_Members
  unfold c_palioref11_Set_Members
  have h400 := ok.ok.len
  rw [x_boxN]
  refine h_allocA hh fun ab H1 hh => ?_
  rw [x_boxN]
  refine h_allocA hh fun bb H2 hh => ?_
  refine loop_i (fun k st G => ∃ (j : Nat) (u : Value) (ul m' : Mem), j + k = z.L.length ∧ st = ((u, .int .i64 j), []) ∧ SlOwn 2 u (entsC ((z.L.take j).filter (inMem a b))) ul ∧ lenV u = ((z.L.take j).filter (inMem a b)).length ∧
      Has G (sl + (ul + (cell r [v, .int .i64 z.le, .int .i64 z.lm, .bool z.il] + (cell ab [.string a.s, .bool a.out, .int .i64 a.inf] + (cell bb [.string b.s, .bool b.out, .int .i64 b.inf] + (m + m'))))))) z.L.length
    ⟨0, .slice none 0 0, emp, emp, by omega, rfl, .inl ⟨rfl, rfl, rfl⟩, rfl, hh.to (by simp only [emp_add, add_emp, List.toList_toArray]; ac_rfl)⟩ ?_
  clear hh
  rintro k _ g G ⟨j, u, ul, m', hjk, rfl, h1, h2, hh⟩
  (try simp only [xl, xo, Bool.not_eq_true', decide_eq_false_iff_not, ite_not, List.size_toArray, List.length_cons, List.length_nil, Nat.reduceAdd, qt, decide_eq_true_eq, Int.toNat_zero, Int.toNat_natCast, Nat.zero_mul, Nat.mul_one, Nat.one_mul, List.toList_toArray, List.cons_append, List.nil_append, List.append_nil, true_and, and_true, Nat.zero_add, Nat.add_zero, Bool.not_true, Bool.not_false, if_true, if_false, reduceCtorEq, List.set_cons_zero, List.set_cons_succ])
  refine h_load (b := r) hh rfl ?_
  refine own_len hv ?_
  rw [hlv]
  (try simp only [xl, xo, Bool.not_eq_true', decide_eq_false_iff_not, ite_not, List.size_toArray, List.length_cons, List.length_nil, Nat.reduceAdd, qt, decide_eq_true_eq, Int.toNat_zero, Int.toNat_natCast, Nat.zero_mul, Nat.mul_one, Nat.one_mul, List.toList_toArray, List.cons_append, List.nil_append, List.append_nil, true_and, and_true, Nat.zero_add, Nat.add_zero, Bool.not_true, Bool.not_false, if_true, if_false, reduceCtorEq, List.set_cons_zero, List.set_cons_succ])
  by_cases hj : j < z.L.length
  · rw [if_pos (by omega)]
    refine h_load (b := r) hh rfl ?_
    have hg : z.L[j]? = some (z.L[j]'hj) := List.getElem?_eq_getElem hj
    generalize z.L[j]'hj = e at hg
    have he := ok.ok.ok e (List.mem_of_getElem? hg)
    obtain ⟨b', hb1, hb2, _, hb4⟩ := own_mem hv hlv hg
    refine hb1 _ ?_
    (try simp only [xl, xo, Bool.not_eq_true', decide_eq_false_iff_not, ite_not, List.size_toArray, List.length_cons, List.length_nil, Nat.reduceAdd, qt, decide_eq_true_eq, Int.toNat_zero, Int.toNat_natCast, Nat.zero_mul, Nat.mul_one, Nat.one_mul, List.toList_toArray, List.cons_append, List.nil_append, List.append_nil, true_and, and_true, Nat.zero_add, Nat.add_zero, Bool.not_true, Bool.not_false, if_true, if_false, reduceCtorEq, List.set_cons_zero, List.set_cons_succ])
    refine hb2 G _ _ hh ?_
    refine h_loadAll (b := ab) hh rfl (h_loadAll (b := bb) hh rfl ?_)
    refine ref09_InEdge_h (x := e.1) (a := a) (b := b) (Nat.le_of_lt (Nat.lt_of_lt_of_le (ekey he) (by omega))) ha hh fun G2 hh => ?_
    have hf := filter_take (p := inMem a b) hg
    cases hp : inMem a b e with
    | false =>
      have hp' : (inLoS e.1 a && inHiS e.1 b) = false := hp
      rw [hp']
      rw [hp] at hf
      simp only [Bool.false_eq_true, if_false, List.append_nil] at hf
      (try simp only [xl, xo, Bool.not_eq_true', decide_eq_false_iff_not, ite_not, List.size_toArray, List.length_cons, List.length_nil, Nat.reduceAdd, qt, decide_eq_true_eq, Int.toNat_zero, Int.toNat_natCast, Nat.zero_mul, Nat.mul_one, Nat.one_mul, List.toList_toArray, List.cons_append, List.nil_append, List.append_nil, true_and, and_true, Nat.zero_add, Nat.add_zero, Bool.not_true, Bool.not_false, if_true, if_false, reduceCtorEq, List.set_cons_zero, List.set_cons_succ])
      rw [w64 (by omega)]
      exact ⟨k - 1, by omega, j + 1, u, ul, m', by omega, rfl, by rw [hf]; exact h1, by rw [hf]; exact h2, hh⟩
    | true =>
      have hp' : (inLoS e.1 a && inHiS e.1 b) = true := hp
      rw [hp']
      rw [hp, if_pos rfl] at hf
      (try simp only [xl, xo, Bool.not_eq_true', decide_eq_false_iff_not, ite_not, List.size_toArray, List.length_cons, List.length_nil, Nat.reduceAdd, qt, decide_eq_true_eq, Int.toNat_zero, Int.toNat_natCast, Nat.zero_mul, Nat.mul_one, Nat.one_mul, List.toList_toArray, List.cons_append, List.nil_append, List.append_nil, true_and, and_true, Nat.zero_add, Nat.add_zero, Bool.not_true, Bool.not_false, if_true, if_false, reduceCtorEq, List.set_cons_zero, List.set_cons_succ])
      refine h_load (b := r) hh rfl ?_
      refine hb1 _ ?_
      refine hb4 G2 _ _ hh ?_
      (try simp only [xl, xo, Bool.not_eq_true', decide_eq_false_iff_not, ite_not, List.size_toArray, List.length_cons, List.length_nil, Nat.reduceAdd, qt, decide_eq_true_eq, Int.toNat_zero, Int.toNat_natCast, Nat.zero_mul, Nat.mul_one, Nat.one_mul, List.toList_toArray, List.cons_append, List.nil_append, List.append_nil, true_and, and_true, Nat.zero_add, Nat.add_zero, Bool.not_true, Bool.not_false, if_true, if_false, reduceCtorEq, List.set_cons_zero, List.set_cons_succ])
      refine h_buildSl hh fun tb G3 hh => ?_
      have one : EntsAt G3 (.slice (some ⟨tb, 0, none⟩) 1 1) [e] := .inr ⟨_, 1, rfl, fun j r hr => by
        cases j with
        | zero =>
          simp at hr; subst hr
          have := (Has.blk (b := tb) (cs := entC e) hh).readN 0 2 0 (by simp)
          simpa [addr_add] using this
        | succ j => simp at hr⟩
      have hlt : ((z.L.take j).filter (inMem a b)).length ≤ z.L.length := Nat.le_trans (List.length_filter_le _ _) (by rw [List.length_take]; omega)
      refine h_appendE h1 (hh.front ul) one (by simp only [List.length_cons, List.length_nil]; omega) fun u' ul' G4 hu' hh hlu' => ?_
      rw [w64 (by omega)]
      exact ⟨k - 1, by omega, j + 1, u', ul', _, by omega, rfl, by rw [hf]; exact hu', by rw [hf]; exact hlu', (hh.front (sl + (ul' + (cell r [v, .int .i64 z.le, .int .i64 z.lm, .bool z.il] + (cell ab [.string a.s, .bool a.out, .int .i64 a.inf] + (cell bb [.string b.s, .bool b.out, .int .i64 b.inf] + m)))))).to (by simp only [mem_assoc]; rfl)⟩
  · rw [if_neg (by omega)]
    have : j = z.L.length := by omega
    subst this
    rw [List.take_length] at h1 h2
    exact hK G u ul h1 h2 (hh.front (ul + ((cell r [v, .int .i64 z.le, .int .i64 z.lm, .bool z.il] + sl) + m))).left
end

variable {fr : Mem}
theorem zsetRanges_h {le lm seed : Int} {v : Value} {acts : List ActR} {f t : Bnd} {a b : Edg} (ha : a.s.size ≤ 9223372036854775807) (hh : Has H fr) (hA : ∀ H', Has H' fr → RowsAt 6 H' v (acts.map actC)) (hrow : ∀ x ∈ acts, ActOk x)
    (hK : ∀ H', Has H' fr → K (.bool true) H') : CallH P f_paliolaw11_ZsetRanges [.agg #[.int .i64 le, .int .i64 lm], .int .u32 seed, v, bndV f, bndV t, edgV a, edgV b] H K := by
  apply k_paliolaw11_ZsetRanges
  unfold c_paliolaw11_ZsetRanges
  rw [x_boxN]
  refine h_allocA hh fun lb H1 hh => ?_
  rw [x_boxN]
  refine h_allocA hh fun fb H2 hh => ?_
  rw [x_boxN]
  refine h_allocA hh fun tb H3 hh => ?_
  rw [x_boxN]
  refine h_allocA hh fun ab H4 hh => ?_
  rw [x_boxN]
  refine h_allocA hh fun bb H5 hh => ?_
  refine shown_h hh fun H6 hh => ?_
  refine h_load2 (b := lb) hh rfl rfl ?_
  refine law_made_h (fr := cell bb [.string b.s, .bool b.out, .int .i64 b.inf] + (cell ab [.string a.s, .bool a.out, .int .i64 a.inf] + (cell tb [.int .i64 t.n, .bool t.out, .int .i64 t.inf] + (cell fb [.int .i64 f.n, .bool f.out, .int .i64 f.inf] + (cell lb [.int .i64 le, .int .i64 lm] + fr))))) hh (fun H' h => hA H' h.right.right.right.right.right) hrow fun H7 s r zm rm hz hr hh => ?_
  have ok := (ZOk.new le lm seed).made (l := acts.take 100) fun x hx => hrow x (List.mem_of_mem_take hx)
  have ok : ZOk (madeZ (newZ le lm seed) (acts.take 100)) := ok
  generalize madeZ (newZ le lm seed) (acts.take 100) = z at *
  have h400 := ok.ok.len
  (try simp only [xl, xo, Bool.not_eq_true', decide_eq_false_iff_not, ite_not, List.size_toArray, List.length_cons, List.length_nil, Nat.reduceAdd, qt, decide_eq_true_eq, Int.toNat_zero, Int.toNat_natCast, Nat.zero_mul, Nat.mul_one, Nat.one_mul, List.toList_toArray, List.cons_append, List.nil_append, List.append_nil, true_and, and_true, Nat.zero_add, Nat.add_zero, Bool.not_true, Bool.not_false, if_true, if_false, reduceCtorEq, List.set_cons_zero, List.set_cons_succ])
  refine h_loadAll (b := fb) hh rfl (h_loadAll (b := tb) hh rfl ?_)
  refine zset_Between_h (f := f) (t := t) hz ok hh fun H8 hh => ?_
  (try simp only [xl, xo, Bool.not_eq_true', decide_eq_false_iff_not, ite_not, List.size_toArray, List.length_cons, List.length_nil, Nat.reduceAdd, qt, decide_eq_true_eq, Int.toNat_zero, Int.toNat_natCast, Nat.zero_mul, Nat.mul_one, Nat.one_mul, List.toList_toArray, List.cons_append, List.nil_append, List.append_nil, true_and, and_true, Nat.zero_add, Nat.add_zero, Bool.not_true, Bool.not_false, if_true, if_false, reduceCtorEq, List.set_cons_zero, List.set_cons_succ])
  refine h_loadAll (b := fb) hh rfl (h_loadAll (b := tb) hh rfl ?_)
  refine ref_Between_h (f := f) (t := t) hr ok (hh.front rm) fun H9 hh => ?_
  (try simp only [xl, xo, Bool.not_eq_true', decide_eq_false_iff_not, ite_not, List.size_toArray, List.length_cons, List.length_nil, Nat.reduceAdd, qt, decide_eq_true_eq, Int.toNat_zero, Int.toNat_natCast, Nat.zero_mul, Nat.mul_one, Nat.one_mul, List.toList_toArray, List.cons_append, List.nil_append, List.append_nil, true_and, and_true, Nat.zero_add, Nat.add_zero, Bool.not_true, Bool.not_false, if_true, if_false, reduceCtorEq, List.set_cons_zero, List.set_cons_succ])
  refine h_loadAll (b := ab) hh rfl (h_loadAll (b := bb) hh rfl (h_loadAll (b := ab) hh rfl (h_loadAll (b := bb) hh rfl ?_)))
  refine zset_Members_h (a := a) (b := b) hz ok (hh.front zm) fun H10 w wl hw hlw hh => ⟨h_loadAllIs (b := bb) hh rfl, h_loadAllIs (b := ab) hh rfl, ?_⟩
  refine ref_Members_h (a := a) (b := b) ha hr ok (hh.front rm) fun H11 u ul hu hlu hh => ?_
  have hfl := List.length_filter_le (inMem a b) z.L
  refine ref05_Same_h (l := z.L.filter (inMem a b)) (own_ents hw hlw (hh.front wl)) (own_ents hu hlu hh) (by omega) ?_
  exact hK H11 (hh.front fr).left
end Go.X.W
