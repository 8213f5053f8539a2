/- Contracts: the references' words on lists of entries. Contracts: a slot's keys; those of some slots. A scan's keys: those whose places lie from a cursor's place on, up to the next one's. Contract: the keys of a slot. Contract: the slots of a great table that one of a small one is parted into. Contract: a scan's step. -/
import Derived.Test.YtochkahbnhegaaaGreatZS17
set_option linter.unusedVariables false
set_option linter.unusedSimpArgs false
namespace Go.X.W
open Go Go.X Go.Proofs

variable {H : Heap} {m : Mem} {K : Value → Heap → Prop}

/-- A slice from which entries are read. -/
abbrev EntsAt (H : Heap) (v : Value) (l : List Ent) : Prop := RowsAt 2 H v (l.map entC)
theorem own_ents {v : Value} {l : List Ent} {sl : Mem} (h : SlOwn 2 v (entsC l) sl) (hl : lenV v = l.length) (hh : Has H (sl + m)) : EntsAt H v l := by
  rcases h with ⟨rfl, e, rfl⟩ | ⟨b, len, cap, rest, rfl, h1, h2, h3, rfl⟩
  · have : l = [] := by
      cases l with
      | nil => rfl
      | cons a l => simp [entsC] at e
    subst this
    exact .inl ⟨rfl, rfl⟩
  · simp only [lenV] at hl
    subst hl
    refine .inr ⟨_, cap, by rw [List.length_map], fun i r hr => ?_⟩
    rw [List.getElem?_map] at hr
    obtain ⟨e, he, rfl⟩ := Option.map_eq_some_iff.1 hr
    have hi := (List.getElem?_eq_some_iff.1 he).1
    have hlen := entsC_length l
    rw [addr_add, Nat.zero_add, (hh.left.blk (b := b)).readN (i * 2) 2 0 (by rw [List.length_append]; omega), Nat.add_zero, List.drop_append_of_le_length (by omega), List.take_append_of_le_length (by rw [List.length_drop]; omega), entsC_get he]
theorem own_cap {v : Value} {cs : List Value} {sl : Mem} (h : SlOwn 2 v cs sl) : ∀ a n c, v = .slice a n c → n ≤ c := by
  intro a n c e
  rcases h with ⟨rfl, _⟩ | ⟨b, len, cap, rest, rfl, _, h2, _⟩
  · injection e; omega
  · injection e with e1 e2 e3; omega
theorem ents_flat (l : List Ent) : (l.map entC).flatten = entsC l := by simp [entsC, List.flatMap]
theorem EntsAt.len {v : Value} {l : List Ent} (h : EntsAt H v l) {K : Value → Prop} (hK : K (.int .i64 l.length)) : LenP v K := RowsAt.len h (by rw [List.length_map]; exact hK)
theorem EntsAt.at {v : Value} {l : List Ent} (h : EntsAt H v l) {i : Nat} {e : Ent} (hg : l[i]? = some e) : ∃ p, (∀ {K : Value → Prop}, K (.pointer (some p)) → IdxSliceP 2 v (.int .i64 i) K) ∧ readN H p 0 2 = some (entC e) :=
  RowsAt.at h (by rw [List.getElem?_map, hg]; rfl)

/-- Owned entries are appended to. -/
theorem h_appendE {s x : Value} {l r : List Ent} {sl m : Mem} {K : Value → Heap → Prop} (hown : SlOwn 2 s (entsC l) sl) (hh : Has H (sl + m)) (hx : EntsAt H x r) (hb : l.length + r.length < 1000000)
    (hk : ∀ v' sl' H', SlOwn 2 v' (entsC (l ++ r)) sl' → Has H' (sl' + m) → lenV v' = (l ++ r).length → K v' H') : AppendP P T_api_Entry s x H K := by
  refine h_appendR (len := l.length) sz_api_Entry by_api_Entry (by rw [ze_api_Entry]; rfl) (by omega) hown hh (entsC_length l) hx (by rw [ents_flat, entsC_length, List.length_map]) (by rw [ents_flat]; exact entsC_oc r) (by rw [List.length_map]; omega) fun v' sl' H' h1 h2 h3 => ?_
  rw [ents_flat, ← entsC_append] at h1
  exact hk v' sl' H' h1 h2 (by rw [h3, List.length_map, List.length_append])

/-! ### palioref07, 09: what stands ahead -/
theorem lless_app : ∀ (p a b : List UInt8), lless (p ++ a) (p ++ b) = lless a b
  | [], _, _ => rfl
  | x :: p, a, b => by
    simp only [List.cons_append, lless, lless_app p a b]
    have : ¬ x < x := by rw [u8_lt]; omega
    simp [this]
theorem u8_ne_int {x y : UInt8} : (x.toNat : Int) = (y.toNat : Int) ↔ x = y := by rw [u8_eq]; omega

theorem ref07_Less_h {a b : ByteArray} (hb : a.size ≤ 9223372036854775807) (hK : K (.bool (bl a b)) H) : CallH P f_palioref07_Less [.string a, .string b] H K := by
  apply k_palioref07_Less
  unfold c_palioref07_Less
  have hbl : bl a b = lless a.data.toList b.data.toList := by rw [bl_def]; rfl
  have ha : a = baL a.data.toList := rfl
  have hb' : b = baL b.data.toList := rfl
  have hsa : a.size = a.data.toList.length := rfl
  have hsb : b.size = b.data.toList.length := rfl
  rw [hbl] at hK
  have hga : ∀ i, a[i]? = a.data.toList[i]? := fun i => by conv => lhs; rw [ha]; rw [baL_get]
  have hgb : ∀ i, b[i]? = b.data.toList[i]? := fun i => by conv => lhs; rw [hb']; rw [baL_get]
  generalize a.data.toList = x at *
  generalize b.data.toList = y at *
  refine join_of ((), []) (fun Q => Q = H ∧ ∃ i, x.take i = y.take i ∧ (x.length ≤ i ∨ y.length ≤ i) ∧ i ≤ x.length ∧ i ≤ y.length) ?_ ?_
  · rintro Q ⟨rfl, i, h1, h2, h3, h4⟩ g
    (try simp only [xl, xo, Bool.not_eq_true', decide_eq_false_iff_not, ite_not, List.size_toArray, List.length_cons, List.length_nil, Nat.reduceAdd, qt, decide_eq_true_eq, Int.toNat_zero, Int.toNat_natCast, Nat.zero_mul, Nat.mul_one, Nat.one_mul, List.toList_toArray, List.cons_append, List.nil_append, List.append_nil, true_and, and_true, Nat.zero_add, Nat.add_zero, Bool.not_true, Bool.not_false, if_true, if_false, reduceCtorEq, List.set_cons_zero, List.set_cons_succ])
    have : lless x y = decide ((a.size : Int) < b.size) := by
      rw [hsa, hsb]
      have e1 : x = x.take i ++ x.drop i := (List.take_append_drop i x).symm
      have e2 : y = x.take i ++ y.drop i := by rw [h1]; exact (List.take_append_drop i y).symm
      rw [e1, e2, lless_app, ← e1, ← e2]
      rcases h2 with h2 | h2
      · rw [List.drop_eq_nil_of_le h2]
        cases hd : y.drop i with
        | nil =>
          have := congrArg List.length hd
          rw [List.length_drop] at this
          simp only [List.length_nil] at this
          simp [lless]; omega
        | cons v w =>
          have := congrArg List.length hd
          rw [List.length_drop] at this
          simp only [List.length_cons] at this
          simp [lless]; omega
      · rw [List.drop_eq_nil_of_le h2]
        have : lless (x.drop i) [] = false := by cases x.drop i <;> rfl
        rw [this]
        simp; omega
    rw [this] at hK
    exact hK
  · intro J hJ
    refine loop_i (fun k s Q => Q = H ∧ ∃ i : Nat, k = x.length - i ∧ s = (.int .i64 i, []) ∧ x.take i = y.take i ∧ i ≤ x.length ∧ i ≤ y.length) x.length ⟨rfl, 0, by omega, rfl, rfl, by omega, by omega⟩ ?_
    rintro k _ g Q ⟨rfl, i, rfl, rfl, h1, h3, h4⟩
    (try simp only [xl, xo, Bool.not_eq_true', decide_eq_false_iff_not, ite_not, List.size_toArray, List.length_cons, List.length_nil, Nat.reduceAdd, qt, decide_eq_true_eq, Int.toNat_zero, Int.toNat_natCast, Nat.zero_mul, Nat.mul_one, Nat.one_mul, List.toList_toArray, List.cons_append, List.nil_append, List.append_nil, true_and, and_true, Nat.zero_add, Nat.add_zero, Bool.not_true, Bool.not_false, if_true, if_false, reduceCtorEq, List.set_cons_zero, List.set_cons_succ])
    rw [hsa, hsb]
    by_cases hx : i < x.length
    · rw [if_pos (by omega)]
      by_cases hy : i < y.length
      · rw [if_pos (by omega)]
        have g1 : x[i]? = some x[i] := List.getElem?_eq_getElem hx
        have g2 : y[i]? = some y[i] := List.getElem?_eq_getElem hy
        generalize x[i] = c at g1
        generalize y[i] = d at g2
        refine ⟨by omega, c, by rw [hga, g1], by omega, d, by rw [hgb, g2], ?_⟩
        by_cases hcd : c = d
        · subst hcd
          rw [if_pos rfl, w64 (by omega)]
          refine ⟨x.length - (i + 1), by omega, i + 1, rfl, rfl, ?_, by omega, by omega⟩
          rw [List.take_add_one, List.take_add_one, g1, g2, h1]
        · rw [if_neg (by rw [u8_ne_int]; exact hcd)]
          refine ⟨by omega, c, by rw [hga, g1], by omega, d, by rw [hgb, g2], ?_⟩
          have : lless x y = decide ((c.toNat : Int) < d.toNat) := by
            have e1 : x = x.take i ++ c :: x.drop (i + 1) := by
              have : c = x[i] := by rw [List.getElem?_eq_getElem hx] at g1; injection g1 with g; exact g.symm
              rw [this, ← List.drop_eq_getElem_cons hx, List.take_append_drop]
            have e2 : y = x.take i ++ d :: y.drop (i + 1) := by
              have : d = y[i] := by rw [List.getElem?_eq_getElem hy] at g2; injection g2 with g; exact g.symm
              rw [h1, this, ← List.drop_eq_getElem_cons hy, List.take_append_drop]
            rw [e1, e2, lless_app]
            simp only [lless, hcd, decide_false, Bool.false_and, Bool.or_false]
            rw [decide_eq_decide, u8_lt]
            omega
          rw [this] at hK
          exact hK
      · rw [if_neg (by omega)]
        exact hJ Q ⟨rfl, i, h1, .inr (by omega), h3, h4⟩
    · rw [if_neg (by omega)]
      exact hJ Q ⟨rfl, i, h1, .inl (by omega), h3, h4⟩

theorem ref09_Less_h {a b : Ent} (hb : a.1.size ≤ 9223372036854775807) (hh : Has H m) (hK : ∀ H', Has H' m → K (.bool (elt a b)) H') : CallH P f_palioref09_Less [entV a, entV b] H K := by
  apply k_palioref09_Less
  unfold c_palioref09_Less
  rw [x_boxN]
  refine h_allocA hh fun ab H1 hh => ?_
  rw [x_boxN]
  refine h_allocA hh fun bb H2 hh => ?_
  (try simp only [xl, xo, Bool.not_eq_true', decide_eq_false_iff_not, ite_not, List.size_toArray, List.length_cons, List.length_nil, Nat.reduceAdd, qt, decide_eq_true_eq, Int.toNat_zero, Int.toNat_natCast, Nat.zero_mul, Nat.mul_one, Nat.one_mul, List.toList_toArray, List.cons_append, List.nil_append, List.append_nil, true_and, and_true, Nat.zero_add, Nat.add_zero, Bool.not_true, Bool.not_false, if_true, if_false, reduceCtorEq, List.set_cons_zero, List.set_cons_succ])
  refine h_load (b := ab) hh rfl (h_load (b := bb) hh rfl ?_)
  (try simp only [xl, xo, Bool.not_eq_true', decide_eq_false_iff_not, ite_not, List.size_toArray, List.length_cons, List.length_nil, Nat.reduceAdd, qt, decide_eq_true_eq, Int.toNat_zero, Int.toNat_natCast, Nat.zero_mul, Nat.mul_one, Nat.one_mul, List.toList_toArray, List.cons_append, List.nil_append, List.append_nil, true_and, and_true, Nat.zero_add, Nat.add_zero, Bool.not_true, Bool.not_false, if_true, if_false, reduceCtorEq, List.set_cons_zero, List.set_cons_succ])
  by_cases h1 : a.2 < b.2
  · rw [if_pos h1]
    have : elt a b = true := by simp [elt, h1]
    rw [this] at hK
    exact hK H2 hh.right.right
  · rw [if_neg h1]
    refine h_load (b := ab) hh rfl (h_load (b := bb) hh rfl ?_)
    (try simp only [xl, xo, Bool.not_eq_true', decide_eq_false_iff_not, ite_not, List.size_toArray, List.length_cons, List.length_nil, Nat.reduceAdd, qt, decide_eq_true_eq, Int.toNat_zero, Int.toNat_natCast, Nat.zero_mul, Nat.mul_one, Nat.one_mul, List.toList_toArray, List.cons_append, List.nil_append, List.append_nil, true_and, and_true, Nat.zero_add, Nat.add_zero, Bool.not_true, Bool.not_false, if_true, if_false, reduceCtorEq, List.set_cons_zero, List.set_cons_succ])
    by_cases h2 : a.2 = b.2
    · rw [if_pos h2]
      refine h_load (b := ab) hh rfl (h_load (b := bb) hh rfl ?_)
      refine ref07_Less_h hb ?_
      have : elt a b = bl a.1 b.1 := by simp [elt, h1, h2]
      rw [this] at hK
      exact hK H2 hh.right.right
    · rw [if_neg h2]
      have : elt a b = false := by simp [elt, h1, h2]
      rw [this] at hK
      exact hK H2 hh.right.right

/-! ### palioref05: Find, Same, Delete, Insert -/
theorem ref05_Find_h {v : Value} {l : List Ent} {x : ByteArray} (hr : EntsAt H v l) (hb : l.length < 1000000) (hK : K (.int .i64 (fndI x l)) H) : CallH P f_palioref05_Find [v, .string x] H K := by
  apply k_palioref05_Find
  unfold c_palioref05_Find
  refine loop_i (fun k s Q => Q = H ∧ ∃ i : Nat, i + k = l.length ∧ s = (.int .i64 i, []) ∧ ∀ j, j < i → ∀ e, l[j]? = some e → e.1 ≠ x) l.length ⟨rfl, 0, by omega, rfl, fun j hj => by omega⟩ ?_
  rintro k _ g Q ⟨rfl, i, hik, rfl, hn⟩
  refine hr.len ?_
  (try simp only [xl, xo, Bool.not_eq_true', decide_eq_false_iff_not, ite_not, List.size_toArray, List.length_cons, List.length_nil, Nat.reduceAdd, qt, decide_eq_true_eq, Int.toNat_zero, Int.toNat_natCast, Nat.zero_mul, Nat.mul_one, Nat.one_mul, List.toList_toArray, List.cons_append, List.nil_append, List.append_nil, true_and, and_true, Nat.zero_add, Nat.add_zero, Bool.not_true, Bool.not_false, if_true, if_false, reduceCtorEq, List.set_cons_zero, List.set_cons_succ])
  by_cases hi : i < l.length
  · rw [if_pos (by omega)]
    have hg : l[i]? = some (l[i]'hi) := List.getElem?_eq_getElem hi
    generalize l[i]'hi = e at hg
    obtain ⟨p, hp1, hp2⟩ := hr.at hg
    refine hp1 ?_
    have hc : hcell Q (p.add 0) = some (.string e.1) := by
      simp only [readN] at hp2
      cases h0 : hcell Q (p.add 0) with
      | none => rw [h0] at hp2; cases hp2
      | some u =>
        rw [h0] at hp2
        cases h1 : hcell Q (p.add (0 + 1)) with
        | none => rw [h1] at hp2; cases hp2
        | some w =>
          rw [h1] at hp2
          simp only [Option.some.injEq, List.cons.injEq] at hp2
          rw [hp2.1]
    refine ⟨_, hc, ?_⟩
    (try simp only [xl, xo, Bool.not_eq_true', decide_eq_false_iff_not, ite_not, List.size_toArray, List.length_cons, List.length_nil, Nat.reduceAdd, qt, decide_eq_true_eq, Int.toNat_zero, Int.toNat_natCast, Nat.zero_mul, Nat.mul_one, Nat.one_mul, List.toList_toArray, List.cons_append, List.nil_append, List.append_nil, true_and, and_true, Nat.zero_add, Nat.add_zero, Bool.not_true, Bool.not_false, if_true, if_false, reduceCtorEq, List.set_cons_zero, List.set_cons_succ])
    by_cases hex : e.1 = x
    · rw [if_pos hex]
      have : fnd x l = some i := fnd_some.2 ⟨⟨e.2, by rw [hg, ← hex]⟩, hn⟩
      simp only [fndI, this] at hK
      exact hK
    · rw [if_neg hex, w64 (by omega)]
      refine ⟨k - 1, by omega, i + 1, by omega, rfl, fun j hj e' he' => ?_⟩
      by_cases hji : j = i
      · subst hji; rw [hg] at he'; simp only [Option.some.injEq] at he'; subst he'; exact hex
      · exact hn j (by omega) e' he'
  · rw [if_neg (by omega)]
    have : fnd x l = none := fnd_none.2 fun e he => by
      obtain ⟨j, hj⟩ := List.getElem?_of_mem he
      exact hn j (by have := (List.getElem?_eq_some_iff.1 hj).1; omega) e hj
    simp only [fndI, this] at hK
    exact hK

theorem ref05_Same_h {v u : Value} {l : List Ent} (hr : EntsAt H v l) (hu : EntsAt H u l) (hb : l.length < 1000000) (hK : K (.bool true) H) : CallH P f_palioref05_Same [v, u] H K := by
  apply k_palioref05_Same
  unfold c_palioref05_Same
  refine hr.len (hu.len ?_)
  (try simp only [xl, xo, Bool.not_eq_true', decide_eq_false_iff_not, ite_not, List.size_toArray, List.length_cons, List.length_nil, Nat.reduceAdd, qt, decide_eq_true_eq, Int.toNat_zero, Int.toNat_natCast, Nat.zero_mul, Nat.mul_one, Nat.one_mul, List.toList_toArray, List.cons_append, List.nil_append, List.append_nil, true_and, and_true, Nat.zero_add, Nat.add_zero, Bool.not_true, Bool.not_false, if_true, if_false, reduceCtorEq, List.set_cons_zero, List.set_cons_succ])
  refine loop_i (fun k s Q => Q = H ∧ ∃ i : Nat, i + k = l.length ∧ s = (.int .i64 i, [])) l.length ⟨rfl, 0, by omega, rfl⟩ ?_
  rintro k _ g Q ⟨rfl, i, hik, rfl⟩
  refine hr.len ?_
  (try simp only [xl, xo, Bool.not_eq_true', decide_eq_false_iff_not, ite_not, List.size_toArray, List.length_cons, List.length_nil, Nat.reduceAdd, qt, decide_eq_true_eq, Int.toNat_zero, Int.toNat_natCast, Nat.zero_mul, Nat.mul_one, Nat.one_mul, List.toList_toArray, List.cons_append, List.nil_append, List.append_nil, true_and, and_true, Nat.zero_add, Nat.add_zero, Bool.not_true, Bool.not_false, if_true, if_false, reduceCtorEq, List.set_cons_zero, List.set_cons_succ])
  by_cases hi : i < l.length
  · rw [if_pos (by omega)]
    have hg : l[i]? = some (l[i]'hi) := List.getElem?_eq_getElem hi
    generalize l[i]'hi = e at hg
    obtain ⟨p, hp1, hp2⟩ := hr.at hg
    obtain ⟨p', hp1', hp2'⟩ := hu.at hg
    refine hp1 (load_row hp2 (hp1' (load_row hp2' ?_)))
    (try simp only [xl, xo, Bool.not_eq_true', decide_eq_false_iff_not, ite_not, List.size_toArray, List.length_cons, List.length_nil, Nat.reduceAdd, qt, decide_eq_true_eq, Int.toNat_zero, Int.toNat_natCast, Nat.zero_mul, Nat.mul_one, Nat.one_mul, List.toList_toArray, List.cons_append, List.nil_append, List.append_nil, true_and, and_true, Nat.zero_add, Nat.add_zero, Bool.not_true, Bool.not_false, if_true, if_false, reduceCtorEq, List.set_cons_zero, List.set_cons_succ])
    rw [w64 (by omega)]
    exact ⟨k - 1, by omega, i + 1, by omega, rfl⟩
  · rw [if_neg (by omega)]
    exact hK

theorem map_take_drop (l : List Ent) (f n : Nat) : ((l.map entC).drop f).take n = ((l.drop f).take n).map entC := by rw [List.map_take, List.map_drop]

theorem ref05_Delete_h {v : Value} {l : List Ent} {i : Nat} (hh : Has H m) (hr : ∀ H', Has H' m → EntsAt H' v l) (hc : ∀ a n c, v = .slice a n c → n ≤ c) (hi : i < l.length) (hb : l.length < 100000)
    (hK : ∀ H' w sl, SlOwn 2 w (entsC (delAt l i)) sl → lenV w = (delAt l i).length → Has H' (sl + m) → K w H') : CallH P f_palioref05_Delete [v, .int .i64 i] H K := by
  apply k_palioref05_Delete
  unfold c_palioref05_Delete
  refine RowsAt.piece (f := 0) (t := i) (hr H hh) hc (by rw [List.length_map]; omega) (fun c h => ⟨by rw [List.length_map] at h; omega, by simp⟩) rfl fun w hw hw2 _ => ?_
  rw [map_take_drop, List.drop_zero, Nat.sub_zero] at hw
  refine h_appendE (l := []) (sl := emp) (m := m) (.inl ⟨rfl, rfl, rfl⟩) (by rw [emp_add]; exact hh) hw (by simp; omega) fun u ul H2 hu hh hlu => ?_
  rw [List.nil_append] at hu hlu
  (try simp only [xl, xo, Bool.not_eq_true', decide_eq_false_iff_not, ite_not, List.size_toArray, List.length_cons, List.length_nil, Nat.reduceAdd, qt, decide_eq_true_eq, Int.toNat_zero, Int.toNat_natCast, Nat.zero_mul, Nat.mul_one, Nat.one_mul, List.toList_toArray, List.cons_append, List.nil_append, List.append_nil, true_and, and_true, Nat.zero_add, Nat.add_zero, Bool.not_true, Bool.not_false, if_true, if_false, reduceCtorEq, List.set_cons_zero, List.set_cons_succ])
  rw [w64 (by omega)]
  refine RowsAt.piece (f := i + 1) (t := l.length) (hr H2 hh.right) hc (by rw [List.length_map]; omega) (fun c h => by rw [List.length_map]; rfl) ⟨by omega, by simp⟩ fun w' hw' _ _ => ?_
  rw [map_take_drop, List.take_of_length_le (by rw [List.length_drop]; omega)] at hw'
  refine h_appendE hu hh hw' (by simp; omega) fun u' ul' H3 hu' hh hlu' => hK H3 u' ul' hu' hlu' hh

theorem ref05_Insert_h {v : Value} {l : List Ent} {i : Nat} {e : Ent} (hh : Has H m) (hr : ∀ H', Has H' m → EntsAt H' v l) (hc : ∀ a n c, v = .slice a n c → n ≤ c) (hi : i ≤ l.length) (hb : l.length < 100000)
    (hK : ∀ H' w sl, SlOwn 2 w (entsC (insAt l i e)) sl → lenV w = (insAt l i e).length → Has H' (sl + m) → K w H') : CallH P f_palioref05_Insert [v, .int .i64 i, entV e] H K := by
  apply k_palioref05_Insert
  unfold c_palioref05_Insert
  rw [x_boxN]
  refine h_allocA hh fun eb H1 hh => ?_
  have one : ∀ {G : Heap} {tb : Nat} {m' r : Mem} [p : PickC tb m' (entC e) r], Has G m' → EntsAt G (.slice (some ⟨tb, 0, none⟩) 1 1) [e] := fun {G tb m' r} p hh => .inr ⟨_, 1, rfl, fun j r hr => by
    cases j with
    | zero =>
      simp at hr; subst hr
      have := (hh.blk (b := tb)).readN 0 2 0 (by simp)
      simpa [addr_add] using this
    | succ j => simp at hr⟩
  refine join_ofS (fun s Q => ∃ w wl m', s = (w, []) ∧ SlOwn 2 w (entsC (l.take i ++ [e])) wl ∧ Has Q (wl + (m + m'))) ?_ ?_
  · rintro s Q ⟨w, wl, m', rfl, hw, hh⟩ g
    refine RowsAt.piece (f := i) (t := l.length) (hr Q (hh.front m).left) hc (by rw [List.length_map]; omega) (fun c h => by rw [List.length_map]; rfl) ⟨by omega, by simp⟩ fun w' hw' _ _ => ?_
    rw [map_take_drop, List.take_of_length_le (by rw [List.length_drop]; omega)] at hw'
    refine h_appendE hw hh hw' (by simp; omega) fun u ul H3 hu hh hlu => ?_
    (try simp only [xl, xo, Bool.not_eq_true', decide_eq_false_iff_not, ite_not, List.size_toArray, List.length_cons, List.length_nil, Nat.reduceAdd, qt, decide_eq_true_eq, Int.toNat_zero, Int.toNat_natCast, Nat.zero_mul, Nat.mul_one, Nat.one_mul, List.toList_toArray, List.cons_append, List.nil_append, List.append_nil, true_and, and_true, Nat.zero_add, Nat.add_zero, Bool.not_true, Bool.not_false, if_true, if_false, reduceCtorEq, List.set_cons_zero, List.set_cons_succ])
    have e1 : (l.take i ++ [e]) ++ l.drop i = insAt l i e := by simp [insAt]
    rw [e1] at hu hlu
    exact hK H3 u ul hu hlu (hh.front (ul + m)).left
  · intro J hJ
    refine RowsAt.piece (f := 0) (t := i) (hr H1 hh.right) hc (by rw [List.length_map]; omega) (fun c h => ⟨by rw [List.length_map] at h; omega, by simp⟩) rfl fun w hw hw2 _ => ?_
    rw [map_take_drop, List.drop_zero, Nat.sub_zero] at hw
    refine h_load2 (b := eb) hh rfl rfl ⟨?_, ?_⟩
    · refine h_appendE (l := []) (sl := emp) (m := cell eb (entC e) + m) (.inl ⟨rfl, rfl, rfl⟩) (by rw [emp_add]; exact hh) hw (by simp; omega) fun u ul H2 hu hh hlu => ?_
      rw [List.nil_append] at hu hlu
      refine ⟨h_loadNIs (b := eb) hh (by simp), ?_⟩
      (try simp only [xl, xo, Bool.not_eq_true', decide_eq_false_iff_not, ite_not, List.size_toArray, List.length_cons, List.length_nil, Nat.reduceAdd, qt, decide_eq_true_eq, Int.toNat_zero, Int.toNat_natCast, Nat.zero_mul, Nat.mul_one, Nat.one_mul, List.toList_toArray, List.cons_append, List.nil_append, List.append_nil, true_and, and_true, Nat.zero_add, Nat.add_zero, Bool.not_true, Bool.not_false, if_true, if_false, reduceCtorEq, List.set_cons_zero, List.set_cons_succ])
      refine h_buildSl hh fun tb H3 hh => ?_
      refine h_appendE (l := l.take i) hu (hh.front ul) (one (tb := tb) hh) (by simp; omega) fun u' ul' H4 hu' hh hlu' => hJ _ _ ⟨u', ul', _, rfl, hu', (hh.front (ul' + m)).to (by simp only [mem_assoc]; rfl)⟩
    · (try simp only [xl, xo, Bool.not_eq_true', decide_eq_false_iff_not, ite_not, List.size_toArray, List.length_cons, List.length_nil, Nat.reduceAdd, qt, decide_eq_true_eq, Int.toNat_zero, Int.toNat_natCast, Nat.zero_mul, Nat.mul_one, Nat.one_mul, List.toList_toArray, List.cons_append, List.nil_append, List.append_nil, true_and, and_true, Nat.zero_add, Nat.add_zero, Bool.not_true, Bool.not_false, if_true, if_false, reduceCtorEq, List.set_cons_zero, List.set_cons_succ])
      refine h_buildSl hh fun tb H2 hh => ?_
      have hw3 : EntsAt H2 w (l.take i) := by
        have := hw2 H2 (hr H2 hh.right.right)
        rwa [map_take_drop, List.drop_zero, Nat.sub_zero] at this
      refine h_appendE (l := []) (sl := emp) (.inl ⟨rfl, rfl, rfl⟩) (by rw [emp_add]; exact hh) hw3 (by simp; omega) fun u ul H3 hu hh hlu => ?_
      rw [List.nil_append] at hu hlu
      refine h_appendE (l := l.take i) hu (hh.front ul) (one (tb := tb) hh) (by simp; omega) fun u' ul' H4 hu' hh hlu' => hJ _ _ ⟨u', ul', _, rfl, hu', (hh.front (ul' + m)).to (by simp only [mem_assoc]; rfl)⟩
end Go.X.W
set_option linter.unusedVariables false
set_option linter.unusedSimpArgs false
namespace Go.X.W
open Go Go.X Go.Proofs

section
variable {H : Heap} {m : Mem} {K : Value → Heap → Prop}
abbrev strC (l : List ByteArray) : List Value := l.map Value.string

theorem own_read1 {v : Value} {l : List ByteArray} {sl : Mem} (h : SlOwn 1 v (strC l) sl) (hl : lenV v = l.length) (hh : Has H (sl + m)) : readCells 1 (lenV v) H v = some (strC l) := by
  rcases h with ⟨rfl, e, rfl⟩ | ⟨b, len, cap, rest, rfl, h1, h2, h3, rfl⟩
  · rw [e]; rfl
  · simp only [lenV] at *
    simp only [readCells]
    have hb : Blk H b (strC l ++ rest) := hh.left.blk
    rw [hb.readN 0 (len * 1) 0 (by simp at h1 ⊢; omega)]
    have e : len * 1 = (strC l).length := by simp at h1 ⊢; omega
    rw [e, Nat.add_zero, List.drop_zero, List.take_left']
    rfl

theorem h_appendT {s x : Value} {l r : List ByteArray} {sl : Mem} (hown : SlOwn 1 s (strC l) sl) (hls : lenV s = l.length) (hh : Has H (sl + m)) (hx : readCells 1 (lenV x) H x = some (strC r)) (hlx : lenV x = r.length) (hb : l.length + r.length < 1000000)
    (hk : ∀ v' sl' H', SlOwn 1 v' (strC (l ++ r)) sl' → lenV v' = (l ++ r).length → Has H' (sl' + m) → K v' H') : AppendP P T_string s x H K := by
  refine h_append (len := l.length) (cs := strC l) (new := strC r) (sl := sl) sz_string by_string (by rw [ze_string]; rfl) (by omega) hown hh (by simp) hx (by simp [hlx]) (fun v hv => ?_) (by omega) fun v' sl' H' h1 hh h2 => ?_
  · obtain ⟨a, _, rfl⟩ := List.mem_map.1 hv
    rfl
  · exact hk v' sl' H' (by rw [strC, List.map_append]; exact h1) (by rw [List.length_append, h2, hlx]) hh

/-- A slice of texts, put in order. -/
theorem sort_own_h {v : Value} {l : List ByteArray} {sl : Mem} (hown : SlOwn 1 v (strC l) sl) (hl : lenV v = l.length) (hb : l.length < 1000000) (hh : Has H (sl + m))
    (hK : ∀ H' sl', SlOwn 1 v (strC (sortB l)) sl' → Has H' (sl' + m) → K (.tuple #[]) H') : CallH P f_slices_Sort_s_string_string [v] H K := by
  rcases hown with ⟨rfl, e, rfl⟩ | ⟨b, len, cap, rest, rfl, h1, h2, h3, rfl⟩
  · refine slices_Sort0_h (hK H emp (.inl ⟨rfl, ?_, rfl⟩) hh)
    have : l = [] := by simpa using e
    subst this
    have := sortB_len []
    rw [strC, List.eq_nil_of_length_eq_zero this]
    rfl
  · simp only [lenV] at hl
    refine slices_Sort_h (l := l) (sp := rest) hh (by omega) hl fun H' hh => hK H' _ (.inr ⟨b, len, cap, rest, rfl, ?_, h2, h3, rfl⟩) hh
    simp [sortB_len, hl]
end

theorem dict_Bucket_h {H : Heap} {d tb i : Nat} {D : DSt} {T : Tabl} {c : List DNode} {m : Mem} {K : Value → Heap → Prop} (b : Bool) (hh : Has H (dictM d D + m)) (hD : D.Ok) (ht : D.tab b = some (tb, T)) (hi : T[i]? = some c) (hlen : c.length < 1000000)
    (hK : ∀ H' v sl l, SlOwn 1 v (strC l) sl → lenV v = l.length → l.Perm (c.map (·.key)) → Has H' (sl + (dictM d D + m)) → K (.tuple #[v, .int .i64 0]) H') :
    CallH P f_dict_Dict_int64_Bucket [.pointer (some ⟨d, 0, none⟩), .int .i64 (if b then 1 else 0), .int .i64 i] H K := by
  obtain ⟨hok, rm, rf, e1, e1', e2, e3, e4, e5⟩ := dict_open hD ht hi
  have eD := e1 c
  rw [e3] at eD
  have hlt : i < T.length := (List.getElem?_eq_some_iff.1 hi).1
  have hsz := hok.sz.bd
  have hset : (T.map (headV nilV)).set i (headV nilV c) = T.map (headV nilV) := by
    rw [← List.map_set, set_self hi]
  have hgi : (T.map (headV nilV))[i]? = some (headV nilV c) := by rw [List.getElem?_map, hi]; rfl
  rw [hset] at eD
  have hcell : (dictCells D)[1 + (if b then 1 else 0)]? = some (.slice (some ⟨tb, 0, none⟩) T.length T.length) := by
    cases b with
    | false => simp only [DSt.tab, Option.some.injEq, Prod.mk.injEq] at ht; obtain ⟨rfl, rfl⟩ := ht; rfl
    | true => simp only [DSt.tab] at ht; simp only [dictCells, ht, sndV]; rfl
  have hdM : dictM d D = cell d (dictCells D) + (cell tb (T.map (headV nilV)) + (seg D.seed nilV c + rm)) := by rw [dictM, eD]
  rw [hdM] at hh hK
  apply k_dict_Dict_int64_Bucket
  unfold c_dict_Dict_int64_Bucket
  cases b with
  | false =>
    (try simp only [xl, xo, Bool.not_eq_true', decide_eq_false_iff_not, ite_not, List.size_toArray, List.length_cons, List.length_nil, Nat.reduceAdd, qt, decide_eq_true_eq, Int.toNat_zero, Int.toNat_natCast, Nat.zero_mul, Nat.mul_one, Nat.one_mul, List.toList_toArray, List.cons_append, List.nil_append, List.append_nil, true_and, and_true, Nat.zero_add, Nat.add_zero, Bool.not_true, Bool.not_false, if_true, if_false, reduceCtorEq, List.set_cons_zero, List.set_cons_succ])
    rw [if_neg (by decide), if_neg (by decide), if_neg (by omega)]
    refine ⟨⟨by omega, by omega⟩, ?_⟩
    have ho : (dictCells D)[1]? = some (.slice (some ⟨tb, 0, none⟩) T.length T.length) := hcell
    refine h_load (b := d) hh ho ?_
    (try simp only [xl, xo, Bool.not_eq_true', decide_eq_false_iff_not, ite_not, List.size_toArray, List.length_cons, List.length_nil, Nat.reduceAdd, qt, decide_eq_true_eq, Int.toNat_zero, Int.toNat_natCast, Nat.zero_mul, Nat.mul_one, Nat.one_mul, List.toList_toArray, List.cons_append, List.nil_append, List.append_nil, true_and, and_true, Nat.zero_add, Nat.add_zero, Bool.not_true, Bool.not_false, if_true, if_false, reduceCtorEq, List.set_cons_zero, List.set_cons_succ])
    rw [if_neg (by omega)]
    refine h_alloc hh fun out H1 hh => ?_
    refine ⟨⟨by omega, by omega⟩, ?_⟩
    refine h_load (b := d) hh ho ?_
    (try simp only [xl, xo, Bool.not_eq_true', decide_eq_false_iff_not, ite_not, List.size_toArray, List.length_cons, List.length_nil, Nat.reduceAdd, qt, decide_eq_true_eq, Int.toNat_zero, Int.toNat_natCast, Nat.zero_mul, Nat.mul_one, Nat.one_mul, List.toList_toArray, List.cons_append, List.nil_append, List.append_nil, true_and, and_true, Nat.zero_add, Nat.add_zero, Bool.not_true, Bool.not_false, if_true, if_false, reduceCtorEq, List.set_cons_zero, List.set_cons_succ])
    refine ⟨⟨by omega, by omega⟩, ?_⟩
    refine h_load (b := tb) hh hgi ?_
    apply k_dict_chain_int64
    unfold c_dict_chain_int64
    rw [x_box]
    refine ⟨headV_oc _, ?_⟩
    refine h_alloc hh fun cb G1 hh => ?_
    refine h_range hh fun D1 l L G2 hh hst hpd hY => ?_
    (try simp only [xl, xo, Bool.not_eq_true', decide_eq_false_iff_not, ite_not, List.size_toArray, List.length_cons, List.length_nil, Nat.reduceAdd, qt, decide_eq_true_eq, Int.toNat_zero, Int.toNat_natCast, Nat.zero_mul, Nat.mul_one, Nat.one_mul, List.toList_toArray, List.cons_append, List.nil_append, List.append_nil, true_and, and_true, Nat.zero_add, Nat.add_zero, Bool.not_true, Bool.not_false, if_true, if_false, reduceCtorEq, List.set_cons_zero, List.set_cons_succ])
    refine dict_chain_i (H := G2) c (fun r Q => ∃ (p : List DNode) (v : Value) (sl m' : Mem), c = p ++ r ∧ SlOwn 1 v (strC (p.map (·.key))) sl ∧ lenV v = p.length ∧
      Has Q (cell cb [headV nilV r] + (objM l (.loop L) + (seg D.seed (headV nilV r) p + (seg D.seed nilV r + (cell out [v] + (sl + (objM D1 (.deferred (some [])) + (cell d (dictCells D) + (cell tb (T.map (headV nilV)) + (rm + (m + m'))))))))))))
      (fun r Q hq => by obtain ⟨p, v, sl, m', _, _, _, h2⟩ := hq; exact h2.blk)
      (fun x r Q hq => by
        obtain ⟨p, v, sl, m', _, _, _, h2⟩ := hq
        rw [seg] at h2
        exact ⟨_, _, _, h2.right.right.right.left.left.blk⟩) ?_ ?_ ?_
    · rintro x r Q ⟨p, v, sl, m', q1, q2, q3, hh⟩
      rw [seg] at hh
      refine hY (.pointer (some ⟨x.b, 0, none⟩)) Q _ hh.obj ?_
      refine h_begin hh hst fun Q1 hh => ?_
      refine h_load (b := out) hh rfl ?_
      (try simp only [xl, xo, Bool.not_eq_true', decide_eq_false_iff_not, ite_not, List.size_toArray, List.length_cons, List.length_nil, Nat.reduceAdd, qt, decide_eq_true_eq, Int.toNat_zero, Int.toNat_natCast, Nat.zero_mul, Nat.mul_one, Nat.one_mul, List.toList_toArray, List.cons_append, List.nil_append, List.append_nil, true_and, and_true, Nat.zero_add, Nat.add_zero, Bool.not_true, Bool.not_false, if_true, if_false, reduceCtorEq, List.set_cons_zero, List.set_cons_succ])
      refine h_load (b := x.b) hh rfl ?_
      (try simp only [xl, xo, Bool.not_eq_true', decide_eq_false_iff_not, ite_not, List.size_toArray, List.length_cons, List.length_nil, Nat.reduceAdd, qt, decide_eq_true_eq, Int.toNat_zero, Int.toNat_natCast, Nat.zero_mul, Nat.mul_one, Nat.one_mul, List.toList_toArray, List.cons_append, List.nil_append, List.append_nil, true_and, and_true, Nat.zero_add, Nat.add_zero, Bool.not_true, Bool.not_false, if_true, if_false, reduceCtorEq, List.set_cons_zero, List.set_cons_succ])
      refine h_buildSl hh fun nb Q2 hh => ?_
      refine ⟨h_loadIs (b := out) hh rfl, ?_⟩
      have hlp : p.length + (r.length + 1) = c.length := by rw [q1]; simp
      refine h_appendT (r := [x.key]) q2 (by simpa using q3) (hh.front sl) ?_ rfl (by simp; omega) fun v' sl' Q3 hv' hlv' hh => ?_
      · have hb := Has.blk (b := nb) hh
        simpa [readCells, lenV] using hb.readN 0 1 0 (by simp)
      refine h_put (b := out) hh (own_oc hv') fun Q4 hh => ?_
      refine h_end hh hst hpd fun Q5 hh => ⟨rfl, _, hh.frontC cb, fun Q6 hh => ⟨p ++ [x], v', sl', cell nb [.string x.key] + m', by rw [q1]; simp, by rw [List.map_append]; exact hv', by simpa using hlv', ?_⟩⟩
      refine hh.to ?_
      rw [seg_append, seg, seg]
      simp only [headV, seg, emp_add, add_emp]
      ac_rfl
    · refine ⟨[], .slice none 0 0, emp, emp, rfl, .inl ⟨rfl, rfl, rfl⟩, rfl, hh.to ?_⟩
      simp only [seg, emp_add, add_emp, List.toList_toArray]
      ac_rfl
    · rintro Q ⟨p, v, sl, m', q1, q2, q3, hh⟩
      rw [List.append_nil] at q1
      subst q1
      refine ⟨L, _, hh.front (objM l (.loop L)), by rw [hst]; simp, fun Q1 hh => ?_⟩
      simp only [x_alt1, x_j0, hpd, true_and]
      refine h_load (b := out) hh rfl ?_
      refine sort_own_h q2 (by simpa using q3) (by simpa using hlen) (hh.front sl) fun Q2 sl2 hs2 hh => ?_
      refine h_load (b := out) hh rfl ?_
      refine h_ret1 hh fun Q3 hh => ?_
      simp only [headV, seg, emp_add, add_emp] at hh
      refine hK Q3 v sl2 (sortB (c.map (·.key))) hs2 (by rw [sortB_len]; simpa using q3) (sortB_perm _) ?_
      exact (hh.front (sl2 + (cell d (dictCells D) + (cell tb (T.map (headV nilV)) + (seg D.seed nilV c + rm)) + m))).left
  | true =>
    (try simp only [xl, xo, Bool.not_eq_true', decide_eq_false_iff_not, ite_not, List.size_toArray, List.length_cons, List.length_nil, Nat.reduceAdd, qt, decide_eq_true_eq, Int.toNat_zero, Int.toNat_natCast, Nat.zero_mul, Nat.mul_one, Nat.one_mul, List.toList_toArray, List.cons_append, List.nil_append, List.append_nil, true_and, and_true, Nat.zero_add, Nat.add_zero, Bool.not_true, Bool.not_false, if_true, if_false, reduceCtorEq, List.set_cons_zero, List.set_cons_succ])
    rw [if_neg (by decide), if_neg (by decide), if_neg (by omega)]
    refine ⟨⟨by omega, by omega⟩, ?_⟩
    have ho : (dictCells D)[2]? = some (.slice (some ⟨tb, 0, none⟩) T.length T.length) := hcell
    refine h_load (b := d) hh ho ?_
    (try simp only [xl, xo, Bool.not_eq_true', decide_eq_false_iff_not, ite_not, List.size_toArray, List.length_cons, List.length_nil, Nat.reduceAdd, qt, decide_eq_true_eq, Int.toNat_zero, Int.toNat_natCast, Nat.zero_mul, Nat.mul_one, Nat.one_mul, List.toList_toArray, List.cons_append, List.nil_append, List.append_nil, true_and, and_true, Nat.zero_add, Nat.add_zero, Bool.not_true, Bool.not_false, if_true, if_false, reduceCtorEq, List.set_cons_zero, List.set_cons_succ])
    rw [if_neg (by omega)]
    refine h_alloc hh fun out H1 hh => ?_
    refine ⟨⟨by omega, by omega⟩, ?_⟩
    refine h_load (b := d) hh ho ?_
    (try simp only [xl, xo, Bool.not_eq_true', decide_eq_false_iff_not, ite_not, List.size_toArray, List.length_cons, List.length_nil, Nat.reduceAdd, qt, decide_eq_true_eq, Int.toNat_zero, Int.toNat_natCast, Nat.zero_mul, Nat.mul_one, Nat.one_mul, List.toList_toArray, List.cons_append, List.nil_append, List.append_nil, true_and, and_true, Nat.zero_add, Nat.add_zero, Bool.not_true, Bool.not_false, if_true, if_false, reduceCtorEq, List.set_cons_zero, List.set_cons_succ])
    refine ⟨⟨by omega, by omega⟩, ?_⟩
    refine h_load (b := tb) hh hgi ?_
    apply k_dict_chain_int64
    unfold c_dict_chain_int64
    rw [x_box]
    refine ⟨headV_oc _, ?_⟩
    refine h_alloc hh fun cb G1 hh => ?_
    refine h_range hh fun D1 l L G2 hh hst hpd hY => ?_
    (try simp only [xl, xo, Bool.not_eq_true', decide_eq_false_iff_not, ite_not, List.size_toArray, List.length_cons, List.length_nil, Nat.reduceAdd, qt, decide_eq_true_eq, Int.toNat_zero, Int.toNat_natCast, Nat.zero_mul, Nat.mul_one, Nat.one_mul, List.toList_toArray, List.cons_append, List.nil_append, List.append_nil, true_and, and_true, Nat.zero_add, Nat.add_zero, Bool.not_true, Bool.not_false, if_true, if_false, reduceCtorEq, List.set_cons_zero, List.set_cons_succ])
    refine dict_chain_i (H := G2) c (fun r Q => ∃ (p : List DNode) (v : Value) (sl m' : Mem), c = p ++ r ∧ SlOwn 1 v (strC (p.map (·.key))) sl ∧ lenV v = p.length ∧
      Has Q (cell cb [headV nilV r] + (objM l (.loop L) + (seg D.seed (headV nilV r) p + (seg D.seed nilV r + (cell out [v] + (sl + (objM D1 (.deferred (some [])) + (cell d (dictCells D) + (cell tb (T.map (headV nilV)) + (rm + (m + m'))))))))))))
      (fun r Q hq => by obtain ⟨p, v, sl, m', _, _, _, h2⟩ := hq; exact h2.blk)
      (fun x r Q hq => by
        obtain ⟨p, v, sl, m', _, _, _, h2⟩ := hq
        rw [seg] at h2
        exact ⟨_, _, _, h2.right.right.right.left.left.blk⟩) ?_ ?_ ?_
    · rintro x r Q ⟨p, v, sl, m', q1, q2, q3, hh⟩
      rw [seg] at hh
      refine hY (.pointer (some ⟨x.b, 0, none⟩)) Q _ hh.obj ?_
      refine h_begin hh hst fun Q1 hh => ?_
      refine h_load (b := out) hh rfl ?_
      (try simp only [xl, xo, Bool.not_eq_true', decide_eq_false_iff_not, ite_not, List.size_toArray, List.length_cons, List.length_nil, Nat.reduceAdd, qt, decide_eq_true_eq, Int.toNat_zero, Int.toNat_natCast, Nat.zero_mul, Nat.mul_one, Nat.one_mul, List.toList_toArray, List.cons_append, List.nil_append, List.append_nil, true_and, and_true, Nat.zero_add, Nat.add_zero, Bool.not_true, Bool.not_false, if_true, if_false, reduceCtorEq, List.set_cons_zero, List.set_cons_succ])
      refine h_load (b := x.b) hh rfl ?_
      (try simp only [xl, xo, Bool.not_eq_true', decide_eq_false_iff_not, ite_not, List.size_toArray, List.length_cons, List.length_nil, Nat.reduceAdd, qt, decide_eq_true_eq, Int.toNat_zero, Int.toNat_natCast, Nat.zero_mul, Nat.mul_one, Nat.one_mul, List.toList_toArray, List.cons_append, List.nil_append, List.append_nil, true_and, and_true, Nat.zero_add, Nat.add_zero, Bool.not_true, Bool.not_false, if_true, if_false, reduceCtorEq, List.set_cons_zero, List.set_cons_succ])
      refine h_buildSl hh fun nb Q2 hh => ?_
      refine ⟨h_loadIs (b := out) hh rfl, ?_⟩
      have hlp : p.length + (r.length + 1) = c.length := by rw [q1]; simp
      refine h_appendT (r := [x.key]) q2 (by simpa using q3) (hh.front sl) ?_ rfl (by simp; omega) fun v' sl' Q3 hv' hlv' hh => ?_
      · have hb := Has.blk (b := nb) hh
        simpa [readCells, lenV] using hb.readN 0 1 0 (by simp)
      refine h_put (b := out) hh (own_oc hv') fun Q4 hh => ?_
      refine h_end hh hst hpd fun Q5 hh => ⟨rfl, _, hh.frontC cb, fun Q6 hh => ⟨p ++ [x], v', sl', cell nb [.string x.key] + m', by rw [q1]; simp, by rw [List.map_append]; exact hv', by simpa using hlv', ?_⟩⟩
      refine hh.to ?_
      rw [seg_append, seg, seg]
      simp only [headV, seg, emp_add, add_emp]
      ac_rfl
    · refine ⟨[], .slice none 0 0, emp, emp, rfl, .inl ⟨rfl, rfl, rfl⟩, rfl, hh.to ?_⟩
      simp only [seg, emp_add, add_emp, List.toList_toArray]
      ac_rfl
    · rintro Q ⟨p, v, sl, m', q1, q2, q3, hh⟩
      rw [List.append_nil] at q1
      subst q1
      refine ⟨L, _, hh.front (objM l (.loop L)), by rw [hst]; simp, fun Q1 hh => ?_⟩
      simp only [x_alt1, x_j0, hpd, true_and]
      refine h_load (b := out) hh rfl ?_
      refine sort_own_h q2 (by simpa using q3) (by simpa using hlen) (hh.front sl) fun Q2 sl2 hs2 hh => ?_
      refine h_load (b := out) hh rfl ?_
      refine h_ret1 hh fun Q3 hh => ?_
      simp only [headV, seg, emp_add, add_emp] at hh
      refine hK Q3 v sl2 (sortB (c.map (·.key))) hs2 (by rw [sortB_len]; simpa using q3) (sortB_perm _) ?_
      exact (hh.front (sl2 + (cell d (dictCells D) + (cell tb (T.map (headV nilV)) + (seg D.seed nilV c + rm)) + m))).left
end Go.X.W
set_option linter.unusedVariables false
set_option linter.unusedSimpArgs false
namespace Go.X.W
open Go Go.X Go.Proofs

/-- A key's place. -/
noncomputable def posN (seed : Int) (x : ByteArray) : Nat := revN 32 (hsum seed x).toNat
noncomputable def inR (seed : Int) (p e : Nat) (x : ByteArray) : Bool := decide (p ≤ posN seed x) && decide (posN seed x < e)

theorem inR_cat {seed : Int} {p q e : Nat} (h1 : p ≤ q) (h2 : q ≤ e) (l : List ByteArray) : (l.filter (inR seed p e)).Perm (l.filter (inR seed p q) ++ l.filter (inR seed q e)) := by
  refine (List.filter_append_perm (fun x => decide (posN seed x < q)) (l.filter (inR seed p e))).symm.trans ?_
  rw [List.filter_filter, List.filter_filter]
  refine List.Perm.of_eq ?_
  congr 1
  · refine List.filter_congr fun x _ => ?_
    unfold inR
    rw [Bool.eq_iff_iff]
    simp only [Bool.and_eq_true, decide_eq_true_eq]
    omega
  · refine List.filter_congr fun x _ => ?_
    unfold inR
    rw [Bool.eq_iff_iff]
    simp only [Bool.and_eq_true, Bool.not_eq_true', decide_eq_true_eq, decide_eq_false_iff_not]
    omega
theorem inR_nil {seed : Int} {p : Nat} (l : List ByteArray) : l.filter (inR seed p p) = [] := by
  rw [List.filter_eq_nil_iff]
  intro x _ h
  unfold inR at h
  simp only [Bool.and_eq_true, decide_eq_true_eq] at h
  omega
theorem inR_all {seed : Int} (l : List ByteArray) : l.filter (inR seed 0 4294967296) = l := by
  rw [List.filter_eq_self]
  intro x _
  unfold inR
  have := rev32_lt (hsum seed x).toNat
  simp only [Bool.and_eq_true, decide_eq_true_eq]
  unfold posN
  omega

theorem blk_bd {n : Nat} (hn : IsSz n) : 65536 ≤ blkN n ∧ blkN n ∣ 4294967296 ∧ (n ≤ 1024 → 4194304 ≤ blkN n) := by
  obtain ⟨k, h2, h16, rfl⟩ := hn
  rw [blk_pow (by omega)]
  refine ⟨Nat.pow_le_pow_right (n := 2) (i := 16) (by omega) (by omega), Nat.pow_dvd_pow 2 (m := 32 - k) (n := 32) (by omega), fun h => ?_⟩
  have : k ≤ 10 := (Nat.pow_le_pow_iff_right (a := 2) (n := k) (m := 10) (by omega)).1 h
  exact Nat.pow_le_pow_right (n := 2) (i := 22) (by omega) (by omega)
theorem blk_dvd {s g : Nat} (hs : IsSz s) (hg : IsSz g) (h : s ≤ g) : blkN g ∣ blkN s := by
  obtain ⟨a, ha2, ha, rfl⟩ := hs
  obtain ⟨b, hb2, hb, rfl⟩ := hg
  have hab : a ≤ b := (Nat.pow_le_pow_iff_right (by omega)).1 h
  rw [blk_pow (by omega), blk_pow (by omega)]
  exact Nat.pow_dvd_pow 2 (by omega)

abbrev keysT (T : Tabl) : List ByteArray := T.flatten.map (·.key)

theorem tab_filter {seed : Int} {T : Tabl} {i : Nat} {c : List DNode} (hT : TabOk seed T) (hi : T[i]? = some c) : (T.flatten.filter fun x => decide (slotN (hsum seed x.key) T.length = i)).Perm c := by
  refine ((flat_get hi).filter _).trans ?_
  rw [List.filter_append]
  have e1 : (c.filter fun x => decide (slotN (hsum seed x.key) T.length = i)) = c := by
    rw [List.filter_eq_self]
    intro x hx
    simpa using hT.slot i c hi x hx
  have e2 : ((T.set i []).flatten.filter fun x => decide (slotN (hsum seed x.key) T.length = i)) = [] := by
    rw [List.filter_eq_nil_iff]
    intro x hx h
    obtain ⟨l, hl, hxl⟩ := List.mem_flatten.1 hx
    obtain ⟨j, hj⟩ := List.getElem?_of_mem hl
    by_cases e : j = i
    · subst e
      rw [List.getElem?_set_self (List.getElem?_eq_some_iff.1 hi).1] at hj
      simp only [Option.some.injEq] at hj
      subst hj
      cases hxl
    · rw [List.getElem?_set_ne (fun e' => e e'.symm)] at hj
      have := hT.slot j l hj x hxl
      simp only [decide_eq_true_eq] at h
      omega
  rw [e1, e2, List.append_nil]

theorem tab_inR {seed : Int} {T : Tabl} {c0 : Nat} {c : List DNode} (hT : TabOk seed T) (hal : revN 32 c0 % blkN T.length = 0) (hi : T[c0 % T.length]? = some c) :
    (c.map (·.key)).Perm ((keysT T).filter (inR seed (revN 32 c0) (revN 32 c0 + blkN T.length))) := by
  have h := (tab_filter hT hi).map (·.key)
  refine h.symm.trans (List.Perm.of_eq ?_)
  rw [keysT, List.filter_map]
  congr 1
  refine List.filter_congr fun x _ => ?_
  simp only [Function.comp_apply]
  unfold inR posN
  rw [Bool.eq_iff_iff]
  simp only [Bool.and_eq_true, decide_eq_true_eq]
  rw [slotN_def, slotD, slot_turn hT.sz]
  have hB := (blk_bd hT.sz).1
  have hd := Nat.div_add_mod (revN 32 c0) (blkN T.length)
  rw [hal, Nat.add_zero] at hd
  generalize revN 32 (hsum seed x.key).toNat = y
  generalize blkN T.length = B at *
  generalize revN 32 c0 / B = q at *
  rw [← hd]
  have hy := Nat.div_add_mod y B
  have hm := Nat.mod_lt y (show 0 < B by omega)
  constructor
  · rintro rfl
    omega
  · rintro ⟨h1, h2⟩
    refine Nat.div_eq_of_lt_le ?_ ?_
    · rw [Nat.mul_comm]; exact h1
    · rw [Nat.add_mul, Nat.one_mul, Nat.mul_comm]; exact h2

/-- The next place, of a table. -/
theorem next_end {c n : Nat} (hn : IsSz n) (hal : revN 32 c % blkN n = 0) : nextN c n = revN 32 ((revN 32 c + blkN n) % 4294967296) ∧ revN 32 c + blkN n ≤ 4294967296 := by
  have h := next_turn (c := c) hn
  have hd := Nat.div_add_mod (revN 32 c) (blkN n)
  rw [hal, Nat.add_zero, Nat.mul_comm] at hd
  rw [Nat.add_mul, hd, Nat.one_mul] at h
  refine ⟨?_, ?_⟩
  · rw [← h, rev32_rev (next_lt c n)]
  · obtain ⟨hb, ⟨q, hq⟩, _⟩ := blk_bd hn
    have hlt := rev32_lt c
    generalize blkN n = B at *
    generalize revN 32 c / B = r at *
    rw [← hd] at hlt ⊢
    rw [hq, Nat.mul_comm B q] at hlt ⊢
    have := Nat.lt_of_mul_lt_mul_right hlt
    have h2 := Nat.mul_le_mul_right B (show r + 1 ≤ q by omega)
    rwa [Nat.add_mul, Nat.one_mul] at h2

theorem and_mask {c n : Nat} (hn : IsSz n) (hc : c < 4294967296) : IntKind.i64.wrap (IntKind.u32.wrap (BitVec.ofInt 32 (c : Int) &&& BitVec.ofInt 32 ((n - 1 : Nat) : Int)).toNat) = ((c % n : Nat) : Int) := by
  have hb := hn.bd
  have := slot_val (sum := (c : Int)) (by omega) hn
  rw [w64 (n := (n : Int) - 1) (by omega), wu32 (n := (n : Int) - 1) (by omega), slotN_def, slotD, Int.toNat_natCast] at this
  rw [show ((n - 1 : Nat) : Int) = (n : Int) - 1 by omega]
  exact this

theorem scan_gathered_h {H : Heap} {d tb i lb : Nat} {D : DSt} {T : Tabl} {c : List DNode} {m : Mem} {K : Value → Heap → Prop} (b : Bool) (hh : Has H (dictM d D + (cell lb [.int .i64 i] + m))) (hD : D.Ok) (ht : D.tab b = some (tb, T)) (hi : T[i]? = some c) (hlen : c.length < 1000000)
    (hK : ∀ H' v sl l, SlOwn 1 v (strC l) sl → lenV v = l.length → l.Perm (c.map (·.key)) → Has H' (sl + (dictM d D + m)) → K v H') :
    CallH P f_scan_gathered_int64 [.pointer (some ⟨d, 0, none⟩), .int .i64 (if b then 1 else 0), .slice (some ⟨lb, 0, none⟩) 1 1] H K := by
  apply k_scan_gathered_int64
  unfold c_scan_gathered_int64
  (try simp only [xl, xo, Bool.not_eq_true', decide_eq_false_iff_not, ite_not, List.size_toArray, List.length_cons, List.length_nil, Nat.reduceAdd, qt, decide_eq_true_eq, Int.toNat_zero, Int.toNat_natCast, Nat.zero_mul, Nat.mul_one, Nat.one_mul, List.toList_toArray, List.cons_append, List.nil_append, List.append_nil, true_and, and_true, Nat.zero_add, Nat.add_zero, Bool.not_true, Bool.not_false, if_true, if_false, reduceCtorEq, List.set_cons_zero, List.set_cons_succ])
  refine loop_i (fun k s G => (k = 1 ∧ s = ((.slice none 0 0, .int .i64 0), []) ∧ G = H) ∨
      (k = 0 ∧ ∃ v sl l, s = ((v, .int .i64 1), []) ∧ SlOwn 1 v (strC l) sl ∧ lenV v = l.length ∧ l.Perm (c.map (·.key)) ∧ Has G (sl + (dictM d D + m)))) 1 (.inl ⟨rfl, rfl, rfl⟩) ?_
  rintro k s g G (⟨rfl, rfl, rfl⟩ | ⟨rfl, v, sl, l, rfl, h1, h2, h3, hh⟩)
  · (try simp only [xl, xo, Bool.not_eq_true', decide_eq_false_iff_not, ite_not, List.size_toArray, List.length_cons, List.length_nil, Nat.reduceAdd, qt, decide_eq_true_eq, Int.toNat_zero, Int.toNat_natCast, Nat.zero_mul, Nat.mul_one, Nat.one_mul, List.toList_toArray, List.cons_append, List.nil_append, List.append_nil, true_and, and_true, Nat.zero_add, Nat.add_zero, Bool.not_true, Bool.not_false, if_true, if_false, reduceCtorEq, List.set_cons_zero, List.set_cons_succ])
    rw [if_pos (by omega)]
    refine ⟨⟨by omega, by omega⟩, ?_⟩
    refine h_load (b := lb) hh rfl ?_
    refine dict_Bucket_h b hh hD ht hi hlen fun G2 v sl l h1 h2 h3 hh => ?_
    (try simp only [xl, xo, Bool.not_eq_true', decide_eq_false_iff_not, ite_not, List.size_toArray, List.length_cons, List.length_nil, Nat.reduceAdd, qt, decide_eq_true_eq, Int.toNat_zero, Int.toNat_natCast, Nat.zero_mul, Nat.mul_one, Nat.one_mul, List.toList_toArray, List.cons_append, List.nil_append, List.append_nil, true_and, and_true, Nat.zero_add, Nat.add_zero, Bool.not_true, Bool.not_false, if_true, if_false, reduceCtorEq, List.set_cons_zero, List.set_cons_succ])
    have hl : l.length = c.length := by rw [h3.length_eq, List.length_map]
    refine h_appendT (s := .slice none 0 0) (l := []) (r := l) (sl := emp) (.inl ⟨rfl, rfl, rfl⟩) rfl (hh.to (emp_add _).symm) (own_read1 h1 h2 hh) h2 (by simp; omega) fun v' sl' G3 hv' hlv' hh => ?_
    refine ⟨0, by omega, .inr ⟨rfl, v', sl', l, by rw [w64 (by omega)]; rfl, by simpa using hv', by simpa using hlv', h3, ?_⟩⟩
    exact (hh.front (sl' + (dictM d D + m))).left
  · (try simp only [xl, xo, Bool.not_eq_true', decide_eq_false_iff_not, ite_not, List.size_toArray, List.length_cons, List.length_nil, Nat.reduceAdd, qt, decide_eq_true_eq, Int.toNat_zero, Int.toNat_natCast, Nat.zero_mul, Nat.mul_one, Nat.one_mul, List.toList_toArray, List.cons_append, List.nil_append, List.append_nil, true_and, and_true, Nat.zero_add, Nat.add_zero, Bool.not_true, Bool.not_false, if_true, if_false, reduceCtorEq, List.set_cons_zero, List.set_cons_succ])
    rw [if_neg (by omega)]
    exact hK G v sl l h1 h2 h3 hh
end Go.X.W
set_option linter.unusedVariables false
set_option linter.unusedSimpArgs false
namespace Go.X.W
open Go Go.X Go.Proofs

theorem mul_step {B p e : Nat} (hB : 0 < B) (hp : p % B = 0) (he : e % B = 0) (h : p < e) : p + B ≤ e := by
  obtain ⟨i, rfl⟩ := Nat.dvd_of_mod_eq_zero hp
  obtain ⟨j, rfl⟩ := Nat.dvd_of_mod_eq_zero he
  have h2 := Nat.mul_le_mul_left B (show i + 1 ≤ j from Nat.lt_of_mul_lt_mul_left h)
  rwa [Nat.mul_add, Nat.mul_one] at h2
theorem mod_add {B p : Nat} (hp : p % B = 0) : (p + B) % B = 0 := by rw [Nat.add_mod_right, hp]
theorem mod_of_dvd {a b p : Nat} (h : a ∣ b) (hp : p % b = 0) : p % a = 0 := Nat.mod_eq_zero_of_dvd (Nat.dvd_trans h (Nat.dvd_of_mod_eq_zero hp))

abbrev curV (p : Nat) : Value := .int .u32 (revN 32 (p % 4294967296) : Nat)

theorem scan_slots_i {l cb gb sb s g p0 : Nat} {H : Heap} {K : Value → Heap → Prop} (hs : IsSz s) (hg : IsSz g) (hsg : s ≤ g) (h0 : p0 % blkN s = 0) (hb : p0 + blkN s ≤ 4294967296)
    (Inv Inv2 : Nat → Heap → Prop)
    (hI : ∀ p G, Inv p G → ∃ m', Has G (cell cb [curV p] + (cell gb [.int .i64 g] + (cell sb [.int .i64 s] + m'))) ∧ ∀ G', Has G' (cell cb [curV (p + blkN g)] + (cell gb [.int .i64 g] + (cell sb [.int .i64 s] + m'))) → Inv2 p G')
    (hY : ∀ p G, p0 ≤ p → p + blkN g ≤ p0 + blkN s → p % blkN g = 0 → Inv2 p G → YieldH P l [.int .i64 (revN 32 p % g : Nat), curV (p + blkN g)] G fun v G' => v = .bool true ∧ Inv (p + blkN g) G')
    (hi : Inv p0 H) (hK : ∀ G, Inv (p0 + blkN s) G → K (.tuple #[]) G) :
    CallH P f_scan_slots_1 [.func (.yield l) #[] #[], ptrV cb, ptrV gb, ptrV sb] H K := by
  apply k_scan_slots_1
  unfold c_scan_slots_1
  obtain ⟨b1, b2, _⟩ := blk_bd hg
  obtain ⟨b3, b4, _⟩ := blk_bd hs
  have hd := blk_dvd hs hg hsg
  refine loop_i (fun k st G => ∃ p, k = p0 + blkN s - p ∧ p0 ≤ p ∧ p < p0 + blkN s ∧ p % blkN g = 0 ∧ st = ((), []) ∧ Inv p G) (p0 + blkN s - p0) ⟨p0, rfl, by omega, by omega, mod_of_dvd hd h0, rfl, hi⟩ ?_
  rintro k st gg G ⟨p, rfl, hp1, hp2, hp3, rfl, hinv⟩
  have hle : p + blkN g ≤ p0 + blkN s := mul_step (by omega) hp3 (mod_of_dvd hd (mod_add h0)) hp2
  obtain ⟨m', hh, hnext⟩ := hI p G hinv
  have hpm : p % 4294967296 = p := Nat.mod_eq_of_lt (by omega)
  have hcur := rev32_lt p
  refine h_load (b := cb) hh rfl ?_
  refine h_load (b := gb) hh rfl ?_
  refine scan_mask_k hg ?_
  refine ⟨h_loadIs (b := cb) hh rfl, ?_⟩
  (try simp only [xl, xo, Bool.not_eq_true', decide_eq_false_iff_not, ite_not, List.size_toArray, List.length_cons, List.length_nil, Nat.reduceAdd, qt, decide_eq_true_eq, Int.toNat_zero, Int.toNat_natCast, Nat.zero_mul, Nat.mul_one, Nat.one_mul, List.toList_toArray, List.cons_append, List.nil_append, List.append_nil, true_and, and_true, Nat.zero_add, Nat.add_zero, Bool.not_true, Bool.not_false, if_true, if_false, reduceCtorEq, List.set_cons_zero, List.set_cons_succ])
  have hm := and_mask (c := revN 32 p) hg hcur
  have eb : IntKind.u32.bits = 32 := rfl
  rw [eb, hpm, hm]
  refine h_load (b := cb) hh rfl ?_
  refine h_load (b := gb) hh rfl ?_
  simp only [curV, hpm]
  refine scan_next_k hg hcur ?_
  have hne := next_end (c := revN 32 p) hg (by rw [rev32_rev (by omega)]; exact hp3)
  rw [rev32_rev (by omega)] at hne
  rw [hne.1]
  refine h_put (b := cb) hh rfl fun G2 hh => ?_
  refine h_load (b := cb) hh rfl ?_
  refine YieldH.mono (hY p G2 hp1 hle hp3 (hnext G2 hh)) ?_
  rintro v G3 ⟨rfl, hinv3⟩
  obtain ⟨m2, hh, _⟩ := hI _ G3 hinv3
  (try simp only [xl, xo, Bool.not_eq_true', decide_eq_false_iff_not, ite_not, List.size_toArray, List.length_cons, List.length_nil, Nat.reduceAdd, qt, decide_eq_true_eq, Int.toNat_zero, Int.toNat_natCast, Nat.zero_mul, Nat.mul_one, Nat.one_mul, List.toList_toArray, List.cons_append, List.nil_append, List.append_nil, true_and, and_true, Nat.zero_add, Nat.add_zero, Bool.not_true, Bool.not_false, if_true, if_false, reduceCtorEq, List.set_cons_zero, List.set_cons_succ])
  refine h_load (b := cb) hh rfl ?_
  refine h_load (b := sb) hh rfl ?_
  refine h_load (b := gb) hh rfl ?_
  refine scan_within_k hs hg hsg ?_
  refine ⟨h_loadIs (b := cb) hh rfl, ?_⟩
  (try simp only [xl, xo, Bool.not_eq_true', decide_eq_false_iff_not, ite_not, List.size_toArray, List.length_cons, List.length_nil, Nat.reduceAdd, qt, decide_eq_true_eq, Int.toNat_zero, Int.toNat_natCast, Nat.zero_mul, Nat.mul_one, Nat.one_mul, List.toList_toArray, List.cons_append, List.nil_append, List.append_nil, true_and, and_true, Nat.zero_add, Nat.add_zero, Bool.not_true, Bool.not_false, if_true, if_false, reduceCtorEq, List.set_cons_zero, List.set_cons_succ])
  have hsb := hs.bd
  have hgb := hg.bd
  have hc2 := rev32_lt ((p + blkN g) % 4294967296)
  have hal2 : revN 32 (revN 32 ((p + blkN g) % 4294967296)) % blkN g = 0 := by
    rw [rev32_rev (Nat.mod_lt _ (by omega)), Nat.mod_mod_of_dvd _ b2]
    exact mod_add hp3
  have hw := within_iff hs hg hsg hal2
  rw [rev32_rev (Nat.mod_lt _ (by omega)), Nat.mod_mod_of_dvd _ b4] at hw
  have hcond : (IntKind.u32.wrap (BitVec.ofInt 32 (revN 32 ((p + blkN g) % 4294967296) : Nat) &&& BitVec.ofInt 32 ((g - s : Nat) : Int)).toNat = 0) ↔ (p + blkN g) % blkN s = 0 := by
    rw [BitVec.toNat_and, bv32 (by omega), bv32 (by omega), Int.toNat_natCast, Int.toNat_natCast, ← hw]
    have hle2 : revN 32 ((p + blkN g) % 4294967296) &&& (g - s) ≤ g - s := Nat.and_le_right
    rw [wu32 (by omega)]
    omega
  by_cases hend : (p + blkN g) % blkN s = 0
  · have he : p + blkN g = p0 + blkN s := by
      have := mul_step (by omega) h0 hend (show p0 < p + blkN g by omega)
      omega
    rw [he] at hinv3
    exact (if_pos (hcond.2 hend)).mpr (hK G3 hinv3)
  · refine (if_neg (fun h => hend (hcond.1 h))).mpr ?_
    refine ⟨p0 + blkN s - (p + blkN g), by omega, p + blkN g, rfl, by omega, ?_, mod_add hp3, hinv3⟩
    refine Nat.lt_of_le_of_ne hle fun h => hend ?_
    rw [h]
    exact mod_add h0
end Go.X.W
set_option linter.unusedVariables false
set_option linter.unusedSimpArgs false
namespace Go.X.W
open Go Go.X Go.Proofs

abbrev keysD (D : DSt) : List ByteArray := D.flat.map (·.key)

theorem chain_len {D : DSt} {b : Bool} {tb i : Nat} {T : Tabl} {c : List DNode} (ht : D.tab b = some (tb, T)) (hi : T[i]? = some c) : c.length ≤ D.flat.length := by
  have h := (flat_get hi).length_eq
  rw [List.length_append] at h
  have h2 : T.flatten.length ≤ D.flat.length := by
    cases b with
    | false => simp only [DSt.tab, Option.some.injEq, Prod.mk.injEq] at ht; obtain ⟨rfl, rfl⟩ := ht; simp [DSt.flat]
    | true => simp only [DSt.tab] at ht; simp [DSt.flat, ht, rFlat]
  omega

def tbI (b : Bool) : Int := if b then 1 else 0
theorem tbI_sub (b : Bool) : IntKind.i64.wrap (1 - tbI b) = tbI (!b) := by cases b <;> rfl

theorem scan_Scan_h {H : Heap} {d p : Nat} {D : DSt} {m : Mem} {K : Value → Heap → Prop} (hp : p < 4294967296) (hh : Has H (dictM d D + m)) (hD : D.Ok) (hal : Al D p) (hlen : D.flat.length < 100000)
    (hK : ∀ H' v sl l e, SlOwn 1 v (strC l) sl → lenV v = l.length → p + 4194304 ≤ e → e ≤ 4294967296 → Al D e → l.Perm ((keysD D).filter (inR D.seed p e)) → Has H' (sl + (dictM d D + m)) → K (.tuple #[v, curV e]) H') :
    CallH P f_scan_Scan_int64 [.pointer (some ⟨d, 0, none⟩), curV p] H K := by
  have hpm : p % 4294967296 = p := Nat.mod_eq_of_lt hp
  simp only [curV, hpm]
  have hcur := rev32_lt p
  have hrp : revN 32 (revN 32 p) = p := rev32_rev hp
  obtain ⟨hal0, hal1⟩ := hal
  have h0sz := hD.t0.sz.bd
  have h0bd := hD.t0.bd
  obtain ⟨b1, b2, b3⟩ := blk_bd hD.t0.sz
  have b3 := b3 h0bd
  have eb : IntKind.u32.bits = 32 := rfl
  apply k_scan_Scan_int64
  unfold c_scan_Scan_int64
  rw [x_box]
  refine ⟨rfl, ?_⟩
  refine h_alloc hh fun db H1 hh => ?_
  refine h_load (b := db) hh rfl ?_
  refine dict_Sizes_h (hh.front (dictM d D)) ?_
  (try simp only [xl, xo, Bool.not_eq_true', decide_eq_false_iff_not, ite_not, List.size_toArray, List.length_cons, List.length_nil, Nat.reduceAdd, qt, decide_eq_true_eq, Int.toNat_zero, Int.toNat_natCast, Nat.zero_mul, Nat.mul_one, Nat.one_mul, List.toList_toArray, List.cons_append, List.nil_append, List.append_nil, true_and, and_true, Nat.zero_add, Nat.add_zero, Bool.not_true, Bool.not_false, if_true, if_false, reduceCtorEq, List.set_cons_zero, List.set_cons_succ])
  rw [if_neg (by omega)]
  cases hR : D.R with
  | none =>
    simp only [sndN]
    (try simp only [xl, xo, Bool.not_eq_true', decide_eq_false_iff_not, ite_not, List.size_toArray, List.length_cons, List.length_nil, Nat.reduceAdd, qt, decide_eq_true_eq, Int.toNat_zero, Int.toNat_natCast, Nat.zero_mul, Nat.mul_one, Nat.one_mul, List.toList_toArray, List.cons_append, List.nil_append, List.append_nil, true_and, and_true, Nat.zero_add, Nat.add_zero, Bool.not_true, Bool.not_false, if_true, if_false, reduceCtorEq, List.set_cons_zero, List.set_cons_succ])
    refine h_load (b := db) hh rfl ?_
    refine scan_mask_k hD.t0.sz ?_
    refine ⟨h_loadIs (b := db) hh rfl, ?_⟩
    (try simp only [xl, xo, Bool.not_eq_true', decide_eq_false_iff_not, ite_not, List.size_toArray, List.length_cons, List.length_nil, Nat.reduceAdd, qt, decide_eq_true_eq, Int.toNat_zero, Int.toNat_natCast, Nat.zero_mul, Nat.mul_one, Nat.one_mul, List.toList_toArray, List.cons_append, List.nil_append, List.append_nil, true_and, and_true, Nat.zero_add, Nat.add_zero, Bool.not_true, Bool.not_false, if_true, if_false, reduceCtorEq, List.set_cons_zero, List.set_cons_succ])
    have hm := and_mask (c := revN 32 p) hD.t0.sz hcur
    rw [eb, hm]
    refine h_buildSl hh fun lb H2 hh => ?_
    refine ⟨h_loadIs (b := db) hh rfl, ?_⟩
    have hlt : revN 32 p % D.T0.length < D.T0.length := Nat.mod_lt _ (by omega)
    have hi : D.T0[revN 32 p % D.T0.length]? = some (D.T0[revN 32 p % D.T0.length]'hlt) := List.getElem?_eq_getElem hlt
    generalize hc : D.T0[revN 32 p % D.T0.length]'hlt = c at *
    refine scan_gathered_h (m := cell db [.pointer (some ⟨d, 0, none⟩)] + m) false (hh.to (by ac_rfl)) hD rfl hi ?_ fun H3 v sl l h1 h2 h3 hh => ?_
    · have := chain_len (D := D) (b := false) rfl hi
      omega
    refine scan_next_k hD.t0.sz hcur ?_
    have hne := next_end (c := revN 32 p) hD.t0.sz (by rw [hrp]; exact hal0)
    rw [hrp] at hne
    rw [hne.1]
    have hal' : Al D (p + blkN D.T0.length) := ⟨mod_add hal0, by rw [hR]; simp⟩
    have hperm := tab_inR hD.t0 (by rw [hrp]; exact hal0) hi
    rw [hrp] at hperm
    have hfl : keysD D = keysT D.T0 := by simp only [keysD, keysT, DSt.flat, hR, rFlat, List.append_nil]
    exact hK H3 v sl l _ h1 h2 (by omega) hne.2 hal' (by rw [hfl]; exact h3.trans hperm) (hh.front (sl + (dictM d D + m))).left
  | some R =>
    obtain ⟨tb1, T1⟩ := R
    have t1 := hD.t1 tb1 T1 hR
    have hal1 := hal1 tb1 T1 hR
    have h1sz := t1.sz.bd
    rw [show sndN (some (tb1, T1)) = T1.length from rfl]
    (try simp only [xl, xo, Bool.not_eq_true', decide_eq_false_iff_not, ite_not, List.size_toArray, List.length_cons, List.length_nil, Nat.reduceAdd, qt, decide_eq_true_eq, Int.toNat_zero, Int.toNat_natCast, Nat.zero_mul, Nat.mul_one, Nat.one_mul, List.toList_toArray, List.cons_append, List.nil_append, List.append_nil, true_and, and_true, Nat.zero_add, Nat.add_zero, Bool.not_true, Bool.not_false, if_true, if_false, reduceCtorEq, List.set_cons_zero, List.set_cons_succ])
    rw [if_neg (by omega)]
    refine h_alloc hh fun tv H2 hh => ?_
    refine h_put (b := tv) hh rfl fun H3 hh => ?_
    refine join_ofS (fun s Q => ∃ (bs : Bool) (tbs : Nat) (Ts : Tabl) (tbg : Nat) (Tg : Tabl), s = ((.int .i64 Ts.length, .int .i64 Tg.length), []) ∧ D.tab bs = some (tbs, Ts) ∧ D.tab (!bs) = some (tbg, Tg) ∧ TabOk D.seed Ts ∧ TabOk D.seed Tg ∧
      Ts.length ≤ Tg.length ∧ p % blkN Ts.length = 0 ∧ (p + blkN Ts.length ≤ 4294967296 → Al D (p + blkN Ts.length)) ∧ (keysD D).Perm (keysT Ts ++ keysT Tg) ∧ Has Q (cell tv [.int .i64 (tbI bs)] + (cell db [.pointer (some ⟨d, 0, none⟩)] + (dictM d D + m)))) ?_ ?_
    · rintro s Q ⟨bs, tbs, Ts, tbg, Tg, rfl, hts, htg, oks, okg, hsg, hals, hAl, hkeys, hh⟩ g
      obtain ⟨c1, c2, c3⟩ := blk_bd oks.sz
      have c3 := c3 oks.bd
      obtain ⟨g1, g2, g3⟩ := blk_bd okg.sz
      have hssz := oks.sz.bd
      have hgsz := okg.sz.bd
      have hne := (next_end (c := revN 32 p) oks.sz (by rw [hrp]; exact hals)).2
      rw [hrp] at hne
      have hlt : revN 32 p % Ts.length < Ts.length := Nat.mod_lt _ (by omega)
      have hi : Ts[revN 32 p % Ts.length]? = some (Ts[revN 32 p % Ts.length]'hlt) := List.getElem?_eq_getElem hlt
      generalize hc : Ts[revN 32 p % Ts.length]'hlt = c at *
      have hperm := tab_inR oks (by rw [hrp]; exact hals) hi
      rw [hrp] at hperm
      have hclen := chain_len hts hi
      refine join_ofS (fun s Q => ∃ ob v sl l m', s = (ptrV ob, []) ∧ SlOwn 1 v (strC l) sl ∧ lenV v = l.length ∧ l.Perm ((keysT Ts).filter (inR D.seed p (p + blkN Ts.length))) ∧
        Has Q (cell ob [v] + (sl + (cell tv [.int .i64 (tbI bs)] + (cell db [.pointer (some ⟨d, 0, none⟩)] + (dictM d D + (m + m'))))))) ?_ ?_
      · rintro s Q ⟨ob, v, sl, l, m', rfl, h1, h2, h3, hh⟩ g
        (try simp only [xl, xo, Bool.not_eq_true', decide_eq_false_iff_not, ite_not, List.size_toArray, List.length_cons, List.length_nil, Nat.reduceAdd, qt, decide_eq_true_eq, Int.toNat_zero, Int.toNat_natCast, Nat.zero_mul, Nat.mul_one, Nat.one_mul, List.toList_toArray, List.cons_append, List.nil_append, List.append_nil, true_and, and_true, Nat.zero_add, Nat.add_zero, Bool.not_true, Bool.not_false, if_true, if_false, reduceCtorEq, List.set_cons_zero, List.set_cons_succ])
        refine h_alloc hh fun bb Q1 hh => ?_
        refine h_put (b := bb) hh rfl fun Q2 hh => ?_
        apply k_scan_slots
        unfold c_scan_slots
        rw [x_box]
        refine ⟨rfl, ?_⟩
        refine h_alloc hh fun cb Q3 hh => ?_
        rw [x_box]
        refine ⟨rfl, ?_⟩
        refine h_alloc hh fun sb Q4 hh => ?_
        rw [x_box]
        refine ⟨rfl, ?_⟩
        refine h_alloc hh fun gb Q5 hh => ?_
        refine h_range hh fun D1 lp Lp G hh hst hpd hY => ?_
        (try simp only [xl, xo, Bool.not_eq_true', decide_eq_false_iff_not, ite_not, List.size_toArray, List.length_cons, List.length_nil, Nat.reduceAdd, qt, decide_eq_true_eq, Int.toNat_zero, Int.toNat_natCast, Nat.zero_mul, Nat.mul_one, Nat.one_mul, List.toList_toArray, List.cons_append, List.nil_append, List.append_nil, true_and, and_true, Nat.zero_add, Nat.add_zero, Bool.not_true, Bool.not_false, if_true, if_false, reduceCtorEq, List.set_cons_zero, List.set_cons_succ])
        refine scan_slots_i (l := lp) (p0 := p) oks.sz okg.sz hsg hals hne
          (fun e Q => ∃ v sl l m2, SlOwn 1 v (strC l) sl ∧ lenV v = l.length ∧ p ≤ e ∧ l.Perm ((keysT Ts).filter (inR D.seed p (p + blkN Ts.length)) ++ (keysT Tg).filter (inR D.seed p e)) ∧
            Has Q (cell cb [curV e] + (cell gb [.int .i64 Tg.length] + (cell sb [.int .i64 Ts.length] + (cell ob [v] + (sl + (cell bb [curV e] + (cell tv [.int .i64 (tbI bs)] + (cell db [.pointer (some ⟨d, 0, none⟩)] + (objM lp (.loop Lp) + (objM D1 (.deferred (some [])) + (dictM d D + (m + m2)))))))))))))
          (fun e Q => ∃ v sl l m2, SlOwn 1 v (strC l) sl ∧ lenV v = l.length ∧ p ≤ e ∧ l.Perm ((keysT Ts).filter (inR D.seed p (p + blkN Ts.length)) ++ (keysT Tg).filter (inR D.seed p e)) ∧
            Has Q (cell cb [curV (e + blkN Tg.length)] + (cell gb [.int .i64 Tg.length] + (cell sb [.int .i64 Ts.length] + (cell ob [v] + (sl + (cell bb [curV e] + (cell tv [.int .i64 (tbI bs)] + (cell db [.pointer (some ⟨d, 0, none⟩)] + (objM lp (.loop Lp) + (objM D1 (.deferred (some [])) + (dictM d D + (m + m2)))))))))))))
          ?_ ?_ ?_ ?_
        · rintro e G ⟨v, sl, l, m2, q1, q2, q3, q4, hh⟩
          exact ⟨_, hh, fun G' hh => ⟨v, sl, l, m2, q1, q2, q3, q4, hh⟩⟩
        · rintro e G he1 he2 he3 ⟨v, sl, l, m2, q1, q2, q3, q4, hh⟩
          have hlt2 : revN 32 e % Tg.length < Tg.length := Nat.mod_lt _ (by omega)
          have hi2 : Tg[revN 32 e % Tg.length]? = some (Tg[revN 32 e % Tg.length]'hlt2) := List.getElem?_eq_getElem hlt2
          generalize hc2 : Tg[revN 32 e % Tg.length]'hlt2 = c2 at *
          have hre : revN 32 (revN 32 e) = e := rev32_rev (by omega)
          have hperm2 := tab_inR okg (by rw [hre]; exact he3) hi2
          rw [hre] at hperm2
          have hclen2 := chain_len htg hi2
          refine hY (.int .i64 (revN 32 e % Tg.length : Nat), curV (e + blkN Tg.length)) G _ hh.obj ?_
          refine h_begin hh hst fun G1 hh => ?_
          refine h_load (b := ob) hh rfl ?_
          refine h_load (b := db) hh rfl ?_
          refine h_load (b := tv) hh rfl ?_
          (try simp only [xl, xo, Bool.not_eq_true', decide_eq_false_iff_not, ite_not, List.size_toArray, List.length_cons, List.length_nil, Nat.reduceAdd, qt, decide_eq_true_eq, Int.toNat_zero, Int.toNat_natCast, Nat.zero_mul, Nat.mul_one, Nat.one_mul, List.toList_toArray, List.cons_append, List.nil_append, List.append_nil, true_and, and_true, Nat.zero_add, Nat.add_zero, Bool.not_true, Bool.not_false, if_true, if_false, reduceCtorEq, List.set_cons_zero, List.set_cons_succ])
          rw [tbI_sub]
          refine h_buildSl hh fun lb G2 hh => ?_
          refine ⟨h_loadIs (b := tv) hh rfl, h_loadIs (b := db) hh rfl, h_loadIs (b := ob) hh rfl, ?_⟩
          refine scan_gathered_h (!bs) (hh.front (dictM d D + cell lb [.int .i64 (revN 32 e % Tg.length : Nat)]) |>.to (mem_assoc _ _ _)) hD htg hi2 (by omega) fun G3 v2 sl2 l2 r1 r2 r3 hh => ?_
          refine ⟨h_loadIs (b := ob) hh rfl, ?_⟩
          have hll : l.length ≤ D.flat.length + D.flat.length := by
            rw [q4.length_eq, List.length_append]
            have e1 := List.length_filter_le (inR D.seed p (p + blkN Ts.length)) (keysT Ts)
            have e2 := List.length_filter_le (inR D.seed p e) (keysT Tg)
            have e3 := hkeys.length_eq
            rw [List.length_append] at e3
            have e4 : (keysD D).length = D.flat.length := List.length_map ..
            omega
          have hl2 : l2.length = c2.length := by rw [r3.length_eq, List.length_map]
          refine h_appendT q1 q2 (hh.front sl) (own_read1 r1 r2 hh) r2 (by omega) fun v' sl' G4 hv' hlv' hh => ?_
          refine h_put (b := ob) hh (own_oc hv') fun G5 hh => ?_
          refine h_put (b := bb) hh rfl fun G6 hh => ?_
          refine h_end hh hst hpd fun G7 hh => ⟨rfl, v', sl', l ++ l2, sl2 + m2, hv', hlv', by omega, ?_, hh.to (by ac_rfl)⟩
          refine (q4.append r3).trans ?_
          rw [List.append_assoc]
          exact ((hperm2.append_left _).trans (inR_cat q3 (by omega) _).symm).append_left _
        · refine ⟨v, sl, l, m', h1, h2, by omega, ?_, hh.to ?_⟩
          · rw [inR_nil, List.append_nil]; exact h3
          · simp only [List.toList_toArray, curV, hpm]
            ac_rfl
        · rintro G ⟨v, sl, l, m2, q1, q2, q3, q4, hh⟩
          refine ⟨Lp, _, hh.front (objM lp (.loop Lp)), by rw [hst]; simp, fun G1 hh => ?_⟩
          simp only [x_alt1, x_j0, hpd, true_and]
          refine h_load (b := ob) hh rfl ?_
          refine h_load (b := bb) hh rfl ?_
          refine h_ret1 hh fun G2 hh => ?_
          refine hK G2 v sl l _ q1 q2 (by omega) hne (hAl hne) (q4.trans ?_) (hh.front (sl + (dictM d D + m))).left
          rw [← List.filter_append]
          exact (hkeys.filter _).symm
      · intro J hJ
        have hm := and_mask (c := revN 32 p) oks.sz hcur
        refine h_load (b := db) hh rfl ?_
        refine h_load (b := tv) hh rfl ?_
        refine ⟨?_, ?_⟩
        · refine scan_mask_k oks.sz ?_
          refine ⟨h_loadIs (b := tv) hh rfl, h_loadIs (b := db) hh rfl, ?_⟩
          (try simp only [xl, xo, Bool.not_eq_true', decide_eq_false_iff_not, ite_not, List.size_toArray, List.length_cons, List.length_nil, Nat.reduceAdd, qt, decide_eq_true_eq, Int.toNat_zero, Int.toNat_natCast, Nat.zero_mul, Nat.mul_one, Nat.one_mul, List.toList_toArray, List.cons_append, List.nil_append, List.append_nil, true_and, and_true, Nat.zero_add, Nat.add_zero, Bool.not_true, Bool.not_false, if_true, if_false, reduceCtorEq, List.set_cons_zero, List.set_cons_succ])
          rw [eb, hm]
          refine ⟨?_, ?_⟩
          · refine h_buildSl hh fun lb Q1 hh => ?_
            refine ⟨h_loadIs (b := tv) hh rfl, h_loadIs (b := db) hh rfl, ?_, ?_⟩
            · refine scan_gathered_h bs ((hh.front (dictM d D + cell lb [.int .i64 (revN 32 p % Ts.length : Nat)])).to (mem_assoc _ _ _)) hD hts hi (by omega) fun Q2 v sl l h1 h2 h3 hh => ?_
              refine h_alloc hh fun ob Q3 hh => ?_
              refine h_put (b := ob) hh (own_oc h1) fun Q4 hh => ?_
              exact hJ _ Q4 ⟨ob, v, sl, l, emp, rfl, h1, h2, h3.trans hperm, hh.to (by simp only [add_emp]; ac_rfl)⟩
            · refine h_alloc hh fun ob Q2 hh => ?_
              refine ⟨h_loadIs (b := tv) hh rfl, h_loadIs (b := db) hh rfl, ?_⟩
              refine scan_gathered_h bs ((hh.front (dictM d D + cell lb [.int .i64 (revN 32 p % Ts.length : Nat)])).to (mem_assoc _ _ _)) hD hts hi (by omega) fun Q3 v sl l h1 h2 h3 hh => ?_
              refine h_put (b := ob) hh (own_oc h1) fun Q4 hh => ?_
              exact hJ _ Q4 ⟨ob, v, sl, l, emp, rfl, h1, h2, h3.trans hperm, hh.to (by simp only [add_emp]; ac_rfl)⟩
          · refine h_alloc hh fun ob Q1 hh => ?_
            refine ⟨h_loadIs (b := tv) hh rfl, h_loadIs (b := db) hh rfl, ?_⟩
            refine h_buildSl hh fun lb Q2 hh => ?_
            refine ⟨h_loadIs (b := tv) hh rfl, h_loadIs (b := db) hh rfl, ?_⟩
            refine scan_gathered_h bs ((hh.front (dictM d D + cell lb [.int .i64 (revN 32 p % Ts.length : Nat)])).to (mem_assoc _ _ _)) hD hts hi (by omega) fun Q3 v sl l h1 h2 h3 hh => ?_
            refine h_put (b := ob) hh (own_oc h1) fun Q4 hh => ?_
            exact hJ _ Q4 ⟨ob, v, sl, l, emp, rfl, h1, h2, h3.trans hperm, hh.to (by simp only [add_emp]; ac_rfl)⟩
        · refine h_alloc hh fun ob Q1 hh => ?_
          refine ⟨h_loadIs (b := tv) hh rfl, h_loadIs (b := db) hh rfl, ?_⟩
          refine scan_mask_k oks.sz ?_
          refine ⟨h_loadIs (b := tv) hh rfl, h_loadIs (b := db) hh rfl, ?_⟩
          (try simp only [xl, xo, Bool.not_eq_true', decide_eq_false_iff_not, ite_not, List.size_toArray, List.length_cons, List.length_nil, Nat.reduceAdd, qt, decide_eq_true_eq, Int.toNat_zero, Int.toNat_natCast, Nat.zero_mul, Nat.mul_one, Nat.one_mul, List.toList_toArray, List.cons_append, List.nil_append, List.append_nil, true_and, and_true, Nat.zero_add, Nat.add_zero, Bool.not_true, Bool.not_false, if_true, if_false, reduceCtorEq, List.set_cons_zero, List.set_cons_succ])
          rw [eb, hm]
          refine h_buildSl hh fun lb Q2 hh => ?_
          refine ⟨h_loadIs (b := tv) hh rfl, h_loadIs (b := db) hh rfl, ?_⟩
          refine scan_gathered_h bs ((hh.front (dictM d D + cell lb [.int .i64 (revN 32 p % Ts.length : Nat)])).to (mem_assoc _ _ _)) hD hts hi (by omega) fun Q3 v sl l h1 h2 h3 hh => ?_
          refine h_put (b := ob) hh (own_oc h1) fun Q4 hh => ?_
          exact hJ _ Q4 ⟨ob, v, sl, l, emp, rfl, h1, h2, h3.trans hperm, hh.to (by simp only [add_emp]; ac_rfl)⟩
    · intro J hJ
      (try simp only [xl, xo, Bool.not_eq_true', decide_eq_false_iff_not, ite_not, List.size_toArray, List.length_cons, List.length_nil, Nat.reduceAdd, qt, decide_eq_true_eq, Int.toNat_zero, Int.toNat_natCast, Nat.zero_mul, Nat.mul_one, Nat.one_mul, List.toList_toArray, List.cons_append, List.nil_append, List.append_nil, true_and, and_true, Nat.zero_add, Nat.add_zero, Bool.not_true, Bool.not_false, if_true, if_false, reduceCtorEq, List.set_cons_zero, List.set_cons_succ])
      by_cases hlt : (T1.length : Int) < D.T0.length
      · rw [if_pos hlt]
        refine h_put (b := tv) hh rfl fun Q hh => hJ _ Q ⟨true, tb1, T1, D.tb0, D.T0, rfl, hR, rfl, t1, hD.t0, by omega, hal1, fun _ => ?_, ?_, hh⟩
        · refine ⟨mod_of_dvd (blk_dvd t1.sz hD.t0.sz (by omega)) (mod_add hal1), fun tb T e => ?_⟩
          rw [hR] at e
          cases e
          exact mod_add hal1
        · simp only [keysD, keysT, DSt.flat, hR, rFlat, List.map_append]
          exact List.perm_append_comm
      · rw [if_neg hlt]
        refine hJ _ _ ⟨false, D.tb0, D.T0, tb1, T1, rfl, rfl, hR, hD.t0, t1, by omega, hal0, fun _ => ?_, ?_, hh⟩
        · refine ⟨mod_add hal0, fun tb T e => ?_⟩
          rw [hR] at e
          cases e
          exact mod_of_dvd (blk_dvd hD.t0.sz t1.sz (by omega)) (mod_add hal0)
        · simp only [keysD, keysT, DSt.flat, hR, rFlat, List.map_append]
          exact List.Perm.refl _
end Go.X.W
