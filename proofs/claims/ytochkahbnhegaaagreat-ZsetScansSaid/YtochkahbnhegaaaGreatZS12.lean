/- Contracts: a dict's Set, Delete, Len. Contracts: a dict's Delete, Len. Contracts: comparing; ends of ranges. Contracts: a list of levels: paths. -/
import Derived.Test.YtochkahbnhegaaaGreatZS11
set_option linter.unusedVariables false
set_option linter.unusedSimpArgs false
namespace Go.X.W
open Go Go.X Go.Proofs

abbrev kvOf (x : DNode) : ByteArray × Value := (x.key, x.v)

theorem filter_del {M M' : List (ByteArray × Value)} {k : ByteArray} {v : Value} (hM : M.Perm ((k, v) :: M')) (hn : (M.map (·.1)).Nodup) : (M.filter fun p => decide (p.1 ≠ k)).Perm M' := by
  refine (hM.filter _).trans ?_
  have h2 := (hM.map (·.1)).nodup_iff.1 hn
  rw [List.map_cons, List.nodup_cons] at h2
  rw [List.filter_cons, if_neg (by simp)]
  rw [List.filter_eq_self.2 fun p hp => by
    simp only [ne_eq, decide_not, Bool.not_eq_true', decide_eq_false_iff_not]
    exact fun e => h2.1 (List.mem_map.2 ⟨p, hp, e⟩)]
theorem updM_perm {M M' : List (ByteArray × Value)} {k : ByteArray} {v v0 : Value} (hM : M.Perm ((k, v0) :: M')) (hn : (M.map (·.1)).Nodup) : (updM k v M).Perm ((k, v) :: M') := by
  unfold updM
  refine (hM.map _).trans ?_
  have h2 := (hM.map (·.1)).nodup_iff.1 hn
  rw [List.map_cons, List.nodup_cons] at h2
  rw [List.map_cons, if_pos rfl, List.map_congr_left (g := id) fun p hp => ?_, List.map_id]
  rw [if_neg fun e => h2.1 (List.mem_map.2 ⟨p, hp, e⟩)]
  rfl

theorem IsSz.pos {n : Nat} (h : IsSz n) : 0 < n := by have := h.bd; omega

/-- The table that takes what is new. -/
theorem dict_moved {H : Heap} {d s tb : Nat} {D : DSt} {m : Mem} (hD : D.Ok) (hR : D.R = none) (hs : IsSz s) (hsb : s ≤ 1024)
    (hh : Has H (cell d [.int .u32 D.seed, .slice (some ⟨D.tb0, 0, none⟩) D.T0.length D.T0.length, .slice (some ⟨tb, 0, none⟩) s s, .int .i64 D.pos, .int .i64 D.n] + (cell tb ((List.replicate s ([] : List DNode)).map (headV nilV)) + (restM D + m)))) :
    Has H (dictM d { D with R := some (tb, List.replicate s []) } + m) ∧ ({ D with R := some (tb, List.replicate s []) } : DSt).Ok ∧ ({ D with R := some (tb, List.replicate s []) } : DSt).flat = D.flat := by
  refine ⟨hh.to ?_, ⟨hD.t0, ?_, by simp, fun _ => ?_, hD.mv⟩, ?_⟩
  · simp only [dictM, restM, dictCells, sndV, rM, tabM, hR, chains_nil, add_emp, List.length_replicate]
    ac_rfl
  · rintro tb1 T1 h
    simp only [Option.some.injEq, Prod.mk.injEq] at h
    obtain ⟨rfl, rfl⟩ := h
    exact tabOk_nil hs hsb
  · rw [hD.at0 hR]
    exact hD.t0.sz.pos
  · simp only [DSt.flat, rFlat, hR]
    rw [List.flatten_replicate_nil]

set_option maxRecDepth 20000 in
theorem dict_Set_h {H : Heap} {d : Nat} {M : List (ByteArray × Value)} {key : ByteArray} {v : Value} {m : Mem} {K : Value → Heap → Prop} (hkey : key.size < 4611686018427387904) (hv : v.oneCell = true) (hlen : M.length ≤ 512) (h : DictAt H d M m)
    (old : ∀ H' v0, (key, v0) ∈ M → DictAt H' d (updM key v M) m → K (.bool false) H') (new : ∀ H', (∀ p ∈ M, p.1 ≠ key) → DictAt H' d ((key, v) :: M) m → K (.bool true) H') :
    CallH P f_dict_Dict_int64_Set [.pointer (some ⟨d, 0, none⟩), .string key, v] H K := by
  obtain ⟨D, hh, hD, hM, hn, hl⟩ := h
  apply k_dict_Dict_int64_Set
  unfold c_dict_Dict_int64_Set
  rw [x_box]
  refine ⟨hv, ?_⟩
  refine h_alloc hh fun vb H1 hh => ?_
  (repeat (first | (refine h_load hh (by rfl) ?_) | (simp only [xl, xo, List.size_toArray, List.length_cons, List.length_nil, Nat.reduceAdd, qt, decide_eq_true_eq, Int.toNat_zero, Int.toNat_natCast, Nat.zero_mul, Nat.mul_one, Nat.one_mul, List.toList_toArray, List.cons_append, List.nil_append, List.append_nil, true_and, and_true, Nat.zero_add, Nat.add_zero, Bool.not_true, Bool.not_false, if_true, if_false, reduceCtorEq, List.set_cons_zero, List.set_cons_succ])))
  refine dict_Step_h (by omega) (hh.to (show _ = dictM d D + (cell vb [v] + m) by ac_rfl)) hD fun H2 D2 _ hh hD2 hP hse hnn => ?_
  have hM2 : (D2.flat.map kvOf).Perm M := (hP.map _).trans hM
  have hl2 : D2.n = M.length := by rw [hnn, hl]
  refine dict_with_h hkey hh hD2 (fun H3 hh hm => ?_) (fun H3 b tb i T l1 x l2 hh ht hi hx => ?_)
  · have hnot : ∀ p ∈ M, p.1 ≠ key := fun p hp e => by
      obtain ⟨x, hx, rfl⟩ := List.mem_map.1 (hM2.mem_iff.2 hp)
      exact hm x hx e
    rw [dictM] at hh
    have hsz := hD2.t0.sz.bd
    (repeat (first | (refine h_load hh (by rfl) ?_) | (simp only [xl, xo, List.size_toArray, List.length_cons, List.length_nil, Nat.reduceAdd, qt, decide_eq_true_eq, Int.toNat_zero, Int.toNat_natCast, Nat.zero_mul, Nat.mul_one, Nat.one_mul, List.toList_toArray, List.cons_append, List.nil_append, List.append_nil, true_and, and_true, Nat.zero_add, Nat.add_zero, Bool.not_true, Bool.not_false, if_true, if_false, reduceCtorEq, List.set_cons_zero, List.set_cons_succ])))
    refine ⟨by omega, ?_⟩
    refine h_load hh (by rfl) ?_
    (repeat (first | (refine h_load hh (by rfl) ?_) | (simp only [xl, xo, List.size_toArray, List.length_cons, List.length_nil, Nat.reduceAdd, qt, decide_eq_true_eq, Int.toNat_zero, Int.toNat_natCast, Nat.zero_mul, Nat.mul_one, Nat.one_mul, List.toList_toArray, List.cons_append, List.nil_append, List.append_nil, true_and, and_true, Nat.zero_add, Nat.add_zero, Bool.not_true, Bool.not_false, if_true, if_false, reduceCtorEq, List.set_cons_zero, List.set_cons_succ])))
    have tail : ∀ (G : Heap) (D3 : DSt) (sec : Bool) (tb : Nat) (T : Tabl), Has G (cell d (dictCells D3) + restM D3 + (cell vb [v] + m)) → D3.Ok → D3.tab sec = some (tb, T) → (sec = true ∨ D3.R = none) → D3.flat = D2.flat → D3.n = D2.n →
        LoadP none G (.pointer (some ⟨vb, 0, none⟩)) fun t_25 =>
          CallH P f_dict_Dict_int64_of [.pointer (some ⟨d, 0, none⟩), .string key] G fun t_26 H27 =>
            LoadIs none H27 (.pointer (some ⟨vb, 0, none⟩)) t_25 ∧
              BuildP [.int .u32 0, .string ⟨#[]⟩, .int .i64 0, .pointer none] [(0, some 2, t_26), (2, none, t_25)] fun t_28 =>
                AllocP t_28.toArray T_dict_node_int64 H27 fun t_29 H30 =>
                  t_29.oneCell = true ∧
                    BuildSliceP T_p_dict_node_int64 1 [t_29] H30 fun t_32 H33 =>
                      CallH P f_dict_put_int64 [.slice (some ⟨tb, 0, none⟩) T.length T.length, t_32] H33 fun t_34 H35 =>
                        LoadP none H35 (.pointer (some ⟨d, 4, none⟩)) fun t_38 =>
                          BinP .add t_38 (.int .i64 1) fun t_39 => StoreP none H35 (.pointer (some ⟨d, 4, none⟩)) t_39 fun H43 => K (.bool true) H43 := by
      intro G D3 sec tb T hh ok3 ht hsec hfl hn3
      have ok3T : TabOk D3.seed T := by
        cases sec with
        | false => simp only [DSt.tab, Option.some.injEq, Prod.mk.injEq] at ht; obtain ⟨rfl, rfl⟩ := ht; exact ok3.t0
        | true => exact ok3.t1 tb T ht
      refine h_load hh rfl ?_
      refine dict_of_h (seed := D3.seed) hkey hh (show Blk G d (.int .u32 D3.seed :: (dictCells D3).tail) from hh.left.left.blk) fun G2 hh => ?_
      refine ⟨h_loadIs hh rfl, ?_⟩
      (repeat (first | (refine h_load hh (by rfl) ?_) | (simp only [xl, xo, List.size_toArray, List.length_cons, List.length_nil, Nat.reduceAdd, qt, decide_eq_true_eq, Int.toNat_zero, Int.toNat_natCast, Nat.zero_mul, Nat.mul_one, Nat.one_mul, List.toList_toArray, List.cons_append, List.nil_append, List.append_nil, true_and, and_true, Nat.zero_add, Nat.add_zero, Bool.not_true, Bool.not_false, if_true, if_false, reduceCtorEq, List.set_cons_zero, List.set_cons_succ])))
      refine ⟨hv, ?_⟩
      refine h_alloc hh fun nb G3 hh => ?_
      (repeat (first | (refine h_load hh (by rfl) ?_) | (simp only [xl, xo, List.size_toArray, List.length_cons, List.length_nil, Nat.reduceAdd, qt, decide_eq_true_eq, Int.toNat_zero, Int.toNat_natCast, Nat.zero_mul, Nat.mul_one, Nat.one_mul, List.toList_toArray, List.cons_append, List.nil_append, List.append_nil, true_and, and_true, Nat.zero_add, Nat.add_zero, Bool.not_true, Bool.not_false, if_true, if_false, reduceCtorEq, List.set_cons_zero, List.set_cons_succ])))
      refine h_buildSl hh fun lb G4 hh => ?_
      have hsl := slotN_lt (sum := hsum D3.seed key) ok3T.sz
      have hg : T[slotN (hsum D3.seed key) T.length]? = some (T[slotN (hsum D3.seed key) T.length]'hsl) := List.getElem?_eq_getElem hsl
      generalize hc2 : T[slotN (hsum D3.seed key) T.length]'hsl = c2 at hg
      obtain ⟨hok, r, rf, e1, e1', e2, e3, e4, e5⟩ := dict_open ok3 ht hg
      have eD := e1 c2
      rw [e3] at eD
      rw [eD] at hh
      refine dict_put_h (y := headV nilV c2) hh (by rw [List.length_set, List.length_map]) (hsum_bd _ _) ok3T.sz (by rw [List.getElem?_set_self (by simpa using hsl)]) (headV_oc c2) fun G5 hh => ?_
      (repeat (first | (refine h_load hh (by rfl) ?_) | (simp only [xl, xo, List.size_toArray, List.length_cons, List.length_nil, Nat.reduceAdd, qt, decide_eq_true_eq, Int.toNat_zero, Int.toNat_natCast, Nat.zero_mul, Nat.mul_one, Nat.one_mul, List.toList_toArray, List.cons_append, List.nil_append, List.append_nil, true_and, and_true, Nat.zero_add, Nat.add_zero, Bool.not_true, Bool.not_false, if_true, if_false, reduceCtorEq, List.set_cons_zero, List.set_cons_succ])))
      refine h_store hh rfl (by simp [dictCells]) fun G6 hh => ?_
      (repeat (first | (refine h_load hh (by rfl) ?_) | (simp only [xl, xo, List.size_toArray, List.length_cons, List.length_nil, Nat.reduceAdd, qt, decide_eq_true_eq, Int.toNat_zero, Int.toNat_natCast, Nat.zero_mul, Nat.mul_one, Nat.one_mul, List.toList_toArray, List.cons_append, List.nil_append, List.append_nil, true_and, and_true, Nat.zero_add, Nat.add_zero, Bool.not_true, Bool.not_false, if_true, if_false, reduceCtorEq, List.set_cons_zero, List.set_cons_succ])))
      have hn4 : D3.n = M.length := by rw [hn3, hl2]
      refine new G6 hnot ⟨{ D3.setT sec (slotN (hsum D3.seed key) T.length) (⟨nb, key, v⟩ :: c2) with n := D3.n + 1 }, ?_, ?_, ?_, ?_, ?_⟩
      · refine Has.right (a := cell vb [v]) (hh.to ?_)
        have c1 : dictCells { D3.setT sec (slotN (hsum D3.seed key) T.length) (⟨nb, key, v⟩ :: c2) with n := D3.n + 1 } = (dictCells (D3.setT sec (slotN (hsum D3.seed key) T.length) (⟨nb, key, v⟩ :: c2))).set 4 (.int .i64 (D3.n + 1)) := rfl
        have c2' : restM { D3.setT sec (slotN (hsum D3.seed key) T.length) (⟨nb, key, v⟩ :: c2) with n := D3.n + 1 } = restM (D3.setT sec (slotN (hsum D3.seed key) T.length) (⟨nb, key, v⟩ :: c2)) := rfl
        rw [dictM, c1, c2', e1', e1, seg, List.set_set]
        rw [w64 (n := D3.n + 1) (by omega)]
        simp only [headV]
        ac_rfl
      · have hok2 := e5 (⟨nb, key, v⟩ :: c2) (by rcases hsec with h | h; exact .inr (.inl h); exact .inr (.inr h)) (fun y hy => by
          rcases List.mem_cons.1 hy with rfl | hy
          · rfl
          · exact hok.slot _ _ hg y hy) (fun y hy => by
          rcases List.mem_cons.1 hy with rfl | hy
          · exact hv
          · exact hok.oc _ (List.mem_of_getElem? hg) y hy)
        exact ⟨hok2.t0, hok2.t1, hok2.at0, hok2.at1, hok2.mv⟩
      · show (((D3.setT sec (slotN (hsum D3.seed key) T.length) (⟨nb, key, v⟩ :: c2)).flat).map kvOf).Perm _
        have p1 := e2 c2
        rw [e3, hfl] at p1
        refine ((e2 _).map kvOf).trans ?_
        rw [List.cons_append, List.map_cons]
        exact List.Perm.cons _ ((p1.map kvOf).symm.trans hM2)
      · rw [List.map_cons, List.nodup_cons]
        refine ⟨fun hmem => ?_, hn⟩
        obtain ⟨p, hp, e⟩ := List.mem_map.1 hmem
        exact hnot p hp e
      · simp only [List.length_cons, hn4]
        omega
    unfold JoinP
    refine dict_isMoving_k hh.left.left.blk ?_
    cases hR : D2.R with
    | some R =>
      simp only [Option.isSome]
      (repeat (first | (refine h_load hh (by rfl) ?_) | (simp only [xl, xo, List.size_toArray, List.length_cons, List.length_nil, Nat.reduceAdd, qt, decide_eq_true_eq, Int.toNat_zero, Int.toNat_natCast, Nat.zero_mul, Nat.mul_one, Nat.one_mul, List.toList_toArray, List.cons_append, List.nil_append, List.append_nil, true_and, and_true, Nat.zero_add, Nat.add_zero, Bool.not_true, Bool.not_false, if_true, if_false, reduceCtorEq, List.set_cons_zero, List.set_cons_succ])))
      intro g
      (repeat (first | (refine h_load hh (by rfl) ?_) | (simp only [xl, xo, List.size_toArray, List.length_cons, List.length_nil, Nat.reduceAdd, qt, decide_eq_true_eq, Int.toNat_zero, Int.toNat_natCast, Nat.zero_mul, Nat.mul_one, Nat.one_mul, List.toList_toArray, List.cons_append, List.nil_append, List.append_nil, true_and, and_true, Nat.zero_add, Nat.add_zero, Bool.not_true, Bool.not_false, if_true, if_false, reduceCtorEq, List.set_cons_zero, List.set_cons_succ])))
      refine ⟨by omega, ?_⟩
      refine h_load hh (by rfl) ?_
      refine dict_isMoving_k hh.left.left.blk ?_
      rw [hR]
      simp only [Option.isSome]
      (repeat (first | (refine h_load hh (by rfl) ?_) | (simp only [xl, xo, List.size_toArray, List.length_cons, List.length_nil, Nat.reduceAdd, qt, decide_eq_true_eq, Int.toNat_zero, Int.toNat_natCast, Nat.zero_mul, Nat.mul_one, Nat.one_mul, List.toList_toArray, List.cons_append, List.nil_append, List.append_nil, true_and, and_true, Nat.zero_add, Nat.add_zero, Bool.not_true, Bool.not_false, if_true, if_false, reduceCtorEq, List.set_cons_zero, List.set_cons_succ])))
      refine ⟨by omega, ?_⟩
      refine h_load hh (by rfl) ?_
      intro g2
      obtain ⟨tb1, T1⟩ := R
      have := tail H3 D2 true tb1 T1 hh hD2 hR (.inl rfl) rfl rfl
      rw [hR]
      exact this
    | none =>
      have htl := tail H3 D2 false D2.tb0 D2.T0 hh hD2 rfl (.inr hR) rfl rfl
      have nomove : ∀ (A B : Heap → Prop), B H3 → CallH P f_dict_Dict_int64_isMoving [.pointer (some ⟨d, 0, none⟩)] H3 (fun t H' => SplitP t (A H') (B H')) := fun A B hB => by
        refine dict_isMoving_k hh.left.left.blk ?_
        rw [hR]
        exact hB
      simp only [Option.isSome]
      (repeat (first | (refine h_load hh (by rfl) ?_) | (simp only [xl, xo, List.size_toArray, List.length_cons, List.length_nil, Nat.reduceAdd, qt, decide_eq_true_eq, Int.toNat_zero, Int.toNat_natCast, Nat.zero_mul, Nat.mul_one, Nat.one_mul, List.toList_toArray, List.cons_append, List.nil_append, List.append_nil, true_and, and_true, Nat.zero_add, Nat.add_zero, Bool.not_true, Bool.not_false, if_true, if_false, reduceCtorEq, List.set_cons_zero, List.set_cons_succ])))
      by_cases hge : (D2.T0.length : Int) ≤ D2.n
      · rw [if_pos hge]
        intro g
        have hor := Int.lt_or_le (D2.T0.length : Int) 65536
        apply Or.elim hor
        all_goals intro hmx
        · simp only [hmx, if_true]
          (repeat (first | (refine h_load hh (by rfl) ?_) | (simp only [xl, xo, List.size_toArray, List.length_cons, List.length_nil, Nat.reduceAdd, qt, decide_eq_true_eq, Int.toNat_zero, Int.toNat_natCast, Nat.zero_mul, Nat.mul_one, Nat.one_mul, List.toList_toArray, List.cons_append, List.nil_append, List.append_nil, true_and, and_true, Nat.zero_add, Nat.add_zero, Bool.not_true, Bool.not_false, if_true, if_false, reduceCtorEq, List.set_cons_zero, List.set_cons_succ])))
          have hc : dictCells D2 = [.int .u32 D2.seed, .slice (some ⟨D2.tb0, 0, none⟩) D2.T0.length D2.T0.length, .slice none 0 0, .int .i64 D2.pos, .int .i64 D2.n] := by rw [dictCells, hR]; rfl
          rw [hc] at hh
          refine dict_moves_h (hh.to (mem_assoc _ _ _)) fun H4 tb s hs hsb hh => ?_
          obtain ⟨m1, m2, m3⟩ := dict_moved (m := cell vb [v] + m) hD2 hR hs (hsb (by rw [w64 (by omega)]; omega)) hh
          rw [dictM] at m1
          (repeat (first | (refine h_load hh (by rfl) ?_) | (simp only [xl, xo, List.size_toArray, List.length_cons, List.length_nil, Nat.reduceAdd, qt, decide_eq_true_eq, Int.toNat_zero, Int.toNat_natCast, Nat.zero_mul, Nat.mul_one, Nat.one_mul, List.toList_toArray, List.cons_append, List.nil_append, List.append_nil, true_and, and_true, Nat.zero_add, Nat.add_zero, Bool.not_true, Bool.not_false, if_true, if_false, reduceCtorEq, List.set_cons_zero, List.set_cons_succ])))
          refine ⟨by omega, ?_⟩
          refine h_load m1 (by rfl) ?_
          refine dict_isMoving_k m1.left.left.blk ?_
          simp only [Option.isSome]
          (repeat (first | (refine h_load hh (by rfl) ?_) | (simp only [xl, xo, List.size_toArray, List.length_cons, List.length_nil, Nat.reduceAdd, qt, decide_eq_true_eq, Int.toNat_zero, Int.toNat_natCast, Nat.zero_mul, Nat.mul_one, Nat.one_mul, List.toList_toArray, List.cons_append, List.nil_append, List.append_nil, true_and, and_true, Nat.zero_add, Nat.add_zero, Bool.not_true, Bool.not_false, if_true, if_false, reduceCtorEq, List.set_cons_zero, List.set_cons_succ])))
          refine ⟨by omega, ?_⟩
          refine h_load m1 (by rfl) ?_
          intro g2
          exact tail H4 _ true tb _ m1 m2 rfl (.inl rfl) m3 rfl
        · rw [if_neg (Int.not_lt.2 hmx)]
          refine ⟨by omega, ?_⟩
          refine h_load hh (by rfl) ?_
          refine dict_isMoving_k hh.left.left.blk ?_
          rw [hR]
          simp only [Option.isSome]
          (repeat (first | (refine h_load hh (by rfl) ?_) | (simp only [xl, xo, List.size_toArray, List.length_cons, List.length_nil, Nat.reduceAdd, qt, decide_eq_true_eq, Int.toNat_zero, Int.toNat_natCast, Nat.zero_mul, Nat.mul_one, Nat.one_mul, List.toList_toArray, List.cons_append, List.nil_append, List.append_nil, true_and, and_true, Nat.zero_add, Nat.add_zero, Bool.not_true, Bool.not_false, if_true, if_false, reduceCtorEq, List.set_cons_zero, List.set_cons_succ])))
          intro g2
          exact htl
      · rw [if_neg hge]
        intro g
        (repeat (first | (refine h_load hh (by rfl) ?_) | (simp only [xl, xo, List.size_toArray, List.length_cons, List.length_nil, Nat.reduceAdd, qt, decide_eq_true_eq, Int.toNat_zero, Int.toNat_natCast, Nat.zero_mul, Nat.mul_one, Nat.one_mul, List.toList_toArray, List.cons_append, List.nil_append, List.append_nil, true_and, and_true, Nat.zero_add, Nat.add_zero, Bool.not_true, Bool.not_false, if_true, if_false, reduceCtorEq, List.set_cons_zero, List.set_cons_succ])))
        refine ⟨by omega, ?_⟩
        refine h_load hh (by rfl) ?_
        refine dict_isMoving_k hh.left.left.blk ?_
        rw [hR]
        simp only [Option.isSome]
        (repeat (first | (refine h_load hh (by rfl) ?_) | (simp only [xl, xo, List.size_toArray, List.length_cons, List.length_nil, Nat.reduceAdd, qt, decide_eq_true_eq, Int.toNat_zero, Int.toNat_natCast, Nat.zero_mul, Nat.mul_one, Nat.one_mul, List.toList_toArray, List.cons_append, List.nil_append, List.append_nil, true_and, and_true, Nat.zero_add, Nat.add_zero, Bool.not_true, Bool.not_false, if_true, if_false, reduceCtorEq, List.set_cons_zero, List.set_cons_succ])))
        intro g2
        exact htl
  · obtain ⟨g1, g2, g3, g4⟩ := dict_node hh hD2 ht hi
    have hlt : i < T.length := (List.getElem?_eq_some_iff.1 hi).1
    obtain ⟨hok, r, rf, e1, e1', e2, e3, e4, e5⟩ := dict_open hD2 ht hi
    have eD := e1 (l1 ++ x :: l2)
    rw [e3] at eD
    rw [dictM, eD, seg_append, seg] at hh
    (try simp only [xl, xo, List.size_toArray, List.length_cons, List.length_nil, Nat.reduceAdd, qt, decide_eq_true_eq, Int.toNat_zero, Int.toNat_natCast, Nat.zero_mul, Nat.mul_one, Nat.one_mul, List.toList_toArray, List.cons_append, List.nil_append, List.append_nil, true_and, and_true, Nat.zero_add, Nat.add_zero, Bool.not_true, Bool.not_false, if_true, if_false, reduceCtorEq, List.set_cons_zero, List.set_cons_succ])
    refine dict_Set_1_h hh g1 hh.blk hv fun H4 hh => ?_
    (repeat (first | (refine h_load hh (by rfl) ?_) | (simp only [xl, xo, List.size_toArray, List.length_cons, List.length_nil, Nat.reduceAdd, qt, decide_eq_true_eq, Int.toNat_zero, Int.toNat_natCast, Nat.zero_mul, Nat.mul_one, Nat.one_mul, List.toList_toArray, List.cons_append, List.nil_append, List.append_nil, true_and, and_true, Nat.zero_add, Nat.add_zero, Bool.not_true, Bool.not_false, if_true, if_false, reduceCtorEq, List.set_cons_zero, List.set_cons_succ])))
    have p1 := e2 (l1 ++ x :: l2)
    rw [e3] at p1
    have hMM : M.Perm ((key, x.v) :: ((l1 ++ l2) ++ rf).map kvOf) := by
      refine hM2.symm.trans ((p1.map kvOf).trans ?_)
      rw [← hx]
      simp only [List.map_append, List.map_cons, List.append_assoc, List.cons_append]
      exact List.perm_middle
    refine old H4 x.v (hMM.mem_iff.2 (by simp)) ⟨D2.setT b i (l1 ++ { x with v := v } :: l2), ?_, e5 _ (.inl (by simp)) ?_ ?_, ?_, by rw [updM_keys]; exact hn, ?_⟩
    · refine Has.right (a := cell vb [v]) (hh.to ?_)
      rw [dictM, e1', e1, seg_append, seg]
      have e6 : headV nilV (l1 ++ { x with v := v } :: l2) = headV nilV (l1 ++ x :: l2) := by cases l1 <;> rfl
      have e7 : headV nilV ({ x with v := v } :: l2) = headV nilV (x :: l2) := rfl
      rw [e6, e7]
      simp only
      ac_rfl
    · intro y hy
      have hs := hok.slot i _ hi
      rcases List.mem_append.1 hy with hy | hy
      · exact hs y (List.mem_append.2 (.inl hy))
      · rcases List.mem_cons.1 hy with rfl | hy
        · exact hs x (by simp)
        · exact hs y (by simp [hy])
    · intro y hy
      have hs := hok.oc _ (List.mem_of_getElem? hi)
      rcases List.mem_append.1 hy with hy | hy
      · exact hs y (List.mem_append.2 (.inl hy))
      · rcases List.mem_cons.1 hy with rfl | hy
        · exact hv
        · exact hs y (by simp [hy])
    · refine ((e2 _).map kvOf).trans (List.Perm.trans ?_ (updM_perm hMM hn).symm)
      rw [← hx]
      simp only [List.map_append, List.map_cons, List.append_assoc, List.cons_append]
      exact List.perm_middle
    · rw [(e4 _).2, hl2]; simp [updM]
end Go.X.W
set_option linter.unusedVariables false
set_option linter.unusedSimpArgs false
namespace Go.X.W
open Go Go.X Go.Proofs

theorem dict_Delete_1_h {H : Heap} {tb i : Nat} {cs : List Value} {seed : Int} {l1 l2 : List DNode} {x : DNode} {r : Mem} {K : Value → Heap → Prop} (hh : Has H (cell tb cs + (seg seed nilV (l1 ++ x :: l2) + r))) (hi : cs[i]? = some (headV nilV (l1 ++ x :: l2)))
    (hK : ∀ H', Has H' (cell tb (cs.set i (headV nilV (l1 ++ l2))) + (seg seed nilV (l1 ++ l2) + r)) → K (.tuple #[]) H') : CallH P f_dict_Dict_int64_Delete_1 [posV tb i l1] H K := by
  have hq : LoadIs none H (posV tb i l1) (.pointer (some ⟨x.b, 0, none⟩)) := pos_load hh hi
  have hb : Blk H x.b [.int .u32 (hsum seed x.key), .string x.key, x.v, headV nilV l2] := by
    rw [seg_append, seg] at hh
    exact hh.right.left.right.left.blk
  apply k_dict_Dict_int64_Delete_1
  unfold c_dict_Dict_int64_Delete_1
  unfold posV at *
  (try simp only [xl, xo, List.size_toArray, List.length_cons, List.length_nil, Nat.reduceAdd, qt, decide_eq_true_eq, Int.toNat_zero, Int.toNat_natCast, Nat.zero_mul, Nat.mul_one, Nat.one_mul, List.toList_toArray, List.cons_append, List.nil_append, List.append_nil, true_and, and_true, Nat.zero_add, Nat.add_zero, Bool.not_true, Bool.not_false, if_true, if_false, reduceCtorEq, List.set_cons_zero, List.set_cons_succ])
  refine ⟨_, hq, ?_⟩
  (try simp only [xl, xo, List.size_toArray, List.length_cons, List.length_nil, Nat.reduceAdd, qt, decide_eq_true_eq, Int.toNat_zero, Int.toNat_natCast, Nat.zero_mul, Nat.mul_one, Nat.one_mul, List.toList_toArray, List.cons_append, List.nil_append, List.append_nil, true_and, and_true, Nat.zero_add, Nat.add_zero, Bool.not_true, Bool.not_false, if_true, if_false, reduceCtorEq, List.set_cons_zero, List.set_cons_succ])
  refine hb.load rfl ?_
  exact pos_store hh hi fun H' hh => hK H' hh

theorem dict_Delete_h {H : Heap} {d : Nat} {M : List (ByteArray × Value)} {key : ByteArray} {m : Mem} {K : Value → Heap → Prop} (hkey : key.size < 4611686018427387904) (hlen : M.length ≤ 512) (h : DictAt H d M m)
    (hit : ∀ H' v, (key, v) ∈ M → DictAt H' d (M.filter fun p => decide (p.1 ≠ key)) m → K (.bool true) H') (miss : ∀ H', (∀ p ∈ M, p.1 ≠ key) → DictAt H' d M m → K (.bool false) H') :
    CallH P f_dict_Dict_int64_Delete [.pointer (some ⟨d, 0, none⟩), .string key] H K := by
  obtain ⟨D, hh, hD, hM, hn, hl⟩ := h
  apply k_dict_Dict_int64_Delete
  unfold c_dict_Dict_int64_Delete
  (repeat (first | (refine h_load hh (by rfl) ?_) | (simp only [xl, xo, List.size_toArray, List.length_cons, List.length_nil, Nat.reduceAdd, qt, decide_eq_true_eq, Int.toNat_zero, Int.toNat_natCast, Nat.zero_mul, Nat.mul_one, Nat.one_mul, List.toList_toArray, List.cons_append, List.nil_append, List.append_nil, true_and, and_true, Nat.zero_add, Nat.add_zero, Bool.not_true, Bool.not_false, if_true, if_false, reduceCtorEq, List.set_cons_zero, List.set_cons_succ])))
  refine dict_Step_h (by omega) hh hD fun H2 D2 _ hh hD2 hP hse hnn => ?_
  have hM2 : (D2.flat.map kvOf).Perm M := (hP.map _).trans hM
  have hl2 : D2.n = M.length := by rw [hnn, hl]
  refine dict_with_h hkey hh hD2 (fun H3 hh hm => ?_) (fun H3 b tb i T l1 x l2 hh ht hi hx => ?_)
  · have hnot : ∀ p ∈ M, p.1 ≠ key := fun p hp e => by
      obtain ⟨x, hx, rfl⟩ := List.mem_map.1 (hM2.mem_iff.2 hp)
      exact hm x hx e
    (repeat (first | (refine h_load hh (by rfl) ?_) | (simp only [xl, xo, List.size_toArray, List.length_cons, List.length_nil, Nat.reduceAdd, qt, decide_eq_true_eq, Int.toNat_zero, Int.toNat_natCast, Nat.zero_mul, Nat.mul_one, Nat.one_mul, List.toList_toArray, List.cons_append, List.nil_append, List.append_nil, true_and, and_true, Nat.zero_add, Nat.add_zero, Bool.not_true, Bool.not_false, if_true, if_false, reduceCtorEq, List.set_cons_zero, List.set_cons_succ])))
    exact miss H3 hnot ⟨D2, hh, hD2, hM2, hn, hl2⟩
  · have hlt : i < T.length := (List.getElem?_eq_some_iff.1 hi).1
    obtain ⟨hok, r, rf, e1, e1', e2, e3, e4, e5⟩ := dict_open hD2 ht hi
    have eD := e1 (l1 ++ x :: l2)
    rw [e3] at eD
    rw [dictM, eD] at hh
    rw [x_callV]
    refine dict_Delete_1_h (hh.to (show _ = cell tb ((T.map (headV nilV)).set i (headV nilV (l1 ++ x :: l2))) + (seg D2.seed nilV (l1 ++ x :: l2) + (r + (cell d (dictCells D2) + m))) by ac_rfl)) (by rw [List.getElem?_set_self (by simpa using hlt)]) fun H4 hh => ?_
    rw [List.set_set] at hh
    have p1 := e2 (l1 ++ x :: l2)
    rw [e3] at p1
    have hMM : M.Perm ((key, x.v) :: ((l1 ++ l2) ++ rf).map kvOf) := by
      refine hM2.symm.trans ((p1.map kvOf).trans ?_)
      rw [← hx]
      simp only [List.map_append, List.map_cons, List.append_assoc, List.cons_append]
      exact List.perm_middle
    have hin : (key, x.v) ∈ M := hMM.mem_iff.2 (by simp)
    have hfil := filter_del hMM hn
    have hlen2 : M.length = (M.filter fun p => decide (p.1 ≠ key)).length + 1 := by
      rw [hMM.length_eq, hfil.length_eq]; simp
    let D3 : DSt := { D2.setT b i (l1 ++ l2) with n := D2.n - 1 }
    have okA := e5 (l1 ++ l2) (.inl (by simp)) (fun y hy => hok.slot i _ hi y (by
      rcases List.mem_append.1 hy with hy | hy <;> simp [hy])) (fun y hy => hok.oc _ (List.mem_of_getElem? hi) y (by
      rcases List.mem_append.1 hy with hy | hy <;> simp [hy]))
    have ok3 : D3.Ok := ⟨okA.t0, okA.t1, okA.at0, okA.at1, okA.mv⟩
    have hM3 : (D3.flat.map kvOf).Perm (M.filter fun p => decide (p.1 ≠ key)) := ((e2 _).map kvOf).trans hfil.symm
    have hn3 : ((M.filter fun p => decide (p.1 ≠ key)).map (·.1)).Nodup := hn.sublist ((List.filter_sublist).map _)
    have hl3 : D3.n = (M.filter fun p => decide (p.1 ≠ key)).length := by show D2.n - 1 = _; omega
    have c1 : dictCells D3 = (dictCells D2).set 4 (.int .i64 (D2.n - 1)) := by rw [← e1' (l1 ++ l2)]; rfl
    have c2 : restM D3 = cell tb ((T.map (headV nilV)).set i (headV nilV (l1 ++ l2))) + (seg D2.seed nilV (l1 ++ l2) + r) := (e1 (l1 ++ l2)).symm ▸ rfl
    (repeat (first | (refine h_load hh (by rfl) ?_) | (simp only [xl, xo, List.size_toArray, List.length_cons, List.length_nil, Nat.reduceAdd, qt, decide_eq_true_eq, Int.toNat_zero, Int.toNat_natCast, Nat.zero_mul, Nat.mul_one, Nat.one_mul, List.toList_toArray, List.cons_append, List.nil_append, List.append_nil, true_and, and_true, Nat.zero_add, Nat.add_zero, Bool.not_true, Bool.not_false, if_true, if_false, reduceCtorEq, List.set_cons_zero, List.set_cons_succ])))
    refine h_store hh rfl (by simp [dictCells]) fun H5 hh => ?_
    rw [w64 (n := D2.n - 1) (by omega), ← c1] at hh
    have hh := hh.to (show _ = cell d (dictCells D3) + restM D3 + m by rw [c2]; ac_rfl)
    clear_value D3
    have fin : K (.bool true) H5 := hit H5 x.v hin ⟨D3, hh, ok3, hM3, hn3, hl3⟩
    have hsz := ok3.t0.sz.bd
    (repeat (first | (refine h_load hh (by rfl) ?_) | (simp only [xl, xo, List.size_toArray, List.length_cons, List.length_nil, Nat.reduceAdd, qt, decide_eq_true_eq, Int.toNat_zero, Int.toNat_natCast, Nat.zero_mul, Nat.mul_one, Nat.one_mul, List.toList_toArray, List.cons_append, List.nil_append, List.append_nil, true_and, and_true, Nat.zero_add, Nat.add_zero, Bool.not_true, Bool.not_false, if_true, if_false, reduceCtorEq, List.set_cons_zero, List.set_cons_succ])))
    refine ⟨by omega, ?_⟩
    refine h_load hh (by rfl) ?_
    (repeat (first | (refine h_load hh (by rfl) ?_) | (simp only [xl, xo, List.size_toArray, List.length_cons, List.length_nil, Nat.reduceAdd, qt, decide_eq_true_eq, Int.toNat_zero, Int.toNat_natCast, Nat.zero_mul, Nat.mul_one, Nat.one_mul, List.toList_toArray, List.cons_append, List.nil_append, List.append_nil, true_and, and_true, Nat.zero_add, Nat.add_zero, Bool.not_true, Bool.not_false, if_true, if_false, reduceCtorEq, List.set_cons_zero, List.set_cons_succ])))
    unfold JoinP
    refine dict_isMoving_k hh.left.left.blk ?_
    cases hR : D3.R with
    | some R =>
      simp only [Option.isSome]
      (repeat (first | (refine h_load hh (by rfl) ?_) | (simp only [xl, xo, List.size_toArray, List.length_cons, List.length_nil, Nat.reduceAdd, qt, decide_eq_true_eq, Int.toNat_zero, Int.toNat_natCast, Nat.zero_mul, Nat.mul_one, Nat.one_mul, List.toList_toArray, List.cons_append, List.nil_append, List.append_nil, true_and, and_true, Nat.zero_add, Nat.add_zero, Bool.not_true, Bool.not_false, if_true, if_false, reduceCtorEq, List.set_cons_zero, List.set_cons_succ])))
      intro g
      (repeat (first | (refine h_load hh (by rfl) ?_) | (simp only [xl, xo, List.size_toArray, List.length_cons, List.length_nil, Nat.reduceAdd, qt, decide_eq_true_eq, Int.toNat_zero, Int.toNat_natCast, Nat.zero_mul, Nat.mul_one, Nat.one_mul, List.toList_toArray, List.cons_append, List.nil_append, List.append_nil, true_and, and_true, Nat.zero_add, Nat.add_zero, Bool.not_true, Bool.not_false, if_true, if_false, reduceCtorEq, List.set_cons_zero, List.set_cons_succ])))
      exact fin
    | none =>
      simp only [Option.isSome]
      (repeat (first | (refine h_load hh (by rfl) ?_) | (simp only [xl, xo, List.size_toArray, List.length_cons, List.length_nil, Nat.reduceAdd, qt, decide_eq_true_eq, Int.toNat_zero, Int.toNat_natCast, Nat.zero_mul, Nat.mul_one, Nat.one_mul, List.toList_toArray, List.cons_append, List.nil_append, List.append_nil, true_and, and_true, Nat.zero_add, Nat.add_zero, Bool.not_true, Bool.not_false, if_true, if_false, reduceCtorEq, List.set_cons_zero, List.set_cons_succ])))
      by_cases h4 : (4 : Int) < D3.T0.length
      case neg =>
        rw [if_neg h4]
        intro g
        (repeat (first | (refine h_load hh (by rfl) ?_) | (simp only [xl, xo, List.size_toArray, List.length_cons, List.length_nil, Nat.reduceAdd, qt, decide_eq_true_eq, Int.toNat_zero, Int.toNat_natCast, Nat.zero_mul, Nat.mul_one, Nat.one_mul, List.toList_toArray, List.cons_append, List.nil_append, List.append_nil, true_and, and_true, Nat.zero_add, Nat.add_zero, Bool.not_true, Bool.not_false, if_true, if_false, reduceCtorEq, List.set_cons_zero, List.set_cons_succ])))
        exact fin
      rw [if_pos h4]
      refine h_load hh (by rfl) ?_
      (repeat (first | (refine h_load hh (by rfl) ?_) | (simp only [xl, xo, List.size_toArray, List.length_cons, List.length_nil, Nat.reduceAdd, qt, decide_eq_true_eq, Int.toNat_zero, Int.toNat_natCast, Nat.zero_mul, Nat.mul_one, Nat.one_mul, List.toList_toArray, List.cons_append, List.nil_append, List.append_nil, true_and, and_true, Nat.zero_add, Nat.add_zero, Bool.not_true, Bool.not_false, if_true, if_false, reduceCtorEq, List.set_cons_zero, List.set_cons_succ])))
      intro g
      by_cases h8 : IntKind.i64.wrap (8 * D3.n) < D3.T0.length
      case neg =>
        rw [if_neg h8]
        (repeat (first | (refine h_load hh (by rfl) ?_) | (simp only [xl, xo, List.size_toArray, List.length_cons, List.length_nil, Nat.reduceAdd, qt, decide_eq_true_eq, Int.toNat_zero, Int.toNat_natCast, Nat.zero_mul, Nat.mul_one, Nat.one_mul, List.toList_toArray, List.cons_append, List.nil_append, List.append_nil, true_and, and_true, Nat.zero_add, Nat.add_zero, Bool.not_true, Bool.not_false, if_true, if_false, reduceCtorEq, List.set_cons_zero, List.set_cons_succ])))
        exact fin
      rw [if_pos h8]
      refine h_load hh (by rfl) ?_
      have hc : dictCells D3 = [.int .u32 D3.seed, .slice (some ⟨D3.tb0, 0, none⟩) D3.T0.length D3.T0.length, .slice none 0 0, .int .i64 D3.pos, .int .i64 D3.n] := by rw [dictCells, hR]; rfl
      rw [hc] at hh
      refine dict_moves_h (hh.to (mem_assoc _ _ _)) fun H6 tb s hs hsb hh => ?_
      obtain ⟨m1, m2, m3⟩ := dict_moved (m := m) ok3 hR hs (hsb (by omega)) hh
      (repeat (first | (refine h_load hh (by rfl) ?_) | (simp only [xl, xo, List.size_toArray, List.length_cons, List.length_nil, Nat.reduceAdd, qt, decide_eq_true_eq, Int.toNat_zero, Int.toNat_natCast, Nat.zero_mul, Nat.mul_one, Nat.one_mul, List.toList_toArray, List.cons_append, List.nil_append, List.append_nil, true_and, and_true, Nat.zero_add, Nat.add_zero, Bool.not_true, Bool.not_false, if_true, if_false, reduceCtorEq, List.set_cons_zero, List.set_cons_succ])))
      exact hit H6 x.v hin ⟨_, m1, m2, by rw [m3]; exact hM3, hn3, hl3⟩

theorem dict_Len_h {H : Heap} {d : Nat} {M : List (ByteArray × Value)} {m : Mem} {K : Value → Heap → Prop} (h : DictAt H d M m) (hK : K (.int .i64 M.length) H) :
    CallH P f_dict_Dict_int64_Len [.pointer (some ⟨d, 0, none⟩)] H K := by
  obtain ⟨D, hh, hD, hM, hn, hl⟩ := h
  rw [← hl] at hK
  apply k_dict_Dict_int64_Len
  unfold c_dict_Dict_int64_Len
  rw [dictM] at hh
  (repeat (first | (refine h_load hh (by rfl) ?_) | (simp only [xl, xo, List.size_toArray, List.length_cons, List.length_nil, Nat.reduceAdd, qt, decide_eq_true_eq, Int.toNat_zero, Int.toNat_natCast, Nat.zero_mul, Nat.mul_one, Nat.one_mul, List.toList_toArray, List.cons_append, List.nil_append, List.append_nil, true_and, and_true, Nat.zero_add, Nat.add_zero, Bool.not_true, Bool.not_false, if_true, if_false, reduceCtorEq, List.set_cons_zero, List.set_cons_succ])))
  exact hK
end Go.X.W
set_option linter.unusedVariables false
set_option linter.unusedSimpArgs false
namespace Go.X.W
open Go Go.X Go.Proofs

def cmpI (a b : Int) : Int := if a < b then -1 else if b < a then 1 else 0
noncomputable def cmpS (a b : ByteArray) : Int := if bl a b = true then -1 else if bl b a = true then 1 else 0
variable {H : Heap} {K : Value → Heap → Prop}

theorem cmp_Compare_int64_k {a b : Int} (hK : K (.int .i64 (cmpI a b)) H) : CallH P f_cmp_Compare_int64 [.int .i64 a, .int .i64 b] H K := by
  apply k_cmp_Compare_int64
  unfold c_cmp_Compare_int64
  apply k_cmp_isNaN_int64
  unfold c_cmp_isNaN_int64
  (try simp only [xl, xo, Bool.not_eq_true', decide_eq_false_iff_not, ite_not, List.size_toArray, List.length_cons, List.length_nil, Nat.reduceAdd, qt, decide_eq_true_eq, Int.toNat_zero, Int.toNat_natCast, Nat.zero_mul, Nat.mul_one, Nat.one_mul, List.toList_toArray, List.cons_append, List.nil_append, List.append_nil, true_and, and_true, Nat.zero_add, Nat.add_zero, Bool.not_true, Bool.not_false, if_true, if_false, reduceCtorEq, List.set_cons_zero, List.set_cons_succ])
  apply k_cmp_isNaN_int64
  unfold c_cmp_isNaN_int64
  (try simp only [xl, xo, Bool.not_eq_true', decide_eq_false_iff_not, ite_not, List.size_toArray, List.length_cons, List.length_nil, Nat.reduceAdd, qt, decide_eq_true_eq, Int.toNat_zero, Int.toNat_natCast, Nat.zero_mul, Nat.mul_one, Nat.one_mul, List.toList_toArray, List.cons_append, List.nil_append, List.append_nil, true_and, and_true, Nat.zero_add, Nat.add_zero, Bool.not_true, Bool.not_false, if_true, if_false, reduceCtorEq, List.set_cons_zero, List.set_cons_succ])
  (try simp only [decide_true, Bool.not_true])
  (try simp only [xl, xo, Bool.not_eq_true', decide_eq_false_iff_not, ite_not, List.size_toArray, List.length_cons, List.length_nil, Nat.reduceAdd, qt, decide_eq_true_eq, Int.toNat_zero, Int.toNat_natCast, Nat.zero_mul, Nat.mul_one, Nat.one_mul, List.toList_toArray, List.cons_append, List.nil_append, List.append_nil, true_and, and_true, Nat.zero_add, Nat.add_zero, Bool.not_true, Bool.not_false, if_true, if_false, reduceCtorEq, List.set_cons_zero, List.set_cons_succ])
  unfold cmpI at hK
  split
  · rw [if_pos (by assumption)] at hK; exact hK
  · rw [if_neg (by assumption)] at hK
    split
    · rw [if_pos (by assumption)] at hK; exact hK
    · rw [if_neg (by assumption)] at hK; exact hK

theorem cmp_Compare_int_k {a b : Int} (hK : K (.int .i64 (cmpI a b)) H) : CallH P f_cmp_Compare_int [.int .i64 a, .int .i64 b] H K := by
  apply k_cmp_Compare_int
  unfold c_cmp_Compare_int
  apply k_cmp_isNaN_int
  unfold c_cmp_isNaN_int
  (try simp only [xl, xo, Bool.not_eq_true', decide_eq_false_iff_not, ite_not, List.size_toArray, List.length_cons, List.length_nil, Nat.reduceAdd, qt, decide_eq_true_eq, Int.toNat_zero, Int.toNat_natCast, Nat.zero_mul, Nat.mul_one, Nat.one_mul, List.toList_toArray, List.cons_append, List.nil_append, List.append_nil, true_and, and_true, Nat.zero_add, Nat.add_zero, Bool.not_true, Bool.not_false, if_true, if_false, reduceCtorEq, List.set_cons_zero, List.set_cons_succ])
  apply k_cmp_isNaN_int
  unfold c_cmp_isNaN_int
  (try simp only [xl, xo, Bool.not_eq_true', decide_eq_false_iff_not, ite_not, List.size_toArray, List.length_cons, List.length_nil, Nat.reduceAdd, qt, decide_eq_true_eq, Int.toNat_zero, Int.toNat_natCast, Nat.zero_mul, Nat.mul_one, Nat.one_mul, List.toList_toArray, List.cons_append, List.nil_append, List.append_nil, true_and, and_true, Nat.zero_add, Nat.add_zero, Bool.not_true, Bool.not_false, if_true, if_false, reduceCtorEq, List.set_cons_zero, List.set_cons_succ])
  (try simp only [decide_true, Bool.not_true])
  (try simp only [xl, xo, Bool.not_eq_true', decide_eq_false_iff_not, ite_not, List.size_toArray, List.length_cons, List.length_nil, Nat.reduceAdd, qt, decide_eq_true_eq, Int.toNat_zero, Int.toNat_natCast, Nat.zero_mul, Nat.mul_one, Nat.one_mul, List.toList_toArray, List.cons_append, List.nil_append, List.append_nil, true_and, and_true, Nat.zero_add, Nat.add_zero, Bool.not_true, Bool.not_false, if_true, if_false, reduceCtorEq, List.set_cons_zero, List.set_cons_succ])
  unfold cmpI at hK
  split
  · rw [if_pos (by assumption)] at hK; exact hK
  · rw [if_neg (by assumption)] at hK
    split
    · rw [if_pos (by assumption)] at hK; exact hK
    · rw [if_neg (by assumption)] at hK; exact hK

theorem cmp_Compare_string_k {a b : ByteArray} (hK : K (.int .i64 (cmpS a b)) H) : CallH P f_cmp_Compare_string [.string a, .string b] H K := by
  apply k_cmp_Compare_string
  unfold c_cmp_Compare_string
  apply k_cmp_isNaN_string
  unfold c_cmp_isNaN_string
  (try simp only [xl, xo, Bool.not_eq_true', decide_eq_false_iff_not, ite_not, List.size_toArray, List.length_cons, List.length_nil, Nat.reduceAdd, qt, decide_eq_true_eq, Int.toNat_zero, Int.toNat_natCast, Nat.zero_mul, Nat.mul_one, Nat.one_mul, List.toList_toArray, List.cons_append, List.nil_append, List.append_nil, true_and, and_true, Nat.zero_add, Nat.add_zero, Bool.not_true, Bool.not_false, if_true, if_false, reduceCtorEq, List.set_cons_zero, List.set_cons_succ])
  apply k_cmp_isNaN_string
  unfold c_cmp_isNaN_string
  (try simp only [xl, xo, Bool.not_eq_true', decide_eq_false_iff_not, ite_not, List.size_toArray, List.length_cons, List.length_nil, Nat.reduceAdd, qt, decide_eq_true_eq, Int.toNat_zero, Int.toNat_natCast, Nat.zero_mul, Nat.mul_one, Nat.one_mul, List.toList_toArray, List.cons_append, List.nil_append, List.append_nil, true_and, and_true, Nat.zero_add, Nat.add_zero, Bool.not_true, Bool.not_false, if_true, if_false, reduceCtorEq, List.set_cons_zero, List.set_cons_succ])
  (try simp only [decide_true, Bool.not_true])
  (try simp only [xl, xo, Bool.not_eq_true', decide_eq_false_iff_not, ite_not, List.size_toArray, List.length_cons, List.length_nil, Nat.reduceAdd, qt, decide_eq_true_eq, Int.toNat_zero, Int.toNat_natCast, Nat.zero_mul, Nat.mul_one, Nat.one_mul, List.toList_toArray, List.cons_append, List.nil_append, List.append_nil, true_and, and_true, Nat.zero_add, Nat.add_zero, Bool.not_true, Bool.not_false, if_true, if_false, reduceCtorEq, List.set_cons_zero, List.set_cons_succ])
  unfold cmpS at hK
  split
  · rw [if_pos (by assumption)] at hK; exact hK
  · rw [if_neg (by assumption)] at hK
    split
    · rw [if_pos (by assumption)] at hK; exact hK
    · rw [if_neg (by assumption)] at hK; exact hK


theorem cmp_Or_int_k {l c : Nat} {x y : Int} {m r : Mem} [p : PickC l m [.int .i64 x, .int .i64 y] r] (hh : Has H m) (hK : K (.int .i64 (if x = 0 then y else x)) H) : CallH P f_cmp_Or_int [.slice (some ⟨l, 0, none⟩) 2 c] H K := by
  have hb := hh.blk (b := l)
  apply k_cmp_Or_int
  unfold c_cmp_Or_int
  (try simp only [xl, xo, Bool.not_eq_true', decide_eq_false_iff_not, ite_not, List.size_toArray, List.length_cons, List.length_nil, Nat.reduceAdd, qt, decide_eq_true_eq, Int.toNat_zero, Int.toNat_natCast, Nat.zero_mul, Nat.mul_one, Nat.one_mul, List.toList_toArray, List.cons_append, List.nil_append, List.append_nil, true_and, and_true, Nat.zero_add, Nat.add_zero, Bool.not_true, Bool.not_false, if_true, if_false, reduceCtorEq, List.set_cons_zero, List.set_cons_succ])
  refine loop_i (fun k s H' => ∃ i : Nat, i + k = 2 ∧ s = (.int .i64 i, []) ∧ H' = H ∧ (0 < i → x = 0) ∧ (1 < i → y = 0)) 2 ⟨0, by omega, rfl, rfl, by omega, by omega⟩ ?_
  rintro k _ g H' ⟨i, hi, rfl, rfl, h0, h1⟩
  (try simp only [xl, xo, Bool.not_eq_true', decide_eq_false_iff_not, ite_not, List.size_toArray, List.length_cons, List.length_nil, Nat.reduceAdd, qt, decide_eq_true_eq, Int.toNat_zero, Int.toNat_natCast, Nat.zero_mul, Nat.mul_one, Nat.one_mul, List.toList_toArray, List.cons_append, List.nil_append, List.append_nil, true_and, and_true, Nat.zero_add, Nat.add_zero, Bool.not_true, Bool.not_false, if_true, if_false, reduceCtorEq, List.set_cons_zero, List.set_cons_succ])
  have hi2 : i ≤ 2 := by omega
  match i, hi, hi2 with
  | 0, hi, _ =>
    rw [if_pos (by omega)]
    refine ⟨by omega, ?_⟩
    refine hb.load rfl ?_
    (try simp only [xl, xo, Bool.not_eq_true', decide_eq_false_iff_not, ite_not, List.size_toArray, List.length_cons, List.length_nil, Nat.reduceAdd, qt, decide_eq_true_eq, Int.toNat_zero, Int.toNat_natCast, Nat.zero_mul, Nat.mul_one, Nat.one_mul, List.toList_toArray, List.cons_append, List.nil_append, List.append_nil, true_and, and_true, Nat.zero_add, Nat.add_zero, Bool.not_true, Bool.not_false, if_true, if_false, reduceCtorEq, List.set_cons_zero, List.set_cons_succ])
    by_cases hx : x = 0
    · rw [if_pos hx]
      refine ⟨k - 1, by omega, 1, by omega, rfl, fun _ => hx, by omega⟩
    · rw [if_neg hx] at hK ⊢
      exact hK
  | 1, hi, _ =>
    rw [if_pos (by omega)]
    refine ⟨by omega, ?_⟩
    refine hb.load rfl ?_
    (try simp only [xl, xo, Bool.not_eq_true', decide_eq_false_iff_not, ite_not, List.size_toArray, List.length_cons, List.length_nil, Nat.reduceAdd, qt, decide_eq_true_eq, Int.toNat_zero, Int.toNat_natCast, Nat.zero_mul, Nat.mul_one, Nat.one_mul, List.toList_toArray, List.cons_append, List.nil_append, List.append_nil, true_and, and_true, Nat.zero_add, Nat.add_zero, Bool.not_true, Bool.not_false, if_true, if_false, reduceCtorEq, List.set_cons_zero, List.set_cons_succ])
    have hx := h0 (by omega)
    rw [if_pos hx] at hK
    by_cases hy : y = 0
    · rw [if_pos hy]
      refine ⟨k - 1, by omega, 2, by omega, rfl, fun _ => hx, fun _ => hy⟩
    · rw [if_neg hy]
      exact hK
  | 2, hi, _ =>
    rw [if_neg (by omega)]
    have hx := h0 (by omega)
    have hy := h1 (by omega)
    rw [if_pos hx, hy] at hK
    exact hK

theorem elt_cmp (a b : Ent) : decide ((if cmpI a.2 b.2 = 0 then cmpS a.1 b.1 else cmpI a.2 b.2) < 0) = elt a b := by
  unfold elt cmpI cmpS
  by_cases h1 : a.2 < b.2
  · simp [h1]
  · by_cases h2 : b.2 < a.2
    · simp [h1, h2, show ¬ a.2 = b.2 by omega]
    · simp only [h1, h2, if_false, if_true, show a.2 = b.2 by omega, decide_true, Bool.true_and, decide_false, Bool.false_or]
      cases hb : bl a.1 b.1 with
      | true => simp
      | false => cases hb2 : bl b.1 a.1 <;> simp

theorem bound_Less_h {a b : Ent} {m : Mem} (hh : Has H m) (hK : ∀ H', Has H' m → K (.bool (elt a b)) H') : CallH P f_bound_Less [entV a, entV b] H K := by
  apply k_bound_Less
  unfold c_bound_Less
  (try simp only [xl, xo, Bool.not_eq_true', decide_eq_false_iff_not, ite_not, List.size_toArray, List.length_cons, List.length_nil, Nat.reduceAdd, qt, decide_eq_true_eq, Int.toNat_zero, Int.toNat_natCast, Nat.zero_mul, Nat.mul_one, Nat.one_mul, List.toList_toArray, List.cons_append, List.nil_append, List.append_nil, true_and, and_true, Nat.zero_add, Nat.add_zero, Bool.not_true, Bool.not_false, if_true, if_false, reduceCtorEq, List.set_cons_zero, List.set_cons_succ])
  refine h_allocA hh fun ab H1 hh => ?_
  refine h_allocA hh fun bb H2 hh => ?_
  (repeat (first | (refine h_load hh (by rfl) ?_) | (simp only [xl, xo, Bool.not_eq_true', decide_eq_false_iff_not, ite_not, List.size_toArray, List.length_cons, List.length_nil, Nat.reduceAdd, qt, decide_eq_true_eq, Int.toNat_zero, Int.toNat_natCast, Nat.zero_mul, Nat.mul_one, Nat.one_mul, List.toList_toArray, List.cons_append, List.nil_append, List.append_nil, true_and, and_true, Nat.zero_add, Nat.add_zero, Bool.not_true, Bool.not_false, if_true, if_false, reduceCtorEq, List.set_cons_zero, List.set_cons_succ])))
  refine cmp_Compare_int64_k ?_
  refine ⟨h_loadIs hh rfl, h_loadIs hh rfl, ?_⟩
  refine cmp_Compare_string_k ?_
  (repeat (first | (refine h_load hh (by rfl) ?_) | (simp only [xl, xo, Bool.not_eq_true', decide_eq_false_iff_not, ite_not, List.size_toArray, List.length_cons, List.length_nil, Nat.reduceAdd, qt, decide_eq_true_eq, Int.toNat_zero, Int.toNat_natCast, Nat.zero_mul, Nat.mul_one, Nat.one_mul, List.toList_toArray, List.cons_append, List.nil_append, List.append_nil, true_and, and_true, Nat.zero_add, Nat.add_zero, Bool.not_true, Bool.not_false, if_true, if_false, reduceCtorEq, List.set_cons_zero, List.set_cons_succ])))
  refine h_buildSl hh fun lb H3 hh => ?_
  refine cmp_Or_int_k hh ?_
  (try simp only [xl, xo, Bool.not_eq_true', decide_eq_false_iff_not, ite_not, List.size_toArray, List.length_cons, List.length_nil, Nat.reduceAdd, qt, decide_eq_true_eq, Int.toNat_zero, Int.toNat_natCast, Nat.zero_mul, Nat.mul_one, Nat.one_mul, List.toList_toArray, List.cons_append, List.nil_append, List.append_nil, true_and, and_true, Nat.zero_add, Nat.add_zero, Bool.not_true, Bool.not_false, if_true, if_false, reduceCtorEq, List.set_cons_zero, List.set_cons_succ])
  rw [elt_cmp]
  exact hK H3 hh.right.right.right

/-! ### Ends -/
/-- An end of scores: N, Out, Inf. -/
structure Bnd where
  n : Int
  out : Bool
  inf : Int
structure Edg where
  s : ByteArray
  out : Bool
  inf : Int
abbrev bndV (b : Bnd) : Value := .agg #[.int .i64 b.n, .bool b.out, .int .i64 b.inf]
abbrev edgV (b : Edg) : Value := .agg #[.string b.s, .bool b.out, .int .i64 b.inf]
def inLo (n : Int) (b : Bnd) : Bool := decide (b.inf < 0) || (decide (b.inf = 0) && (decide (b.n < n) || (decide (n = b.n) && !b.out)))
def inHi (n : Int) (b : Bnd) : Bool := decide (0 < b.inf) || (decide (b.inf = 0) && (decide (n < b.n) || (decide (n = b.n) && !b.out)))
noncomputable def inLoS (n : ByteArray) (b : Edg) : Bool := decide (b.inf < 0) || (decide (b.inf = 0) && (bl b.s n || (decide (n = b.s) && !b.out)))
noncomputable def inHiS (n : ByteArray) (b : Edg) : Bool := decide (0 < b.inf) || (decide (b.inf = 0) && (bl n b.s || (decide (n = b.s) && !b.out)))

def ofV (inf : Int) (out : Bool) : Value := if inf = 0 then .iface T_bound_value (.agg #[.bool out]) else .iface T_bound_limit (.agg #[.int .i64 inf])
theorem bound_of_k {inf : Int} {out : Bool} (hK : K (ofV inf out) H) : CallH P f_bound_of [.int .i64 inf, .bool out] H K := by
  apply k_bound_of
  unfold c_bound_of
  (try simp only [xl, xo, Bool.not_eq_true', decide_eq_false_iff_not, ite_not, List.size_toArray, List.length_cons, List.length_nil, Nat.reduceAdd, qt, decide_eq_true_eq, Int.toNat_zero, Int.toNat_natCast, Nat.zero_mul, Nat.mul_one, Nat.one_mul, List.toList_toArray, List.cons_append, List.nil_append, List.append_nil, true_and, and_true, Nat.zero_add, Nat.add_zero, Bool.not_true, Bool.not_false, if_true, if_false, reduceCtorEq, List.set_cons_zero, List.set_cons_succ])
  unfold ofV at hK
  by_cases h : inf = 0
  · rw [if_pos h] at hK ⊢; exact hK
  · rw [if_neg h] at hK ⊢; exact hK

theorem sign_meth {inf : Int} : MethodIs P T_bound_limit (.agg #[.int .i64 inf]) "palio/bound.sign" H f_bound_limit_sign (.agg #[.int .i64 inf]) :=
  meth_val (u := .struct #[⟨ "inf", 3, 0, false, "", "palio/bound", 0⟩]) (by kernel_rfl) (by kernel_rfl) (by simp)

/-- What is behind an end, by how it compares. -/
def behind (c : Int) (inf : Int) (out : Bool) (sign : Int) : Bool := if inf = 0 then decide (0 < sign * c) || (decide (sign * c = 0) && !out) else decide (cmpI inf 0 = - sign)

theorem bound_isBehind_int64_h {x at_ : Int} {inf sign : Int} {out : Bool} {m : Mem} (hs : sign = 1 ∨ sign = -1) (hh : Has H m) (hK : ∀ H', Has H' m → K (.bool (behind (cmpI x at_) inf out sign)) H') :
    CallH P f_bound_isBehind_int64 [.int .i64 x, .int .i64 at_, ofV inf out, .int .i64 sign] H K := by
  apply k_bound_isBehind_int64
  unfold c_bound_isBehind_int64
  have hc : (cmpI x at_) = -1 ∨ (cmpI x at_) = 0 ∨ (cmpI x at_) = 1 := by unfold cmpI; split <;> (try split) <;> simp
  have hw : IntKind.i64.wrap (sign * cmpI x at_) = sign * cmpI x at_ := w64 (by rcases hs with rfl | rfl <;> rcases hc with h | h | h <;> rw [h] <;> omega)
  unfold ofV
  unfold behind at hK
  by_cases h : inf = 0
  · rw [if_pos h] at hK ⊢
    rw [show ∀ (Q : Value → Prop), TypeAssertP T_bound_value (.agg #[.bool false]) true (.iface T_bound_value (.agg #[.bool out])) Q = Q (.tuple #[.agg #[.bool out], .bool true]) from fun Q => rfl]
    (try simp only [xl, xo, Bool.not_eq_true', decide_eq_false_iff_not, ite_not, List.size_toArray, List.length_cons, List.length_nil, Nat.reduceAdd, qt, decide_eq_true_eq, Int.toNat_zero, Int.toNat_natCast, Nat.zero_mul, Nat.mul_one, Nat.one_mul, List.toList_toArray, List.cons_append, List.nil_append, List.append_nil, true_and, and_true, Nat.zero_add, Nat.add_zero, Bool.not_true, Bool.not_false, if_true, if_false, reduceCtorEq, List.set_cons_zero, List.set_cons_succ])
    refine h_alloc hh fun vb H1 hh => ?_
    refine h_storeN hh rfl (by simp [Value.oneCell]) (by simp) fun H2 hh => ?_
    simp only [x_spl1, x_spl0, List.set_cons_zero] at hh
    refine cmp_Compare_int64_k ?_
    (try simp only [xl, xo, Bool.not_eq_true', decide_eq_false_iff_not, ite_not, List.size_toArray, List.length_cons, List.length_nil, Nat.reduceAdd, qt, decide_eq_true_eq, Int.toNat_zero, Int.toNat_natCast, Nat.zero_mul, Nat.mul_one, Nat.one_mul, List.toList_toArray, List.cons_append, List.nil_append, List.append_nil, true_and, and_true, Nat.zero_add, Nat.add_zero, Bool.not_true, Bool.not_false, if_true, if_false, reduceCtorEq, List.set_cons_zero, List.set_cons_succ])
    rw [hw]
    by_cases h1 : 0 < sign * cmpI x at_
    · rw [if_pos h1]
      simp only [h1, decide_true, Bool.true_or] at hK
      exact hK _ hh.right
    · rw [if_neg h1]
      simp only [h1, decide_false, Bool.false_or] at hK
      by_cases h2 : sign * cmpI x at_ = 0
      · rw [if_pos h2]
        simp only [h2, decide_true, Bool.true_and] at hK
        (repeat (first | (refine h_load hh (by rfl) ?_) | (simp only [xl, xo, Bool.not_eq_true', decide_eq_false_iff_not, ite_not, List.size_toArray, List.length_cons, List.length_nil, Nat.reduceAdd, qt, decide_eq_true_eq, Int.toNat_zero, Int.toNat_natCast, Nat.zero_mul, Nat.mul_one, Nat.one_mul, List.toList_toArray, List.cons_append, List.nil_append, List.append_nil, true_and, and_true, Nat.zero_add, Nat.add_zero, Bool.not_true, Bool.not_false, if_true, if_false, reduceCtorEq, List.set_cons_zero, List.set_cons_succ])))
        exact hK _ hh.right
      · rw [if_neg h2]
        simp only [h2, decide_false, Bool.false_and] at hK
        exact hK _ hh.right
  · rw [if_neg h] at hK ⊢
    rw [show ∀ (Q : Value → Prop), TypeAssertP T_bound_value (.agg #[.bool false]) true (.iface T_bound_limit (.agg #[.int .i64 inf])) Q = (true = true ∧ Q (.tuple #[.agg #[.bool false], .bool false])) from fun Q => rfl]
    (try simp only [xl, xo, Bool.not_eq_true', decide_eq_false_iff_not, ite_not, List.size_toArray, List.length_cons, List.length_nil, Nat.reduceAdd, qt, decide_eq_true_eq, Int.toNat_zero, Int.toNat_natCast, Nat.zero_mul, Nat.mul_one, Nat.one_mul, List.toList_toArray, List.cons_append, List.nil_append, List.append_nil, true_and, and_true, Nat.zero_add, Nat.add_zero, Bool.not_true, Bool.not_false, if_true, if_false, reduceCtorEq, List.set_cons_zero, List.set_cons_succ])
    refine h_alloc hh fun vb H1 hh => ?_
    refine h_storeN hh rfl (by simp [Value.oneCell]) (by simp) fun H2 hh => ?_
    simp only [x_spl1, x_spl0, List.set_cons_zero] at hh
    refine ⟨_, _, sign_meth, ?_⟩
    apply k_bound_limit_sign
    unfold c_bound_limit_sign
    (try simp only [xl, xo, Bool.not_eq_true', decide_eq_false_iff_not, ite_not, List.size_toArray, List.length_cons, List.length_nil, Nat.reduceAdd, qt, decide_eq_true_eq, Int.toNat_zero, Int.toNat_natCast, Nat.zero_mul, Nat.mul_one, Nat.one_mul, List.toList_toArray, List.cons_append, List.nil_append, List.append_nil, true_and, and_true, Nat.zero_add, Nat.add_zero, Bool.not_true, Bool.not_false, if_true, if_false, reduceCtorEq, List.set_cons_zero, List.set_cons_succ])
    refine h_allocA hh fun lb H3 hh => ?_
    (repeat (first | (refine h_load hh (by rfl) ?_) | (simp only [xl, xo, Bool.not_eq_true', decide_eq_false_iff_not, ite_not, List.size_toArray, List.length_cons, List.length_nil, Nat.reduceAdd, qt, decide_eq_true_eq, Int.toNat_zero, Int.toNat_natCast, Nat.zero_mul, Nat.mul_one, Nat.one_mul, List.toList_toArray, List.cons_append, List.nil_append, List.append_nil, true_and, and_true, Nat.zero_add, Nat.add_zero, Bool.not_true, Bool.not_false, if_true, if_false, reduceCtorEq, List.set_cons_zero, List.set_cons_succ])))
    refine cmp_Compare_int_k ?_
    (try simp only [xl, xo, Bool.not_eq_true', decide_eq_false_iff_not, ite_not, List.size_toArray, List.length_cons, List.length_nil, Nat.reduceAdd, qt, decide_eq_true_eq, Int.toNat_zero, Int.toNat_natCast, Nat.zero_mul, Nat.mul_one, Nat.one_mul, List.toList_toArray, List.cons_append, List.nil_append, List.append_nil, true_and, and_true, Nat.zero_add, Nat.add_zero, Bool.not_true, Bool.not_false, if_true, if_false, reduceCtorEq, List.set_cons_zero, List.set_cons_succ])
    rw [show IntKind.i64.wrap (0 - sign) = - sign by rcases hs with rfl | rfl <;> rfl]
    exact hK _ hh.right.right

theorem bound_isBehind_string_h {x at_ : ByteArray} {inf sign : Int} {out : Bool} {m : Mem} (hs : sign = 1 ∨ sign = -1) (hh : Has H m) (hK : ∀ H', Has H' m → K (.bool (behind (cmpS x at_) inf out sign)) H') :
    CallH P f_bound_isBehind_string [.string x, .string at_, ofV inf out, .int .i64 sign] H K := by
  apply k_bound_isBehind_string
  unfold c_bound_isBehind_string
  have hc : (cmpS x at_) = -1 ∨ (cmpS x at_) = 0 ∨ (cmpS x at_) = 1 := by unfold cmpS; split <;> (try split) <;> simp
  have hw : IntKind.i64.wrap (sign * cmpS x at_) = sign * cmpS x at_ := w64 (by rcases hs with rfl | rfl <;> rcases hc with h | h | h <;> rw [h] <;> omega)
  unfold ofV
  unfold behind at hK
  by_cases h : inf = 0
  · rw [if_pos h] at hK ⊢
    rw [show ∀ (Q : Value → Prop), TypeAssertP T_bound_value (.agg #[.bool false]) true (.iface T_bound_value (.agg #[.bool out])) Q = Q (.tuple #[.agg #[.bool out], .bool true]) from fun Q => rfl]
    (try simp only [xl, xo, Bool.not_eq_true', decide_eq_false_iff_not, ite_not, List.size_toArray, List.length_cons, List.length_nil, Nat.reduceAdd, qt, decide_eq_true_eq, Int.toNat_zero, Int.toNat_natCast, Nat.zero_mul, Nat.mul_one, Nat.one_mul, List.toList_toArray, List.cons_append, List.nil_append, List.append_nil, true_and, and_true, Nat.zero_add, Nat.add_zero, Bool.not_true, Bool.not_false, if_true, if_false, reduceCtorEq, List.set_cons_zero, List.set_cons_succ])
    refine h_alloc hh fun vb H1 hh => ?_
    refine h_storeN hh rfl (by simp [Value.oneCell]) (by simp) fun H2 hh => ?_
    simp only [x_spl1, x_spl0, List.set_cons_zero] at hh
    refine cmp_Compare_string_k ?_
    (try simp only [xl, xo, Bool.not_eq_true', decide_eq_false_iff_not, ite_not, List.size_toArray, List.length_cons, List.length_nil, Nat.reduceAdd, qt, decide_eq_true_eq, Int.toNat_zero, Int.toNat_natCast, Nat.zero_mul, Nat.mul_one, Nat.one_mul, List.toList_toArray, List.cons_append, List.nil_append, List.append_nil, true_and, and_true, Nat.zero_add, Nat.add_zero, Bool.not_true, Bool.not_false, if_true, if_false, reduceCtorEq, List.set_cons_zero, List.set_cons_succ])
    rw [hw]
    by_cases h1 : 0 < sign * cmpS x at_
    · rw [if_pos h1]
      simp only [h1, decide_true, Bool.true_or] at hK
      exact hK _ hh.right
    · rw [if_neg h1]
      simp only [h1, decide_false, Bool.false_or] at hK
      by_cases h2 : sign * cmpS x at_ = 0
      · rw [if_pos h2]
        simp only [h2, decide_true, Bool.true_and] at hK
        (repeat (first | (refine h_load hh (by rfl) ?_) | (simp only [xl, xo, Bool.not_eq_true', decide_eq_false_iff_not, ite_not, List.size_toArray, List.length_cons, List.length_nil, Nat.reduceAdd, qt, decide_eq_true_eq, Int.toNat_zero, Int.toNat_natCast, Nat.zero_mul, Nat.mul_one, Nat.one_mul, List.toList_toArray, List.cons_append, List.nil_append, List.append_nil, true_and, and_true, Nat.zero_add, Nat.add_zero, Bool.not_true, Bool.not_false, if_true, if_false, reduceCtorEq, List.set_cons_zero, List.set_cons_succ])))
        exact hK _ hh.right
      · rw [if_neg h2]
        simp only [h2, decide_false, Bool.false_and] at hK
        exact hK _ hh.right
  · rw [if_neg h] at hK ⊢
    rw [show ∀ (Q : Value → Prop), TypeAssertP T_bound_value (.agg #[.bool false]) true (.iface T_bound_limit (.agg #[.int .i64 inf])) Q = (true = true ∧ Q (.tuple #[.agg #[.bool false], .bool false])) from fun Q => rfl]
    (try simp only [xl, xo, Bool.not_eq_true', decide_eq_false_iff_not, ite_not, List.size_toArray, List.length_cons, List.length_nil, Nat.reduceAdd, qt, decide_eq_true_eq, Int.toNat_zero, Int.toNat_natCast, Nat.zero_mul, Nat.mul_one, Nat.one_mul, List.toList_toArray, List.cons_append, List.nil_append, List.append_nil, true_and, and_true, Nat.zero_add, Nat.add_zero, Bool.not_true, Bool.not_false, if_true, if_false, reduceCtorEq, List.set_cons_zero, List.set_cons_succ])
    refine h_alloc hh fun vb H1 hh => ?_
    refine h_storeN hh rfl (by simp [Value.oneCell]) (by simp) fun H2 hh => ?_
    simp only [x_spl1, x_spl0, List.set_cons_zero] at hh
    refine ⟨_, _, sign_meth, ?_⟩
    apply k_bound_limit_sign
    unfold c_bound_limit_sign
    (try simp only [xl, xo, Bool.not_eq_true', decide_eq_false_iff_not, ite_not, List.size_toArray, List.length_cons, List.length_nil, Nat.reduceAdd, qt, decide_eq_true_eq, Int.toNat_zero, Int.toNat_natCast, Nat.zero_mul, Nat.mul_one, Nat.one_mul, List.toList_toArray, List.cons_append, List.nil_append, List.append_nil, true_and, and_true, Nat.zero_add, Nat.add_zero, Bool.not_true, Bool.not_false, if_true, if_false, reduceCtorEq, List.set_cons_zero, List.set_cons_succ])
    refine h_allocA hh fun lb H3 hh => ?_
    (repeat (first | (refine h_load hh (by rfl) ?_) | (simp only [xl, xo, Bool.not_eq_true', decide_eq_false_iff_not, ite_not, List.size_toArray, List.length_cons, List.length_nil, Nat.reduceAdd, qt, decide_eq_true_eq, Int.toNat_zero, Int.toNat_natCast, Nat.zero_mul, Nat.mul_one, Nat.one_mul, List.toList_toArray, List.cons_append, List.nil_append, List.append_nil, true_and, and_true, Nat.zero_add, Nat.add_zero, Bool.not_true, Bool.not_false, if_true, if_false, reduceCtorEq, List.set_cons_zero, List.set_cons_succ])))
    refine cmp_Compare_int_k ?_
    (try simp only [xl, xo, Bool.not_eq_true', decide_eq_false_iff_not, ite_not, List.size_toArray, List.length_cons, List.length_nil, Nat.reduceAdd, qt, decide_eq_true_eq, Int.toNat_zero, Int.toNat_natCast, Nat.zero_mul, Nat.mul_one, Nat.one_mul, List.toList_toArray, List.cons_append, List.nil_append, List.append_nil, true_and, and_true, Nat.zero_add, Nat.add_zero, Bool.not_true, Bool.not_false, if_true, if_false, reduceCtorEq, List.set_cons_zero, List.set_cons_succ])
    rw [show IntKind.i64.wrap (0 - sign) = - sign by rcases hs with rfl | rfl <;> rfl]
    exact hK _ hh.right.right


theorem behind_lo (n : Int) (b : Bnd) : behind (cmpI n b.n) b.inf b.out 1 = inLo n b := by
  unfold behind inLo cmpI
  by_cases h : b.inf = 0
  · simp only [h, if_true]
    by_cases h1 : n < b.n
    · simp [h1, show ¬ b.n < n by omega, show ¬ n = b.n by omega]
    · by_cases h2 : b.n < n
      · simp [h1, h2]
      · simp [h1, h2, show n = b.n by omega]
  · simp only [h, if_false]
    by_cases h1 : b.inf < 0
    · simp [h1]
    · simp [h1, show 0 < b.inf by omega, h]
theorem behind_hi (n : Int) (b : Bnd) : behind (cmpI n b.n) b.inf b.out (-1) = inHi n b := by
  unfold behind inHi cmpI
  by_cases h : b.inf = 0
  · simp only [h, if_true]
    by_cases h1 : n < b.n
    · simp [h1]
    · by_cases h2 : b.n < n
      · simp [h1, h2, show ¬ n = b.n by omega]
      · simp [h1, h2, show n = b.n by omega]
  · simp only [h, if_false]
    by_cases h1 : b.inf < 0
    · simp [h1, show ¬ 0 < b.inf by omega, h]
    · simp [h1, show 0 < b.inf by omega]
theorem behind_loS (n : ByteArray) (b : Edg) : behind (cmpS n b.s) b.inf b.out 1 = inLoS n b := by
  unfold behind inLoS cmpS
  by_cases h : b.inf = 0
  · simp only [h, if_true]
    rcases bl_tri n b.s with h1 | h1 | h1
    · simp [h1, bl_asymm h1, bl_ne h1]
    · subst h1; simp [bl_irr]
    · simp [h1, bl_asymm h1]
  · simp only [h, if_false, cmpI]
    by_cases h1 : b.inf < 0
    · simp [h1]
    · simp [h1, show 0 < b.inf by omega, h]
theorem behind_hiS (n : ByteArray) (b : Edg) : behind (cmpS n b.s) b.inf b.out (-1) = inHiS n b := by
  unfold behind inHiS cmpS
  by_cases h : b.inf = 0
  · simp only [h, if_true]
    rcases bl_tri n b.s with h1 | h1 | h1
    · simp [h1]
    · subst h1; simp [bl_irr]
    · simp [h1, bl_asymm h1, (bl_ne h1).symm]
  · simp only [h, if_false, cmpI]
    by_cases h1 : b.inf < 0
    · simp [h1, show ¬ 0 < b.inf by omega, h]
    · simp [h1, show 0 < b.inf by omega]

theorem bound_In_h {x : Int} {a b : Bnd} {m : Mem} (hh : Has H m) (hK : ∀ H', Has H' m → K (.bool (inLo x a && inHi x b)) H') : CallH P f_bound_In [.int .i64 x, bndV a, bndV b] H K := by
  apply k_bound_In
  unfold c_bound_In
  (try simp only [xl, xo, Bool.not_eq_true', decide_eq_false_iff_not, ite_not, List.size_toArray, List.length_cons, List.length_nil, Nat.reduceAdd, qt, decide_eq_true_eq, Int.toNat_zero, Int.toNat_natCast, Nat.zero_mul, Nat.mul_one, Nat.one_mul, List.toList_toArray, List.cons_append, List.nil_append, List.append_nil, true_and, and_true, Nat.zero_add, Nat.add_zero, Bool.not_true, Bool.not_false, if_true, if_false, reduceCtorEq, List.set_cons_zero, List.set_cons_succ])
  refine h_allocA hh fun fb H1 hh => ?_
  refine h_allocA hh fun tb H2 hh => ?_
  (repeat (first | (refine h_load hh (by rfl) ?_) | (simp only [xl, xo, Bool.not_eq_true', decide_eq_false_iff_not, ite_not, List.size_toArray, List.length_cons, List.length_nil, Nat.reduceAdd, qt, decide_eq_true_eq, Int.toNat_zero, Int.toNat_natCast, Nat.zero_mul, Nat.mul_one, Nat.one_mul, List.toList_toArray, List.cons_append, List.nil_append, List.append_nil, true_and, and_true, Nat.zero_add, Nat.add_zero, Bool.not_true, Bool.not_false, if_true, if_false, reduceCtorEq, List.set_cons_zero, List.set_cons_succ])))
  refine bound_of_k ?_
  refine ⟨h_loadIs hh rfl, ?_⟩
  refine bound_isBehind_int64_h (.inl rfl) hh fun H3 hh => ?_
  rw [behind_lo]
  cases h1 : inLo x a with
  | false =>
    (try simp only [xl, xo, Bool.not_eq_true', decide_eq_false_iff_not, ite_not, List.size_toArray, List.length_cons, List.length_nil, Nat.reduceAdd, qt, decide_eq_true_eq, Int.toNat_zero, Int.toNat_natCast, Nat.zero_mul, Nat.mul_one, Nat.one_mul, List.toList_toArray, List.cons_append, List.nil_append, List.append_nil, true_and, and_true, Nat.zero_add, Nat.add_zero, Bool.not_true, Bool.not_false, if_true, if_false, reduceCtorEq, List.set_cons_zero, List.set_cons_succ])
    rw [h1] at hK
    exact hK _ hh.right.right
  | true =>
    rw [h1] at hK
    (repeat (first | (refine h_load hh (by rfl) ?_) | (simp only [xl, xo, Bool.not_eq_true', decide_eq_false_iff_not, ite_not, List.size_toArray, List.length_cons, List.length_nil, Nat.reduceAdd, qt, decide_eq_true_eq, Int.toNat_zero, Int.toNat_natCast, Nat.zero_mul, Nat.mul_one, Nat.one_mul, List.toList_toArray, List.cons_append, List.nil_append, List.append_nil, true_and, and_true, Nat.zero_add, Nat.add_zero, Bool.not_true, Bool.not_false, if_true, if_false, reduceCtorEq, List.set_cons_zero, List.set_cons_succ])))
    refine bound_of_k ?_
    refine ⟨h_loadIs hh rfl, ?_⟩
    refine bound_isBehind_int64_h (.inr rfl) hh fun H4 hh => ?_
    rw [behind_hi]
    simp only [Bool.true_and] at hK
    exact hK _ hh.right.right

theorem bound_InEdge_h {x : ByteArray} {a b : Edg} {m : Mem} (hh : Has H m) (hK : ∀ H', Has H' m → K (.bool (inLoS x a && inHiS x b)) H') : CallH P f_bound_InEdge [.string x, edgV a, edgV b] H K := by
  apply k_bound_InEdge
  unfold c_bound_InEdge
  (try simp only [xl, xo, Bool.not_eq_true', decide_eq_false_iff_not, ite_not, List.size_toArray, List.length_cons, List.length_nil, Nat.reduceAdd, qt, decide_eq_true_eq, Int.toNat_zero, Int.toNat_natCast, Nat.zero_mul, Nat.mul_one, Nat.one_mul, List.toList_toArray, List.cons_append, List.nil_append, List.append_nil, true_and, and_true, Nat.zero_add, Nat.add_zero, Bool.not_true, Bool.not_false, if_true, if_false, reduceCtorEq, List.set_cons_zero, List.set_cons_succ])
  refine h_allocA hh fun fb H1 hh => ?_
  refine h_allocA hh fun tb H2 hh => ?_
  (repeat (first | (refine h_load hh (by rfl) ?_) | (simp only [xl, xo, Bool.not_eq_true', decide_eq_false_iff_not, ite_not, List.size_toArray, List.length_cons, List.length_nil, Nat.reduceAdd, qt, decide_eq_true_eq, Int.toNat_zero, Int.toNat_natCast, Nat.zero_mul, Nat.mul_one, Nat.one_mul, List.toList_toArray, List.cons_append, List.nil_append, List.append_nil, true_and, and_true, Nat.zero_add, Nat.add_zero, Bool.not_true, Bool.not_false, if_true, if_false, reduceCtorEq, List.set_cons_zero, List.set_cons_succ])))
  refine bound_of_k ?_
  refine ⟨h_loadIs hh rfl, ?_⟩
  refine bound_isBehind_string_h (.inl rfl) hh fun H3 hh => ?_
  rw [behind_loS]
  cases h1 : inLoS x a with
  | false =>
    (try simp only [xl, xo, Bool.not_eq_true', decide_eq_false_iff_not, ite_not, List.size_toArray, List.length_cons, List.length_nil, Nat.reduceAdd, qt, decide_eq_true_eq, Int.toNat_zero, Int.toNat_natCast, Nat.zero_mul, Nat.mul_one, Nat.one_mul, List.toList_toArray, List.cons_append, List.nil_append, List.append_nil, true_and, and_true, Nat.zero_add, Nat.add_zero, Bool.not_true, Bool.not_false, if_true, if_false, reduceCtorEq, List.set_cons_zero, List.set_cons_succ])
    rw [h1] at hK
    exact hK _ hh.right.right
  | true =>
    rw [h1] at hK
    (repeat (first | (refine h_load hh (by rfl) ?_) | (simp only [xl, xo, Bool.not_eq_true', decide_eq_false_iff_not, ite_not, List.size_toArray, List.length_cons, List.length_nil, Nat.reduceAdd, qt, decide_eq_true_eq, Int.toNat_zero, Int.toNat_natCast, Nat.zero_mul, Nat.mul_one, Nat.one_mul, List.toList_toArray, List.cons_append, List.nil_append, List.append_nil, true_and, and_true, Nat.zero_add, Nat.add_zero, Bool.not_true, Bool.not_false, if_true, if_false, reduceCtorEq, List.set_cons_zero, List.set_cons_succ])))
    refine bound_of_k ?_
    refine ⟨h_loadIs hh rfl, ?_⟩
    refine bound_isBehind_string_h (.inr rfl) hh fun H4 hh => ?_
    rw [behind_hiS]
    simp only [Bool.true_and] at hK
    exact hK _ hh.right.right

end Go.X.W
set_option linter.unusedVariables false
set_option linter.unusedSimpArgs false
namespace Go.X.W
open Go Go.X Go.Proofs

theorem splice_all : ∀ (vs cs : List Value) (o : Nat), cs.length = o + vs.length → spliceL cs o vs = cs.take o ++ vs
  | [], cs, o, h => by rw [spliceL, List.append_nil, List.take_of_length_le (by simpa using Nat.le_of_eq h)]
  | v :: vs, cs, o, h => by
    simp only [List.length_cons] at h
    rw [spliceL, splice_all vs _ (o + 1) (by rw [List.length_set]; omega)]
    apply List.ext_getElem?
    intro i
    simp only [List.getElem?_append, List.length_take, List.length_set, List.getElem?_take, List.getElem?_set]
    rw [show min (o + 1) cs.length = o + 1 by omega, show min o cs.length = o by omega]
    by_cases h1 : i < o
    · rw [if_pos (show i < o + 1 by omega), if_pos (show i < o + 1 by omega), if_pos h1, if_neg (show ¬ o = i by omega), if_pos h1]
    · by_cases h2 : i = o
      · subst h2; rw [if_pos (show i < i + 1 by omega), if_pos (show i < i + 1 by omega), if_neg h1, if_pos rfl, if_pos (show i < cs.length by omega)]
        simp
      · rw [if_neg (show ¬ i < o + 1 by omega), if_neg h1]
        obtain ⟨j, rfl⟩ : ∃ j, i = o + 1 + j := ⟨i - (o + 1), by omega⟩
        rw [show o + 1 + j - (o + 1) = j by omega, show o + 1 + j - o = j + 1 by omega, List.getElem?_cons_succ]

section
variable {H : Heap} {m r : Mem} {b n : Nat} {cs vs : List Value}
theorem h_loadAll {K : Value → Prop} [p : PickC b m cs r] (h : Has H m) (hn : cs.length = n) (hk : K (.agg cs.toArray)) : LoadP (some n) H (.pointer (some ⟨b, 0, none⟩)) K := by
  refine h_loadN (b := b) h (by omega) ?_
  rw [List.drop_zero, List.take_of_length_le (by omega)]
  exact hk
theorem h_loadAllIs [p : PickC b m cs r] (h : Has H m) (hn : cs.length = n) : LoadIs (some n) H (.pointer (some ⟨b, 0, none⟩)) (.agg cs.toArray) := by
  have := h_loadNIs (b := b) (o := 0) (n := n) h (by omega)
  rwa [List.drop_zero, List.take_of_length_le (by omega)] at this
theorem h_storeAll {K : Heap → Prop} [p : PickC b m cs r] (h : Has H m) (hn : cs.length = n) (hv : vs.length = n) (ho : ∀ v ∈ vs, v.oneCell = true) (hk : ∀ H', Has H' (cell b vs + r) → K H') : StoreP (some n) H (.pointer (some ⟨b, 0, none⟩)) (.agg vs.toArray) K := by
  refine h_storeN (b := b) h (by simpa using hv) (by simpa using ho) (by omega) fun H' hh => hk H' ?_
  rw [splice_all _ _ 0 (by simp; omega)] at hh
  simpa using hh
end

/-- A node of a list: its block, its entry, its height, its cells. -/
structure SNode where
  b : Nat
  e : Ent
  h : Nat
  cs : List Value

abbrev ptrV (b : Nat) : Value := .pointer (some ⟨b, 0, none⟩)
/-- A level's next node, and how far it is. -/
def nxt (i : Nat) : List SNode → Value × Nat
  | [] => (nilV, 0)
  | x :: l => if i < x.h then (ptrV x.b, 1) else ((nxt i l).1, (nxt i l).2 + 1)

theorem nxt_spec (i : Nat) : ∀ l : List SNode, (nxt i l = (nilV, l.length) ∧ ∀ x ∈ l, x.h ≤ i) ∨ ∃ l1 x l2, l = l1 ++ x :: l2 ∧ (∀ y ∈ l1, y.h ≤ i) ∧ i < x.h ∧ nxt i l = (ptrV x.b, l1.length + 1)
  | [] => .inl ⟨rfl, by simp⟩
  | x :: l => by
    unfold nxt
    by_cases h : i < x.h
    · exact .inr ⟨[], x, l, rfl, by simp, h, by rw [if_pos h]; rfl⟩
    · rw [if_neg h]
      rcases nxt_spec i l with ⟨h1, h2⟩ | ⟨l1, y, l2, h1, h2, h3, h4⟩
      · left
        refine ⟨by rw [h1]; rfl, fun y hy => ?_⟩
        rcases List.mem_cons.1 hy with rfl | hy
        · omega
        · exact h2 y hy
      · right
        refine ⟨x :: l1, y, l2, by rw [h1]; rfl, fun z hz => ?_, h3, by rw [h4]; rfl⟩
        rcases List.mem_cons.1 hz with rfl | hz
        · omega
        · exact h2 z hz

/-- What is right about the cells from which a level's links are read. -/
def LinkOk (cs : List Value) (h : Nat) (rest : List SNode) : Prop := ∀ i, i < h → cs[2 + i * 2]? = some (nxt i rest).1 ∧ cs[2 + i * 2 + 1]? = some (.int .i64 (nxt i rest).2)
structure NodeOk (x : SNode) (rest : List SNode) : Prop where
  len : x.cs.length = 68
  e0 : x.cs[0]? = some (.string x.e.1)
  e1 : x.cs[1]? = some (.int .i64 x.e.2)
  lv : x.cs[66]? = some (.int .i64 x.h)
  bk : ∃ a, x.cs[67]? = some (.pointer a)
  hb : 1 ≤ x.h ∧ x.h ≤ 32
  lk : LinkOk x.cs x.h rest
def NodesOk : List SNode → Prop
  | [] => True
  | x :: l => NodeOk x l ∧ NodesOk l
structure SkOk (hd : List Value) (lv : Nat) (S : List SNode) : Prop where
  len : hd.length = 71
  last : ∃ a, hd[68]? = some (.pointer a)
  lvc : hd[69]? = some (.int .i64 lv)
  nc : hd[70]? = some (.int .i64 S.length)
  l32 : lv ≤ 32
  hs : ∀ x ∈ S, x.h ≤ lv
  lk : LinkOk hd lv S
  nodes : NodesOk S
  big : S.length < 1000000

theorem NodesOk.get : ∀ {S : List SNode} {k : Nat} {x : SNode}, NodesOk S → S[k]? = some x → NodeOk x (S.drop (k + 1))
  | y :: S, 0, x, h, e => by simp only [List.getElem?_cons_zero, Option.some.injEq] at e; subst e; exact h.1
  | y :: S, k + 1, x, h, e => by simp only [List.getElem?_cons_succ] at e; exact (NodesOk.get (S := S) (k := k) h.2 e : NodeOk x (S.drop (k + 1)))

noncomputable def nodesM : List SNode → Mem
  | [] => emp
  | x :: l => cell x.b x.cs + nodesM l
noncomputable def listM (b : Nat) (hd : List Value) (S : List SNode) : Mem := cell b hd + nodesM S

theorem nodesM_append : ∀ (A B : List SNode), nodesM (A ++ B) = nodesM A + nodesM B
  | [], B => by rw [List.nil_append, nodesM, emp_add]
  | x :: A, B => by rw [List.cons_append, nodesM, nodesM, nodesM_append A B, mem_assoc]
theorem nodesM_get {S : List SNode} {k : Nat} {x : SNode} (h : S[k]? = some x) : nodesM S = cell x.b x.cs + (nodesM (S.take k) + nodesM (S.drop (k + 1))) := by
  have hk : k < S.length := (List.getElem?_eq_some_iff.1 h).1
  have e : S = S.take k ++ x :: S.drop (k + 1) := by
    have h2 : S[k] = x := (List.getElem?_eq_some_iff.1 h).2
    rw [← h2, ← List.drop_eq_getElem_cons hk, List.take_append_drop]
  conv => lhs; rw [e, nodesM_append, nodesM]
  ac_rfl

/-- The block of a place: 0 is the head. -/
def posb (b : Nat) (S : List SNode) (p : Nat) : Nat := if p = 0 then b else match S[p - 1]? with | some x => x.b | none => b
def posh (lv : Nat) (S : List SNode) (p : Nat) : Nat := if p = 0 then lv else match S[p - 1]? with | some x => x.h | none => 0

theorem posb_succ {b p : Nat} {S : List SNode} {x : SNode} (h : S[p]? = some x) : posb b S (p + 1) = x.b := by simp [posb, h]
theorem posh_succ {lv p : Nat} {S : List SNode} {x : SNode} (h : S[p]? = some x) : posh lv S (p + 1) = x.h := by simp [posh, h]

/-- The cells of a place. -/
theorem pos_blk {H : Heap} {b lv : Nat} {hd : List Value} {S : List SNode} {m : Mem} (hh : Has H (listM b hd S + m)) (ok : SkOk hd lv S) {p : Nat} (hp : p ≤ S.length) :
    ∃ cs, Blk H (posb b S p) cs ∧ LinkOk cs (posh lv S p) (S.drop p) := by
  cases p with
  | zero => exact ⟨hd, (hh.left.left.blk : Blk H b hd), ok.lk⟩
  | succ p =>
    have hg : S[p]? = some (S[p]'(by omega)) := List.getElem?_eq_getElem (by omega)
    generalize S[p]'(by omega) = x at hg
    rw [posb_succ hg, posh_succ hg]
    have h2 := hh.left.right
    rw [nodesM_get hg] at h2
    exact ⟨x.cs, h2.blk, (ok.nodes.get hg).lk⟩

/-- A level's last place that is not behind c. -/
def lastP (S : List SNode) (i : Nat) : Nat → Nat
  | 0 => 0
  | c + 1 => if i < posh 0 S (c + 1) then c + 1 else lastP S i c
theorem lastP_le (S : List SNode) (i : Nat) : ∀ c, lastP S i c ≤ c
  | 0 => Nat.le_refl _
  | c + 1 => by unfold lastP; split; omega; exact Nat.le_trans (lastP_le S i c) (by omega)
theorem lastP_h (S : List SNode) (i : Nat) : ∀ c, lastP S i c = 0 ∨ i < posh 0 S (lastP S i c)
  | 0 => .inl rfl
  | c + 1 => by
    unfold lastP; split
    · right; assumption
    · exact lastP_h S i c
theorem lastP_max (S : List SNode) (i : Nat) : ∀ c q, q ≤ c → i < posh 0 S q → q ≤ lastP S i c
  | 0, q, h, hi => by omega
  | c + 1, q, h, hi => by
    unfold lastP
    split
    · omega
    · rename_i hn
      by_cases e : q = c + 1
      · subst e; exact absurd hi hn
      · exact lastP_max S i c q (by omega) hi
theorem posh_any {lv p : Nat} (S : List SNode) (hp : p ≠ 0) : posh lv S p = posh 0 S p := by simp [posh, hp]
theorem lastP_eq {S : List SNode} {i c p : Nat} (hpc : p ≤ c) (hp : p = 0 ∨ i < posh 0 S p) (hno : ∀ q, p < q → q ≤ c → ¬ i < posh 0 S q) : lastP S i c = p := by
  have h1 := lastP_le S i c
  rcases Nat.lt_trichotomy (lastP S i c) p with h | h | h
  · rcases hp with rfl | hp
    · omega
    · have := lastP_max S i c p hpc hp; omega
  · exact h
  · rcases lastP_h S i c with h2 | h2
    · omega
    · exact absurd h2 (hno _ h h1)

/-- The arrays of a path. -/
def pathN (b : Nat) (S : List SNode) (c k lv : Nat) : List Value := (List.range 32).map fun j => if k ≤ j ∧ j < lv then ptrV (posb b S (lastP S j c)) else nilV
def pathP (S : List SNode) (c k lv : Nat) : List Value := (List.range 32).map fun j => if k ≤ j ∧ j < lv then .int .i64 (lastP S j c : Nat) else .int .i64 0
theorem pathN_len (b : Nat) (S : List SNode) (c k lv : Nat) : (pathN b S c k lv).length = 32 := by simp [pathN]
theorem pathP_len (S : List SNode) (c k lv : Nat) : (pathP S c k lv).length = 32 := by simp [pathP]
theorem pathN_oc (b : Nat) (S : List SNode) (c k lv : Nat) : ∀ v ∈ pathN b S c k lv, v.oneCell = true := by
  intro v hv
  obtain ⟨j, _, rfl⟩ := List.mem_map.1 hv
  split <;> rfl
theorem pathP_oc (S : List SNode) (c k lv : Nat) : ∀ v ∈ pathP S c k lv, v.oneCell = true := by
  intro v hv
  obtain ⟨j, _, rfl⟩ := List.mem_map.1 hv
  split <;> rfl
theorem pathN_all (b : Nat) (S : List SNode) (c lv : Nat) : pathN b S c lv lv = List.replicate 32 nilV := by
  unfold pathN
  rw [List.map_congr_left (g := fun _ => nilV) (fun j _ => by rw [if_neg (by omega)])]
  rfl
theorem pathP_all (S : List SNode) (c lv : Nat) : pathP S c lv lv = List.replicate 32 (.int .i64 0) := by
  unfold pathP
  rw [List.map_congr_left (g := fun _ => .int .i64 0) (fun j _ => by rw [if_neg (by omega)])]
  rfl
theorem pathN_set {b c k lv : Nat} {S : List SNode} (hk : k < lv) (h32 : lv ≤ 32) : (pathN b S c (k + 1) lv).set k (ptrV (posb b S (lastP S k c))) = pathN b S c k lv := by
  apply List.ext_getElem?
  intro j
  unfold pathN
  rw [List.getElem?_set, List.length_map, List.length_range, List.getElem?_map, List.getElem?_map]
  by_cases hj : j < 32
  · rw [List.getElem?_range hj]
    simp only [Option.map_some]
    by_cases e : k = j
    · subst e; rw [if_pos rfl, if_pos hj, if_pos (by omega)]
    · rw [if_neg e]
      by_cases h2 : k ≤ j ∧ j < lv
      · rw [if_pos h2, if_pos (by omega)]
      · rw [if_neg h2, if_neg (by omega)]
  · rw [if_neg (by omega), List.getElem?_eq_none (by simpa using hj)]
    rfl
theorem pathP_set {c k lv : Nat} {S : List SNode} (hk : k < lv) (h32 : lv ≤ 32) : (pathP S c (k + 1) lv).set k (.int .i64 (lastP S k c : Nat)) = pathP S c k lv := by
  apply List.ext_getElem?
  intro j
  unfold pathP
  rw [List.getElem?_set, List.length_map, List.length_range, List.getElem?_map, List.getElem?_map]
  by_cases hj : j < 32
  · rw [List.getElem?_range hj]
    simp only [Option.map_some]
    by_cases e : k = j
    · subst e; rw [if_pos rfl, if_pos hj, if_pos (by omega)]
    · rw [if_neg e]
      by_cases h2 : k ≤ j ∧ j < lv
      · rw [if_pos h2, if_pos (by omega)]
      · rw [if_neg h2, if_neg (by omega)]
  · rw [if_neg (by omega), List.getElem?_eq_none (by simpa using hj)]
    rfl
theorem pathN_get {b c lv i : Nat} {S : List SNode} (hi : i < lv) (h32 : lv ≤ 32) : (pathN b S c 0 lv)[i]? = some (ptrV (posb b S (lastP S i c))) := by
  unfold pathN
  rw [List.getElem?_map, List.getElem?_range (by omega), Option.map_some, if_pos (by omega)]
theorem pathP_get {c lv i : Nat} {S : List SNode} (hi : i < lv) (h32 : lv ≤ 32) : (pathP S c 0 lv)[i]? = some (.int .i64 (lastP S i c : Nat)) := by
  unfold pathP
  rw [List.getElem?_map, List.getElem?_range (by omega), Option.map_some, if_pos (by omega)]

/-- Backward over a piece of an array. -/
theorem back_i {l sb nb n c : Nat} {H : Heap} {K : Value → Heap → Prop} (Inv : Nat → Heap → Prop) (hn : n ≤ 32)
    (hx : ∀ k H, Inv k H → Blk H sb [.slice (some ⟨nb, 0, none⟩) n c] ∧ ∃ cs, Blk H nb cs ∧ cs.length = 32)
    (hY : ∀ k v H, k < n → Inv (k + 1) H → YieldH P l [.int .i64 k, v] H fun u H' => u = .bool true ∧ Inv k H') (h0 : Inv n H) (hK : ∀ H', Inv 0 H' → K (.tuple #[]) H') :
    CallH P f_slices_Backward_s_p_skip_node_p_skip_node_1 [.func (.yield l) #[] #[], .pointer (some ⟨sb, 0, none⟩)] H K := by
  apply k_slices_Backward_s_p_skip_node_p_skip_node_1
  unfold c_slices_Backward_s_p_skip_node_p_skip_node_1
  refine (hx n H h0).1.load rfl ?_
  (try simp only [xl, xo, Bool.not_eq_true', decide_eq_false_iff_not, ite_not, List.size_toArray, List.length_cons, List.length_nil, Nat.reduceAdd, qt, decide_eq_true_eq, Int.toNat_zero, Int.toNat_natCast, Nat.zero_mul, Nat.mul_one, Nat.one_mul, List.toList_toArray, List.cons_append, List.nil_append, List.append_nil, true_and, and_true, Nat.zero_add, Nat.add_zero, Bool.not_true, Bool.not_false, if_true, if_false, reduceCtorEq, List.set_cons_zero, List.set_cons_succ])
  refine loop_i (fun k s H' => s = (.int .i64 ((k : Int) - 1), []) ∧ k ≤ n ∧ Inv k H') n ⟨by rw [w64 (by omega)], Nat.le_refl _, h0⟩ ?_
  rintro k _ g H' ⟨rfl, hkn, hi⟩
  (try simp only [xl, xo, Bool.not_eq_true', decide_eq_false_iff_not, ite_not, List.size_toArray, List.length_cons, List.length_nil, Nat.reduceAdd, qt, decide_eq_true_eq, Int.toNat_zero, Int.toNat_natCast, Nat.zero_mul, Nat.mul_one, Nat.one_mul, List.toList_toArray, List.cons_append, List.nil_append, List.append_nil, true_and, and_true, Nat.zero_add, Nat.add_zero, Bool.not_true, Bool.not_false, if_true, if_false, reduceCtorEq, List.set_cons_zero, List.set_cons_succ])
  obtain ⟨x1, cs, x2, x3⟩ := hx k H' hi
  cases k with
  | zero =>
    rw [if_neg (by simp)]
    exact hK H' hi
  | succ k =>
    rw [if_pos (by omega)]
    refine x1.load rfl ?_
    (try simp only [xl, xo, Bool.not_eq_true', decide_eq_false_iff_not, ite_not, List.size_toArray, List.length_cons, List.length_nil, Nat.reduceAdd, qt, decide_eq_true_eq, Int.toNat_zero, Int.toNat_natCast, Nat.zero_mul, Nat.mul_one, Nat.one_mul, List.toList_toArray, List.cons_append, List.nil_append, List.append_nil, true_and, and_true, Nat.zero_add, Nat.add_zero, Bool.not_true, Bool.not_false, if_true, if_false, reduceCtorEq, List.set_cons_zero, List.set_cons_succ])
    refine ⟨by omega, ?_⟩
    have e1 : ((k + 1 : Nat) : Int) - 1 = (k : Int) := by omega
    rw [e1]
    refine x2.load (x := cs[k]'(by omega)) (by rw [Int.toNat_natCast]; exact List.getElem?_eq_getElem (by omega)) ?_
    refine YieldH.mono (hY k _ H' (by omega) hi) ?_
    rintro u H2 ⟨rfl, h2⟩
    (try simp only [xl, xo, Bool.not_eq_true', decide_eq_false_iff_not, ite_not, List.size_toArray, List.length_cons, List.length_nil, Nat.reduceAdd, qt, decide_eq_true_eq, Int.toNat_zero, Int.toNat_natCast, Nat.zero_mul, Nat.mul_one, Nat.one_mul, List.toList_toArray, List.cons_append, List.nil_append, List.append_nil, true_and, and_true, Nat.zero_add, Nat.add_zero, Bool.not_true, Bool.not_false, if_true, if_false, reduceCtorEq, List.set_cons_zero, List.set_cons_succ])
    exact ⟨k, by omega, by rw [w64 (by omega)], by omega, h2⟩
end Go.X.W
