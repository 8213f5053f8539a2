/- Contracts: a list of levels: path. Contracts: a list of levels: to, until, Seek, Len, within, New. Contracts: a list of levels: nodes, Range. A list of levels whose links are changed, level by level. A list of levels: one node more, one node less; plain facts. A list of levels: links behind a node more, a node less. A list of levels: what stays where links are changed. -/
import Derived.Test.YtochkahbnhegaaaGreatZS12
import Derived.Test.YtochkahbnhegaaaGreatZS11
set_option linter.unusedVariables false
set_option linter.unusedSimpArgs false
namespace Go.X.W
open Go Go.X Go.Proofs

theorem CallV.mono {f : Value} {args : List Value} {H : Heap} {K K' : Value → Heap → Prop} (h : CallV P f args H K) (hk : ∀ v H', K v H' → K' v H') : CallV P f args H K' := by
  cases f with
  | func f a c =>
    cases f with
    | func g => exact CallH.mono (P := P) h hk
    | yield l => exact YieldH.mono (P := P) h hk
    | _ => exact h.elim
  | _ => exact h.elim

theorem h_ret1 {D : Nat} {H : Heap} {m r : Mem} {A : Heap → Prop} [p : PickO D m (.deferred (some [])) r] (hh : Has H m) (hA : ∀ H', Has H' r → A H') : RetP (dsL [D]) H A := by
  refine h_ret [D] (m := r) ?_ hA
  rw [p.eq] at hh
  rw [dsM, dsM, add_emp]
  exact hh

theorem zp32 : (zeroT P T_a32_p_skip_node).cells = (List.replicate 32 nilV).toArray := by rw [ze_a32_p_skip_node]; rfl
theorem zi32 : (zeroT P T_a32_int).cells = (List.replicate 32 (Value.int .i64 0)).toArray := by rw [ze_a32_int]; rfl

theorem list_blk {H : Heap} {m r : Mem} (b : Nat) (hd : List Value) (S : List SNode) [p : Pick (listM b hd S) m r] (hh : Has H m) : Blk H b hd := (hh.front (listM b hd S)).left.left.blk

theorem drop_split {S l1 l2 : List SNode} {x : SNode} {p : Nat} (h : S.drop p = l1 ++ x :: l2) : S[p + l1.length]? = some x := by
  have := congrArg (fun l => l[l1.length]?) h
  simpa using this

theorem posh_drop {S l1 : List SNode} {p q : Nat} {i : Nat} {rest : List SNode} (h : S.drop p = l1 ++ rest) (hl : ∀ y ∈ l1, y.h ≤ i) (h1 : p < q) (h2 : q ≤ p + l1.length) : ¬ i < posh 0 S q := by
  obtain ⟨j, rfl⟩ : ∃ j, q = p + j + 1 := ⟨q - p - 1, by omega⟩
  have hj : j < l1.length := by omega
  have hg : S[p + j]? = some (l1[j]'hj) := by
    have := congrArg (fun l => l[j]?) h
    simp only [List.getElem?_drop] at this
    rw [this, List.getElem?_append_left hj, List.getElem?_eq_getElem hj]
  rw [posh_succ hg]
  have := hl _ (List.getElem_mem hj)
  omega

theorem skip_path_h {H : Heap} {b lv c : Nat} {hd : List Value} {S : List SNode} {fv : Value} {R m : Mem} {K : Value → Heap → Prop} (hfv : fv.oneCell = true) (hh : Has H (listM b hd S + (R + m))) (ok : SkOk hd lv S) (hc : c ≤ S.length)
    (hcb : ∀ p x m' H', S[p]? = some x → Has H' (listM b hd S + (R + m')) → CallV P fv [ptrV x.b, .int .i64 (p + 1 : Nat)] H' fun v H'' => v = .bool (decide (p + 1 ≤ c)) ∧ Has H'' (listM b hd S + (R + m')))
    (hK : ∀ H', Has H' (listM b hd S + (R + m)) → K (.tuple #[.agg (pathN b S c 0 lv).toArray, .agg (pathP S c 0 lv).toArray]) H') :
    CallH P f_skip_List_path [ptrV b, fv] H K := by
  apply k_skip_List_path
  unfold c_skip_List_path
  have hbig := ok.big
  have h32 := ok.l32
  rw [x_box, zp32, zi32]
  refine ⟨hfv, ?_⟩
  refine h_alloc hh fun ac H1 hh => ?_
  refine h_alloc hh fun t3 H2 hh => ?_
  refine h_alloc hh fun t5 H3 hh => ?_
  refine h_alloc hh fun nb H4 hh => ?_
  refine h_alloc hh fun qb H5 hh => ?_
  (repeat (first | (refine h_load hh (by rfl) ?_) | (simp only [xl, xo, Bool.not_eq_true', decide_eq_false_iff_not, ite_not, List.size_toArray, List.length_cons, List.length_nil, Nat.reduceAdd, qt, decide_eq_true_eq, Int.toNat_zero, Int.toNat_natCast, Nat.zero_mul, Nat.mul_one, Nat.one_mul, List.toList_toArray, List.cons_append, List.nil_append, List.append_nil, true_and, and_true, Nat.zero_add, Nat.add_zero, Bool.not_true, Bool.not_false, if_true, if_false, reduceCtorEq, List.set_cons_zero, List.set_cons_succ])))
  refine h_alloc hh fun xb H6 hh => ?_
  refine h_alloc hh fun pb H7 hh => ?_
  refine h_store hh (by rfl) (by simp) fun H8 hh => ?_; (try simp only [List.set_cons_zero, List.set_cons_succ] at hh)
  refine h_store hh (by rfl) (by simp) fun H9 hh => ?_; (try simp only [List.set_cons_zero, List.set_cons_succ] at hh)
  (repeat (first | (refine h_load hh (by rfl) ?_) | (simp only [xl, xo, Bool.not_eq_true', decide_eq_false_iff_not, ite_not, List.size_toArray, List.length_cons, List.length_nil, Nat.reduceAdd, qt, decide_eq_true_eq, Int.toNat_zero, Int.toNat_natCast, Nat.zero_mul, Nat.mul_one, Nat.one_mul, List.toList_toArray, List.cons_append, List.nil_append, List.append_nil, true_and, and_true, Nat.zero_add, Nat.add_zero, Bool.not_true, Bool.not_false, if_true, if_false, reduceCtorEq, List.set_cons_zero, List.set_cons_succ])))
  refine (list_blk b hd S hh).load ok.lvc ?_
  refine ⟨32, lv, 0, rfl, by simp, ⟨by omega, by simp⟩, rfl, ?_⟩
  simp only [Nat.reduceEqDiff, if_false, Nat.zero_mul, addr_add, Nat.sub_zero, Nat.add_zero]
  apply k_slices_Backward_s_p_skip_node_p_skip_node
  unfold c_slices_Backward_s_p_skip_node_p_skip_node
  (try simp only [xl, xo, Bool.not_eq_true', decide_eq_false_iff_not, ite_not, List.size_toArray, List.length_cons, List.length_nil, Nat.reduceAdd, qt, decide_eq_true_eq, Int.toNat_zero, Int.toNat_natCast, Nat.zero_mul, Nat.mul_one, Nat.one_mul, List.toList_toArray, List.cons_append, List.nil_append, List.append_nil, true_and, and_true, Nat.zero_add, Nat.add_zero, Bool.not_true, Bool.not_false, if_true, if_false, reduceCtorEq, List.set_cons_zero, List.set_cons_succ])
  refine h_alloc hh fun sb H10 hh => ?_
  refine h_range hh fun D l L G hh hst hpd hY => ?_
  (try simp only [xl, xo, Bool.not_eq_true', decide_eq_false_iff_not, ite_not, List.size_toArray, List.length_cons, List.length_nil, Nat.reduceAdd, qt, decide_eq_true_eq, Int.toNat_zero, Int.toNat_natCast, Nat.zero_mul, Nat.mul_one, Nat.one_mul, List.toList_toArray, List.cons_append, List.nil_append, List.append_nil, true_and, and_true, Nat.zero_add, Nat.add_zero, Bool.not_true, Bool.not_false, if_true, if_false, reduceCtorEq, List.set_cons_zero, List.set_cons_succ])
  refine back_i (c := 32) (H := G) (fun k Q => ∃ p, p ≤ c ∧ (p = 0 ∨ k < posh 0 S p) ∧ Has Q (listM b hd S + (R + (cell xb [ptrV (posb b S p)] + (cell pb [.int .i64 (p : Nat)] + (cell nb (pathN b S c k lv) + (cell qb (pathP S c k lv) +
      (cell ac [fv] + (cell sb [.slice (some ⟨nb, 0, none⟩) lv 32] + (cell t3 (List.replicate 32 nilV) + (cell t5 (List.replicate 32 (.int .i64 0)) + (objM l (.loop L) + (objM D (.deferred (some [])) + m))))))))))))) h32
    (fun k Q ⟨p, _, _, hh⟩ => ⟨hh.blk, _, hh.blk (b := nb), pathN_len _ _ _ _ _⟩) ?_ ⟨0, by omega, .inl rfl, hh.to ?_⟩ ?_
  · rintro k v Q hk ⟨p, hp, hph, hh⟩
    refine hY (.int .i64 k, v) Q _ hh.obj ?_
    refine h_begin hh hst fun Q1 hh => ?_
    unfold JoinP
    refine loop_i (fun j s Q' => s = ((), []) ∧ ∃ p, p ≤ c ∧ (p = 0 ∨ k < posh 0 S p) ∧ j = c - p ∧ Has Q' (listM b hd S + (R + (cell xb [ptrV (posb b S p)] + (cell pb [.int .i64 (p : Nat)] + (cell nb (pathN b S c (k + 1) lv) + (cell qb (pathP S c (k + 1) lv) +
      (cell ac [fv] + (cell sb [.slice (some ⟨nb, 0, none⟩) lv 32] + (cell t3 (List.replicate 32 nilV) + (cell t5 (List.replicate 32 (.int .i64 0)) + (objM l (.loop { L with state := .busy }) + (objM D (.deferred (some [])) + m))))))))))))) (c - p)
      ⟨rfl, p, hp, hph.imp_right (by omega), rfl, hh.to (by ac_rfl)⟩ ?_
    rintro j s g Q' ⟨rfl, p, hp, hph, rfl, hh⟩
    (repeat (first | (refine h_load hh (by rfl) ?_) | (simp only [xl, xo, Bool.not_eq_true', decide_eq_false_iff_not, ite_not, List.size_toArray, List.length_cons, List.length_nil, Nat.reduceAdd, qt, decide_eq_true_eq, Int.toNat_zero, Int.toNat_natCast, Nat.zero_mul, Nat.mul_one, Nat.one_mul, List.toList_toArray, List.cons_append, List.nil_append, List.append_nil, true_and, and_true, Nat.zero_add, Nat.add_zero, Bool.not_true, Bool.not_false, if_true, if_false, reduceCtorEq, List.set_cons_zero, List.set_cons_succ])))
    obtain ⟨cs, hbk, hlk⟩ := pos_blk hh ok (p := p) (by omega)
    have hkp : k < posh lv S p := by
      by_cases e : p = 0
      · subst e; exact hk
      · rw [posh_any S e]; exact hph.resolve_left e
    refine ⟨by omega, ?_⟩
    refine hbk.load2 (hlk k hkp).1 (hlk k hkp).2 ?_
    refine h_alloc hh fun nx Q2 hh => ?_
    have hocn : (nxt k (S.drop p)).1.oneCell = true := by
      rcases nxt_spec k (S.drop p) with ⟨e, _⟩ | ⟨_, _, _, _, _, _, e⟩ <;> rw [e] <;> rfl
    refine h_store2 hh hocn rfl (by simp) fun Q3 hh => ?_
    simp only [List.set_cons_zero, List.set_cons_succ] at hh
    -- where the level ends
    have stop : ∀ Q4, lastP S k c = p → Has Q4 (listM b hd S + (R + (cell xb [ptrV (posb b S p)] + (cell pb [.int .i64 (p : Nat)] + (cell nb (pathN b S c (k + 1) lv) + (cell qb (pathP S c (k + 1) lv) +
      (cell ac [fv] + (cell sb [.slice (some ⟨nb, 0, none⟩) lv 32] + (cell t3 (List.replicate 32 nilV) + (cell t5 (List.replicate 32 (.int .i64 0)) + (objM l (.loop { L with state := .busy }) + (objM D (.deferred (some [])) + m)))))))))))) →
        LoadP none Q4 (ptrV xb) fun t_28 => LoadP none Q4 (ptrV pb) fun t_29 => (0 ≤ (k : Int) ∧ (k : Int) < (32 : Nat)) ∧ StoreP none Q4 (.pointer (some ⟨nb, k, none⟩)) t_28 fun H31 =>
          LoadIs none H31 (ptrV pb) t_29 ∧ (0 ≤ (k : Int) ∧ (k : Int) < (32 : Nat)) ∧ StoreP none H31 (.pointer (some ⟨qb, k, none⟩)) t_29 fun H33 => EndP l .normal H33 fun u H' => u = .bool true ∧ ∃ p, p ≤ c ∧ (p = 0 ∨ k < posh 0 S p) ∧
          Has H' (listM b hd S + (R + (cell xb [ptrV (posb b S p)] + (cell pb [.int .i64 (p : Nat)] + (cell nb (pathN b S c k lv) + (cell qb (pathP S c k lv) +
      (cell ac [fv] + (cell sb [.slice (some ⟨nb, 0, none⟩) lv 32] + (cell t3 (List.replicate 32 nilV) + (cell t5 (List.replicate 32 (.int .i64 0)) + (objM l (.loop L) + (objM D (.deferred (some [])) + m)))))))))))) := by
      intro Q4 hl hh
      refine h_load hh rfl (h_load hh rfl ⟨by omega, ?_⟩)
      refine h_store hh rfl (by rw [pathN_len]; omega) fun Q5 hh => ⟨h_loadIs hh rfl, by omega, ?_⟩
      refine h_store hh rfl (by rw [pathP_len]; omega) fun Q6 hh => ?_
      rw [← hl, pathN_set hk h32, pathP_set hk h32] at hh
      refine h_end hh hst hpd fun Q7 hh => ⟨rfl, p, hp, hph, hh.to ?_⟩
      rw [hl]
      ac_rfl
    refine h_load hh rfl ?_
    rcases nxt_spec k (S.drop p) with ⟨e, hno⟩ | ⟨l1, x, l2, e1, hno, hkx, e⟩
    · rw [e] at hh ⊢
      (try simp only [xl, xo, Bool.not_eq_true', decide_eq_false_iff_not, ite_not, List.size_toArray, List.length_cons, List.length_nil, Nat.reduceAdd, qt, decide_eq_true_eq, Int.toNat_zero, Int.toNat_natCast, Nat.zero_mul, Nat.mul_one, Nat.one_mul, List.toList_toArray, List.cons_append, List.nil_append, List.append_nil, true_and, and_true, Nat.zero_add, Nat.add_zero, Bool.not_true, Bool.not_false, if_true, if_false, reduceCtorEq, List.set_cons_zero, List.set_cons_succ])
      intro g2
      refine stop Q3 (lastP_eq hp hph fun q h1 h2 h3 => ?_) hh.right
      refine posh_drop (l1 := S.drop p) (rest := []) (by simp) hno h1 ?_ h3
      simp
      omega
    · rw [e] at hh ⊢
      (repeat (first | (refine h_load hh (by rfl) ?_) | (simp only [xl, xo, Bool.not_eq_true', decide_eq_false_iff_not, ite_not, List.size_toArray, List.length_cons, List.length_nil, Nat.reduceAdd, qt, decide_eq_true_eq, Int.toNat_zero, Int.toNat_natCast, Nat.zero_mul, Nat.mul_one, Nat.one_mul, List.toList_toArray, List.cons_append, List.nil_append, List.append_nil, true_and, and_true, Nat.zero_add, Nat.add_zero, Bool.not_true, Bool.not_false, if_true, if_false, reduceCtorEq, List.set_cons_zero, List.set_cons_succ])))
      have hg := drop_split e1
      have hlen : p + l1.length < S.length := (List.getElem?_eq_some_iff.1 hg).1
      rw [show IntKind.i64.wrap ((p : Int) + ((l1.length + 1 : Nat) : Int)) = ((p + l1.length + 1 : Nat) : Int) by rw [w64 (by omega)]; omega]
      refine CallV.mono (hcb (p + l1.length) x _ Q3 hg ((hh.front (listM b hd S + R)).to (mem_assoc _ _ _))) ?_
      rintro v Q4 ⟨rfl, hh⟩
      have hxh : k < posh 0 S (p + l1.length + 1) := by rw [posh_succ hg]; exact hkx
      by_cases hle : p + l1.length + 1 ≤ c
      · simp only [hle, decide_true]
        (repeat (first | (refine h_load hh (by rfl) ?_) | (simp only [xl, xo, Bool.not_eq_true', decide_eq_false_iff_not, ite_not, List.size_toArray, List.length_cons, List.length_nil, Nat.reduceAdd, qt, decide_eq_true_eq, Int.toNat_zero, Int.toNat_natCast, Nat.zero_mul, Nat.mul_one, Nat.one_mul, List.toList_toArray, List.cons_append, List.nil_append, List.append_nil, true_and, and_true, Nat.zero_add, Nat.add_zero, Bool.not_true, Bool.not_false, if_true, if_false, reduceCtorEq, List.set_cons_zero, List.set_cons_succ])))
        rw [show IntKind.i64.wrap ((p : Int) + ((l1.length + 1 : Nat) : Int)) = ((p + l1.length + 1 : Nat) : Int) by rw [w64 (by omega)]; omega]
        refine h_store hh (by rfl) (by simp) fun Q5 hh => ?_; (try simp only [List.set_cons_zero, List.set_cons_succ] at hh)
        refine ⟨h_loadIs hh rfl, h_loadIs hh rfl, ?_⟩
        refine h_store hh (by rfl) (by simp) fun Q6 hh => ?_; (try simp only [List.set_cons_zero, List.set_cons_succ] at hh)
        refine ⟨c - (p + l1.length + 1), by omega, p + l1.length + 1, hle, .inr hxh, rfl, ?_⟩
        rw [posb_succ hg]
        exact (hh.front (listM b hd S + (R + (cell xb [ptrV x.b] + (cell pb [.int .i64 (p + l1.length + 1 : Nat)] + (cell nb (pathN b S c (k + 1) lv) + (cell qb (pathP S c (k + 1) lv) +
          (cell ac [fv] + (cell sb [.slice (some ⟨nb, 0, none⟩) lv 32] + (cell t3 (List.replicate 32 nilV) + (cell t5 (List.replicate 32 (.int .i64 0)) + (objM l (.loop { L with state := .busy }) + (objM D (.deferred (some [])) + m))))))))))))).left
      · simp only [hle, decide_false]
        (try simp only [xl, xo, Bool.not_eq_true', decide_eq_false_iff_not, ite_not, List.size_toArray, List.length_cons, List.length_nil, Nat.reduceAdd, qt, decide_eq_true_eq, Int.toNat_zero, Int.toNat_natCast, Nat.zero_mul, Nat.mul_one, Nat.one_mul, List.toList_toArray, List.cons_append, List.nil_append, List.append_nil, true_and, and_true, Nat.zero_add, Nat.add_zero, Bool.not_true, Bool.not_false, if_true, if_false, reduceCtorEq, List.set_cons_zero, List.set_cons_succ])
        intro g2
        refine stop Q4 (lastP_eq hp hph fun q h1 h2 h3 => ?_) ?_
        · exact posh_drop e1 hno h1 (by omega) h3
        · exact (hh.front (listM b hd S + (R + (cell xb [ptrV (posb b S p)] + (cell pb [.int .i64 (p : Nat)] + (cell nb (pathN b S c (k + 1) lv) + (cell qb (pathP S c (k + 1) lv) +
            (cell ac [fv] + (cell sb [.slice (some ⟨nb, 0, none⟩) lv 32] + (cell t3 (List.replicate 32 nilV) + (cell t5 (List.replicate 32 (.int .i64 0)) + (objM l (.loop { L with state := .busy }) + (objM D (.deferred (some [])) + m))))))))))))).left
  · rw [pathN_all, pathP_all]
    simp only [posb, if_true]
    ac_rfl
  · rintro Q ⟨p, _, _, hh⟩
    refine ⟨L, _, hh.front (objM l (.loop L)), by rw [hst]; simp, fun Q1 hh => ?_⟩
    simp only [x_alt1, x_j0, hpd, true_and]
    refine h_loadAll hh (pathN_len _ _ _ _ _) (h_loadAll hh (pathP_len _ _ _ _) ?_)
    refine h_storeAll hh (by simp) (pathN_len _ _ _ _ _) (pathN_oc _ _ _ _ _) fun Q2 hh => ⟨h_loadAllIs hh (pathP_len _ _ _ _), ?_⟩
    refine h_storeAll hh (by simp) (pathP_len _ _ _ _) (pathP_oc _ _ _ _) fun Q3 hh => ?_
    refine h_ret1 hh fun Q4 hh => ?_
    refine h_loadAll hh (pathN_len _ _ _ _ _) (h_loadAll hh (pathP_len _ _ _ _) ?_)
    exact hK Q4 ((hh.front (listM b hd S + (R + m))).left)
end Go.X.W
set_option linter.unusedVariables false
set_option linter.unusedSimpArgs false
namespace Go.X.W
open Go Go.X Go.Proofs

/-- How many entries stand ahead. -/
noncomputable def cntE (e : Ent) (l : List Ent) : Nat := (l.takeWhile fun a => elt a e).length
abbrev SortedE (l : List Ent) : Prop := l.Pairwise fun a b => elt a b = true

theorem cntE_le (e : Ent) (l : List Ent) : cntE e l ≤ l.length := by
  unfold cntE
  induction l with
  | nil => simp
  | cons a l ih => rw [List.takeWhile_cons]; split <;> simp; exact ih
theorem cntE_spec {e : Ent} : ∀ {l : List Ent}, SortedE l → ∀ (p : Nat) (a : Ent), l[p]? = some a → elt a e = decide (p + 1 ≤ cntE e l)
  | [], _, p, a, h => by simp at h
  | x :: l, hs, p, a, h => by
    unfold cntE
    rw [List.takeWhile_cons]
    cases hx : elt x e with
    | false =>
      rw [if_neg (by simp)]
      simp only [List.length_nil, Nat.le_zero, Nat.add_eq_zero_iff, Nat.succ_ne_self, and_false, decide_false]
      cases p with
      | zero => simp at h; subst h; exact hx
      | succ p =>
        simp only [List.getElem?_cons_succ] at h
        have h2 := (List.pairwise_cons.1 hs).1 a (List.mem_of_getElem? h)
        cases ha : elt a e with
        | false => simp
        | true => have := elt_trans h2 ha; rw [hx] at this; cases this
    | true =>
      rw [if_pos rfl]
      cases p with
      | zero => simp at h; subst h; simp [hx]
      | succ p =>
        simp only [List.getElem?_cons_succ] at h
        rw [cntE_spec (List.pairwise_cons.1 hs).2 p a h]
        simp only [cntE, List.length_cons, Nat.add_le_add_iff_right]
        first | rfl | congr

theorem lastP0 {S : List SNode} (ok : NodesOk S) : ∀ c, c ≤ S.length → lastP S 0 c = c
  | 0, _ => rfl
  | c + 1, h => by
    unfold lastP
    have hg : S[c]? = some (S[c]'(by omega)) := List.getElem?_eq_getElem (by omega)
    have := (ok.get hg).hb.1
    rw [posh_succ hg, if_pos (by omega)]
theorem nxt0 {S : List SNode} (ok : NodesOk S) (c : Nat) : nxt 0 (S.drop c) = match S[c]? with | some x => (ptrV x.b, 1) | none => (nilV, 0) := by
  cases hg : S[c]? with
  | none => rw [List.drop_eq_nil_of_le (List.getElem?_eq_none_iff.1 hg)]; rfl
  | some x =>
    have hc := (List.getElem?_eq_some_iff.1 hg).1
    have he := (List.getElem?_eq_some_iff.1 hg).2
    rw [List.drop_eq_getElem_cons hc, he]
    have := (ok.get hg).hb.1
    simp only [nxt]
    rw [if_pos (by omega)]

variable {H : Heap} {b lv : Nat} {hd : List Value} {S : List SNode} {m : Mem} {K : Value → Heap → Prop}

theorem node_cells {k : Nat} {x : SNode} (hh : Has H (listM b hd S + m)) (ok : SkOk hd lv S) (hg : S[k]? = some x) : Blk H x.b x.cs ∧ NodeOk x (S.drop (k + 1)) := by
  refine ⟨?_, ok.nodes.get hg⟩
  have h2 := hh.left.right
  rw [nodesM_get hg] at h2
  exact h2.blk

theorem skip_Len_h (hh : Has H (listM b hd S + m)) (ok : SkOk hd lv S) (hK : K (.int .i64 S.length) H) : CallH P f_skip_List_Len [ptrV b] H K := by
  apply k_skip_List_Len
  unfold c_skip_List_Len
  (try simp only [xl, xo, Bool.not_eq_true', decide_eq_false_iff_not, ite_not, List.size_toArray, List.length_cons, List.length_nil, Nat.reduceAdd, qt, decide_eq_true_eq, Int.toNat_zero, Int.toNat_natCast, Nat.zero_mul, Nat.mul_one, Nat.one_mul, List.toList_toArray, List.cons_append, List.nil_append, List.append_nil, true_and, and_true, Nat.zero_add, Nat.add_zero, Bool.not_true, Bool.not_false, if_true, if_false, reduceCtorEq, List.set_cons_zero, List.set_cons_succ])
  refine (list_blk b hd S hh).load ok.nc ?_
  exact hK

theorem skip_to_h {e : Ent} (hh : Has H (listM b hd S + m)) (ok : SkOk hd lv S) (hs : SortedE (S.map (·.e)))
    (hK : ∀ H', Has H' (listM b hd S + m) → K (.tuple #[.agg (pathN b S (cntE e (S.map (·.e))) 0 lv).toArray, .agg (pathP S (cntE e (S.map (·.e))) 0 lv).toArray]) H') :
    CallH P f_skip_List_to [ptrV b, entV e] H K := by
  apply k_skip_List_to
  unfold c_skip_List_to
  rw [x_boxN, zp32, zi32]
  refine h_allocA hh fun eb H1 hh => ?_
  refine h_alloc hh fun t3 H2 hh => ?_
  refine h_alloc hh fun t5 H3 hh => ?_
  have hc : cntE e (S.map (·.e)) ≤ S.length := by have := cntE_le e (S.map (·.e)); simpa using this
  refine skip_path_h (R := cell eb (entC e)) (c := cntE e (S.map (·.e))) rfl ((hh.front (listM b hd S + cell eb (entC e))).to (mem_assoc _ _ _)) ok hc ?_ fun H4 hh => ?_
  · intro p x m' H' hg hh
    obtain ⟨hb, hn⟩ := node_cells hh ok hg
    rw [x_callV]
    apply k_skip_List_to_1
    unfold c_skip_List_to_1
    (try simp only [xl, xo, Bool.not_eq_true', decide_eq_false_iff_not, ite_not, List.size_toArray, List.length_cons, List.length_nil, Nat.reduceAdd, qt, decide_eq_true_eq, Int.toNat_zero, Int.toNat_natCast, Nat.zero_mul, Nat.mul_one, Nat.one_mul, List.toList_toArray, List.cons_append, List.nil_append, List.append_nil, true_and, and_true, Nat.zero_add, Nat.add_zero, Bool.not_true, Bool.not_false, if_true, if_false, reduceCtorEq, List.set_cons_zero, List.set_cons_succ])
    refine hb.load2 hn.e0 hn.e1 ?_
    refine h_load2 hh rfl rfl ?_
    refine bound_Less_h (a := x.e) (b := e) hh fun H5 hh => ⟨?_, hh⟩
    rw [cntE_spec hs p x.e (by rw [List.getElem?_map, hg]; rfl)]
  · (try simp only [xl, xo, Bool.not_eq_true', decide_eq_false_iff_not, ite_not, List.size_toArray, List.length_cons, List.length_nil, Nat.reduceAdd, qt, decide_eq_true_eq, Int.toNat_zero, Int.toNat_natCast, Nat.zero_mul, Nat.mul_one, Nat.one_mul, List.toList_toArray, List.cons_append, List.nil_append, List.append_nil, true_and, and_true, Nat.zero_add, Nat.add_zero, Bool.not_true, Bool.not_false, if_true, if_false, reduceCtorEq, List.set_cons_zero, List.set_cons_succ])
    refine h_storeAll hh (by simp) (pathN_len _ _ _ _ _) (pathN_oc _ _ _ _ _) fun H5 hh => ?_
    refine h_storeAll hh (by simp) (pathP_len _ _ _ _) (pathP_oc _ _ _ _) fun H6 hh => ?_
    refine h_loadAll hh (pathN_len _ _ _ _ _) (h_loadAll hh (pathP_len _ _ _ _) ?_)
    exact hK H6 ((hh.front (listM b hd S + m)).left)

theorem skip_until_h {c : Nat} (hh : Has H (listM b hd S + m)) (ok : SkOk hd lv S) (hc : c ≤ S.length)
    (hK : ∀ H', Has H' (listM b hd S + m) → K (.tuple #[.agg (pathN b S c 0 lv).toArray, .agg (pathP S c 0 lv).toArray]) H') :
    CallH P f_skip_List_until [ptrV b, .int .i64 c] H K := by
  apply k_skip_List_until
  unfold c_skip_List_until
  rw [zp32, zi32]
  (try simp only [xl, xo, Bool.not_eq_true', decide_eq_false_iff_not, ite_not, List.size_toArray, List.length_cons, List.length_nil, Nat.reduceAdd, qt, decide_eq_true_eq, Int.toNat_zero, Int.toNat_natCast, Nat.zero_mul, Nat.mul_one, Nat.one_mul, List.toList_toArray, List.cons_append, List.nil_append, List.append_nil, true_and, and_true, Nat.zero_add, Nat.add_zero, Bool.not_true, Bool.not_false, if_true, if_false, reduceCtorEq, List.set_cons_zero, List.set_cons_succ])
  refine h_alloc hh fun eb H1 hh => ?_
  refine h_alloc hh fun t3 H2 hh => ?_
  refine h_alloc hh fun t5 H3 hh => ?_
  refine skip_path_h (R := cell eb [.int .i64 c]) (c := c) rfl ((hh.front (listM b hd S + cell eb [.int .i64 c])).to (mem_assoc _ _ _)) ok hc ?_ fun H4 hh => ?_
  · intro p x m' H' hg hh
    rw [x_callV]
    apply k_skip_List_until_1
    unfold c_skip_List_until_1
    (repeat (first | (refine h_load hh (by rfl) ?_) | (simp only [xl, xo, Bool.not_eq_true', decide_eq_false_iff_not, ite_not, List.size_toArray, List.length_cons, List.length_nil, Nat.reduceAdd, qt, decide_eq_true_eq, Int.toNat_zero, Int.toNat_natCast, Nat.zero_mul, Nat.mul_one, Nat.one_mul, List.toList_toArray, List.cons_append, List.nil_append, List.append_nil, true_and, and_true, Nat.zero_add, Nat.add_zero, Bool.not_true, Bool.not_false, if_true, if_false, reduceCtorEq, List.set_cons_zero, List.set_cons_succ])))
    refine ⟨?_, hh⟩
    congr 1
    rw [decide_eq_decide]
    omega
  · (try simp only [xl, xo, Bool.not_eq_true', decide_eq_false_iff_not, ite_not, List.size_toArray, List.length_cons, List.length_nil, Nat.reduceAdd, qt, decide_eq_true_eq, Int.toNat_zero, Int.toNat_natCast, Nat.zero_mul, Nat.mul_one, Nat.one_mul, List.toList_toArray, List.cons_append, List.nil_append, List.append_nil, true_and, and_true, Nat.zero_add, Nat.add_zero, Bool.not_true, Bool.not_false, if_true, if_false, reduceCtorEq, List.set_cons_zero, List.set_cons_succ])
    refine h_storeAll hh (by simp) (pathN_len _ _ _ _ _) (pathN_oc _ _ _ _ _) fun H5 hh => ?_
    refine h_storeAll hh (by simp) (pathP_len _ _ _ _) (pathP_oc _ _ _ _) fun H6 hh => ?_
    refine h_loadAll hh (pathN_len _ _ _ _ _) (h_loadAll hh (pathP_len _ _ _ _) ?_)
    exact hK H6 ((hh.front (listM b hd S + m)).left)

/-- Is this the entry that stands there? -/
def isAt (e : Ent) (l : List Ent) (c : Nat) : Bool := match l[c]? with | some a => decide (a.1 = e.1) && decide (a.2 = e.2) | none => false

theorem sk_lv0 (ok : SkOk hd lv S) (h : lv = 0) : S = [] := by
  cases S with
  | nil => rfl
  | cons x S => have := ok.hs x (by simp); have := ok.nodes.1.hb.1; omega

theorem skip_Seek_h {e : Ent} (hh : Has H (listM b hd S + m)) (ok : SkOk hd lv S) (hs : SortedE (S.map (·.e)))
    (hK : ∀ H', Has H' (listM b hd S + m) → K (.tuple #[.int .i64 (cntE e (S.map (·.e)) : Nat), .bool (isAt e (S.map (·.e)) (cntE e (S.map (·.e))))]) H') :
    CallH P f_skip_List_Seek [ptrV b, entV e] H K := by
  apply k_skip_List_Seek
  unfold c_skip_List_Seek
  rw [x_boxN, zp32, zi32]
  refine h_allocA hh fun eb H1 hh => ?_
  (repeat (first | (refine h_load hh (by rfl) ?_) | (simp only [xl, xo, Bool.not_eq_true', decide_eq_false_iff_not, ite_not, List.size_toArray, List.length_cons, List.length_nil, Nat.reduceAdd, qt, decide_eq_true_eq, Int.toNat_zero, Int.toNat_natCast, Nat.zero_mul, Nat.mul_one, Nat.one_mul, List.toList_toArray, List.cons_append, List.nil_append, List.append_nil, true_and, and_true, Nat.zero_add, Nat.add_zero, Bool.not_true, Bool.not_false, if_true, if_false, reduceCtorEq, List.set_cons_zero, List.set_cons_succ])))
  refine (list_blk b hd S hh).load ok.lvc ?_
  (repeat (first | (refine h_load hh (by rfl) ?_) | (simp only [xl, xo, Bool.not_eq_true', decide_eq_false_iff_not, ite_not, List.size_toArray, List.length_cons, List.length_nil, Nat.reduceAdd, qt, decide_eq_true_eq, Int.toNat_zero, Int.toNat_natCast, Nat.zero_mul, Nat.mul_one, Nat.one_mul, List.toList_toArray, List.cons_append, List.nil_append, List.append_nil, true_and, and_true, Nat.zero_add, Nat.add_zero, Bool.not_true, Bool.not_false, if_true, if_false, reduceCtorEq, List.set_cons_zero, List.set_cons_succ])))
  have hc : cntE e (S.map (·.e)) ≤ S.length := by have := cntE_le e (S.map (·.e)); simpa using this
  by_cases h0 : lv = 0
  · rw [if_pos (by omega)]
    have := sk_lv0 ok h0
    subst this
    exact hK H1 hh.right
  · rw [if_neg (by omega)]
    refine h_load2 hh rfl rfl ?_
    refine skip_to_h (e := e) ((hh.front (listM b hd S))) ok hs fun H2 hh => ?_
    (try simp only [xl, xo, Bool.not_eq_true', decide_eq_false_iff_not, ite_not, List.size_toArray, List.length_cons, List.length_nil, Nat.reduceAdd, qt, decide_eq_true_eq, Int.toNat_zero, Int.toNat_natCast, Nat.zero_mul, Nat.mul_one, Nat.one_mul, List.toList_toArray, List.cons_append, List.nil_append, List.append_nil, true_and, and_true, Nat.zero_add, Nat.add_zero, Bool.not_true, Bool.not_false, if_true, if_false, reduceCtorEq, List.set_cons_zero, List.set_cons_succ])
    refine h_alloc hh fun nb H3 hh => ?_
    refine h_alloc hh fun qb H4 hh => ?_
    refine h_storeAll hh (by simp) (pathN_len _ _ _ _ _) (pathN_oc _ _ _ _ _) fun H5 hh => ?_
    refine h_storeAll hh (by simp) (pathP_len _ _ _ _) (pathP_oc _ _ _ _) fun H6 hh => ?_
    refine ⟨by omega, ?_⟩
    refine h_load hh (pathN_get (by omega) ok.l32) ?_
    (try simp only [xl, xo, Bool.not_eq_true', decide_eq_false_iff_not, ite_not, List.size_toArray, List.length_cons, List.length_nil, Nat.reduceAdd, qt, decide_eq_true_eq, Int.toNat_zero, Int.toNat_natCast, Nat.zero_mul, Nat.mul_one, Nat.one_mul, List.toList_toArray, List.cons_append, List.nil_append, List.append_nil, true_and, and_true, Nat.zero_add, Nat.add_zero, Bool.not_true, Bool.not_false, if_true, if_false, reduceCtorEq, List.set_cons_zero, List.set_cons_succ])
    refine ⟨by omega, ?_⟩
    generalize hcc : cntE e (S.map (·.e)) = c at *
    rw [lastP0 ok.nodes c hc] at *
    obtain ⟨cs, hbk, hlk⟩ := pos_blk (hh.front (listM b hd S)) ok (p := c) hc
    have hk0 : 0 < posh lv S c := by
      cases c with
      | zero => exact Nat.pos_of_ne_zero h0
      | succ c =>
        have hg : S[c]? = some (S[c]'(by omega)) := List.getElem?_eq_getElem (by omega)
        rw [posh_succ hg]
        exact (ok.nodes.get hg).hb.1
    have hl := (hlk 0 hk0).1
    rw [nxt0 ok.nodes] at hl
    refine hbk.load hl ?_
    refine ⟨by omega, ?_⟩
    refine h_load hh (pathP_get (by omega) ok.l32) ?_
    rw [lastP0 ok.nodes c hc]
    cases hg : S[c]? with
    | none =>
      have hia : isAt e (S.map (·.e)) c = false := by simp [isAt, hg]
      rw [hia] at hK
      (try simp only [xl, xo, Bool.not_eq_true', decide_eq_false_iff_not, ite_not, List.size_toArray, List.length_cons, List.length_nil, Nat.reduceAdd, qt, decide_eq_true_eq, Int.toNat_zero, Int.toNat_natCast, Nat.zero_mul, Nat.mul_one, Nat.one_mul, List.toList_toArray, List.cons_append, List.nil_append, List.append_nil, true_and, and_true, Nat.zero_add, Nat.add_zero, Bool.not_true, Bool.not_false, if_true, if_false, reduceCtorEq, List.set_cons_zero, List.set_cons_succ])
      exact hK H6 (hh.front (listM b hd S + m)).left
    | some x =>
      have hia : isAt e (S.map (·.e)) c = (decide (x.e.1 = e.1) && decide (x.e.2 = e.2)) := by simp [isAt, hg]
      rw [hia] at hK
      obtain ⟨hb, hn⟩ := node_cells (hh.front (listM b hd S)) ok hg
      (try simp only [xl, xo, Bool.not_eq_true', decide_eq_false_iff_not, ite_not, List.size_toArray, List.length_cons, List.length_nil, Nat.reduceAdd, qt, decide_eq_true_eq, Int.toNat_zero, Int.toNat_natCast, Nat.zero_mul, Nat.mul_one, Nat.one_mul, List.toList_toArray, List.cons_append, List.nil_append, List.append_nil, true_and, and_true, Nat.zero_add, Nat.add_zero, Bool.not_true, Bool.not_false, if_true, if_false, reduceCtorEq, List.set_cons_zero, List.set_cons_succ])
      refine hb.load2 hn.e0 hn.e1 ?_
      refine h_load2 hh rfl rfl ?_
      (try simp only [xl, xo, Bool.not_eq_true', decide_eq_false_iff_not, ite_not, List.size_toArray, List.length_cons, List.length_nil, Nat.reduceAdd, qt, decide_eq_true_eq, Int.toNat_zero, Int.toNat_natCast, Nat.zero_mul, Nat.mul_one, Nat.one_mul, List.toList_toArray, List.cons_append, List.nil_append, List.append_nil, true_and, and_true, Nat.zero_add, Nat.add_zero, Bool.not_true, Bool.not_false, if_true, if_false, reduceCtorEq, List.set_cons_zero, List.set_cons_succ])
      exact hK H6 (hh.front (listM b hd S + m)).left

theorem skip_within_h {f t : Int} (hh : Has H (listM b hd S + m)) (ok : SkOk hd lv S)
    (hK : K (.tuple #[.int .i64 (max 0 (min f S.length)), .int .i64 (max (max 0 (min f S.length)) (min t S.length))]) H) : CallH P f_skip_List_within [ptrV b, .int .i64 f, .int .i64 t] H K := by
  apply k_skip_List_within
  unfold c_skip_List_within
  refine skip_Len_h hh ok ?_
  (try simp only [xl, xo, Bool.not_eq_true', decide_eq_false_iff_not, ite_not, List.size_toArray, List.length_cons, List.length_nil, Nat.reduceAdd, qt, decide_eq_true_eq, Int.toNat_zero, Int.toNat_natCast, Nat.zero_mul, Nat.mul_one, Nat.one_mul, List.toList_toArray, List.cons_append, List.nil_append, List.append_nil, true_and, and_true, Nat.zero_add, Nat.add_zero, Bool.not_true, Bool.not_false, if_true, if_false, reduceCtorEq, List.set_cons_zero, List.set_cons_succ])
  refine skip_Len_h hh ok ?_
  (try simp only [xl, xo, Bool.not_eq_true', decide_eq_false_iff_not, ite_not, List.size_toArray, List.length_cons, List.length_nil, Nat.reduceAdd, qt, decide_eq_true_eq, Int.toNat_zero, Int.toNat_natCast, Nat.zero_mul, Nat.mul_one, Nat.one_mul, List.toList_toArray, List.cons_append, List.nil_append, List.append_nil, true_and, and_true, Nat.zero_add, Nat.add_zero, Bool.not_true, Bool.not_false, if_true, if_false, reduceCtorEq, List.set_cons_zero, List.set_cons_succ])
  exact hK

theorem skip_New_h (hh : Has H m) (hK : ∀ b hd H', Has H' (listM b hd [] + m) → SkOk hd 0 [] → K (ptrV b) H') : CallH P f_skip_New [] H K := by
  apply k_skip_New
  unfold c_skip_New
  rw [ze_skip_List]
  (try simp only [xl, xo, Bool.not_eq_true', decide_eq_false_iff_not, ite_not, List.size_toArray, List.length_cons, List.length_nil, Nat.reduceAdd, qt, decide_eq_true_eq, Int.toNat_zero, Int.toNat_natCast, Nat.zero_mul, Nat.mul_one, Nat.one_mul, List.toList_toArray, List.cons_append, List.nil_append, List.append_nil, true_and, and_true, Nat.zero_add, Nat.add_zero, Bool.not_true, Bool.not_false, if_true, if_false, reduceCtorEq, List.set_cons_zero, List.set_cons_succ])
  refine h_alloc hh fun b H1 hh => ?_
  have e : ∀ hd, cell b hd + m = listM b hd [] + m := fun hd => by rw [listM, nodesM, add_emp]
  rw [e] at hh
  exact hK b _ H1 hh ⟨rfl, ⟨none, rfl⟩, rfl, rfl, by omega, by simp, fun i hi => by omega, trivial, by simp⟩
end Go.X.W
set_option linter.unusedVariables false
set_option linter.unusedSimpArgs false
namespace Go.X.W
open Go Go.X Go.Proofs

variable {H : Heap} {b lv : Nat} {hd : List Value} {S : List SNode} {m : Mem} {K : Value → Heap → Prop}

theorem h_read {sz n l c bb : Nat} {cs : List Value} {r : Mem} [p : PickC bb m cs r] (hh : Has H m) (hn : n * sz ≤ cs.length) : readCells sz n H (.slice (some ⟨bb, 0, none⟩) l c) = some (cs.take (n * sz)) := by
  have := (hh.blk (b := bb)).readN 0 (n * sz) 0 (by omega)
  simpa [readCells] using this

/-- The cells of entries. -/
def entsC (l : List Ent) : List Value := l.flatMap entC
theorem entsC_append (l l' : List Ent) : entsC (l ++ l') = entsC l ++ entsC l' := by simp [entsC]
theorem entsC_length (l : List Ent) : (entsC l).length = l.length * 2 := by
  induction l with
  | nil => rfl
  | cons a l ih => simp only [entsC, List.flatMap_cons, List.length_append, List.length_cons, List.length_nil] at *; omega
theorem entsC_oc (l : List Ent) : ∀ v ∈ entsC l, v.oneCell = true := by
  intro v hv
  obtain ⟨a, _, hv⟩ := List.mem_flatMap.1 hv
  simp only [List.mem_cons, List.not_mem_nil, or_false] at hv
  rcases hv with rfl | rfl <;> rfl

/-- Places that there are. -/
abbrev fromN (f : Int) (n : Nat) : Nat := (max 0 (min f n)).toNat
abbrev toN (f t : Int) (n : Nat) : Nat := (max (max 0 (min f n)) (min t n)).toNat
theorem fromN_eq (f : Int) (n : Nat) : max 0 (min f n) = (fromN f n : Int) := by unfold fromN; omega
theorem toN_eq (f t : Int) (n : Nat) : max (max 0 (min f n)) (min t n) = (toN f t n : Int) := by unfold toN; omega
theorem fromto (f t : Int) (n : Nat) : fromN f n ≤ toN f t n ∧ toN f t n ≤ n := by unfold fromN toN; omega

theorem link0 {k : Nat} (hh : Has H (listM b hd S + m)) (ok : SkOk hd lv S) (hk : k ≤ S.length) (h0 : 0 < lv) : LoadIs none H (.pointer (some ⟨posb b S k, 2, none⟩)) (nxt 0 (S.drop k)).1 := by
  obtain ⟨cs, hbk, hlk⟩ := pos_blk hh ok hk
  have hk0 : 0 < posh lv S k := by
    cases k with
    | zero => exact h0
    | succ k =>
      have hg : S[k]? = some (S[k]'(by omega)) := List.getElem?_eq_getElem (by omega)
      rw [posh_succ hg]
      exact (ok.nodes.get hg).hb.1
  exact hbk.loadIs (hlk 0 hk0).1

theorem skip_nodes_i {l lb fb tb : Nat} {f t : Int} {r1 r2 r3 : Mem} [p1 : PickC lb m [ptrV b] r1] [p2 : PickC fb m [.int .i64 f] r2] [p3 : PickC tb m [.int .i64 t] r3] (hh : Has H (listM b hd S + m)) (ok : SkOk hd lv S) (Inv : Nat → Heap → Prop)
    (h0 : ∀ H', Has H' (listM b hd S + m) → Inv 0 H') (hI : ∀ j G, Inv j G → ∃ m', Has G (listM b hd S + m'))
    (hY : ∀ j x G, j < toN f t S.length - fromN f S.length → S[fromN f S.length + j]? = some x → Inv j G → YieldH P l [ptrV x.b] G fun v G' => v = .bool true ∧ Inv (j + 1) G')
    (hK : ∀ G, Inv (toN f t S.length - fromN f S.length) G → K (.tuple #[]) G) :
    CallH P f_skip_List_nodes_1 [.func (.yield l) #[] #[], ptrV lb, ptrV fb, ptrV tb] H K := by
  apply k_skip_List_nodes_1
  unfold c_skip_List_nodes_1
  have q1 := hh.right.blk (b := lb)
  have q2 := hh.right.blk (b := fb)
  have q3 := hh.right.blk (b := tb)
  refine q1.load rfl (q2.load rfl (q3.load rfl ?_))
  refine skip_within_h hh ok ?_
  rw [toN_eq, fromN_eq]
  have hft := fromto f t S.length
  have hbig := ok.big
  generalize fromN f S.length = a at *
  generalize toN f t S.length = e at *
  (try simp only [xl, xo, Bool.not_eq_true', decide_eq_false_iff_not, ite_not, List.size_toArray, List.length_cons, List.length_nil, Nat.reduceAdd, qt, decide_eq_true_eq, Int.toNat_zero, Int.toNat_natCast, Nat.zero_mul, Nat.mul_one, Nat.one_mul, List.toList_toArray, List.cons_append, List.nil_append, List.append_nil, true_and, and_true, Nat.zero_add, Nat.add_zero, Bool.not_true, Bool.not_false, if_true, if_false, reduceCtorEq, List.set_cons_zero, List.set_cons_succ])
  by_cases hae : (a : Int) = e
  · rw [if_pos hae]
    have : e - a = 0 := by omega
    rw [this] at hK
    exact hK H (h0 H hh)
  · rw [if_neg hae]
    refine q1.load rfl ?_
    refine skip_until_h (c := a) hh ok (by omega) fun H2 hh => ?_
    have hlv : 0 < lv := by
      rcases Nat.eq_zero_or_pos lv with h | h
      · have := sk_lv0 ok h; subst this; simp at hft; omega
      · exact h
    rw [zp32, zi32]
    (try simp only [xl, xo, Bool.not_eq_true', decide_eq_false_iff_not, ite_not, List.size_toArray, List.length_cons, List.length_nil, Nat.reduceAdd, qt, decide_eq_true_eq, Int.toNat_zero, Int.toNat_natCast, Nat.zero_mul, Nat.mul_one, Nat.one_mul, List.toList_toArray, List.cons_append, List.nil_append, List.append_nil, true_and, and_true, Nat.zero_add, Nat.add_zero, Bool.not_true, Bool.not_false, if_true, if_false, reduceCtorEq, List.set_cons_zero, List.set_cons_succ])
    refine h_alloc hh fun nb H3 hh => ?_
    refine h_alloc hh fun qb H4 hh => ?_
    refine h_storeAll hh (by simp) (pathN_len _ _ _ _ _) (pathN_oc _ _ _ _ _) fun H5 hh => ?_
    refine h_storeAll hh (by simp) (pathP_len _ _ _ _) (pathP_oc _ _ _ _) fun H6 hh => ?_
    refine ⟨by omega, ?_⟩
    refine h_load hh (pathN_get (by omega) ok.l32) ?_
    rw [lastP0 ok.nodes a (by omega)]
    have hl0 := link0 (hh.front (listM b hd S)) ok (k := a) (by omega) hlv
    have hi0 := h0 H6 (hh.front (listM b hd S + m)).left
    clear hh
    (try simp only [xl, xo, Bool.not_eq_true', decide_eq_false_iff_not, ite_not, List.size_toArray, List.length_cons, List.length_nil, Nat.reduceAdd, qt, decide_eq_true_eq, Int.toNat_zero, Int.toNat_natCast, Nat.zero_mul, Nat.mul_one, Nat.one_mul, List.toList_toArray, List.cons_append, List.nil_append, List.append_nil, true_and, and_true, Nat.zero_add, Nat.add_zero, Bool.not_true, Bool.not_false, if_true, if_false, reduceCtorEq, List.set_cons_zero, List.set_cons_succ])
    refine ⟨by omega, ?_⟩
    refine ⟨_, hl0, ?_⟩
    rw [w64 (n := (e : Int) - a) (by omega)]
    refine loop_i (fun k s G => ∃ j : Nat, j + k = e - a ∧ s = (((nxt 0 (S.drop (a + j))).1, .int .i64 j), []) ∧ Inv j G) (e - a) ⟨0, by omega, rfl, hi0⟩ ?_
    rintro k _ g G ⟨j, hj, rfl, hi⟩
    (try simp only [xl, xo, Bool.not_eq_true', decide_eq_false_iff_not, ite_not, List.size_toArray, List.length_cons, List.length_nil, Nat.reduceAdd, qt, decide_eq_true_eq, Int.toNat_zero, Int.toNat_natCast, Nat.zero_mul, Nat.mul_one, Nat.one_mul, List.toList_toArray, List.cons_append, List.nil_append, List.append_nil, true_and, and_true, Nat.zero_add, Nat.add_zero, Bool.not_true, Bool.not_false, if_true, if_false, reduceCtorEq, List.set_cons_zero, List.set_cons_succ])
    by_cases hje : j < e - a
    · rw [if_pos (by omega)]
      have hg : S[a + j]? = some (S[a + j]'(by omega)) := List.getElem?_eq_getElem (by omega)
      generalize S[a + j]'(by omega) = x at hg
      rw [nxt0 ok.nodes, hg]
      refine YieldH.mono (hY j x G hje hg hi) ?_
      rintro v G2 ⟨rfl, hi2⟩
      obtain ⟨m', hh⟩ := hI _ _ hi2
      have hl1 := link0 hh ok (k := a + j + 1) (by omega) hlv
      rw [posb_succ hg] at hl1
      (try simp only [xl, xo, Bool.not_eq_true', decide_eq_false_iff_not, ite_not, List.size_toArray, List.length_cons, List.length_nil, Nat.reduceAdd, qt, decide_eq_true_eq, Int.toNat_zero, Int.toNat_natCast, Nat.zero_mul, Nat.mul_one, Nat.one_mul, List.toList_toArray, List.cons_append, List.nil_append, List.append_nil, true_and, and_true, Nat.zero_add, Nat.add_zero, Bool.not_true, Bool.not_false, if_true, if_false, reduceCtorEq, List.set_cons_zero, List.set_cons_succ])
      refine ⟨by omega, ?_⟩
      refine ⟨_, hl1, ?_⟩
      refine ⟨k - 1, by omega, j + 1, by omega, ?_, hi2⟩
      rw [w64 (by omega)]
      rfl
    · rw [if_neg (by omega)]
      have : j = e - a := by omega
      subst this
      exact hK G hi

theorem skip_Range_h {f t : Int} (hh : Has H (listM b hd S + m)) (ok : SkOk hd lv S)
    (hK : ∀ H' v sl, SlOwn 2 v (entsC (((S.map (·.e)).drop (fromN f S.length)).take (toN f t S.length - fromN f S.length))) sl → Has H' (sl + (listM b hd S + m)) →
      lenV v = toN f t S.length - fromN f S.length → K v H') :
    CallH P f_skip_List_Range [ptrV b, .int .i64 f, .int .i64 t] H K := by
  apply k_skip_List_Range
  unfold c_skip_List_Range
  have hft := fromto f t S.length
  have hbig := ok.big
  refine h_alloc hh fun ob H1 hh => ?_
  apply k_skip_List_nodes
  unfold c_skip_List_nodes
  (try simp only [xl, xo, Bool.not_eq_true', decide_eq_false_iff_not, ite_not, List.size_toArray, List.length_cons, List.length_nil, Nat.reduceAdd, qt, decide_eq_true_eq, Int.toNat_zero, Int.toNat_natCast, Nat.zero_mul, Nat.mul_one, Nat.one_mul, List.toList_toArray, List.cons_append, List.nil_append, List.append_nil, true_and, and_true, Nat.zero_add, Nat.add_zero, Bool.not_true, Bool.not_false, if_true, if_false, reduceCtorEq, List.set_cons_zero, List.set_cons_succ])
  refine h_alloc hh fun lb H2 hh => ?_
  refine h_alloc hh fun fb H3 hh => ?_
  refine h_alloc hh fun tb H4 hh => ?_
  refine h_range hh fun D l L G hh hst hpd hY => ?_
  (try simp only [xl, xo, Bool.not_eq_true', decide_eq_false_iff_not, ite_not, List.size_toArray, List.length_cons, List.length_nil, Nat.reduceAdd, qt, decide_eq_true_eq, Int.toNat_zero, Int.toNat_natCast, Nat.zero_mul, Nat.mul_one, Nat.one_mul, List.toList_toArray, List.cons_append, List.nil_append, List.append_nil, true_and, and_true, Nat.zero_add, Nat.add_zero, Bool.not_true, Bool.not_false, if_true, if_false, reduceCtorEq, List.set_cons_zero, List.set_cons_succ])
  refine skip_nodes_i (l := l) (hh.front (listM b hd S)) ok (fun j Q => ∃ v sl m', SlOwn 2 v (entsC (((S.map (·.e)).drop (fromN f S.length)).take j)) sl ∧ lenV v = j ∧ j ≤ toN f t S.length - fromN f S.length ∧
      Has Q (sl + (listM b hd S + (cell ob [v] + (objM l (.loop L) + (objM D (.deferred (some [])) + (m + m'))))))) ?_ ?_ ?_ ?_
  · intro H' hh
    refine ⟨.slice none 0 0, emp, cell lb [ptrV b] + (cell fb [.int .i64 f] + cell tb [.int .i64 t]), .inl ⟨rfl, by simp [entsC], rfl⟩, rfl, by omega, hh.to ?_⟩
    rw [emp_add]
    ac_rfl
  · rintro j Q ⟨v, sl, m', h1, h2, h3, hh⟩
    exact ⟨_, hh.front (listM b hd S)⟩
  · rintro j x Q hj hg ⟨v, sl, m', h1, h2, h3, hh⟩
    refine hY (ptrV x.b) Q _ hh.obj ?_
    refine h_begin hh hst fun Q1 hh => ?_
    obtain ⟨hb, hn⟩ := node_cells (hh.front (listM b hd S)) ok hg
    refine h_load hh rfl ?_
    (try simp only [xl, xo, Bool.not_eq_true', decide_eq_false_iff_not, ite_not, List.size_toArray, List.length_cons, List.length_nil, Nat.reduceAdd, qt, decide_eq_true_eq, Int.toNat_zero, Int.toNat_natCast, Nat.zero_mul, Nat.mul_one, Nat.one_mul, List.toList_toArray, List.cons_append, List.nil_append, List.append_nil, true_and, and_true, Nat.zero_add, Nat.add_zero, Bool.not_true, Bool.not_false, if_true, if_false, reduceCtorEq, List.set_cons_zero, List.set_cons_succ])
    refine hb.load2 hn.e0 hn.e1 ?_
    (try simp only [xl, xo, Bool.not_eq_true', decide_eq_false_iff_not, ite_not, List.size_toArray, List.length_cons, List.length_nil, Nat.reduceAdd, qt, decide_eq_true_eq, Int.toNat_zero, Int.toNat_natCast, Nat.zero_mul, Nat.mul_one, Nat.one_mul, List.toList_toArray, List.cons_append, List.nil_append, List.append_nil, true_and, and_true, Nat.zero_add, Nat.add_zero, Bool.not_true, Bool.not_false, if_true, if_false, reduceCtorEq, List.set_cons_zero, List.set_cons_succ])
    refine h_buildSl hh fun eb Q2 hh => ?_
    refine ⟨h_loadIs hh rfl, ?_⟩
    have hcl : (entsC (((S.map (·.e)).drop (fromN f S.length)).take j)).length = j * 2 := by
      rw [entsC_length, List.length_take, List.length_drop, List.length_map, Nat.min_eq_left (by omega)]
    refine h_append (len := j) (new := entC x.e) sz_api_Entry by_api_Entry (by rw [ze_api_Entry]; rfl) (by omega) h1 (hh.front sl) hcl ?_ rfl (by simp [Value.oneCell]) (by simp [lenV]; omega) fun v' sl' Q3 h1' hh h2' => ?_
    · exact h_read (cs := entC x.e) (n := 1) hh (by simp)
    refine h_store hh ?_ (by simp) fun Q4 hh => ?_
    · rcases h1' with ⟨rfl, _⟩ | ⟨_, _, _, _, rfl, _⟩ <;> rfl
    simp only [List.set_cons_zero] at hh
    refine h_end hh hst hpd fun Q5 hh => ?_
    refine ⟨rfl, v', sl', m' + cell eb (entC x.e), ?_, ?_, by omega, hh.to ?_⟩
    · rw [List.take_add_one, List.getElem?_drop, List.getElem?_map, hg]
      simp only [Option.map_some, Option.toList_some]
      rw [entsC_append]
      simpa [entsC] using h1'
    · rw [h2']; rfl
    · ac_rfl
  · rintro Q ⟨v, sl, m', h1, h2, h3, hh⟩
    refine ⟨L, _, hh.front (objM l (.loop L)), by rw [hst]; simp, fun Q1 hh => ?_⟩
    simp only [x_alt1, x_j0, hpd, true_and]
    refine h_load hh rfl ?_
    refine h_ret1 hh fun Q2 hh => ?_
    exact hK Q2 v sl h1 (hh.front (sl + (listM b hd S + m))).left h2
end Go.X.W
set_option linter.unusedVariables false
set_option linter.unusedSimpArgs false
namespace Go.X.W
open Go Go.X Go.Proofs

/-- The cells of a place. -/
def cellsAt (hd : List Value) (S : List SNode) (q : Nat) : List Value := if q = 0 then hd else match S[q - 1]? with | some x => x.cs | none => []
def setH (hd : List Value) (q : Nat) (cs : List Value) : List Value := if q = 0 then cs else hd
def setS (S : List SNode) (q : Nat) (cs : List Value) : List SNode := if q = 0 then S else match S[q - 1]? with | some x => S.set (q - 1) { x with cs := cs } | none => S

theorem cellsAt_succ {hd : List Value} {S : List SNode} {k : Nat} {x : SNode} (h : S[k]? = some x) : cellsAt hd S (k + 1) = x.cs := by simp [cellsAt, h]
theorem setS_succ {S : List SNode} {k : Nat} {x : SNode} {cs : List Value} (h : S[k]? = some x) : setS S (k + 1) cs = S.set k { x with cs := cs } := by simp [setS, h]
theorem setH_succ (hd : List Value) (k : Nat) (cs : List Value) : setH hd (k + 1) cs = hd := by simp [setH]
theorem setS_len (S : List SNode) (q : Nat) (cs : List Value) : (setS S q cs).length = S.length := by
  unfold setS; split
  · rfl
  · split <;> simp

abbrev shp (x : SNode) : Nat × Ent × Nat := (x.b, x.e, x.h)
theorem setS_shape (S : List SNode) (q : Nat) (cs : List Value) : (setS S q cs).map shp = S.map shp := by
  unfold setS; split
  · rfl
  · cases hg : S[q - 1]? with
    | none => rfl
    | some x =>
      simp only []
      apply List.ext_getElem?
      intro i
      rw [List.getElem?_map, List.getElem?_map, List.getElem?_set]
      split
      · rename_i e; subst e
        split
        · rw [hg]; rfl
        · rename_i hh; rw [List.getElem?_eq_none (by omega)] at hg; cases hg
      · rfl

theorem list_open (b : Nat) (hd : List Value) (S : List SNode) {p : Nat} (hp : p ≤ S.length) :
    ∃ r, listM b hd S = cell (posb b S p) (cellsAt hd S p) + r ∧ ∀ cs, listM b (setH hd p cs) (setS S p cs) = cell (posb b S p) cs + r := by
  cases p with
  | zero => exact ⟨nodesM S, rfl, fun cs => rfl⟩
  | succ k =>
    have hg : S[k]? = some (S[k]'(by omega)) := List.getElem?_eq_getElem (by omega)
    generalize S[k]'(by omega) = x at hg
    refine ⟨cell b hd + (nodesM (S.take k) + nodesM (S.drop (k + 1))), ?_, fun cs => ?_⟩
    · rw [listM, nodesM_get hg, posb_succ hg, cellsAt_succ hg]
      ac_rfl
    · have h2 : (S.set k { x with cs := cs })[k]? = some { x with cs := cs } := by
        rw [List.getElem?_set_self (by omega)]
      rw [setH_succ, setS_succ hg, listM, nodesM_get h2, posb_succ hg, List.take_set_of_le (Nat.le_refl _), List.drop_set_of_lt (by omega)]
      simp only []
      ac_rfl

theorem cellsAt_set {hd : List Value} {S : List SNode} {p q : Nat} (cs : List Value) (hp : p ≤ S.length) : cellsAt (setH hd p cs) (setS S p cs) q = if q = p then cs else cellsAt hd S q := by
  cases p with
  | zero =>
    by_cases hq : q = 0
    · subst hq; simp [cellsAt, setH]
    · simp [cellsAt, setS, hq]
  | succ k =>
    have hg : S[k]? = some (S[k]'(by omega)) := List.getElem?_eq_getElem (by omega)
    generalize S[k]'(by omega) = x at hg
    rw [setH_succ, setS_succ hg]
    cases q with
    | zero => simp [cellsAt]
    | succ j =>
      simp only [cellsAt, Nat.succ_ne_self, Nat.add_eq_zero_iff, and_false, if_false, Nat.add_sub_cancel, Nat.add_right_cancel_iff]
      rw [List.getElem?_set]
      by_cases e : k = j
      · subst e; rw [if_pos rfl, if_pos (by omega), if_pos rfl]
      · rw [if_neg e, if_neg (fun h => e h.symm)]

/-- The links of k levels, each at its level's place, are other ones; all else is as it was. -/
structure Upd (hd : List Value) (S : List SNode) (hd' : List Value) (S' : List SNode) (k : Nat) (pl : Nat → Nat) (nw : Nat → Value × Value) : Prop where
  shape : S'.map shp = S.map shp
  lens : ∀ q, (cellsAt hd' S' q).length = (cellsAt hd S q).length
  same : ∀ q j, j < 66 → (∀ i, i < k → q = pl i → j ≠ 2 + i * 2 ∧ j ≠ 2 + i * 2 + 1) → (cellsAt hd' S' q)[j]? = (cellsAt hd S q)[j]?
  new : ∀ i, i < k → (cellsAt hd' S' (pl i))[2 + i * 2]? = some (nw i).1 ∧ (cellsAt hd' S' (pl i))[2 + i * 2 + 1]? = some (nw i).2

theorem Upd.len {hd hd' : List Value} {S S' : List SNode} {k : Nat} {pl : Nat → Nat} {nw : Nat → Value × Value} (u : Upd hd S hd' S' k pl nw) : S'.length = S.length := by
  have := congrArg List.length u.shape
  simpa using this
theorem Upd.refl (hd : List Value) (S : List SNode) (pl : Nat → Nat) (nw : Nat → Value × Value) : Upd hd S hd S 0 pl nw :=
  ⟨rfl, fun _ => rfl, fun _ _ _ _ => rfl, fun i h => absurd h (by omega)⟩
theorem Upd.step {hd hd' : List Value} {S S' : List SNode} {k : Nat} {pl : Nat → Nat} {nw : Nat → Value × Value} (u : Upd hd S hd' S' k pl nw) (hp : pl k ≤ S.length) (hl : 2 + k * 2 + 1 < (cellsAt hd S (pl k)).length) :
    Upd hd S (setH hd' (pl k) (((cellsAt hd' S' (pl k)).set (2 + k * 2) (nw k).1).set (2 + k * 2 + 1) (nw k).2)) (setS S' (pl k) (((cellsAt hd' S' (pl k)).set (2 + k * 2) (nw k).1).set (2 + k * 2 + 1) (nw k).2)) (k + 1) pl nw := by
  have hp' : pl k ≤ S'.length := by rw [u.len]; exact hp
  refine ⟨by rw [setS_shape]; exact u.shape, fun q => ?_, fun q j hj hq => ?_, fun i hi => ?_⟩
  · rw [cellsAt_set _ hp']
    split
    · rename_i e; subst e; rw [List.length_set, List.length_set]; exact u.lens _
    · exact u.lens q
  · rw [cellsAt_set _ hp']
    split
    · rename_i e; subst e
      have h1 := hq k (by omega) rfl
      rw [List.getElem?_set_ne (fun e => h1.2 e.symm), List.getElem?_set_ne (fun e => h1.1 e.symm)]
      exact u.same _ j hj fun i hi he => hq i (by omega) he
    · exact u.same q j hj fun i hi he => hq i (by omega) he
  · rw [cellsAt_set _ hp']
    have hlen := u.lens (pl k)
    by_cases e : i = k
    · subst e
      rw [if_pos rfl]
      constructor
      · rw [List.getElem?_set_ne (by omega), List.getElem?_set_self (by omega)]
      · rw [List.getElem?_set_self (by rw [List.length_set]; omega)]
    · have := u.new i (by omega)
      split
      · rename_i e2
        rw [e2] at this
        rw [List.getElem?_set_ne (by omega), List.getElem?_set_ne (by omega), List.getElem?_set_ne (by omega), List.getElem?_set_ne (by omega)]
        exact this
      · exact this
end Go.X.W
set_option linter.unusedVariables false
set_option linter.unusedSimpArgs false
namespace Go.X.W
open Go Go.X Go.Proofs

theorem nxt_shape (i : Nat) : ∀ {l l' : List SNode}, l.map shp = l'.map shp → nxt i l = nxt i l'
  | [], [], _ => rfl
  | [], _ :: _, h => by simp at h
  | _ :: _, [], h => by simp at h
  | x :: l, y :: l', h => by
    simp only [List.map_cons, List.cons.injEq, Prod.mk.injEq] at h
    unfold nxt
    rw [h.1.1, h.1.2.2, nxt_shape i h.2]
theorem nxt_none {i : Nat} : ∀ {l1 : List SNode} (B : List SNode), (∀ y ∈ l1, y.h ≤ i) → nxt i (l1 ++ B) = ((nxt i B).1, l1.length + (nxt i B).2)
  | [], B, _ => by simp
  | x :: l1, B, h => by
    rw [List.cons_append, nxt, if_neg (by have := h x (by simp); omega), nxt_none B fun y hy => h y (by simp [hy])]
    simp only [List.length_cons]
    congr 1
    omega
theorem nxt_some {i : Nat} : ∀ {l1 : List SNode} (B C : List SNode), (∃ y ∈ l1, i < y.h) → nxt i (l1 ++ B) = nxt i (l1 ++ C)
  | [], B, C, h => by obtain ⟨y, hy, _⟩ := h; cases hy
  | x :: l1, B, C, h => by
    rw [List.cons_append, List.cons_append, nxt, nxt]
    by_cases hx : i < x.h
    · rw [if_pos hx, if_pos hx]
    · rw [if_neg hx, if_neg hx]
      obtain ⟨y, hy, hi⟩ := h
      rcases List.mem_cons.1 hy with rfl | hy
      · exact absurd hi hx
      · rw [nxt_some B C ⟨y, hy, hi⟩]

theorem posh_shape {lv : Nat} {S S' : List SNode} (h : S'.map shp = S.map shp) (q : Nat) : posh lv S' q = posh lv S q := by
  unfold posh
  split
  · rfl
  · have := congrArg (fun l => l[q - 1]?) h
    simp only [List.getElem?_map] at this
    cases h1 : S'[q - 1]? <;> cases h2 : S[q - 1]? <;> rw [h1, h2] at this <;> simp at this ⊢
    exact this.2.2
theorem posb_shape {b : Nat} {S S' : List SNode} (h : S'.map shp = S.map shp) (q : Nat) : posb b S' q = posb b S q := by
  unfold posb
  split
  · rfl
  · have := congrArg (fun l => l[q - 1]?) h
    simp only [List.getElem?_map] at this
    cases h1 : S'[q - 1]? <;> cases h2 : S[q - 1]? <;> rw [h1, h2] at this <;> simp at this ⊢
    exact this.1

/-- All links, place by place. -/
def Links (hd : List Value) (lv : Nat) (S : List SNode) : Prop := ∀ q, q ≤ S.length → ∀ i, i < posh lv S q → (cellsAt hd S q)[2 + i * 2]? = some (nxt i (S.drop q)).1 ∧ (cellsAt hd S q)[2 + i * 2 + 1]? = some (.int .i64 (nxt i (S.drop q)).2)

theorem SkOk.links {hd : List Value} {lv : Nat} {S : List SNode} (ok : SkOk hd lv S) : Links hd lv S := by
  intro q hq i hi
  cases q with
  | zero => exact ok.lk i hi
  | succ k =>
    have hg : S[k]? = some (S[k]'(by omega)) := List.getElem?_eq_getElem (by omega)
    generalize S[k]'(by omega) = x at hg
    rw [posh_succ hg] at hi
    rw [cellsAt_succ hg]
    exact (ok.nodes.get hg).lk i hi

/-- What is right about a node's cells but for its links. -/
structure NodeB (x : SNode) : Prop where
  len : x.cs.length = 68
  e0 : x.cs[0]? = some (.string x.e.1)
  e1 : x.cs[1]? = some (.int .i64 x.e.2)
  lv : x.cs[66]? = some (.int .i64 x.h)
  bk : ∃ a, x.cs[67]? = some (.pointer a)
  hb : 1 ≤ x.h ∧ x.h ≤ 32

theorem NodesOk.base : ∀ {S : List SNode}, NodesOk S → ∀ x ∈ S, NodeB x
  | y :: S, h, x, hx => by
    rcases List.mem_cons.1 hx with rfl | hx
    · exact ⟨h.1.len, h.1.e0, h.1.e1, h.1.lv, h.1.bk, h.1.hb⟩
    · exact NodesOk.base h.2 x hx

theorem nodesOk_of : ∀ {S : List SNode}, (∀ x ∈ S, NodeB x) → (∀ k x, S[k]? = some x → LinkOk x.cs x.h (S.drop (k + 1))) → NodesOk S
  | [], _, _ => trivial
  | x :: S, hb, hl => by
    have h0 := hb x (by simp)
    exact ⟨⟨h0.len, h0.e0, h0.e1, h0.lv, h0.bk, h0.hb, hl 0 x rfl⟩, nodesOk_of (fun y hy => hb y (by simp [hy])) fun k y hy => hl (k + 1) y (by simpa using hy)⟩

theorem sk_of {hd : List Value} {lv : Nat} {S : List SNode} (len : hd.length = 71) (last : ∃ a, hd[68]? = some (.pointer a)) (lvc : hd[69]? = some (.int .i64 lv)) (nc : hd[70]? = some (.int .i64 S.length)) (l32 : lv ≤ 32) (hs : ∀ x ∈ S, x.h ≤ lv)
    (hb : ∀ x ∈ S, NodeB x) (hl : Links hd lv S) (big : S.length < 1000000) : SkOk hd lv S := by
  refine ⟨len, last, lvc, nc, l32, hs, fun i hi => hl 0 (by omega) i hi, nodesOk_of hb fun k x hg i hi => ?_, big⟩
  have := hl (k + 1) (by have := (List.getElem?_eq_some_iff.1 hg).1; omega) i (by rw [posh_succ hg]; exact hi)
  rwa [cellsAt_succ hg] at this
end Go.X.W
set_option linter.unusedVariables false
set_option linter.unusedSimpArgs false
namespace Go.X.W
open Go Go.X Go.Proofs

/-- What a level's link becomes where a node is put in behind c nodes. -/
def nwIns (S : List SNode) (c level xb : Nat) (i : Nat) : Value × Value :=
  if i < level then (ptrV xb, .int .i64 ((c - lastP S i c + 1 : Nat) : Int)) else ((nxt i (S.drop (lastP S i c))).1, .int .i64 (((nxt i (S.drop (lastP S i c))).2 + 1 : Nat) : Int))

theorem mem_posh {S : List SNode} {p q i : Nat} (h1 : p < q) (h2 : q ≤ S.length) (hi : i < posh 0 S q) (c : Nat) (h3 : q ≤ c) : ∃ y ∈ (S.take c).drop p, i < y.h := by
  obtain ⟨k, rfl⟩ : ∃ k, q = k + 1 := ⟨q - 1, by omega⟩
  have hg : S[k]? = some (S[k]'(by omega)) := List.getElem?_eq_getElem (by omega)
  generalize S[k]'(by omega) = y at hg
  rw [posh_succ hg] at hi
  refine ⟨y, List.mem_of_getElem? (i := k - p) ?_, hi⟩
  rw [List.getElem?_drop, List.getElem?_take, if_pos (by omega), show p + (k - p) = k by omega, hg]

theorem none_posh {S : List SNode} {i c : Nat} {p : Nat} (hp : lastP S i c ≤ p) : ∀ y ∈ (S.take c).drop p, y.h ≤ i := by
  intro y hy
  obtain ⟨j, hj⟩ := List.getElem?_of_mem hy
  rw [List.getElem?_drop, List.getElem?_take] at hj
  split at hj
  · rename_i hlt
    refine Nat.le_of_not_lt fun hi => ?_
    have := lastP_max S i c (p + j + 1) (by omega) (by rw [posh_succ hj]; exact hi)
    omega
  · cases hj

theorem take_drop_split (S : List SNode) {p c : Nat} (h : p ≤ c) : S.drop p = (S.take c).drop p ++ S.drop c := by
  rw [List.drop_take]
  have := List.take_append_drop (c - p) (S.drop p)
  rw [List.drop_drop, show p + (c - p) = c by omega] at this
  exact this.symm

/-- A level's link at its own place, and ahead of it. -/
theorem nxt_at {S : List SNode} {i c p : Nat} (hc : c ≤ S.length) (hp : lastP S i c ≤ p) (hpc : p ≤ c) (B : List SNode) : nxt i ((S.take c).drop p ++ B) = ((nxt i B).1, (c - p) + (nxt i B).2) := by
  rw [nxt_none B (none_posh hp), List.length_drop, List.length_take, Nat.min_eq_left hc]
theorem nxt_before {S : List SNode} {i c p : Nat} (hc : c ≤ S.length) (hp : p < lastP S i c) (B C : List SNode) : nxt i ((S.take c).drop p ++ B) = nxt i ((S.take c).drop p ++ C) := by
  refine nxt_some B C (mem_posh hp (Nat.le_trans (lastP_le S i c) hc) ?_ c (lastP_le S i c))
  rcases lastP_h S i c with h | h
  · omega
  · exact h

theorem le_lastP {lv : Nat} {S : List SNode} {i c q : Nat} (hq : q ≤ c) (hi : i < posh lv S q) : q ≤ lastP S i c := by
  by_cases h : q = 0
  · omega
  · exact lastP_max S i c q hq (by rw [← posh_any (lv := lv) S h]; exact hi)

theorem posh_lt {hd : List Value} {lv q i : Nat} {S : List SNode} (ok : SkOk hd lv S) (h : i < posh lv S q) : i < 32 := by
  have h32 := ok.l32
  unfold posh at h
  split at h
  · omega
  · cases hg : S[q - 1]? with
    | none => rw [hg] at h; simp at h
    | some x =>
      rw [hg] at h
      have := ok.hs x (List.mem_of_getElem? hg)
      simp only at h
      omega

theorem ins_links {hd hd' : List Value} {lv c : Nat} {S S' : List SNode} {x : SNode} (ok : SkOk hd lv S) (hc : c ≤ S.length) (hx : x.h ≤ lv)
    (u : Upd hd S hd' S' lv (fun i => lastP S i c) (nwIns S c x.h x.b))
    (xl : ∀ i, i < x.h → x.cs[2 + i * 2]? = some (nxt i (S.drop (lastP S i c))).1 ∧ x.cs[2 + i * 2 + 1]? = some (.int .i64 (((nxt i (S.drop (lastP S i c))).2 : Int) - ((c : Int) - (lastP S i c : Nat))))) :
    Links hd' lv (S'.take c ++ x :: S'.drop c) := by
  have hl := u.len
  have hshB : ∀ n, (S'.drop n).map shp = (S.drop n).map shp := fun n => by rw [List.map_drop, List.map_drop, u.shape]
  have hshA : ∀ n, ((S'.take c).drop n).map shp = ((S.take c).drop n).map shp := fun n => by rw [List.map_drop, List.map_drop, List.map_take, List.map_take, u.shape]
  have hlA : (S'.take c).length = c := by rw [List.length_take]; omega
  -- the link of level i over the gap
  have over : ∀ i, (nxt i (S.drop (lastP S i c))) = ((nxt i (S.drop c)).1, (c - lastP S i c) + (nxt i (S.drop c)).2) := fun i => by
    have h := lastP_le S i c
    rw [take_drop_split S h]
    exact nxt_at hc (Nat.le_refl _) h _
  have hxB : nxt x.h [] = nxt x.h [] := rfl
  intro q hq i hi
  rw [List.length_append, List.length_cons, List.length_drop, hlA] at hq
  by_cases h1 : q ≤ c
  · -- a place ahead of the new one
    have hcell : cellsAt hd' (S'.take c ++ x :: S'.drop c) q = cellsAt hd' S' q := by
      cases q with
      | zero => rfl
      | succ k =>
        simp only [cellsAt, Nat.succ_ne_self, Nat.add_eq_zero_iff, and_false, if_false, Nat.add_sub_cancel]
        rw [List.getElem?_append_left (by omega), List.getElem?_take, if_pos (by omega)]
    have hph : posh lv (S'.take c ++ x :: S'.drop c) q = posh lv S q := by
      rw [← posh_shape u.shape q]
      cases q with
      | zero => rfl
      | succ k =>
        simp only [posh, Nat.succ_ne_self, Nat.add_eq_zero_iff, and_false, if_false, Nat.add_sub_cancel]
        rw [List.getElem?_append_left (by omega), List.getElem?_take, if_pos (by omega)]
    have hdr : (S'.take c ++ x :: S'.drop c).drop q = (S'.take c).drop q ++ x :: S'.drop c := by
      rw [List.drop_append_of_le_length (by omega)]
    rw [hph] at hi
    have hilv : i < lv := by
      cases q with
      | zero => exact hi
      | succ k =>
        have hg : S[k]? = some (S[k]'(by omega)) := List.getElem?_eq_getElem (by omega)
        rw [posh_succ hg] at hi
        have := ok.hs _ (List.getElem_mem (by omega : k < S.length))
        omega
    have hle := le_lastP (lv := lv) (S := S) h1 hi
    have hsh : nxt i ((S'.take c ++ x :: S'.drop c).drop q) = nxt i ((S.take c).drop q ++ x :: S.drop c) := by
      rw [hdr]
      refine nxt_shape i ?_
      rw [List.map_append, List.map_append, List.map_cons, List.map_cons, hshA, hshB]
    rw [hcell, hsh]
    by_cases he : q = lastP S i c
    · have hn := u.new i hilv
      simp only [← he] at hn
      have ho := over i
      rw [← he] at ho
      rw [nxt_at hc (by omega) h1, hn.1, hn.2]
      unfold nwIns
      rw [← he, ho]
      by_cases hix : i < x.h
      · rw [if_pos hix, nxt, if_pos hix]
        exact ⟨rfl, rfl⟩
      · rw [if_neg hix, nxt, if_neg hix]
        exact ⟨rfl, by simp only []; congr 3⟩
    · have hlt : q < lastP S i c := by omega
      have hs1 : ∀ j, (j = 2 + i * 2 ∨ j = 2 + i * 2 + 1) → (cellsAt hd' S' q)[j]? = (cellsAt hd S q)[j]? := fun j hj => u.same q j (by have := ok.l32; omega) fun i' hi' hq' => by
        refine ⟨fun e => ?_, fun e => ?_⟩ <;>
        · have : i' = i := by omega
          subst this; exact he hq'
      rw [hs1 _ (.inl rfl), hs1 _ (.inr rfl), nxt_before hc hlt _ (S.drop c), ← take_drop_split S h1]
      exact ok.links q (by omega) i hi
  · by_cases h2 : q = c + 1
    · -- the new place
      subst h2
      have hg : (S'.take c ++ x :: S'.drop c)[c]? = some x := by
        rw [List.getElem?_append_right (by omega), hlA, Nat.sub_self]; rfl
      rw [posh_succ hg] at hi
      rw [cellsAt_succ hg, (xl i hi).1, (xl i hi).2, over i]
      have hdr : (S'.take c ++ x :: S'.drop c).drop (c + 1) = S'.drop c := by
        rw [List.drop_append, hlA, List.drop_eq_nil_of_le (by omega), show c + 1 - c = 1 by omega]; rfl
      rw [hdr, nxt_shape i (hshB c)]
      refine ⟨rfl, ?_⟩
      have := lastP_le S i c
      congr 2
      simp only []
      omega
    · -- a place behind it
      obtain ⟨k, rfl⟩ : ∃ k, q = k + 2 := ⟨q - 2, by omega⟩
      have hg : (S'.take c ++ x :: S'.drop c)[k + 1]? = S'[k]? := by
        rw [List.getElem?_append_right (by omega), hlA, show k + 1 - c = (k - c) + 1 by omega, List.getElem?_cons_succ, List.getElem?_drop, show c + (k - c) = k by omega]
      have hdr : (S'.take c ++ x :: S'.drop c).drop (k + 2) = S'.drop (k + 1) := by
        rw [List.drop_append, hlA, List.drop_eq_nil_of_le (by omega), show k + 2 - c = (k + 1 - c) + 1 by omega, List.drop_succ_cons, List.drop_drop, List.nil_append]
        congr 1
        omega
      have hcell : cellsAt hd' (S'.take c ++ x :: S'.drop c) (k + 2) = cellsAt hd' S' (k + 1) := by
        simp only [cellsAt, Nat.succ_ne_self, Nat.add_eq_zero_iff, and_false, if_false, Nat.add_sub_cancel]
        rw [show k + 2 - 1 = k + 1 by omega, hg]
        simp
      have hph : posh lv (S'.take c ++ x :: S'.drop c) (k + 2) = posh lv S (k + 1) := by
        rw [← posh_shape u.shape]
        simp only [posh, Nat.succ_ne_self, Nat.add_eq_zero_iff, and_false, if_false, Nat.add_sub_cancel]
        rw [show k + 2 - 1 = k + 1 by omega, hg]
        simp
      rw [hph] at hi
      have hs1 : ∀ j, j < 66 → (cellsAt hd' S' (k + 1))[j]? = (cellsAt hd S (k + 1))[j]? := fun j hj => u.same (k + 1) j hj fun i' hi' hq' => by
        have := lastP_le S i' c
        omega
      have hi32 := posh_lt ok hi
      rw [hcell, hdr, hs1 _ (by omega), hs1 _ (by omega), nxt_shape i (hshB (k + 1))]
      exact ok.links (k + 1) (by omega) i hi

/-- What a level's link becomes where the node behind c nodes is taken out. -/
def nwDel (S : List SNode) (c : Nat) (i : Nat) : Value × Value := ((nxt i (S.drop (c + 1))).1, .int .i64 (((c - lastP S i c) + (nxt i (S.drop (c + 1))).2 : Nat) : Int))

theorem del_over {S : List SNode} {c : Nat} {x : SNode} (hg : S[c]? = some x) (i : Nat) : nxt i (S.drop (lastP S i c)) = if i < x.h then (ptrV x.b, c - lastP S i c + 1) else ((nxt i (S.drop (c + 1))).1, (c - lastP S i c) + (nxt i (S.drop (c + 1))).2 + 1) := by
  have hc := (List.getElem?_eq_some_iff.1 hg).1
  have he := (List.getElem?_eq_some_iff.1 hg).2
  have h := lastP_le S i c
  rw [take_drop_split S h, nxt_at (by omega) (Nat.le_refl _) h, List.drop_eq_getElem_cons hc, he, nxt]
  split
  · rfl
  · simp only []
    congr 1

theorem del_links {hd hd' : List Value} {lv c : Nat} {S S' : List SNode} {x : SNode} (ok : SkOk hd lv S) (hg : S[c]? = some x) (u : Upd hd S hd' S' lv (fun i => lastP S i c) (nwDel S c)) : Links hd' lv (S'.take c ++ S'.drop (c + 1)) := by
  have hc := (List.getElem?_eq_some_iff.1 hg).1
  have hl := u.len
  have hshB : ∀ n, (S'.drop n).map shp = (S.drop n).map shp := fun n => by rw [List.map_drop, List.map_drop, u.shape]
  have hshA : ∀ n, ((S'.take c).drop n).map shp = ((S.take c).drop n).map shp := fun n => by rw [List.map_drop, List.map_drop, List.map_take, List.map_take, u.shape]
  have hlA : (S'.take c).length = c := by rw [List.length_take]; omega
  intro q hq i hi
  rw [List.length_append, List.length_drop, hlA] at hq
  by_cases h1 : q ≤ c
  · have hcell : cellsAt hd' (S'.take c ++ S'.drop (c + 1)) q = cellsAt hd' S' q := by
      cases q with
      | zero => rfl
      | succ k =>
        simp only [cellsAt, Nat.succ_ne_self, Nat.add_eq_zero_iff, and_false, if_false, Nat.add_sub_cancel]
        rw [List.getElem?_append_left (by omega), List.getElem?_take, if_pos (by omega)]
    have hph : posh lv (S'.take c ++ S'.drop (c + 1)) q = posh lv S q := by
      rw [← posh_shape u.shape q]
      cases q with
      | zero => rfl
      | succ k =>
        simp only [posh, Nat.succ_ne_self, Nat.add_eq_zero_iff, and_false, if_false, Nat.add_sub_cancel]
        rw [List.getElem?_append_left (by omega), List.getElem?_take, if_pos (by omega)]
    have hdr : (S'.take c ++ S'.drop (c + 1)).drop q = (S'.take c).drop q ++ S'.drop (c + 1) := by
      rw [List.drop_append_of_le_length (by omega)]
    rw [hph] at hi
    have hilv : i < lv := by
      cases q with
      | zero => exact hi
      | succ k =>
        have hgk : S[k]? = some (S[k]'(by omega)) := List.getElem?_eq_getElem (by omega)
        rw [posh_succ hgk] at hi
        have := ok.hs _ (List.getElem_mem (by omega : k < S.length))
        omega
    have hle := le_lastP (lv := lv) (S := S) h1 hi
    have hsh : nxt i ((S'.take c ++ S'.drop (c + 1)).drop q) = nxt i ((S.take c).drop q ++ S.drop (c + 1)) := by
      rw [hdr]
      refine nxt_shape i ?_
      rw [List.map_append, List.map_append, hshA, hshB]
    rw [hcell, hsh]
    by_cases he : q = lastP S i c
    · have hn := u.new i hilv
      simp only [← he] at hn
      rw [nxt_at (by omega) (by omega) h1, hn.1, hn.2]
      unfold nwDel
      rw [← he]
      exact ⟨rfl, rfl⟩
    · have hlt : q < lastP S i c := by omega
      have hs1 : ∀ j, (j = 2 + i * 2 ∨ j = 2 + i * 2 + 1) → (cellsAt hd' S' q)[j]? = (cellsAt hd S q)[j]? := fun j hj => u.same q j (by have := ok.l32; omega) fun i' hi' hq' => by
        refine ⟨fun e => ?_, fun e => ?_⟩ <;>
        · have : i' = i := by omega
          subst this; exact he hq'
      rw [hs1 _ (.inl rfl), hs1 _ (.inr rfl), nxt_before (by omega) hlt _ (S.drop c), ← take_drop_split S h1]
      exact ok.links q (by omega) i hi
  · obtain ⟨k, rfl⟩ : ∃ k, q = k + 1 := ⟨q - 1, by omega⟩
    have hgk : (S'.take c ++ S'.drop (c + 1))[k]? = S'[k + 1]? := by
      rw [List.getElem?_append_right (by omega), hlA, List.getElem?_drop, show c + 1 + (k - c) = k + 1 by omega]
    have hdr : (S'.take c ++ S'.drop (c + 1)).drop (k + 1) = S'.drop (k + 2) := by
      rw [List.drop_append, hlA, List.drop_eq_nil_of_le (by omega), List.drop_drop, List.nil_append]
      congr 1
      omega
    have hcell : cellsAt hd' (S'.take c ++ S'.drop (c + 1)) (k + 1) = cellsAt hd' S' (k + 2) := by
      simp only [cellsAt, Nat.succ_ne_self, Nat.add_eq_zero_iff, and_false, if_false, Nat.add_sub_cancel]
      rw [hgk]
      simp
    have hph : posh lv (S'.take c ++ S'.drop (c + 1)) (k + 1) = posh lv S (k + 2) := by
      rw [← posh_shape u.shape]
      simp only [posh, Nat.succ_ne_self, Nat.add_eq_zero_iff, and_false, if_false, Nat.add_sub_cancel]
      rw [hgk]
      simp
    rw [hph] at hi
    have hs1 : ∀ j, j < 66 → (cellsAt hd' S' (k + 2))[j]? = (cellsAt hd S (k + 2))[j]? := fun j hj => u.same (k + 2) j hj fun i' hi' hq' => by
      have := lastP_le S i' c
      omega
    have hi32 := posh_lt ok hi
    rw [hcell, hdr, hs1 _ (by omega), hs1 _ (by omega), nxt_shape i (hshB (k + 2))]
    exact ok.links (k + 2) (by omega) i hi
end Go.X.W
set_option linter.unusedVariables false
set_option linter.unusedSimpArgs false
namespace Go.X.W
open Go Go.X Go.Proofs

/-- What is right about a list's cells but for its links. -/
structure Base (hd : List Value) (lv n : Nat) (S : List SNode) : Prop where
  len : hd.length = 71
  last : ∃ a, hd[68]? = some (.pointer a)
  lvc : hd[69]? = some (.int .i64 lv)
  nc : hd[70]? = some (.int .i64 n)
  nb : ∀ x ∈ S, NodeB x

theorem SkOk.base {hd : List Value} {lv : Nat} {S : List SNode} (ok : SkOk hd lv S) : Base hd lv S.length S := ⟨ok.len, ok.last, ok.lvc, ok.nc, ok.nodes.base⟩

theorem NodeB.set {x : SNode} (h : NodeB x) {j : Nat} (v : Value) (hj : 2 ≤ j ∧ j < 66) : NodeB { x with cs := x.cs.set j v } :=
  ⟨by simpa using h.len, by simp only []; rw [List.getElem?_set_ne (by omega)]; exact h.e0, by simp only []; rw [List.getElem?_set_ne (by omega)]; exact h.e1, by simp only []; rw [List.getElem?_set_ne (by omega)]; exact h.lv,
    by simp only []; rw [List.getElem?_set_ne (by omega)]; exact h.bk, h.hb⟩
theorem NodeB.back {x : SNode} (h : NodeB x) (a : Option Addr) : NodeB { x with cs := x.cs.set 67 (.pointer a) } :=
  ⟨by simpa using h.len, by simp only []; rw [List.getElem?_set_ne (by omega)]; exact h.e0, by simp only []; rw [List.getElem?_set_ne (by omega)]; exact h.e1, by simp only []; rw [List.getElem?_set_ne (by omega)]; exact h.lv,
    ⟨a, by simp only []; rw [List.getElem?_set_self (by rw [h.len]; omega)]⟩, h.hb⟩

theorem Base.set2 {hd : List Value} {lv n p : Nat} {S : List SNode} (h : Base hd lv n S) (hp : p ≤ S.length) {j : Nat} (hj : 2 ≤ j ∧ j + 1 < 66) (u v : Value) :
    Base (setH hd p (((cellsAt hd S p).set j u).set (j + 1) v)) lv n (setS S p (((cellsAt hd S p).set j u).set (j + 1) v)) := by
  cases p with
  | zero =>
    refine ⟨?_, ?_, ?_, ?_, h.nb⟩
    · simp [setH, cellsAt, h.len]
    · simp only [setH, cellsAt, if_true]; rw [List.getElem?_set_ne (by omega), List.getElem?_set_ne (by omega)]; exact h.last
    · simp only [setH, cellsAt, if_true]; rw [List.getElem?_set_ne (by omega), List.getElem?_set_ne (by omega)]; exact h.lvc
    · simp only [setH, cellsAt, if_true]; rw [List.getElem?_set_ne (by omega), List.getElem?_set_ne (by omega)]; exact h.nc
  | succ k =>
    have hg : S[k]? = some (S[k]'(by omega)) := List.getElem?_eq_getElem (by omega)
    generalize S[k]'(by omega) = x at hg
    rw [setH_succ, setS_succ hg, cellsAt_succ hg]
    refine ⟨h.len, h.last, h.lvc, h.nc, fun y hy => ?_⟩
    rcases List.mem_or_eq_of_mem_set hy with hy | rfl
    · exact h.nb y hy
    · exact ((h.nb x (List.mem_of_getElem? hg)).set u (by omega)).set v (by omega)

theorem Upd.head {hd hd' : List Value} {S S' : List SNode} {k : Nat} {pl : Nat → Nat} {nw : Nat → Value × Value} (u : Upd hd S hd' S' k pl nw) (hk : k ≤ 32) {j : Nat} (v : Value) (hj : 66 ≤ j) : Upd hd S (hd'.set j v) S' k pl nw := by
  have hc : ∀ q i, i < 66 → (cellsAt (hd'.set j v) S' q)[i]? = (cellsAt hd' S' q)[i]? := fun q i hi => by
    unfold cellsAt
    split
    · rw [List.getElem?_set_ne (by omega)]
    · rfl
  refine ⟨u.shape, fun q => ?_, fun q i hi hq => ?_, fun i hi => ?_⟩
  · rw [← u.lens q]
    unfold cellsAt
    split
    · simp
    · rfl
  · rw [hc q i hi]; exact u.same q i hi hq
  · rw [hc _ _ (by omega), hc _ _ (by omega)]; exact u.new i hi
theorem Upd.back {hd hd' : List Value} {S S' : List SNode} {k c : Nat} {y : SNode} {pl : Nat → Nat} {nw : Nat → Value × Value} (u : Upd hd S hd' S' k pl nw) (hk : k ≤ 32) (hg : S'[c]? = some y) (v : Value) :
    Upd hd S hd' (S'.set c { y with cs := y.cs.set 67 v }) k pl nw := by
  have hlt := (List.getElem?_eq_some_iff.1 hg).1
  have e1 : S'.set c { y with cs := y.cs.set 67 v } = setS S' (c + 1) (y.cs.set 67 v) := by rw [setS_succ hg]
  have e2 : hd' = setH hd' (c + 1) (y.cs.set 67 v) := by rw [setH_succ]
  have hc : ∀ q, cellsAt hd' (S'.set c { y with cs := y.cs.set 67 v }) q = if q = c + 1 then y.cs.set 67 v else cellsAt hd' S' q := fun q => by
    conv => lhs; rw [e1, e2]
    exact cellsAt_set _ (by omega)
  have hcy : cellsAt hd' S' (c + 1) = y.cs := cellsAt_succ hg
  have hc2 : ∀ q i, i < 66 → (cellsAt hd' (S'.set c { y with cs := y.cs.set 67 v }) q)[i]? = (cellsAt hd' S' q)[i]? := fun q i hi => by
    rw [hc q]
    split
    · rename_i e; subst e; rw [hcy, List.getElem?_set_ne (by omega)]
    · rfl
  refine ⟨by rw [e1, setS_shape]; exact u.shape, fun q => ?_, fun q i hi hq => ?_, fun i hi => ?_⟩
  · rw [hc q, ← u.lens q]
    split
    · rename_i e; subst e; rw [hcy]; simp
    · rfl
  · rw [hc2 q i hi]; exact u.same q i hi hq
  · rw [hc2 _ _ (by omega), hc2 _ _ (by omega)]; exact u.new i hi

theorem set_same {cs : List Value} {j : Nat} {v : Value} (h : cs[j]? = some v) : cs.set j v = cs := by
  apply List.ext_getElem?
  intro i
  rw [List.getElem?_set]
  split
  · rename_i e; subst e
    rw [if_pos (List.getElem?_eq_some_iff.1 h).1, h]
  · rfl

variable {H : Heap} {m : Mem} {K : Value → Heap → Prop}
theorem slices_Max2_h {l c : Nat} {x y : Int} {r : Mem} [p : PickC l m [.int .i64 x, .int .i64 y] r] (hh : Has H m) (hK : K (.int .i64 (max x y)) H) : CallH P f_slices_Max_s_int_int [.slice (some ⟨l, 0, none⟩) 2 c] H K := by
  have hb := hh.blk (b := l)
  apply k_slices_Max_s_int_int
  unfold c_slices_Max_s_int_int
  (try simp only [xl, xo, Bool.not_eq_true', decide_eq_false_iff_not, ite_not, List.size_toArray, List.length_cons, List.length_nil, Nat.reduceAdd, qt, decide_eq_true_eq, Int.toNat_zero, Int.toNat_natCast, Nat.zero_mul, Nat.mul_one, Nat.one_mul, List.toList_toArray, List.cons_append, List.nil_append, List.append_nil, true_and, and_true, Nat.zero_add, Nat.add_zero, Bool.not_true, Bool.not_false, if_true, if_false, reduceCtorEq, List.set_cons_zero, List.set_cons_succ])
  rw [if_neg (by omega)]
  refine ⟨by omega, ?_⟩
  refine hb.load rfl ?_
  refine loop_i (fun k s H' => H' = H ∧ ((k = 1 ∧ s = ((.int .i64 x, .int .i64 1), [])) ∨ (k = 0 ∧ s = ((.int .i64 (max x y), .int .i64 2), [])))) 1 ⟨rfl, .inl ⟨rfl, rfl⟩⟩ ?_
  rintro k s g H' ⟨rfl, ⟨rfl, rfl⟩ | ⟨rfl, rfl⟩⟩
  · (try simp only [xl, xo, Bool.not_eq_true', decide_eq_false_iff_not, ite_not, List.size_toArray, List.length_cons, List.length_nil, Nat.reduceAdd, qt, decide_eq_true_eq, Int.toNat_zero, Int.toNat_natCast, Nat.zero_mul, Nat.mul_one, Nat.one_mul, List.toList_toArray, List.cons_append, List.nil_append, List.append_nil, true_and, and_true, Nat.zero_add, Nat.add_zero, Bool.not_true, Bool.not_false, if_true, if_false, reduceCtorEq, List.set_cons_zero, List.set_cons_succ])
    rw [if_pos (by omega)]
    refine ⟨by omega, ?_⟩
    refine hb.load rfl ?_
    (try simp only [xl, xo, Bool.not_eq_true', decide_eq_false_iff_not, ite_not, List.size_toArray, List.length_cons, List.length_nil, Nat.reduceAdd, qt, decide_eq_true_eq, Int.toNat_zero, Int.toNat_natCast, Nat.zero_mul, Nat.mul_one, Nat.one_mul, List.toList_toArray, List.cons_append, List.nil_append, List.append_nil, true_and, and_true, Nat.zero_add, Nat.add_zero, Bool.not_true, Bool.not_false, if_true, if_false, reduceCtorEq, List.set_cons_zero, List.set_cons_succ])
    exact ⟨0, by omega, .inr ⟨rfl, rfl⟩⟩
  · (try simp only [xl, xo, Bool.not_eq_true', decide_eq_false_iff_not, ite_not, List.size_toArray, List.length_cons, List.length_nil, Nat.reduceAdd, qt, decide_eq_true_eq, Int.toNat_zero, Int.toNat_natCast, Nat.zero_mul, Nat.mul_one, Nat.one_mul, List.toList_toArray, List.cons_append, List.nil_append, List.append_nil, true_and, and_true, Nat.zero_add, Nat.add_zero, Bool.not_true, Bool.not_false, if_true, if_false, reduceCtorEq, List.set_cons_zero, List.set_cons_succ])
    rw [if_neg (by omega)]
    exact hK
end Go.X.W
