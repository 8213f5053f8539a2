/- Contracts: a list of levels: Insert. Contracts: a list of levels: takes. Contracts: a list of levels: Delete, Cut. Packs: plain facts; texts of bytes. Contracts: packs: head, New, entry, read. -/
import Derived.Test.YtochkahbnhegaaaGreatZS13
set_option linter.unusedVariables false
set_option linter.unusedSimpArgs false
namespace Go.X.W
open Go Go.X Go.Proofs

variable {H : Heap} {b lv : Nat} {hd : List Value} {S : List SNode} {m : Mem} {K : Value → Heap → Prop}

theorem lastP_hi {S : List SNode} {i : Nat} (h : ∀ x ∈ S, x.h ≤ i) : ∀ c, c ≤ S.length → lastP S i c = 0
  | 0, _ => rfl
  | c + 1, hc => by
    unfold lastP
    have hg : S[c]? = some (S[c]'(by omega)) := List.getElem?_eq_getElem (by omega)
    rw [posh_succ hg, if_neg (by have := h _ (List.getElem_mem (by omega : c < S.length)); omega)]
    exact lastP_hi h c (by omega)
theorem nxt_hi {S : List SNode} {i : Nat} (h : ∀ x ∈ S, x.h ≤ i) : nxt i S = (nilV, S.length) := by
  rcases nxt_spec i S with ⟨e, _⟩ | ⟨l1, x, l2, e, _, hx, _⟩
  · exact e
  · have := h x (by rw [e]; simp)
    omega

theorem pathN_ext {b c i : Nat} {S : List SNode} (hi : i < 32) (h : lastP S i c = 0) : (pathN b S c 0 i).set i (ptrV b) = pathN b S c 0 (i + 1) := by
  apply List.ext_getElem?
  intro j
  unfold pathN
  rw [List.getElem?_set, List.length_map, List.length_range, List.getElem?_map, List.getElem?_map]
  by_cases hj : j < 32
  · rw [List.getElem?_range hj]
    simp only [Option.map_some]
    by_cases e : i = j
    · subst e; rw [if_pos rfl, if_pos hj, if_pos (by omega), h]; rfl
    · rw [if_neg e]
      by_cases h2 : j < i
      · rw [if_pos (by omega), if_pos (by omega)]
      · rw [if_neg (by omega), if_neg (by omega)]
  · rw [if_neg (by omega), List.getElem?_eq_none (by simpa using hj)]
    rfl
theorem pathP_ext {c i : Nat} {S : List SNode} (hi : i < 32) (h : lastP S i c = 0) : (pathP S c 0 i).set i (.int .i64 0) = pathP S c 0 (i + 1) := by
  apply List.ext_getElem?
  intro j
  unfold pathP
  rw [List.getElem?_set, List.length_map, List.length_range, List.getElem?_map, List.getElem?_map]
  by_cases hj : j < 32
  · rw [List.getElem?_range hj]
    simp only [Option.map_some]
    by_cases e : i = j
    · subst e; rw [if_pos rfl, if_pos hj, if_pos (by omega), h]; rfl
    · rw [if_neg e]
      by_cases h2 : j < i
      · rw [if_pos (by omega), if_pos (by omega)]
      · rw [if_neg (by omega), if_neg (by omega)]
  · rw [if_neg (by omega), List.getElem?_eq_none (by simpa using hj)]
    rfl

theorem join_of {S G : Type} {B : S → G → Heap → Prop} {A : (S → Heap → Prop) → Prop} (s0 : S) (F : Heap → Prop) (hB : ∀ Q, F Q → ∀ g, B s0 g Q) (hA : ∀ J : S → Heap → Prop, (∀ Q, F Q → J s0 Q) → A J) : JoinP B A := hA _ hB
theorem upd_link {hd hd' : List Value} {S S' : List SNode} {i c : Nat} {pl : Nat → Nat} {nw : Nat → Value × Value} (ok : SkOk hd lv S) (u : Upd hd S hd' S' i pl nw) (hi : i < lv) (hc : c ≤ S.length) :
    (cellsAt hd' S' (lastP S i c))[2 + i * 2]? = some (nxt i (S.drop (lastP S i c))).1 ∧ (cellsAt hd' S' (lastP S i c))[2 + i * 2 + 1]? = some (.int .i64 (nxt i (S.drop (lastP S i c))).2) := by
  have h32 := ok.l32
  have hle := lastP_le S i c
  have hp : i < posh lv S (lastP S i c) := by
    by_cases e : lastP S i c = 0
    · rw [e]; exact hi
    · rw [posh_any S e]; exact (lastP_h S i c).resolve_left e
  rw [u.same _ _ (by omega) (fun i' h1 _ => by omega), u.same _ _ (by omega) (fun i' h1 _ => by omega)]
  exact ok.links _ (by omega) i hp
theorem cells_len {hd : List Value} {S : List SNode} (ok : SkOk hd lv S) {p : Nat} (hp : p ≤ S.length) : 68 ≤ (cellsAt hd S p).length := by
  cases p with
  | zero => have := ok.len; simp only [cellsAt, if_true]; omega
  | succ k =>
    have hg : S[k]? = some (S[k]'(by omega)) := List.getElem?_eq_getElem (by omega)
    generalize S[k]'(by omega) = x at hg
    rw [cellsAt_succ hg, (ok.nodes.get hg).len]
    omega
theorem Base.head {hd : List Value} {n : Nat} {S : List SNode} (h : Base hd lv n S) (a : Option Addr) : Base (hd.set 68 (.pointer a)) lv n S :=
  ⟨by simpa using h.len, ⟨a, by rw [List.getElem?_set_self (by rw [h.len]; omega)]⟩, by rw [List.getElem?_set_ne (by omega)]; exact h.lvc, by rw [List.getElem?_set_ne (by omega)]; exact h.nc, h.nb⟩
theorem Base.back {hd : List Value} {n c : Nat} {S : List SNode} {y : SNode} (h : Base hd lv n S) (hg : S[c]? = some y) (a : Option Addr) : Base hd lv n (S.set c { y with cs := y.cs.set 67 (.pointer a) }) := by
  refine ⟨h.len, h.last, h.lvc, h.nc, fun x hx => ?_⟩
  rcases List.mem_or_eq_of_mem_set hx with hx | rfl
  · exact h.nb x hx
  · exact (h.nb y (List.mem_of_getElem? hg)).back a
theorem shp_mem {S S' : List SNode} (h : S'.map shp = S.map shp) {p : Nat → Prop} (hp : ∀ x ∈ S, p x.h) : ∀ x ∈ S', p x.h := by
  intro x hx
  have h1 : shp x ∈ S.map shp := h ▸ List.mem_map_of_mem hx
  obtain ⟨y, hy, e⟩ := List.mem_map.1 h1
  simp only [shp, Prod.mk.injEq] at e
  rw [← e.2.2]; exact hp y hy
theorem shp_e {S S' : List SNode} (h : S'.map shp = S.map shp) : S'.map (·.e) = S.map (·.e) := by
  have := congrArg (List.map fun x : Nat × Ent × Nat => x.2.1) h
  simpa [Function.comp_def] using this

theorem sk_ins {hd hd' : List Value} {S S' : List SNode} {c : Nat} {x : SNode} (ok : SkOk hd lv S) (hc : c ≤ S.length) (hx : x.h ≤ lv) (u : Upd hd S hd' S' lv (fun i => lastP S i c) (nwIns S c x.h x.b)) (bs : Base hd' lv S.length S') (xb : NodeB x)
    (xl : ∀ i, i < x.h → x.cs[2 + i * 2]? = some (nxt i (S.drop (lastP S i c))).1 ∧ x.cs[2 + i * 2 + 1]? = some (.int .i64 (((nxt i (S.drop (lastP S i c))).2 : Int) - ((c : Int) - (lastP S i c : Nat)))))
    (big : S.length + 1 < 1000000) : SkOk (hd'.set 70 (.int .i64 ((S.length + 1 : Nat) : Int))) lv (S'.take c ++ x :: S'.drop c) := by
  have hl := u.len
  have h32 := ok.l32
  have hlen : (S'.take c ++ x :: S'.drop c).length = S.length + 1 := by simp; omega
  have hmem : ∀ y ∈ S'.take c ++ x :: S'.drop c, y ∈ S' ∨ y = x := by
    intro y hy
    rcases List.mem_append.1 hy with h | h
    · exact .inl (List.mem_of_mem_take h)
    · rcases List.mem_cons.1 h with h | h
      · exact .inr h
      · exact .inl (List.mem_of_mem_drop h)
  refine sk_of ?_ ?_ ?_ ?_ h32 ?_ ?_ (ins_links ok hc hx (u.head h32 _ (by omega)) xl) (by rw [hlen]; exact big)
  · simpa using bs.len
  · rw [List.getElem?_set_ne (by omega)]; exact bs.last
  · rw [List.getElem?_set_ne (by omega)]; exact bs.lvc
  · rw [List.getElem?_set_self (by rw [bs.len]; omega), hlen]
  · intro y hy
    rcases hmem y hy with h | rfl
    · exact shp_mem (p := fun h => h ≤ lv) u.shape ok.hs y h
    · exact hx
  · intro y hy
    rcases hmem y hy with h | rfl
    · exact bs.nb y h
    · exact xb
theorem listM_ins (b : Nat) (hd : List Value) (S : List SNode) (c : Nat) (x : SNode) : listM b hd (S.take c ++ x :: S.drop c) = cell x.b x.cs + listM b hd S := by
  have : nodesM S = nodesM (S.take c) + nodesM (S.drop c) := by rw [← nodesM_append, List.take_append_drop]
  rw [listM, listM, nodesM_append, nodesM, this]
  ac_rfl
theorem ins_e {S S' : List SNode} (h : S'.map shp = S.map shp) (c : Nat) (x : SNode) : (S'.take c ++ x :: S'.drop c).map (·.e) = (S.map (·.e)).take c ++ x.e :: (S.map (·.e)).drop c := by
  rw [List.map_append, List.map_cons, List.map_take, List.map_drop, shp_e h]

theorem skip_Insert_h {e : Ent} {level : Nat} (hh : Has H (listM b hd S + m)) (ok : SkOk hd lv S) (hs : SortedE (S.map (·.e))) (hlev : 1 ≤ level ∧ level ≤ 32) (hnew : isAt e (S.map (·.e)) (cntE e (S.map (·.e))) = false) (hbig : S.length + 1 < 1000000)
    (hK : ∀ H' hd' lv' S', Has H' (listM b hd' S' + m) → SkOk hd' lv' S' → S'.map (·.e) = (S.map (·.e)).take (cntE e (S.map (·.e))) ++ e :: (S.map (·.e)).drop (cntE e (S.map (·.e))) → K (.int .i64 0) H') :
    CallH P f_skip_List_Insert [ptrV b, entV e, .int .i64 level] H K := by
  apply k_skip_List_Insert
  unfold c_skip_List_Insert
  rw [x_boxN, zp32, zi32]
  have h32 := ok.l32
  refine h_allocA hh fun eb H1 hh => ?_
  (repeat (first | (refine h_load hh (by rfl) ?_) | (simp only [xl, xo, Bool.not_eq_true', decide_eq_false_iff_not, ite_not, List.size_toArray, List.length_cons, List.length_nil, Nat.reduceAdd, qt, decide_eq_true_eq, Int.toNat_zero, Int.toNat_natCast, Nat.zero_mul, Nat.mul_one, Nat.one_mul, List.toList_toArray, List.cons_append, List.nil_append, List.append_nil, true_and, and_true, Nat.zero_add, Nat.add_zero, Bool.not_true, Bool.not_false, if_true, if_false, reduceCtorEq, List.set_cons_zero, List.set_cons_succ])))
  rw [if_neg (by omega), if_neg (by omega)]
  refine h_load2 hh rfl rfl ?_
  refine skip_Seek_h (e := e) (hh.front (listM b hd S)) ok hs fun H2 hh => ?_
  rw [hnew]
  (try simp only [xl, xo, Bool.not_eq_true', decide_eq_false_iff_not, ite_not, List.size_toArray, List.length_cons, List.length_nil, Nat.reduceAdd, qt, decide_eq_true_eq, Int.toNat_zero, Int.toNat_natCast, Nat.zero_mul, Nat.mul_one, Nat.one_mul, List.toList_toArray, List.cons_append, List.nil_append, List.append_nil, true_and, and_true, Nat.zero_add, Nat.add_zero, Bool.not_true, Bool.not_false, if_true, if_false, reduceCtorEq, List.set_cons_zero, List.set_cons_succ])
  refine h_load2 hh rfl rfl ?_
  refine skip_to_h (e := e) hh ok hs fun H3 hh => ?_
  have hc : cntE e (S.map (·.e)) ≤ S.length := by have := cntE_le e (S.map (·.e)); simpa using this
  generalize hcc : cntE e (S.map (·.e)) = c at *
  (try simp only [xl, xo, Bool.not_eq_true', decide_eq_false_iff_not, ite_not, List.size_toArray, List.length_cons, List.length_nil, Nat.reduceAdd, qt, decide_eq_true_eq, Int.toNat_zero, Int.toNat_natCast, Nat.zero_mul, Nat.mul_one, Nat.one_mul, List.toList_toArray, List.cons_append, List.nil_append, List.append_nil, true_and, and_true, Nat.zero_add, Nat.add_zero, Bool.not_true, Bool.not_false, if_true, if_false, reduceCtorEq, List.set_cons_zero, List.set_cons_succ])
  refine h_alloc hh fun nb H4 hh => ?_
  refine h_alloc hh fun qb H5 hh => ?_
  refine h_storeAll hh (by simp) (pathN_len _ _ _ _ _) (pathN_oc _ _ _ _ _) fun H6 hh => ?_
  refine h_storeAll hh (by simp) (pathP_len _ _ _ _) (pathP_oc _ _ _ _) fun H7 hh => ?_
  refine (list_blk b hd S hh).load ok.lvc ?_
  have hlw : ∀ i, lv ≤ i → ∀ x ∈ S, x.h ≤ i := fun i hi x hx => Nat.le_trans (ok.hs x hx) hi
  refine loop_i (fun k s G => ∃ (i : Nat) (hd' : List Value), lv ≤ i ∧ i ≤ max lv level ∧ i + k = max lv level ∧ s = (.int .i64 i, []) ∧ hd'.length = 71 ∧ (∀ j, 66 ≤ j → hd'[j]? = hd[j]?) ∧ LinkOk hd' i S ∧
      Has G (cell b hd' + (nodesM S + (cell nb (pathN b S c 0 i) + (cell qb (pathP S c 0 i) + (cell eb (entC e) + m)))))) (max lv level - lv)
    ⟨lv, hd, Nat.le_refl _, by omega, by omega, rfl, ok.len, fun _ _ => rfl, ok.lk, hh.to (by rw [listM]; ac_rfl)⟩ ?_
  rintro k _ g G ⟨i, hd', hi1, hi2, hi3, rfl, hl', hsm, hlk, hh⟩
  (try simp only [xl, xo, Bool.not_eq_true', decide_eq_false_iff_not, ite_not, List.size_toArray, List.length_cons, List.length_nil, Nat.reduceAdd, qt, decide_eq_true_eq, Int.toNat_zero, Int.toNat_natCast, Nat.zero_mul, Nat.mul_one, Nat.one_mul, List.toList_toArray, List.cons_append, List.nil_append, List.append_nil, true_and, and_true, Nat.zero_add, Nat.add_zero, Bool.not_true, Bool.not_false, if_true, if_false, reduceCtorEq, List.set_cons_zero, List.set_cons_succ])
  by_cases hil : i < level
  · rw [if_pos (by omega)]
    refine ⟨by omega, ?_⟩
    refine h_store hh rfl (by rw [pathN_len]; omega) fun G2 hh => ?_
    (try simp only [xl, xo, Bool.not_eq_true', decide_eq_false_iff_not, ite_not, List.size_toArray, List.length_cons, List.length_nil, Nat.reduceAdd, qt, decide_eq_true_eq, Int.toNat_zero, Int.toNat_natCast, Nat.zero_mul, Nat.mul_one, Nat.one_mul, List.toList_toArray, List.cons_append, List.nil_append, List.append_nil, true_and, and_true, Nat.zero_add, Nat.add_zero, Bool.not_true, Bool.not_false, if_true, if_false, reduceCtorEq, List.set_cons_zero, List.set_cons_succ])
    refine ⟨by omega, ?_⟩
    refine h_store hh rfl (by rw [pathP_len]; omega) fun G3 hh => ?_
    rw [pathN_ext (by omega) (lastP_hi (hlw i hi1) c hc), pathP_ext (by omega) (lastP_hi (hlw i hi1) c hc)] at hh
    refine h_load hh (by rw [hsm 70 (by omega)]; exact ok.nc) ?_
    (try simp only [xl, xo, Bool.not_eq_true', decide_eq_false_iff_not, ite_not, List.size_toArray, List.length_cons, List.length_nil, Nat.reduceAdd, qt, decide_eq_true_eq, Int.toNat_zero, Int.toNat_natCast, Nat.zero_mul, Nat.mul_one, Nat.one_mul, List.toList_toArray, List.cons_append, List.nil_append, List.append_nil, true_and, and_true, Nat.zero_add, Nat.add_zero, Bool.not_true, Bool.not_false, if_true, if_false, reduceCtorEq, List.set_cons_zero, List.set_cons_succ])
    refine ⟨by omega, ?_⟩
    refine h_store2 hh rfl rfl (by omega) fun G4 hh => ?_
    refine ⟨k - 1, by omega, i + 1, _, by omega, by omega, by omega, by rw [w64 (by omega)]; rfl, ?_, ?_, ?_, hh.to (by ac_rfl)⟩
    · simpa using hl'
    · intro j hj
      rw [List.getElem?_set_ne (by omega), List.getElem?_set_ne (by omega)]
      exact hsm j hj
    · intro i' hi'
      by_cases he : i' = i
      · subst he
        rw [nxt_hi (hlw i' hi1), Nat.add_comm 1 (2 + i' * 2)]
        constructor
        · rw [List.getElem?_set_ne (by omega), List.getElem?_set_self (by omega)]
        · rw [List.getElem?_set_self (by rw [List.length_set]; omega)]
      · rw [List.getElem?_set_ne (by omega), List.getElem?_set_ne (by omega), List.getElem?_set_ne (by omega), List.getElem?_set_ne (by omega)]
        exact hlk i' (by omega)
  · rw [if_neg (by omega)]
    have hie : i = max lv level := by omega
    subst hie
    refine h_load hh (by rw [hsm 69 (by omega)]; exact ok.lvc) ?_
    (try simp only [xl, xo, Bool.not_eq_true', decide_eq_false_iff_not, ite_not, List.size_toArray, List.length_cons, List.length_nil, Nat.reduceAdd, qt, decide_eq_true_eq, Int.toNat_zero, Int.toNat_natCast, Nat.zero_mul, Nat.mul_one, Nat.one_mul, List.toList_toArray, List.cons_append, List.nil_append, List.append_nil, true_and, and_true, Nat.zero_add, Nat.add_zero, Bool.not_true, Bool.not_false, if_true, if_false, reduceCtorEq, List.set_cons_zero, List.set_cons_succ])
    refine h_buildSl hh fun ib G2 hh => ?_
    apply k_skip_highest
    unfold c_skip_highest
    refine slices_Max2_h hh ?_
    have hmx : max (lv : Int) (level : Int) = ((max lv level : Nat) : Int) := by omega
    rw [hmx]
    refine h_store hh rfl (by omega) fun G3 hh => ?_
    have ok2 : SkOk (hd'.set 69 (.int .i64 (max lv level : Nat))) (max lv level) S := by
      refine ⟨by simpa using hl', ?_, ?_, ?_, by omega, fun x hx => ?_, fun i' hi' => ?_, ok.nodes, ok.big⟩
      · rw [List.getElem?_set_ne (by omega), hsm 68 (by omega)]; exact ok.last
      · rw [List.getElem?_set_self (by omega)]
      · rw [List.getElem?_set_ne (by omega), hsm 70 (by omega)]; exact ok.nc
      · have := ok.hs x hx; omega
      · rw [List.getElem?_set_ne (by omega), List.getElem?_set_ne (by omega)]
        exact hlk i' hi'
    generalize hd'.set 69 (.int .i64 (max lv level : Nat)) = hd2 at hh ok2
    generalize hlwd : max lv level = lw at *
    clear hlk hsm hl'
    have hK' := hK
    refine h_load2 hh rfl rfl ?_
    rw [ze_skip_node]
    (try simp only [xl, xo, Bool.not_eq_true', decide_eq_false_iff_not, ite_not, List.size_toArray, List.length_cons, List.length_nil, Nat.reduceAdd, qt, decide_eq_true_eq, Int.toNat_zero, Int.toNat_natCast, Nat.zero_mul, Nat.mul_one, Nat.one_mul, List.toList_toArray, List.cons_append, List.nil_append, List.append_nil, true_and, and_true, Nat.zero_add, Nat.add_zero, Bool.not_true, Bool.not_false, if_true, if_false, reduceCtorEq, List.set_cons_zero, List.set_cons_succ])
    refine h_alloc hh fun xb G4 hh => ?_
    have hxc : ∃ xc, NodeB ⟨xb, e, level, xc⟩ ∧ Has G4 (cell xb xc + (cell b hd2 + (cell ib [.int .i64 lv, .int .i64 level] + (nodesM S + (cell nb (pathN b S c 0 lw) + (cell qb (pathP S c 0 lw) + (cell eb (entC e) + m))))))) :=
      ⟨_, ⟨rfl, rfl, rfl, rfl, ⟨none, rfl⟩, hlev⟩, hh⟩
    clear hh
    obtain ⟨xc, hxb, hh⟩ := hxc
    generalize hmm : (cell ib [.int .i64 lv, .int .i64 level] + (cell nb (pathN b S c 0 lw) + (cell qb (pathP S c 0 lw) + (cell eb (entC e) + m)))) = mm
    refine ⟨by omega, ?_⟩
    refine h_load hh (pathP_get (by omega) ok2.l32) ?_
    rw [lastP0 ok2.nodes c hc]
    refine h_load hh ok2.lvc ?_
    have h322 := ok2.l32
    have hbg := ok2.big
    refine loop_i (fun k s G => ∃ (i : Nat) (hd' : List Value) (S' : List SNode) (xc' : List Value), i + k = lw ∧ s = (.int .i64 i, []) ∧ Upd hd2 S hd' S' i (fun i => lastP S i c) (nwIns S c level xb) ∧ Base hd' lw S.length S' ∧ NodeB ⟨xb, e, level, xc'⟩ ∧
        (∀ j, j < i → j < level → xc'[2 + j * 2]? = some (nxt j (S.drop (lastP S j c))).1 ∧ xc'[2 + j * 2 + 1]? = some (.int .i64 (((nxt j (S.drop (lastP S j c))).2 : Int) - ((c : Int) - (lastP S j c : Nat))))) ∧
        Has G (cell xb xc' + (listM b hd' S' + (cell ib [.int .i64 lv, .int .i64 level] + (cell nb (pathN b S c 0 lw) + (cell qb (pathP S c 0 lw) + (cell eb (entC e) + m))))))) lw
      ⟨0, hd2, S, xc, by omega, rfl, Upd.refl _ _ _ _, ok2.base, hxb, fun j h => by omega, hh.to (by rw [listM]; ac_rfl)⟩ ?_
    rintro k _ g G5 ⟨i, hd', S', xc', hik, rfl, u, bs, hxb', hxl, hh⟩
    have hul := u.len
    (try simp only [xl, xo, Bool.not_eq_true', decide_eq_false_iff_not, ite_not, List.size_toArray, List.length_cons, List.length_nil, Nat.reduceAdd, qt, decide_eq_true_eq, Int.toNat_zero, Int.toNat_natCast, Nat.zero_mul, Nat.mul_one, Nat.one_mul, List.toList_toArray, List.cons_append, List.nil_append, List.append_nil, true_and, and_true, Nat.zero_add, Nat.add_zero, Bool.not_true, Bool.not_false, if_true, if_false, reduceCtorEq, List.set_cons_zero, List.set_cons_succ])
    by_cases hil : i < lw
    · rw [if_pos (by omega)]
      have hpl := lastP_le S i c
      refine ⟨by omega, ?_⟩
      refine h_load hh (pathN_get hil ok2.l32) ?_
      (try simp only [xl, xo, Bool.not_eq_true', decide_eq_false_iff_not, ite_not, List.size_toArray, List.length_cons, List.length_nil, Nat.reduceAdd, qt, decide_eq_true_eq, Int.toNat_zero, Int.toNat_natCast, Nat.zero_mul, Nat.mul_one, Nat.one_mul, List.toList_toArray, List.cons_append, List.nil_append, List.append_nil, true_and, and_true, Nat.zero_add, Nat.add_zero, Bool.not_true, Bool.not_false, if_true, if_false, reduceCtorEq, List.set_cons_zero, List.set_cons_succ])
      refine ⟨by omega, ?_⟩
      obtain ⟨r, ho1, ho2⟩ := list_open b hd' S' (p := lastP S i c) (by omega)
      rw [posb_shape u.shape] at ho1 ho2
      obtain ⟨hl1, hl2⟩ := upd_link ok2 u hil hc
      have hclen : 68 ≤ (cellsAt hd' S' (lastP S i c)).length := by rw [u.lens]; exact cells_len ok2 (by omega)
      have hstep := u.step (by omega) (by have := cells_len ok2 (p := lastP S i c) (by omega); omega)
      have bs' := bs.set2 (p := lastP S i c) (by omega) (j := 2 + i * 2) (by omega) (nwIns S c level xb i).1 (nwIns S c level xb i).2
      have ho3 := ho2 (((cellsAt hd' S' (lastP S i c)).set (2 + i * 2) (nwIns S c level xb i).1).set (2 + i * 2 + 1) (nwIns S c level xb i).2)
      rw [ho1] at hh
      have hspan : (nxt i (S.drop (lastP S i c))).2 ≤ S.length := by
        rcases nxt_spec i (S.drop (lastP S i c)) with ⟨e1, _⟩ | ⟨l1, y, l2, e1, _, _, e2⟩
        · rw [e1]; simp
        · rw [e2]
          have := congrArg List.length e1
          simp at this
          simp only
          omega
      have hspan2 : i < level → c - lastP S i c ≤ (nxt i (S.drop (lastP S i c))).2 := fun _ => by
        rw [take_drop_split S hpl, nxt_at hc (Nat.le_refl _) hpl]
        simp only
        omega
      by_cases hig : i < level
      · rw [if_neg (by omega)]
        refine ⟨by omega, ?_⟩
        refine h_load hh (pathP_get hil ok2.l32) ?_
        (try simp only [xl, xo, Bool.not_eq_true', decide_eq_false_iff_not, ite_not, List.size_toArray, List.length_cons, List.length_nil, Nat.reduceAdd, qt, decide_eq_true_eq, Int.toNat_zero, Int.toNat_natCast, Nat.zero_mul, Nat.mul_one, Nat.one_mul, List.toList_toArray, List.cons_append, List.nil_append, List.append_nil, true_and, and_true, Nat.zero_add, Nat.add_zero, Bool.not_true, Bool.not_false, if_true, if_false, reduceCtorEq, List.set_cons_zero, List.set_cons_succ])
        refine h_load (b := posb b S (lastP S i c)) hh hl1 (h_load (b := posb b S (lastP S i c)) hh hl2 ?_)
        (try simp only [xl, xo, Bool.not_eq_true', decide_eq_false_iff_not, ite_not, List.size_toArray, List.length_cons, List.length_nil, Nat.reduceAdd, qt, decide_eq_true_eq, Int.toNat_zero, Int.toNat_natCast, Nat.zero_mul, Nat.mul_one, Nat.one_mul, List.toList_toArray, List.cons_append, List.nil_append, List.append_nil, true_and, and_true, Nat.zero_add, Nat.add_zero, Bool.not_true, Bool.not_false, if_true, if_false, reduceCtorEq, List.set_cons_zero, List.set_cons_succ])
        have hoc : (nxt i (S.drop (lastP S i c))).1.oneCell = true := by
          rcases nxt_spec i (S.drop (lastP S i c)) with ⟨e, _⟩ | ⟨_, _, _, _, _, _, e⟩ <;> rw [e] <;> rfl
        rw [w64 (n := (c : Int) - (lastP S i c : Nat)) (by omega), w64 (n := ((nxt i (S.drop (lastP S i c))).2 : Int) - ((c : Int) - (lastP S i c : Nat))) (by omega)]
        refine ⟨hoc, ?_⟩
        (try simp only [xl, xo, Bool.not_eq_true', decide_eq_false_iff_not, ite_not, List.size_toArray, List.length_cons, List.length_nil, Nat.reduceAdd, qt, decide_eq_true_eq, Int.toNat_zero, Int.toNat_natCast, Nat.zero_mul, Nat.mul_one, Nat.one_mul, List.toList_toArray, List.cons_append, List.nil_append, List.append_nil, true_and, and_true, Nat.zero_add, Nat.add_zero, Bool.not_true, Bool.not_false, if_true, if_false, reduceCtorEq, List.set_cons_zero, List.set_cons_succ])
        refine ⟨by omega, ?_⟩
        refine h_store2 (b := xb) hh hoc rfl (by have := hxb'.len; simp only at this; omega) fun G6 hh => ?_
        refine h_store2 (b := posb b S (lastP S i c)) hh rfl rfl (by omega) fun G7 hh => ?_
        rw [w64 (n := (c : Int) - (lastP S i c : Nat) + 1) (by omega)] at hh
        rw [w64 (n := (i : Int) + 1) (by omega)]
        refine ⟨k - 1, by omega, i + 1, _, _, _, by omega, rfl, hstep, bs', (hxb'.set (nxt i (S.drop (lastP S i c))).1 (j := 2 + i * 2) (by omega)).set (.int .i64 (((nxt i (S.drop (lastP S i c))).2 : Int) - ((c : Int) - (lastP S i c : Nat)))) (j := 2 + i * 2 + 1) (by omega), fun j hj hjl => ?_, ?_⟩
        · have hxlen := hxb'.len
          simp only at hxlen
          by_cases e1 : j = i
          · subst e1
            constructor
            · simp only []
              rw [List.getElem?_set_ne (by omega), List.getElem?_set_self (by omega)]
            · simp only []
              rw [List.getElem?_set_self (by rw [List.length_set]; omega)]
          · simp only []
            rw [List.getElem?_set_ne (by omega), List.getElem?_set_ne (by omega), List.getElem?_set_ne (by omega), List.getElem?_set_ne (by omega)]
            exact hxl j (by omega) hjl
        · rw [ho3]
          have en : nwIns S c level xb i = (ptrV xb, .int .i64 ((c - lastP S i c + 1 : Nat) : Int)) := by unfold nwIns; rw [if_pos hig]
          rw [en]
          simp only []
          rw [show ((c - lastP S i c + 1 : Nat) : Int) = (c : Int) - (lastP S i c : Nat) + 1 by omega]
          exact hh.to (by ac_rfl)
      · rw [if_pos (by omega)]
        refine h_load (b := posb b S (lastP S i c)) hh hl2 ?_
        (try simp only [xl, xo, Bool.not_eq_true', decide_eq_false_iff_not, ite_not, List.size_toArray, List.length_cons, List.length_nil, Nat.reduceAdd, qt, decide_eq_true_eq, Int.toNat_zero, Int.toNat_natCast, Nat.zero_mul, Nat.mul_one, Nat.one_mul, List.toList_toArray, List.cons_append, List.nil_append, List.append_nil, true_and, and_true, Nat.zero_add, Nat.add_zero, Bool.not_true, Bool.not_false, if_true, if_false, reduceCtorEq, List.set_cons_zero, List.set_cons_succ])
        refine h_store (b := posb b S (lastP S i c)) hh rfl (by omega) fun G6 hh => ?_
        rw [w64 (n := ((nxt i (S.drop (lastP S i c))).2 : Int) + 1) (by omega), w64 (n := (i : Int) + 1) (by omega)] at *
        refine ⟨k - 1, by omega, i + 1, _, _, xc', by omega, rfl, hstep, bs', hxb', fun j hj hjl => hxl j (by omega) hjl, ?_⟩
        rw [ho3]
        have en : nwIns S c level xb i = ((nxt i (S.drop (lastP S i c))).1, .int .i64 (((nxt i (S.drop (lastP S i c))).2 + 1 : Nat) : Int)) := by unfold nwIns; rw [if_neg hig]
        rw [en]
        simp only []
        rw [set_same hl1, show (((nxt i (S.drop (lastP S i c))).2 + 1 : Nat) : Int) = ((nxt i (S.drop (lastP S i c))).2 : Int) + 1 by omega]
        exact hh.to (by ac_rfl)
    · rw [if_neg (by omega)]
      have hie : i = lw := by omega
      subst hie
      clear hK
      have fin : ∀ Q hd3 S3 xc3, Upd hd2 S hd3 S3 i (fun i => lastP S i c) (nwIns S c level xb) → Base hd3 i S.length S3 → NodeB ⟨xb, e, level, xc3⟩ →
          (∀ j, j < i → j < level → xc3[2 + j * 2]? = some (nxt j (S.drop (lastP S j c))).1 ∧ xc3[2 + j * 2 + 1]? = some (.int .i64 (((nxt j (S.drop (lastP S j c))).2 : Int) - ((c : Int) - (lastP S j c : Nat))))) →
          Has Q (cell xb xc3 + (listM b hd3 S3 + (cell ib [.int .i64 lv, .int .i64 level] + (cell nb (pathN b S c 0 i) + (cell qb (pathP S c 0 i) + (cell eb (entC e) + m)))))) →
          LoadP none Q (.pointer (some ⟨b, 70, none⟩)) fun t => BinP .add t (.int .i64 1) fun t2 => StoreP none Q (.pointer (some ⟨b, 70, none⟩)) t2 fun Q2 => RetP [] Q2 fun Q3 => K (.int .i64 0) Q3 := by
        intro Q hd3 S3 xc3 u3 bs3 hx3 hl3 hh
        rw [listM] at hh
        refine h_load (b := b) hh bs3.nc ?_
        (try simp only [xl, xo, Bool.not_eq_true', decide_eq_false_iff_not, ite_not, List.size_toArray, List.length_cons, List.length_nil, Nat.reduceAdd, qt, decide_eq_true_eq, Int.toNat_zero, Int.toNat_natCast, Nat.zero_mul, Nat.mul_one, Nat.one_mul, List.toList_toArray, List.cons_append, List.nil_append, List.append_nil, true_and, and_true, Nat.zero_add, Nat.add_zero, Bool.not_true, Bool.not_false, if_true, if_false, reduceCtorEq, List.set_cons_zero, List.set_cons_succ])
        refine h_store (b := b) hh rfl (by rw [bs3.len]; omega) fun Q2 hh => ?_
        rw [w64 (by omega), show (S.length : Int) + 1 = ((S.length + 1 : Nat) : Int) by omega] at hh
        refine hK' Q2 _ i _ ?_ (sk_ins (x := ⟨xb, e, level, xc3⟩) ok2 hc (by simp only; omega) u3 bs3 hx3 (fun j hj => hl3 j (by simp only at hj; omega) hj) hbig) (ins_e u3.shape c _)
        rw [listM_ins, listM]
        refine Has.left (b := cell ib [.int .i64 lv, .int .i64 level] + (cell nb (pathN b S c 0 i) + (cell qb (pathP S c 0 i) + cell eb (entC e)))) (hh.to ?_)
        simp only []
        ac_rfl
      have hlevi : level ≤ i := by omega
      have hl0 : lastP S 0 c = c := lastP0 ok2.nodes c hc
      have h0i : 0 < i := by omega
      refine join_of ((), []) (fun Q => ∃ xc3, NodeB ⟨xb, e, level, xc3⟩ ∧ (∀ j, j < i → j < level → xc3[2 + j * 2]? = some (nxt j (S.drop (lastP S j c))).1 ∧ xc3[2 + j * 2 + 1]? = some (.int .i64 (((nxt j (S.drop (lastP S j c))).2 : Int) - ((c : Int) - (lastP S j c : Nat))))) ∧
          Has Q (cell xb xc3 + (listM b hd' S' + (cell ib [.int .i64 lv, .int .i64 level] + (cell nb (pathN b S c 0 i) + (cell qb (pathP S c 0 i) + (cell eb (entC e) + m))))))) ?_ ?_
      · rintro Q ⟨xc3, hx3, hl3, hh⟩ g1
        refine join_of ((), []) (fun Q => ∃ hd3 S3, Upd hd2 S hd3 S3 i (fun i => lastP S i c) (nwIns S c level xb) ∧ Base hd3 i S.length S3 ∧
          Has Q (cell xb xc3 + (listM b hd3 S3 + (cell ib [.int .i64 lv, .int .i64 level] + (cell nb (pathN b S c 0 i) + (cell qb (pathP S c 0 i) + (cell eb (entC e) + m))))))) ?_ ?_
        · rintro Q2 ⟨hd3, S3, u3, bs3, hh⟩ g2
          exact fin Q2 hd3 S3 xc3 u3 bs3 hx3 hl3 hh
        · intro J hJ
          have hx2 := (hl3 0 h0i (by omega)).1
          rw [hl0, nxt0 ok2.nodes] at hx2
          refine ⟨by omega, ?_⟩
          refine h_load (b := xb) hh hx2 ?_
          cases hg : S[c]? with
          | none =>
            (try simp only [xl, xo, Bool.not_eq_true', decide_eq_false_iff_not, ite_not, List.size_toArray, List.length_cons, List.length_nil, Nat.reduceAdd, qt, decide_eq_true_eq, Int.toNat_zero, Int.toNat_natCast, Nat.zero_mul, Nat.mul_one, Nat.one_mul, List.toList_toArray, List.cons_append, List.nil_append, List.append_nil, true_and, and_true, Nat.zero_add, Nat.add_zero, Bool.not_true, Bool.not_false, if_true, if_false, reduceCtorEq, List.set_cons_zero, List.set_cons_succ])
            rw [listM] at hh
            refine h_store (b := b) hh rfl (by rw [bs.len]; omega) fun Q2 hh => hJ Q2 ⟨_, S', u.head h322 _ (by omega), bs.head _, hh.to (by rw [listM]; ac_rfl)⟩
          | some y0 =>
            have hlt := (List.getElem?_eq_some_iff.1 hg).1
            have hg' : S'[c]? = some (S'[c]'(by omega)) := List.getElem?_eq_getElem (by omega)
            generalize S'[c]'(by omega) = y at hg'
            have hyb : y.b = y0.b := by
              have := posb_shape (b := b) u.shape (c + 1)
              rwa [posb_succ hg', posb_succ hg] at this
            (try simp only [xl, xo, Bool.not_eq_true', decide_eq_false_iff_not, ite_not, List.size_toArray, List.length_cons, List.length_nil, Nat.reduceAdd, qt, decide_eq_true_eq, Int.toNat_zero, Int.toNat_natCast, Nat.zero_mul, Nat.mul_one, Nat.one_mul, List.toList_toArray, List.cons_append, List.nil_append, List.append_nil, true_and, and_true, Nat.zero_add, Nat.add_zero, Bool.not_true, Bool.not_false, if_true, if_false, reduceCtorEq, List.set_cons_zero, List.set_cons_succ])
            rw [← hyb]
            have hm : listM b hd' S' = cell y.b y.cs + (cell b hd' + (nodesM (S'.take c) + nodesM (S'.drop (c + 1)))) := by rw [listM, nodesM_get hg']; ac_rfl
            rw [hm] at hh
            refine h_store (b := y.b) hh rfl (by rw [(bs.nb y (List.mem_of_getElem? hg')).len]; omega) fun Q2 hh => hJ Q2 ⟨hd', _, u.back h322 hg' (ptrV xb), bs.back hg' (some ⟨xb, 0, none⟩), ?_⟩
            have h2 : (S'.set c { y with cs := y.cs.set 67 (ptrV xb) })[c]? = some { y with cs := y.cs.set 67 (ptrV xb) } := by rw [List.getElem?_set_self (by omega)]
            have hm2 : listM b hd' (S'.set c { y with cs := y.cs.set 67 (ptrV xb) }) = cell y.b (y.cs.set 67 (ptrV xb)) + (cell b hd' + (nodesM (S'.take c) + nodesM (S'.drop (c + 1)))) := by
              rw [listM, nodesM_get h2, List.take_set_of_le (Nat.le_refl _), List.drop_set_of_lt (by omega)]; ac_rfl
            rw [hm2]
            exact hh.to (by ac_rfl)
      · intro J hJ
        refine ⟨by omega, ?_⟩
        refine h_load (b := nb) hh (pathN_get h0i h322) ?_
        rw [hl0]
        obtain ⟨r, ho1, _⟩ := list_open b hd' S' (p := c) (by omega)
        rw [posb_shape u.shape] at ho1
        have hb1 : Blk G5 (posb b S c) (cellsAt hd' S' c) := by
          have h3 := hh.right.left
          rw [ho1] at h3
          exact h3.blk
        have hb2 : Blk G5 b hd' := (show Has G5 (cell b hd' + nodesM S') from hh.right.left).blk
        rw [q2_p_skip_node hb1 hb2]
        split
        · refine ⟨by omega, ?_⟩
          refine h_load (b := nb) hh (pathN_get h0i h322) ?_
          refine h_store (b := xb) hh rfl (by rw [show xc'.length = 68 from hxb'.len]; omega) fun Q2 hh => hJ Q2 ⟨_, hxb'.back (some ⟨posb b S (lastP S 0 c), 0, none⟩), fun j h1 h2 => ?_, hh⟩
          simp only []
          rw [List.getElem?_set_ne (by omega), List.getElem?_set_ne (by omega)]
          exact hxl j h1 h2
        · exact hJ G5 ⟨xc', hxb', hxl, hh⟩
end Go.X.W
set_option linter.unusedVariables false
set_option linter.unusedSimpArgs false
namespace Go.X.W
open Go Go.X Go.Proofs

variable {H : Heap} {b lv : Nat} {hd : List Value} {S : List SNode} {m : Mem} {K : Value → Heap → Prop}

theorem Links.low {hd : List Value} {lv lw : Nat} {S : List SNode} (h : Links hd lv S) (hl : lw ≤ lv) : Links hd lw S := by
  intro q hq i hi
  refine h q hq i ?_
  unfold posh at *
  split
  · rename_i e; rw [if_pos e] at hi; omega
  · rename_i e; rw [if_neg e] at hi; exact hi
theorem Links.head {hd : List Value} {lv : Nat} {S : List SNode} (h : Links hd lv S) (h32 : lv ≤ 32) {j : Nat} (hj : 66 ≤ j) (v : Value) (hs : ∀ x ∈ S, x.h ≤ 32) : Links (hd.set j v) lv S := by
  intro q hq i hi
  have hi32 : i < 32 := by
    unfold posh at hi
    split at hi
    · omega
    · cases hg : S[q - 1]? with
      | none => rw [hg] at hi; simp at hi
      | some x => rw [hg] at hi; have := hs x (List.mem_of_getElem? hg); simp only at hi; omega
  have := h q hq i hi
  unfold cellsAt at *
  split
  · rename_i e
    rw [if_pos e] at this
    rw [List.getElem?_set_ne (by omega), List.getElem?_set_ne (by omega)]
    exact this
  · rename_i e
    rw [if_neg e] at this
    exact this

theorem listM_del (b : Nat) (hd : List Value) {S : List SNode} {c : Nat} {x : SNode} (hg : S[c]? = some x) : listM b hd S = cell x.b x.cs + listM b hd (S.take c ++ S.drop (c + 1)) := by
  rw [listM, listM, nodesM_append, nodesM_get hg]
  ac_rfl
theorem del_e {S S' : List SNode} (h : S'.map shp = S.map shp) (c : Nat) : (S'.take c ++ S'.drop (c + 1)).map (·.e) = (S.map (·.e)).take c ++ (S.map (·.e)).drop (c + 1) := by
  rw [List.map_append, List.map_take, List.map_drop, shp_e h]

theorem skip_takes_h {c : Nat} {x : SNode} (hh : Has H (listM b hd S + m)) (ok : SkOk hd lv S) (hg : S[c]? = some x)
    (hK : ∀ H' hd' lv' S', Has H' (listM b hd' S' + m) → SkOk hd' lv' S' → S'.map (·.e) = (S.map (·.e)).take c ++ (S.map (·.e)).drop (c + 1) → K (.tuple #[]) H') :
    CallH P f_skip_List_takes [ptrV b, ptrV x.b, .agg (pathN b S c 0 lv).toArray] H K := by
  apply k_skip_List_takes
  unfold c_skip_List_takes
  rw [x_boxN]
  have h32 := ok.l32
  have hbg := ok.big
  have hc := (List.getElem?_eq_some_iff.1 hg).1
  refine h_allocA hh fun nb H1 hh => ?_
  refine h_load (b := b) (cs := hd) (hh.to (by rw [listM, mem_assoc])) ok.lvc ?_
  have hxh := ok.hs x (List.mem_of_getElem? hg)
  have hx1 := (ok.nodes.get hg).hb
  have hxi : ∀ {S' : List SNode}, S'.map shp = S.map shp → ∃ x', S'[c]? = some x' ∧ x'.b = x.b ∧ x'.h = x.h := by
    intro S' hsh
    have h1 := congrArg (fun l => l[c]?) hsh
    simp only [List.getElem?_map, hg, Option.map_some] at h1
    cases h2 : S'[c]? with
    | none => rw [h2] at h1; cases h1
    | some x' => rw [h2] at h1; simp at h1; exact ⟨x', rfl, h1.1, h1.2.2⟩
  refine loop_i (fun k s G => ∃ (i : Nat) (hd' : List Value) (S' : List SNode), i + k = lv ∧ s = (.int .i64 i, []) ∧ Upd hd S hd' S' i (fun i => lastP S i c) (nwDel S c) ∧ Base hd' lv S.length S' ∧
      Has G (listM b hd' S' + (cell nb (pathN b S c 0 lv) + m))) lv
    ⟨0, hd, S, by omega, rfl, Upd.refl _ _ _ _, ok.base, hh.to (by ac_rfl)⟩ ?_
  clear hh
  rintro k _ g G ⟨i, hd', S', hik, rfl, u, bs, hh⟩
  have hul := u.len
  obtain ⟨x', hg', hxb', hxh'⟩ := hxi u.shape
  have hnx := bs.nb x' (List.mem_of_getElem? hg')
  have hxcell : cellsAt hd' S' (c + 1) = x'.cs := cellsAt_succ hg'
  have hxl : ∀ j, j < x.h → x'.cs[2 + j * 2]? = some (nxt j (S.drop (c + 1))).1 ∧ x'.cs[2 + j * 2 + 1]? = some (.int .i64 (nxt j (S.drop (c + 1))).2) := fun j hj => by
    have h1 := ok.links (c + 1) (by omega) j (by rw [posh_succ hg]; exact hj)
    rw [← hxcell, u.same (c + 1) _ (by omega) (fun i' _ e => by have := lastP_le S i' c; omega), u.same (c + 1) _ (by omega) (fun i' _ e => by have := lastP_le S i' c; omega)]
    exact h1
  (try simp only [xl, xo, Bool.not_eq_true', decide_eq_false_iff_not, ite_not, List.size_toArray, List.length_cons, List.length_nil, Nat.reduceAdd, qt, decide_eq_true_eq, Int.toNat_zero, Int.toNat_natCast, Nat.zero_mul, Nat.mul_one, Nat.one_mul, List.toList_toArray, List.cons_append, List.nil_append, List.append_nil, true_and, and_true, Nat.zero_add, Nat.add_zero, Bool.not_true, Bool.not_false, if_true, if_false, reduceCtorEq, List.set_cons_zero, List.set_cons_succ])
  by_cases hil : i < lv
  · rw [if_pos (by omega)]
    have hpl := lastP_le S i c
    refine ⟨by omega, ?_⟩
    refine h_load (b := nb) hh (pathN_get hil h32) ?_
    (try simp only [xl, xo, Bool.not_eq_true', decide_eq_false_iff_not, ite_not, List.size_toArray, List.length_cons, List.length_nil, Nat.reduceAdd, qt, decide_eq_true_eq, Int.toNat_zero, Int.toNat_natCast, Nat.zero_mul, Nat.mul_one, Nat.one_mul, List.toList_toArray, List.cons_append, List.nil_append, List.append_nil, true_and, and_true, Nat.zero_add, Nat.add_zero, Bool.not_true, Bool.not_false, if_true, if_false, reduceCtorEq, List.set_cons_zero, List.set_cons_succ])
    refine ⟨by omega, ?_⟩
    obtain ⟨r, ho1, ho2⟩ := list_open b hd' S' (p := lastP S i c) (by omega)
    rw [posb_shape u.shape] at ho1 ho2
    obtain ⟨hl1, hl2⟩ := upd_link (c := c) ok u hil (by omega)
    have hclen : 68 ≤ (cellsAt hd' S' (lastP S i c)).length := by rw [u.lens]; exact cells_len ok (by omega)
    have hstep := u.step (by omega) (by have := cells_len ok (p := lastP S i c) (by omega); omega)
    have bs' := bs.set2 (p := lastP S i c) (by omega) (j := 2 + i * 2) (by omega) (nwDel S c i).1 (nwDel S c i).2
    have ho3 := ho2 (((cellsAt hd' S' (lastP S i c)).set (2 + i * 2) (nwDel S c i).1).set (2 + i * 2 + 1) (nwDel S c i).2)
    have hspan : (nxt i (S.drop (c + 1))).2 ≤ S.length := by
      rcases nxt_spec i (S.drop (c + 1)) with ⟨e1, _⟩ | ⟨l1, y, l2, e1, _, _, e2⟩
      · rw [e1]; simp
      · rw [e2]
        have := congrArg List.length e1
        simp at this
        simp only
        omega
    have hov := del_over hg i
    rw [hov] at hl1 hl2
    refine join_of ((), []) (fun Q => Has Q (cell (posb b S (lastP S i c)) (((cellsAt hd' S' (lastP S i c)).set (2 + i * 2) (nxt i (S.drop (c + 1))).1).set (2 + i * 2 + 1) (.int .i64 (((c - lastP S i c) + (nxt i (S.drop (c + 1))).2 + 1 : Nat) : Int))) + (r + (cell nb (pathN b S c 0 lv) + m)))) ?_ ?_
    · rintro Q hh g2
      (try simp only [xl, xo, Bool.not_eq_true', decide_eq_false_iff_not, ite_not, List.size_toArray, List.length_cons, List.length_nil, Nat.reduceAdd, qt, decide_eq_true_eq, Int.toNat_zero, Int.toNat_natCast, Nat.zero_mul, Nat.mul_one, Nat.one_mul, List.toList_toArray, List.cons_append, List.nil_append, List.append_nil, true_and, and_true, Nat.zero_add, Nat.add_zero, Bool.not_true, Bool.not_false, if_true, if_false, reduceCtorEq, List.set_cons_zero, List.set_cons_succ])
      refine h_load (b := posb b S (lastP S i c)) hh (by rw [List.getElem?_set_self]; rw [List.length_set]; omega) ?_
      (try simp only [xl, xo, Bool.not_eq_true', decide_eq_false_iff_not, ite_not, List.size_toArray, List.length_cons, List.length_nil, Nat.reduceAdd, qt, decide_eq_true_eq, Int.toNat_zero, Int.toNat_natCast, Nat.zero_mul, Nat.mul_one, Nat.one_mul, List.toList_toArray, List.cons_append, List.nil_append, List.append_nil, true_and, and_true, Nat.zero_add, Nat.add_zero, Bool.not_true, Bool.not_false, if_true, if_false, reduceCtorEq, List.set_cons_zero, List.set_cons_succ])
      refine h_store (b := posb b S (lastP S i c)) hh rfl (by simp; omega) fun Q2 hh => ?_
      rw [List.set_set] at hh
      rw [w64 (n := (i : Int) + 1) (by omega)]
      rw [w64 (by omega), show (((c - lastP S i c) + (nxt i (S.drop (c + 1))).2 + 1 : Nat) : Int) - 1 = (((c - lastP S i c) + (nxt i (S.drop (c + 1))).2 : Nat) : Int) by omega] at hh
      refine ⟨k - 1, by omega, i + 1, _, _, by omega, rfl, hstep, bs', ?_⟩
      rw [ho3]
      exact hh.to (by unfold nwDel; ac_rfl)
    · intro J hJ
      rw [← hxb']
      have hh0 := hh
      rw [listM, nodesM_get hg'] at hh0
      refine h_load (b := x'.b) hh0 hnx.lv ?_
      (try simp only [xl, xo, Bool.not_eq_true', decide_eq_false_iff_not, ite_not, List.size_toArray, List.length_cons, List.length_nil, Nat.reduceAdd, qt, decide_eq_true_eq, Int.toNat_zero, Int.toNat_natCast, Nat.zero_mul, Nat.mul_one, Nat.one_mul, List.toList_toArray, List.cons_append, List.nil_append, List.append_nil, true_and, and_true, Nat.zero_add, Nat.add_zero, Bool.not_true, Bool.not_false, if_true, if_false, reduceCtorEq, List.set_cons_zero, List.set_cons_succ])
      rw [hxh']
      rw [ho1] at hh
      by_cases hix : i < x.h
      · rw [if_pos (by omega)]
        rw [if_pos hix] at hl1 hl2
        refine ⟨by omega, ?_⟩
        refine h_load (b := x'.b) hh0 (hxl i hix).1 ?_
        refine h_load (b := posb b S (lastP S i c)) hh hl2 ?_
        refine ⟨by omega, ?_⟩
        refine h_load (b := x'.b) hh0 (hxl i hix).2 ?_
        have hoc : (nxt i (S.drop (c + 1))).1.oneCell = true := by
          rcases nxt_spec i (S.drop (c + 1)) with ⟨e, _⟩ | ⟨_, _, _, _, _, _, e⟩ <;> rw [e] <;> rfl
        (try simp only [xl, xo, Bool.not_eq_true', decide_eq_false_iff_not, ite_not, List.size_toArray, List.length_cons, List.length_nil, Nat.reduceAdd, qt, decide_eq_true_eq, Int.toNat_zero, Int.toNat_natCast, Nat.zero_mul, Nat.mul_one, Nat.one_mul, List.toList_toArray, List.cons_append, List.nil_append, List.append_nil, true_and, and_true, Nat.zero_add, Nat.add_zero, Bool.not_true, Bool.not_false, if_true, if_false, reduceCtorEq, List.set_cons_zero, List.set_cons_succ])
        refine ⟨hoc, ?_⟩
        refine h_store2 (b := posb b S (lastP S i c)) hh hoc rfl (by omega) fun Q2 hh => hJ Q2 ?_
        rw [w64 (by omega)] at hh
        rw [show (((c - lastP S i c) + (nxt i (S.drop (c + 1))).2 + 1 : Nat) : Int) = ((c - lastP S i c + 1 : Nat) : Int) + ((nxt i (S.drop (c + 1))).2 : Int) by omega]
        exact hh.to (by ac_rfl)
      · rw [if_neg (by omega)]
        rw [if_neg hix] at hl1 hl2
        refine hJ G ?_
        simp only [] at hl1 hl2
        rw [set_same hl1, set_same hl2]
        exact hh.to (by ac_rfl)
  · rw [if_neg (by omega)]
    have hie : i = lv := by omega
    subst hie
    rw [← hxb']
    have fin : ∀ Q hd3 S3, Upd hd S hd3 S3 i (fun i => lastP S i c) (nwDel S c) → Base hd3 i S.length S3 → Has Q (listM b hd3 S3 + (cell nb (pathN b S c 0 i) + m)) →
        ∃ lw hd4 S4, lw ≤ 32 ∧ hd4.length = 71 ∧ (∃ a, hd4[68]? = some (.pointer a)) ∧ hd4[69]? = some (.int .i64 lw) ∧ hd4[70]? = some (.int .i64 S.length) ∧ (∀ x ∈ S4, x.h ≤ lw) ∧ (∀ x ∈ S4, NodeB x) ∧ Links hd4 lw S4 ∧
          S4.length + 1 = S.length ∧ S4.map (·.e) = (S.map (·.e)).take c ++ (S.map (·.e)).drop (c + 1) ∧ Has Q (listM b hd4 S4 + m) := by
      intro Q hd3 S3 u3 bs3 hh
      obtain ⟨x3, hg3, hxb3, hxh3⟩ := hxi u3.shape
      have hl3 := u3.len
      have hmem : ∀ y ∈ S3.take c ++ S3.drop (c + 1), y ∈ S3 := by
        intro y hy
        rcases List.mem_append.1 hy with h | h
        · exact List.mem_of_mem_take h
        · exact List.mem_of_mem_drop h
      refine ⟨i, hd3, S3.take c ++ S3.drop (c + 1), h32, bs3.len, bs3.last, bs3.lvc, bs3.nc, fun y hy => shp_mem (p := fun h => h ≤ i) u3.shape ok.hs y (hmem y hy), fun y hy => bs3.nb y (hmem y hy), del_links ok hg u3, by simp; omega, del_e u3.shape c, ?_⟩
      rw [listM_del b hd3 hg3] at hh
      exact (Has.left (b := cell x3.b x3.cs + cell nb (pathN b S c 0 i)) (hh.to (by ac_rfl)))
    refine join_of ((), []) (fun Q => ∃ hd3 S3, Upd hd S hd3 S3 i (fun i => lastP S i c) (nwDel S c) ∧ Base hd3 i S.length S3 ∧ Has Q (listM b hd3 S3 + (cell nb (pathN b S c 0 i) + m))) ?_ ?_
    · rintro Q ⟨hd3, S3, u3, bs3, hh⟩ g1
      obtain ⟨lw0, hd4, S4, f1, f2, f3, f4, f5, f6, f7, f8, f9, f10, hh⟩ := fin Q hd3 S3 u3 bs3 hh
      refine join_of ((), []) (fun Q => ∃ lw hd5, SkOk (hd5.set 70 (.int .i64 ((S4.length : Nat) : Int))) lw S4 ∧ hd5.length = 71 ∧ hd5[70]? = some (.int .i64 S.length) ∧ Has Q (listM b hd5 S4 + m)) ?_ ?_
      · rintro Q2 ⟨lw, hd5, ok5, f2, f5, hh⟩ g2
        rw [listM] at hh
        refine h_load (b := b) hh f5 ?_
        (try simp only [xl, xo, Bool.not_eq_true', decide_eq_false_iff_not, ite_not, List.size_toArray, List.length_cons, List.length_nil, Nat.reduceAdd, qt, decide_eq_true_eq, Int.toNat_zero, Int.toNat_natCast, Nat.zero_mul, Nat.mul_one, Nat.one_mul, List.toList_toArray, List.cons_append, List.nil_append, List.append_nil, true_and, and_true, Nat.zero_add, Nat.add_zero, Bool.not_true, Bool.not_false, if_true, if_false, reduceCtorEq, List.set_cons_zero, List.set_cons_succ])
        refine h_store (b := b) hh rfl (by omega) fun Q3 hh => ?_
        rw [w64 (by omega), show (S.length : Int) - 1 = ((S4.length : Nat) : Int) by omega] at hh
        exact hK Q3 _ lw S4 (hh.to (by rw [listM]; ac_rfl)) ok5 f10
      · intro J hJ
        refine loop_i (fun k s Q => ∃ hd5, s = ((), []) ∧ k ≤ 32 ∧ hd5.length = 71 ∧ (∃ a, hd5[68]? = some (.pointer a)) ∧ hd5[69]? = some (.int .i64 k) ∧ hd5[70]? = some (.int .i64 S.length) ∧ (∀ x ∈ S4, x.h ≤ k) ∧ Links hd5 k S4 ∧ Has Q (listM b hd5 S4 + m)) lw0
          ⟨hd4, rfl, f1, f2, f3, f4, f5, f6, f8, hh⟩ ?_
        clear hh f1 f2 f3 f4 f5 f6 f8
        rintro lw s g2 Q2 ⟨hd5, rfl, f1, f2, f3, f4, f5, f6, f8, hh⟩
        have done : J ((), []) Q2 := by
          refine hJ Q2 ⟨lw, hd5, ?_, f2, f5, hh⟩
          refine sk_of (by simpa using f2) ?_ ?_ (by rw [List.getElem?_set_self (by omega)]) f1 f6 f7 (f8.head f1 (by omega) _ fun x hx => by have := f6 x hx; omega) (by omega)
          · rw [List.getElem?_set_ne (by omega)]; exact f3
          · rw [List.getElem?_set_ne (by omega)]; exact f4
        rw [listM] at hh
        refine h_load (b := b) hh f4 ?_
        (try simp only [xl, xo, Bool.not_eq_true', decide_eq_false_iff_not, ite_not, List.size_toArray, List.length_cons, List.length_nil, Nat.reduceAdd, qt, decide_eq_true_eq, Int.toNat_zero, Int.toNat_natCast, Nat.zero_mul, Nat.mul_one, Nat.one_mul, List.toList_toArray, List.cons_append, List.nil_append, List.append_nil, true_and, and_true, Nat.zero_add, Nat.add_zero, Bool.not_true, Bool.not_false, if_true, if_false, reduceCtorEq, List.set_cons_zero, List.set_cons_succ])
        by_cases hlw : 0 < lw
        · rw [if_pos (by omega)]
          refine h_load (b := b) hh f4 ?_
          (try simp only [xl, xo, Bool.not_eq_true', decide_eq_false_iff_not, ite_not, List.size_toArray, List.length_cons, List.length_nil, Nat.reduceAdd, qt, decide_eq_true_eq, Int.toNat_zero, Int.toNat_natCast, Nat.zero_mul, Nat.mul_one, Nat.one_mul, List.toList_toArray, List.cons_append, List.nil_append, List.append_nil, true_and, and_true, Nat.zero_add, Nat.add_zero, Bool.not_true, Bool.not_false, if_true, if_false, reduceCtorEq, List.set_cons_zero, List.set_cons_succ])
          obtain ⟨lx, rfl⟩ : ∃ lx, lw = lx + 1 := ⟨lw - 1, by omega⟩
          rw [w64 (by omega), show ((lx + 1 : Nat) : Int) - 1 = (lx : Int) by omega]
          (try simp only [xl, xo, Bool.not_eq_true', decide_eq_false_iff_not, ite_not, List.size_toArray, List.length_cons, List.length_nil, Nat.reduceAdd, qt, decide_eq_true_eq, Int.toNat_zero, Int.toNat_natCast, Nat.zero_mul, Nat.mul_one, Nat.one_mul, List.toList_toArray, List.cons_append, List.nil_append, List.append_nil, true_and, and_true, Nat.zero_add, Nat.add_zero, Bool.not_true, Bool.not_false, if_true, if_false, reduceCtorEq, List.set_cons_zero, List.set_cons_succ])
          refine ⟨by omega, ?_⟩
          have h8 := f8 0 (by omega) lx (by simp [posh])
          simp only [cellsAt, if_true, List.drop_zero] at h8
          refine h_load (b := b) hh h8.1 ?_
          rcases nxt_spec lx S4 with ⟨e, hno⟩ | ⟨l1, y, l2, e1, hno, hky, e⟩
          · rw [e]
            (try simp only [xl, xo, Bool.not_eq_true', decide_eq_false_iff_not, ite_not, List.size_toArray, List.length_cons, List.length_nil, Nat.reduceAdd, qt, decide_eq_true_eq, Int.toNat_zero, Int.toNat_natCast, Nat.zero_mul, Nat.mul_one, Nat.one_mul, List.toList_toArray, List.cons_append, List.nil_append, List.append_nil, true_and, and_true, Nat.zero_add, Nat.add_zero, Bool.not_true, Bool.not_false, if_true, if_false, reduceCtorEq, List.set_cons_zero, List.set_cons_succ])
            refine h_load (b := b) hh f4 ?_
            (try simp only [xl, xo, Bool.not_eq_true', decide_eq_false_iff_not, ite_not, List.size_toArray, List.length_cons, List.length_nil, Nat.reduceAdd, qt, decide_eq_true_eq, Int.toNat_zero, Int.toNat_natCast, Nat.zero_mul, Nat.mul_one, Nat.one_mul, List.toList_toArray, List.cons_append, List.nil_append, List.append_nil, true_and, and_true, Nat.zero_add, Nat.add_zero, Bool.not_true, Bool.not_false, if_true, if_false, reduceCtorEq, List.set_cons_zero, List.set_cons_succ])
            refine h_store (b := b) hh rfl (by omega) fun Q3 hh => ?_
            rw [w64 (by omega), show ((lx + 1 : Nat) : Int) - 1 = (lx : Int) by omega] at hh
            refine ⟨lx, by omega, _, by omega, by simpa using f2, ?_, by rw [List.getElem?_set_self (by omega)], ?_, hno, (f8.low (by omega)).head (by omega) (by omega) _ fun x hx => by have := hno x hx; omega, hh.to (by rw [listM]; ac_rfl)⟩
            · rw [List.getElem?_set_ne (by omega)]; exact f3
            · rw [List.getElem?_set_ne (by omega)]; exact f5
          · rw [e]
            (try simp only [xl, xo, Bool.not_eq_true', decide_eq_false_iff_not, ite_not, List.size_toArray, List.length_cons, List.length_nil, Nat.reduceAdd, qt, decide_eq_true_eq, Int.toNat_zero, Int.toNat_natCast, Nat.zero_mul, Nat.mul_one, Nat.one_mul, List.toList_toArray, List.cons_append, List.nil_append, List.append_nil, true_and, and_true, Nat.zero_add, Nat.add_zero, Bool.not_true, Bool.not_false, if_true, if_false, reduceCtorEq, List.set_cons_zero, List.set_cons_succ])
            exact done
        · rw [if_neg (by omega)]
          exact done
    · intro J hJ
      refine ⟨by omega, ?_⟩
      have hx2 := (hxl 0 (by omega)).1
      rw [nxt0 ok.nodes] at hx2
      obtain ⟨a, hbk⟩ := hnx.bk
      have hh0 := hh
      rw [listM, nodesM_get hg'] at hh0
      refine h_load (b := x'.b) hh0 hx2 ?_
      cases hgn : S[c + 1]? with
      | none =>
        (try simp only [xl, xo, Bool.not_eq_true', decide_eq_false_iff_not, ite_not, List.size_toArray, List.length_cons, List.length_nil, Nat.reduceAdd, qt, decide_eq_true_eq, Int.toNat_zero, Int.toNat_natCast, Nat.zero_mul, Nat.mul_one, Nat.one_mul, List.toList_toArray, List.cons_append, List.nil_append, List.append_nil, true_and, and_true, Nat.zero_add, Nat.add_zero, Bool.not_true, Bool.not_false, if_true, if_false, reduceCtorEq, List.set_cons_zero, List.set_cons_succ])
        refine h_load (b := x'.b) hh0 hbk ?_
        rw [listM] at hh
        refine h_store (b := b) hh rfl (by rw [bs.len]; omega) fun Q2 hh => hJ Q2 ⟨_, S', u.head h32 _ (by omega), bs.head _, hh.to (by rw [listM]; ac_rfl)⟩
      | some y0 =>
        have hlt := (List.getElem?_eq_some_iff.1 hgn).1
        have hgy : S'[c + 1]? = some (S'[c + 1]'(by omega)) := List.getElem?_eq_getElem (by omega)
        generalize S'[c + 1]'(by omega) = y at hgy
        have hyb : y.b = y0.b := by
          have := posb_shape (b := b) u.shape (c + 1 + 1)
          rwa [posb_succ hgy, posb_succ hgn] at this
        (try simp only [xl, xo, Bool.not_eq_true', decide_eq_false_iff_not, ite_not, List.size_toArray, List.length_cons, List.length_nil, Nat.reduceAdd, qt, decide_eq_true_eq, Int.toNat_zero, Int.toNat_natCast, Nat.zero_mul, Nat.mul_one, Nat.one_mul, List.toList_toArray, List.cons_append, List.nil_append, List.append_nil, true_and, and_true, Nat.zero_add, Nat.add_zero, Bool.not_true, Bool.not_false, if_true, if_false, reduceCtorEq, List.set_cons_zero, List.set_cons_succ])
        rw [← hyb]
        refine h_load (b := x'.b) hh0 hbk ?_
        have hm : listM b hd' S' = cell y.b y.cs + (cell b hd' + (nodesM (S'.take (c + 1)) + nodesM (S'.drop (c + 1 + 1)))) := by rw [listM, nodesM_get hgy]; ac_rfl
        rw [hm] at hh
        (try simp only [xl, xo, Bool.not_eq_true', decide_eq_false_iff_not, ite_not, List.size_toArray, List.length_cons, List.length_nil, Nat.reduceAdd, qt, decide_eq_true_eq, Int.toNat_zero, Int.toNat_natCast, Nat.zero_mul, Nat.mul_one, Nat.one_mul, List.toList_toArray, List.cons_append, List.nil_append, List.append_nil, true_and, and_true, Nat.zero_add, Nat.add_zero, Bool.not_true, Bool.not_false, if_true, if_false, reduceCtorEq, List.set_cons_zero, List.set_cons_succ])
        refine h_store (b := y.b) hh rfl (by rw [(bs.nb y (List.mem_of_getElem? hgy)).len]; omega) fun Q2 hh => hJ Q2 ⟨hd', _, u.back h32 hgy (.pointer a), bs.back hgy a, ?_⟩
        have h2 : (S'.set (c + 1) { y with cs := y.cs.set 67 (.pointer a) })[c + 1]? = some { y with cs := y.cs.set 67 (.pointer a) } := by rw [List.getElem?_set_self (by omega)]
        have hm2 : listM b hd' (S'.set (c + 1) { y with cs := y.cs.set 67 (.pointer a) }) = cell y.b (y.cs.set 67 (.pointer a)) + (cell b hd' + (nodesM (S'.take (c + 1)) + nodesM (S'.drop (c + 1 + 1)))) := by
          rw [listM, nodesM_get h2, List.take_set_of_le (Nat.le_refl _), List.drop_set_of_lt (by omega)]; ac_rfl
        rw [hm2]
        exact hh.to (by ac_rfl)
end Go.X.W
set_option linter.unusedVariables false
set_option linter.unusedSimpArgs false
namespace Go.X.W
open Go Go.X Go.Proofs

variable {H : Heap} {b lv : Nat} {hd : List Value} {S : List SNode} {m : Mem} {K : Value → Heap → Prop}

/-- A list without what stands at c. -/
def delAt {α : Type} (l : List α) (c : Nat) : List α := l.take c ++ l.drop (c + 1)
theorem delAt_none {α : Type} {l : List α} {c : Nat} (h : l.length ≤ c) : delAt l c = l := by
  unfold delAt; rw [List.take_of_length_le h, List.drop_eq_nil_of_le (by omega), List.append_nil]

theorem skip_Delete_h {e : Ent} (hh : Has H (listM b hd S + m)) (ok : SkOk hd lv S) (hs : SortedE (S.map (·.e)))
    (hK : ∀ H' hd' lv' S', Has H' (listM b hd' S' + m) → SkOk hd' lv' S' → S'.map (·.e) = (if isAt e (S.map (·.e)) (cntE e (S.map (·.e))) then delAt (S.map (·.e)) (cntE e (S.map (·.e))) else S.map (·.e)) →
      K (.bool (isAt e (S.map (·.e)) (cntE e (S.map (·.e))))) H') :
    CallH P f_skip_List_Delete [ptrV b, entV e] H K := by
  apply k_skip_List_Delete
  unfold c_skip_List_Delete
  rw [x_boxN, zp32, zi32]
  have h32 := ok.l32
  refine h_allocA hh fun eb H1 hh => ?_
  refine h_load2 hh rfl rfl ?_
  refine skip_Seek_h (e := e) (hh.front (listM b hd S)) ok hs fun H2 hh => ?_
  have hc : cntE e (S.map (·.e)) ≤ S.length := by have := cntE_le e (S.map (·.e)); simpa using this
  (try simp only [xl, xo, Bool.not_eq_true', decide_eq_false_iff_not, ite_not, List.size_toArray, List.length_cons, List.length_nil, Nat.reduceAdd, qt, decide_eq_true_eq, Int.toNat_zero, Int.toNat_natCast, Nat.zero_mul, Nat.mul_one, Nat.one_mul, List.toList_toArray, List.cons_append, List.nil_append, List.append_nil, true_and, and_true, Nat.zero_add, Nat.add_zero, Bool.not_true, Bool.not_false, if_true, if_false, reduceCtorEq, List.set_cons_zero, List.set_cons_succ])
  cases hia : isAt e (S.map (·.e)) (cntE e (S.map (·.e))) with
  | false =>
    rw [hia] at hK
    (try simp only [xl, xo, Bool.not_eq_true', decide_eq_false_iff_not, ite_not, List.size_toArray, List.length_cons, List.length_nil, Nat.reduceAdd, qt, decide_eq_true_eq, Int.toNat_zero, Int.toNat_natCast, Nat.zero_mul, Nat.mul_one, Nat.one_mul, List.toList_toArray, List.cons_append, List.nil_append, List.append_nil, true_and, and_true, Nat.zero_add, Nat.add_zero, Bool.not_true, Bool.not_false, if_true, if_false, reduceCtorEq, List.set_cons_zero, List.set_cons_succ])
    exact hK H2 hd lv S (hh.front (listM b hd S + m)).left ok (by simp)
  | true =>
    rw [hia] at hK
    (try simp only [xl, xo, Bool.not_eq_true', decide_eq_false_iff_not, ite_not, List.size_toArray, List.length_cons, List.length_nil, Nat.reduceAdd, qt, decide_eq_true_eq, Int.toNat_zero, Int.toNat_natCast, Nat.zero_mul, Nat.mul_one, Nat.one_mul, List.toList_toArray, List.cons_append, List.nil_append, List.append_nil, true_and, and_true, Nat.zero_add, Nat.add_zero, Bool.not_true, Bool.not_false, if_true, if_false, reduceCtorEq, List.set_cons_zero, List.set_cons_succ])
    refine h_load2 hh rfl rfl ?_
    refine skip_to_h (e := e) hh ok hs fun H3 hh => ?_
    generalize hcc : cntE e (S.map (·.e)) = c at *
    (try simp only [xl, xo, Bool.not_eq_true', decide_eq_false_iff_not, ite_not, List.size_toArray, List.length_cons, List.length_nil, Nat.reduceAdd, qt, decide_eq_true_eq, Int.toNat_zero, Int.toNat_natCast, Nat.zero_mul, Nat.mul_one, Nat.one_mul, List.toList_toArray, List.cons_append, List.nil_append, List.append_nil, true_and, and_true, Nat.zero_add, Nat.add_zero, Bool.not_true, Bool.not_false, if_true, if_false, reduceCtorEq, List.set_cons_zero, List.set_cons_succ])
    refine h_alloc hh fun nb H4 hh => ?_
    refine h_alloc hh fun qb H5 hh => ?_
    refine h_storeAll hh (by simp) (pathN_len _ _ _ _ _) (pathN_oc _ _ _ _ _) fun H6 hh => ?_
    refine h_storeAll hh (by simp) (pathP_len _ _ _ _) (pathP_oc _ _ _ _) fun H7 hh => ?_
    have hlv : 0 < lv := by
      rcases Nat.eq_zero_or_pos lv with h | h
      · have := sk_lv0 ok h; subst this; simp [isAt] at hia
      · exact h
    have hg : ∃ x, S[c]? = some x := by
      cases hg : S[c]? with
      | none => simp [isAt, hg] at hia
      | some x => exact ⟨x, rfl⟩
    obtain ⟨x, hg⟩ := hg
    refine ⟨by omega, ?_⟩
    refine h_load (b := nb) hh (pathN_get hlv h32) ?_
    rw [lastP0 ok.nodes c hc]
    (try simp only [xl, xo, Bool.not_eq_true', decide_eq_false_iff_not, ite_not, List.size_toArray, List.length_cons, List.length_nil, Nat.reduceAdd, qt, decide_eq_true_eq, Int.toNat_zero, Int.toNat_natCast, Nat.zero_mul, Nat.mul_one, Nat.one_mul, List.toList_toArray, List.cons_append, List.nil_append, List.append_nil, true_and, and_true, Nat.zero_add, Nat.add_zero, Bool.not_true, Bool.not_false, if_true, if_false, reduceCtorEq, List.set_cons_zero, List.set_cons_succ])
    refine ⟨by omega, ?_⟩
    refine ⟨_, link0 (hh.front (listM b hd S)) ok hc hlv, ?_⟩
    refine h_loadAll (b := nb) hh (pathN_len _ _ _ _ _) ?_
    rw [nxt0 ok.nodes, hg]
    refine skip_takes_h (hh.front (listM b hd S)) ok hg fun H8 hd' lv' S' hh ok' he => ?_
    refine hK H8 hd' lv' S' (hh.front (listM b hd' S' + m)).left ok' ?_
    rw [if_pos rfl]
    exact he

theorem skip_Cut_h {f t : Int} (hh : Has H (listM b hd S + m)) (ok : SkOk hd lv S)
    (hK : ∀ H' hd' lv' S', Has H' (listM b hd' S' + m) → SkOk hd' lv' S' → S'.map (·.e) = (S.map (·.e)).take (fromN f S.length) ++ (S.map (·.e)).drop (toN f t S.length) →
      K (.int .i64 ((toN f t S.length - fromN f S.length : Nat) : Int)) H') :
    CallH P f_skip_List_Cut [ptrV b, .int .i64 f, .int .i64 t] H K := by
  apply k_skip_List_Cut
  unfold c_skip_List_Cut
  rw [zp32, zi32]
  refine skip_within_h hh ok ?_
  rw [toN_eq, fromN_eq]
  have hft := fromto f t S.length
  have hbig := ok.big
  generalize fromN f S.length = a at *
  generalize toN f t S.length = e at *
  (try simp only [xl, xo, Bool.not_eq_true', decide_eq_false_iff_not, ite_not, List.size_toArray, List.length_cons, List.length_nil, Nat.reduceAdd, qt, decide_eq_true_eq, Int.toNat_zero, Int.toNat_natCast, Nat.zero_mul, Nat.mul_one, Nat.one_mul, List.toList_toArray, List.cons_append, List.nil_append, List.append_nil, true_and, and_true, Nat.zero_add, Nat.add_zero, Bool.not_true, Bool.not_false, if_true, if_false, reduceCtorEq, List.set_cons_zero, List.set_cons_succ])
  rw [w64 (n := (e : Int) - a) (by omega)]
  refine loop_i (fun k s G => ∃ (j : Nat) (hd' : List Value) (lv' : Nat) (S' : List SNode) (m' : Mem), j + k = e - a ∧ s = (.int .i64 j, []) ∧ SkOk hd' lv' S' ∧ S'.map (·.e) = (S.map (·.e)).take a ++ (S.map (·.e)).drop (a + j) ∧ Has G (listM b hd' S' + (m + m'))) (e - a)
    ⟨0, hd, lv, S, emp, by omega, rfl, ok, by rw [Nat.add_zero, List.take_append_drop], hh.to (by rw [add_emp])⟩ ?_
  clear hh
  rintro k _ g G ⟨j, hd', lv', S', m', hj, rfl, ok', he, hh⟩
  (try simp only [xl, xo, Bool.not_eq_true', decide_eq_false_iff_not, ite_not, List.size_toArray, List.length_cons, List.length_nil, Nat.reduceAdd, qt, decide_eq_true_eq, Int.toNat_zero, Int.toNat_natCast, Nat.zero_mul, Nat.mul_one, Nat.one_mul, List.toList_toArray, List.cons_append, List.nil_append, List.append_nil, true_and, and_true, Nat.zero_add, Nat.add_zero, Bool.not_true, Bool.not_false, if_true, if_false, reduceCtorEq, List.set_cons_zero, List.set_cons_succ])
  have hlen : S'.length + j = S.length := by
    have := congrArg List.length he
    simp at this
    omega
  by_cases hje : j < e - a
  · rw [if_pos (by omega)]
    have hlv : 0 < lv' := by
      rcases Nat.eq_zero_or_pos lv' with h | h
      · have := sk_lv0 ok' h; subst this; simp at hlen; omega
      · exact h
    refine skip_until_h (c := a) hh ok' (by omega) fun H2 hh => ?_
    (try simp only [xl, xo, Bool.not_eq_true', decide_eq_false_iff_not, ite_not, List.size_toArray, List.length_cons, List.length_nil, Nat.reduceAdd, qt, decide_eq_true_eq, Int.toNat_zero, Int.toNat_natCast, Nat.zero_mul, Nat.mul_one, Nat.one_mul, List.toList_toArray, List.cons_append, List.nil_append, List.append_nil, true_and, and_true, Nat.zero_add, Nat.add_zero, Bool.not_true, Bool.not_false, if_true, if_false, reduceCtorEq, List.set_cons_zero, List.set_cons_succ])
    refine h_alloc hh fun nb H4 hh => ?_
    refine h_alloc hh fun qb H5 hh => ?_
    refine h_storeAll hh (by simp) (pathN_len _ _ _ _ _) (pathN_oc _ _ _ _ _) fun H6 hh => ?_
    refine h_storeAll hh (by simp) (pathP_len _ _ _ _) (pathP_oc _ _ _ _) fun H7 hh => ?_
    refine ⟨by omega, ?_⟩
    refine h_load (b := nb) hh (pathN_get hlv ok'.l32) ?_
    rw [lastP0 ok'.nodes a (by omega)]
    (try simp only [xl, xo, Bool.not_eq_true', decide_eq_false_iff_not, ite_not, List.size_toArray, List.length_cons, List.length_nil, Nat.reduceAdd, qt, decide_eq_true_eq, Int.toNat_zero, Int.toNat_natCast, Nat.zero_mul, Nat.mul_one, Nat.one_mul, List.toList_toArray, List.cons_append, List.nil_append, List.append_nil, true_and, and_true, Nat.zero_add, Nat.add_zero, Bool.not_true, Bool.not_false, if_true, if_false, reduceCtorEq, List.set_cons_zero, List.set_cons_succ])
    refine ⟨by omega, ?_⟩
    refine ⟨_, link0 (hh.front (listM b hd' S')) ok' (k := a) (by omega) hlv, ?_⟩
    refine h_loadAll (b := nb) hh (pathN_len _ _ _ _ _) ?_
    have hg : S'[a]? = some (S'[a]'(by omega)) := List.getElem?_eq_getElem (by omega)
    generalize S'[a]'(by omega) = x at hg
    rw [nxt0 ok'.nodes, hg]
    refine skip_takes_h (hh.front (listM b hd' S')) ok' hg fun H8 hd2 lv2 S2 hh ok2 he2 => ?_
    rw [w64 (n := (j : Int) + 1) (by omega)]
    refine ⟨k - 1, by omega, j + 1, hd2, lv2, S2, _, by omega, rfl, ok2, ?_, (hh.front (listM b hd2 S2 + m)).to (mem_assoc _ _ _)⟩
    rw [he2, he]
    have hal : ((S.map (·.e)).take a).length = a := by rw [List.length_take, List.length_map]; omega
    rw [List.take_append_of_le_length (by omega), List.take_take, Nat.min_self, List.drop_append, hal, List.drop_eq_nil_of_le (by omega), List.nil_append, List.drop_drop]
    congr 2
    omega
  · rw [if_neg (by omega)]
    have : j = e - a := by omega
    subst this
    rw [show a + (e - a) = e by omega] at he
    have := hK G hd' lv' S' (hh.front (listM b hd' S' + m)).left ok' he
    rw [show ((e : Int) - a) = ((e - a : Nat) : Int) by omega]
    exact this
end Go.X.W
set_option linter.unusedVariables false
set_option linter.unusedSimpArgs false
namespace Go.X.W
open Go Go.X Go.Proofs

abbrev byV (b : UInt8) : Value := .int .u8 b.toNat
def baL (l : List UInt8) : ByteArray := ⟨l.toArray⟩
theorem baL_get (l : List UInt8) (i : Nat) : (baL l)[i]? = l[i]? := by
  by_cases h : i < l.length
  · have h' : i < (baL l).size := h
    rw [getElem?_pos (baL l) i h', List.getElem?_eq_getElem h]
    rfl
  · have h' : ¬ i < (baL l).size := h
    rw [getElem?_neg (baL l) i h', List.getElem?_eq_none (by omega)]
theorem baL_size (l : List UInt8) : (baL l).size = l.length := rfl
theorem baL_ext (l : List UInt8) (a b : Nat) : (baL l).extract a b = baL ((l.drop a).take (b - a)) := by
  unfold baL
  rw [ByteArray.ext_iff, ByteArray.data_extract]
  simp [List.take_drop]
theorem baL_data (s : ByteArray) : baL s.data.toList = s := rfl
theorem baL_inj {l l' : List UInt8} (h : baL l = baL l') : l = l' := by
  unfold baL at h; simpa using h

def scN (s : Int) : Nat := (s % 18446744073709551616).toNat
theorem scN_lt (s : Int) : scN s < 18446744073709551616 := by unfold scN; omega
theorem scN_back {s : Int} (h : -9223372036854775808 ≤ s ∧ s ≤ 9223372036854775807) : IntKind.i64.wrap (scN s : Int) = s := by
  unfold scN
  simp [IntKind.wrap, IntKind.signed, IntKind.bits]
  omega
theorem scN_to (s : Int) : IntKind.u64.wrap s = (scN s : Int) := by
  unfold scN
  simp [IntKind.wrap, IntKind.signed, IntKind.bits]
  omega
def scB (s : Int) (i : Nat) : UInt8 := UInt8.ofNat (scN s / 256 ^ (7 - i))
def scL (s : Int) : List UInt8 := [scB s 0, scB s 1, scB s 2, scB s 3, scB s 4, scB s 5, scB s 6, scB s 7]
theorem scL_get {s : Int} {i : Nat} (h : i < 8) : (scL s)[i]? = some (scB s i) := by
  match i, h with
  | 0, _ => rfl
  | 1, _ => rfl
  | 2, _ => rfl
  | 3, _ => rfl
  | 4, _ => rfl
  | 5, _ => rfl
  | 6, _ => rfl
  | 7, _ => rfl
def encL (e : Ent) : List UInt8 := UInt8.ofNat e.1.size :: (e.1.data.toList ++ (scL e.2 ++ [UInt8.ofNat (9 + e.1.size)]))
def headL (n : Nat) : List UInt8 := [UInt8.ofNat (n / 256), UInt8.ofNat n]
def bodyL (l : List Ent) : List UInt8 := l.flatMap encL
def packL (l : List Ent) : List UInt8 := headL l.length ++ bodyL l
def packS (l : List Ent) : ByteArray := baL (packL l)
theorem encL_len (e : Ent) : (encL e).length = 10 + e.1.size := by
  have h : e.1.data.toList.length = e.1.size := rfl
  simp only [encL, scL, List.length_cons, List.length_append, List.length_nil, h]; omega
theorem bodyL_append (l l' : List Ent) : bodyL (l ++ l') = bodyL l ++ bodyL l' := by simp [bodyL]
theorem bodyL_cons (e : Ent) (l : List Ent) : bodyL (e :: l) = encL e ++ bodyL l := by simp [bodyL]
theorem packL_len (l : List Ent) : (packL l).length = 2 + (bodyL l).length := by simp [packL, headL]; omega

/-- An entry that fits a pack. -/
def EOk (e : Ent) : Prop := e.1.size ≤ 64 ∧ (-9223372036854775808 ≤ e.2 ∧ e.2 ≤ 9223372036854775807)
def POk (l : List Ent) : Prop := (∀ e ∈ l, EOk e) ∧ l.length ≤ 200
theorem body_le {l : List Ent} (h : ∀ e ∈ l, EOk e) : (bodyL l).length ≤ 74 * l.length := by
  induction l with
  | nil => simp [bodyL]
  | cons e l ih =>
    rw [bodyL_cons, List.length_append, encL_len, List.length_cons]
    have h1 := (h e (by simp)).1
    have h2 := ih fun x hx => h x (by simp [hx])
    omega

theorem or_low {q : Nat} (hq : q < 18446744073709551616) : IntKind.u64.wrap ((BitVec.ofInt 64 (IntKind.u64.wrap (((q / 256 : Nat) : Int) * 2 ^ 8)) ||| BitVec.ofInt 64 ((q % 256 : Nat) : Int)).toNat : Nat) = (q : Int) := by
  rw [show ((q / 256 : Nat) : Int) * 2 ^ 8 = ((q / 256 * 256 : Nat) : Int) by omega, wu64 (n := ((q / 256 * 256 : Nat) : Int)) (by omega), BitVec.ofInt_natCast, BitVec.ofInt_natCast, BitVec.toNat_or, BitVec.toNat_ofNat, BitVec.toNat_ofNat]
  rw [Nat.mod_eq_of_lt (by omega), Nat.mod_eq_of_lt (by omega)]
  have h := Nat.shiftLeft_add_eq_or_of_lt (i := 8) (b := q % 256) (by omega) (q / 256)
  rw [Nat.shiftLeft_eq] at h
  rw [show (2 : Nat) ^ 8 = 256 by rfl] at h
  rw [← h, show q / 256 * 256 + q % 256 = q by omega, wu64 (by omega)]
theorem acc_step {s : Int} {i : Nat} (h : i < 8) : IntKind.u64.wrap ((BitVec.ofInt 64 (IntKind.u64.wrap (((scN s / 256 ^ (8 - i) : Nat) : Int) * 2 ^ 8)) ||| BitVec.ofInt 64 ((scB s i).toNat : Int)).toNat : Nat) = ((scN s / 256 ^ (8 - (i + 1)) : Nat) : Int) := by
  have hs := scN_lt s
  unfold scB
  generalize scN s = n at *
  have hb : (UInt8.ofNat (n / 256 ^ (7 - i))).toNat = n / 256 ^ (7 - i) % 256 := by simp
  have e0 : 8 - i = (7 - i) + 1 := by omega
  have e1 : 8 - (i + 1) = 7 - i := by omega
  rw [hb, e1, e0, Nat.pow_succ, ← Nat.div_div_eq_div_mul]
  exact or_low (Nat.lt_of_le_of_lt (Nat.div_le_self _ _) hs)
theorem acc_end (s : Int) : scN s / 256 ^ (8 - 8) = scN s := by simp
theorem acc_0 (s : Int) : scN s / 256 ^ (8 - 0) = 0 := Nat.div_eq_of_lt (by have := scN_lt s; simpa using this)

/-- What lies at a place of a text. -/
theorem at_get {l p r : List UInt8} {o : Nat} (h : l.drop o = p ++ r) {k : Nat} (hk : k < p.length) : (baL l)[o + k]? = p[k]? := by
  rw [baL_get, ← List.getElem?_drop, h, List.getElem?_append_left hk]
theorem at_len {l p : List UInt8} {o : Nat} (h : l.drop o = p) (hp : p ≠ []) : l.length = o + p.length := by
  have := congrArg List.length h
  rw [List.length_drop] at this
  have : p.length ≠ 0 := by simpa using hp
  omega
theorem enc_get0 (e : Ent) (r : List UInt8) : (encL e ++ r)[0]? = some (UInt8.ofNat e.1.size) := rfl
theorem enc_getS (e : Ent) {i : Nat} (h : i < 8) : (encL e)[1 + e.1.size + i]? = some (scB e.2 i) := by
  have hl : e.1.data.toList.length = e.1.size := rfl
  unfold encL
  rw [show 1 + e.1.size + i = (e.1.size + i) + 1 by omega, List.getElem?_cons_succ, List.getElem?_append_right (by omega), hl, show e.1.size + i - e.1.size = i by omega, List.getElem?_append_left (by simpa [scL] using h), scL_get h]
theorem enc_getE (e : Ent) : (encL e)[9 + e.1.size]? = some (UInt8.ofNat (9 + e.1.size)) := by
  have hl : e.1.data.toList.length = e.1.size := rfl
  unfold encL
  rw [show 9 + e.1.size = (e.1.size + 8) + 1 by omega, List.getElem?_cons_succ, List.getElem?_append_right (by omega), hl, show e.1.size + 8 - e.1.size = 8 by omega]
  rfl
theorem enc_mem (e : Ent) (r : List UInt8) : baL (((encL e ++ r).drop 1).take e.1.size) = e.1 := by
  have hl : e.1.data.toList.length = e.1.size := rfl
  unfold encL
  rw [List.cons_append, List.drop_succ_cons, List.drop_zero, List.append_assoc, List.take_append_of_le_length (by omega), List.take_of_length_le (by omega)]
  rfl
end Go.X.W
set_option linter.unusedVariables false
set_option linter.unusedSimpArgs false
namespace Go.X.W
open Go Go.X Go.Proofs

variable {H : Heap} {m : Mem} {K : Value → Heap → Prop}

theorem wu8n (n : Nat) : IntKind.u8.wrap (n : Int) = ((UInt8.ofNat n).toNat : Int) := by
  simp [IntKind.wrap, IntKind.signed, IntKind.bits]

theorem pack_bytes_h {b n c : Nat} (hn : 0 < n) (hc : n ≤ c) (hK : K (.slice (some ⟨b, 0, none⟩) n n) H) : CallH P f_pack_bytes [.slice (some ⟨b, 0, none⟩) n c] H K := by
  apply k_pack_bytes
  unfold c_pack_bytes
  (try simp only [xl, xo, Bool.not_eq_true', decide_eq_false_iff_not, ite_not, List.size_toArray, List.length_cons, List.length_nil, Nat.reduceAdd, qt, decide_eq_true_eq, Int.toNat_zero, Int.toNat_natCast, Nat.zero_mul, Nat.mul_one, Nat.one_mul, List.toList_toArray, List.cons_append, List.nil_append, List.append_nil, true_and, and_true, Nat.zero_add, Nat.add_zero, Bool.not_true, Bool.not_false, if_true, if_false, reduceCtorEq, List.set_cons_zero, List.set_cons_succ])
  refine ⟨n, n, 0, ⟨by omega, by simp⟩, by simp, ⟨by omega, by simp⟩, rfl, ?_⟩
  rw [if_neg (by omega), Nat.sub_zero]
  simp only [Option.map_some, Nat.zero_mul, addr_add, Nat.add_zero]
  exact hK

theorem pack_head_h {n : Nat} (hh : Has H m) (hn : n < 65536) (hK : ∀ b H', Has H' (cell b ((headL n).map byV) + m) → K (.slice (some ⟨b, 0, none⟩) 2 2) H') : CallH P f_pack_head [.int .i64 n] H K := by
  apply k_pack_head
  unfold c_pack_head
  (try simp only [xl, xo, Bool.not_eq_true', decide_eq_false_iff_not, ite_not, List.size_toArray, List.length_cons, List.length_nil, Nat.reduceAdd, qt, decide_eq_true_eq, Int.toNat_zero, Int.toNat_natCast, Nat.zero_mul, Nat.mul_one, Nat.one_mul, List.toList_toArray, List.cons_append, List.nil_append, List.append_nil, true_and, and_true, Nat.zero_add, Nat.add_zero, Bool.not_true, Bool.not_false, if_true, if_false, reduceCtorEq, List.set_cons_zero, List.set_cons_succ])
  refine ⟨by omega, ?_⟩
  refine h_buildSl hh fun b H1 hh => ?_
  refine pack_bytes_h (by omega) (by omega) ?_
  refine hK b H1 (hh.to ?_)
  have e1 : IntKind.u8.wrap ((n : Int).fdiv (2 ^ min (8 : Int).toNat IntKind.i64.bits)) = ((UInt8.ofNat (n / 256)).toNat : Int) := by
    rw [← wu8n]
    congr 1
    rw [Int.fdiv_eq_ediv_of_nonneg _ (by simp [IntKind.bits])]
    simp [IntKind.bits]
  rw [e1, wu8n]
  rfl

/-- A slice from which bytes are read. -/
def Rd (m : Mem) (v : Value) (l : List UInt8) : Prop := (∃ a c, v = .slice a l.length c) ∧ ∀ H, Has H m → readCells 1 l.length H v = some (l.map byV)
theorem Rd.nil (m : Mem) : Rd m (.slice none 0 0) [] := ⟨⟨none, 0, rfl⟩, fun H _ => rfl⟩
theorem Rd.cell {b n c : Nat} {l : List UInt8} (hn : l.length = n) : Rd (cell b (l.map byV)) (.slice (some ⟨b, 0, none⟩) n c) l := by
  subst hn
  refine ⟨⟨_, _, rfl⟩, fun H hh => ?_⟩
  have := h_read (bb := b) (sz := 1) (n := l.length) (l := l.length) (c := c) hh (by simp)
  rw [this, Nat.mul_one, List.take_of_length_le (by simp)]
theorem Rd.wide {m m' : Mem} {v : Value} {l : List UInt8} (h : Rd m v l) (he : ∀ H, Has H m' → Has H m) : Rd m' v l := ⟨h.1, fun H hh => h.2 H (he H hh)⟩

theorem own_rd {v : Value} {l : List UInt8} {sl : Mem} (h : SlOwn 1 v (l.map byV) sl) (hl : lenV v = l.length) : Rd sl v l := by
  rcases h with ⟨rfl, e, rfl⟩ | ⟨b, len, cap, rest, rfl, h1, h2, h3, rfl⟩
  · have : l = [] := by simpa using e
    subst this
    exact Rd.nil _
  · simp only [lenV] at hl
    subst hl
    refine ⟨⟨_, _, rfl⟩, fun H hh => ?_⟩
    rw [h_read (bb := b) hh (by simp)]
    simp

theorem bytes_of {m : Mem} {v : Value} {l : List UInt8} {K : Value → Prop} (hh : Has H m) (hr : Rd m v l) (hK : K (.string (baL l))) : BytesStrP v H K := by
  obtain ⟨⟨a, c, rfl⟩, hr⟩ := hr
  have := hr H hh
  cases a with
  | none =>
    simp only [readCells] at this
    have : l = [] := by simpa using this.symm
    subst this
    exact hK
  | some a =>
    simp only [readCells, Nat.mul_one] at this
    refine ⟨l.map byV, l, this, ?_, hK⟩
    rw [List.map_map]
    apply List.map_congr_left
    intro b _
    simp [byteOfV]

theorem pack_New_h (hh : Has H m) (hK : ∀ H', Has H' m → K (.string (packS [])) H') : CallH P f_pack_New [] H K := by
  apply k_pack_New
  unfold c_pack_New
  refine pack_head_h (n := 0) hh (by omega) fun b H1 hh => ?_
  exact bytes_of (l := headL 0) hh.left (Rd.cell rfl) (hK H1 hh.right)

theorem h_strBytes {elem : TypeId} {s : ByteArray} (hh : Has H m) (hk : ∀ v b o H', Rd (objM b o) v s.data.toList → Has H' (objM b o + m) → K v H') : StrBytesP elem (.string s) H K := by
  intro c hc
  refine hk _ H.size _ _ ?_ (hh.new (c := .obj _) (push_frm _ _ _) (Nat.le_refl _) (by simp [Chk]; rfl))
  refine ⟨⟨_, _, rfl⟩, fun H' h' => ?_⟩
  have ho := h'.obj (b := H.size)
  simp only [readCells, Nat.mul_one]
  have hl : s.data.toList.length = s.size := rfl
  have key : ∀ n i, i + n ≤ s.data.toList.length → readN H' ⟨H.size, 0, none⟩ i n = some (((s.data.toList.map byV).drop i).take n) := by
    intro n
    induction n with
    | zero => intro i _; simp [readN]
    | succ n ih =>
      intro i hi
      simp only [readN, addr_add, Nat.zero_add]
      have hc1 : hcell H' ⟨H.size, i, none⟩ = some (byV (s.data.toList[i]'(by omega))) := by
        simp only [hcell, ho]
        have h1 : i < s.data.size := by simpa using (show i < s.data.toList.length by omega)
        rw [Array.getElem?_append_left (by simpa using h1)]
        simp [h1]
        exact ⟨_, Array.getElem?_eq_getElem h1, rfl⟩
      rw [hc1, ih (i + 1) (by omega)]
      simp only [Option.some.injEq]
      rw [List.drop_eq_getElem_cons (i := i) (by rw [List.length_map]; omega), List.take_succ_cons]
      simp
  rw [key _ 0 (by omega), List.drop_zero, List.take_of_length_le (by rw [List.length_map]; omega)]

theorem pack_read_end {l : List UInt8} {o : Nat} (hh : Has H m) (ho : l.length ≤ o) (hK : ∀ H', Has H' m → K (.tuple #[entV (⟨#[]⟩, 0), .int .i64 0]) H') : CallH P f_pack_read [.string (baL l), .int .i64 o] H K := by
  apply k_pack_read
  unfold c_pack_read
  refine h_alloc hh fun eb H1 hh => ?_
  (try simp only [xl, xo, Bool.not_eq_true', decide_eq_false_iff_not, ite_not, List.size_toArray, List.length_cons, List.length_nil, Nat.reduceAdd, qt, decide_eq_true_eq, Int.toNat_zero, Int.toNat_natCast, Nat.zero_mul, Nat.mul_one, Nat.one_mul, List.toList_toArray, List.cons_append, List.nil_append, List.append_nil, true_and, and_true, Nat.zero_add, Nat.add_zero, Bool.not_true, Bool.not_false, if_true, if_false, reduceCtorEq, List.set_cons_zero, List.set_cons_succ])
  rw [baL_size, if_pos (by omega)]
  refine h_store2 hh rfl rfl (by simp) fun H2 hh => ?_
  refine h_load2 hh rfl rfl ?_
  exact hK H2 hh.right

theorem pack_read_h {l r : List UInt8} {o : Nat} {e : Ent} (hh : Has H m) (hl : l.drop o = encL e ++ r) (he : EOk e) (hb : l.length < 1000000) (hK : ∀ H', Has H' m → K (.tuple #[entV e, .int .i64 ((10 + e.1.size : Nat) : Int)]) H') :
    CallH P f_pack_read [.string (baL l), .int .i64 o] H K := by
  apply k_pack_read
  unfold c_pack_read
  refine h_alloc hh fun eb H1 hh => ?_
  have hlen := at_len hl (by simp [encL])
  have hel := encL_len e
  rw [List.length_append, hel] at hlen
  obtain ⟨h64, hsc⟩ := he
  have g0 : (baL l)[((o : Int)).toNat]? = some (UInt8.ofNat e.1.size) := by
    rw [Int.toNat_natCast]
    exact at_get (k := 0) hl (by omega)
  (try simp only [xl, xo, Bool.not_eq_true', decide_eq_false_iff_not, ite_not, List.size_toArray, List.length_cons, List.length_nil, Nat.reduceAdd, qt, decide_eq_true_eq, Int.toNat_zero, Int.toNat_natCast, Nat.zero_mul, Nat.mul_one, Nat.one_mul, List.toList_toArray, List.cons_append, List.nil_append, List.append_nil, true_and, and_true, Nat.zero_add, Nat.add_zero, Bool.not_true, Bool.not_false, if_true, if_false, reduceCtorEq, List.set_cons_zero, List.set_cons_succ])
  rw [baL_size, if_neg (by omega)]
  refine ⟨by omega, _, g0, ?_⟩
  have hn : ((UInt8.ofNat e.1.size).toNat : Int) = (e.1.size : Int) := by simp; omega
  have hn9 : ((UInt8.ofNat (9 + e.1.size)).toNat : Int) = ((9 + e.1.size : Nat) : Int) := by simp; omega
  rw [hn]
  (try simp only [xl, xo, Bool.not_eq_true', decide_eq_false_iff_not, ite_not, List.size_toArray, List.length_cons, List.length_nil, Nat.reduceAdd, qt, decide_eq_true_eq, Int.toNat_zero, Int.toNat_natCast, Nat.zero_mul, Nat.mul_one, Nat.one_mul, List.toList_toArray, List.cons_append, List.nil_append, List.append_nil, true_and, and_true, Nat.zero_add, Nat.add_zero, Bool.not_true, Bool.not_false, if_true, if_false, reduceCtorEq, List.set_cons_zero, List.set_cons_succ])
  rw [w64 (n := (e.1.size : Int)) (by omega)]
  rw [if_neg (by omega)]
  rw [w64 (n := (o : Int) + 9) (by omega), w64 (n := (o : Int) + 9 + e.1.size) (by omega)]
  (try simp only [xl, xo, Bool.not_eq_true', decide_eq_false_iff_not, ite_not, List.size_toArray, List.length_cons, List.length_nil, Nat.reduceAdd, qt, decide_eq_true_eq, Int.toNat_zero, Int.toNat_natCast, Nat.zero_mul, Nat.mul_one, Nat.one_mul, List.toList_toArray, List.cons_append, List.nil_append, List.append_nil, true_and, and_true, Nat.zero_add, Nat.add_zero, Bool.not_true, Bool.not_false, if_true, if_false, reduceCtorEq, List.set_cons_zero, List.set_cons_succ])
  rw [if_neg (by omega)]
  have g9 : (baL l)[((o : Int) + 9 + e.1.size).toNat]? = some (UInt8.ofNat (9 + e.1.size)) := by
    rw [show ((o : Int) + 9 + e.1.size).toNat = o + (9 + e.1.size) by omega, at_get hl (by omega), enc_getE]
  refine ⟨by omega, _, g9, ?_⟩
  rw [hn9]
  (try simp only [xl, xo, Bool.not_eq_true', decide_eq_false_iff_not, ite_not, List.size_toArray, List.length_cons, List.length_nil, Nat.reduceAdd, qt, decide_eq_true_eq, Int.toNat_zero, Int.toNat_natCast, Nat.zero_mul, Nat.mul_one, Nat.one_mul, List.toList_toArray, List.cons_append, List.nil_append, List.append_nil, true_and, and_true, Nat.zero_add, Nat.add_zero, Bool.not_true, Bool.not_false, if_true, if_false, reduceCtorEq, List.set_cons_zero, List.set_cons_succ])
  rw [w64 (n := ((9 + e.1.size : Nat) : Int)) (by omega), w64 (n := 9 + (e.1.size : Int)) (by omega)]
  rw [if_pos (by omega)]
  refine loop_i (fun k s G => ∃ i : Nat, i + k = 8 ∧ s = ((.int .u64 ((scN e.2 / 256 ^ (8 - i) : Nat) : Int), .int .i64 i), []) ∧ Has G (cell eb [.string ⟨#[]⟩, .int .i64 0] + m)) 8 ⟨0, by omega, by rw [acc_0]; rfl, hh⟩ ?_
  clear hh
  rintro k _ g G ⟨i, hik, rfl, hh⟩
  (try simp only [xl, xo, Bool.not_eq_true', decide_eq_false_iff_not, ite_not, List.size_toArray, List.length_cons, List.length_nil, Nat.reduceAdd, qt, decide_eq_true_eq, Int.toNat_zero, Int.toNat_natCast, Nat.zero_mul, Nat.mul_one, Nat.one_mul, List.toList_toArray, List.cons_append, List.nil_append, List.append_nil, true_and, and_true, Nat.zero_add, Nat.add_zero, Bool.not_true, Bool.not_false, if_true, if_false, reduceCtorEq, List.set_cons_zero, List.set_cons_succ])
  by_cases hi : i < 8
  · rw [if_pos (by omega)]
    rw [w64 (n := (o : Int) + 1) (by omega), w64 (n := (o : Int) + 1 + e.1.size) (by omega), w64 (n := (o : Int) + 1 + e.1.size + i) (by omega)]
    have gi : (baL l)[((o : Int) + 1 + e.1.size + i).toNat]? = some (scB e.2 i) := by
      rw [show ((o : Int) + 1 + e.1.size + i).toNat = o + (1 + e.1.size + i) by omega, at_get hl (by omega), enc_getS e hi]
    refine ⟨by omega, by omega, _, gi, ?_⟩
    (try simp only [xl, xo, Bool.not_eq_true', decide_eq_false_iff_not, ite_not, List.size_toArray, List.length_cons, List.length_nil, Nat.reduceAdd, qt, decide_eq_true_eq, Int.toNat_zero, Int.toNat_natCast, Nat.zero_mul, Nat.mul_one, Nat.one_mul, List.toList_toArray, List.cons_append, List.nil_append, List.append_nil, true_and, and_true, Nat.zero_add, Nat.add_zero, Bool.not_true, Bool.not_false, if_true, if_false, reduceCtorEq, List.set_cons_zero, List.set_cons_succ])
    rw [w64 (n := (i : Int) + 1) (by omega)]
    refine ⟨k - 1, by omega, i + 1, by omega, ?_, hh⟩
    rw [← acc_step hi, wu64 (n := ((scB e.2 i).toNat : Int)) (by have := (scB e.2 i).toNat_lt; omega)]
    rfl
  · rw [if_neg (by omega)]
    have : i = 8 := by omega
    subst this
    rw [w64 (n := (o : Int) + 1) (by omega), w64 (n := (o : Int) + 1 + e.1.size) (by omega), w64 (n := 9 + (e.1.size : Int) + 1) (by omega), acc_end, scN_back hsc]
    refine ⟨e.1.size + 1 + o, o + 1, ⟨by rw [baL_size]; omega, by omega⟩, ⟨by omega, by omega⟩, ?_⟩
    have hmem : (baL l).extract (o + 1) (e.1.size + 1 + o) = e.1 := by
      rw [baL_ext, show o + 1 = o + 1 from rfl, ← List.drop_drop, hl, show e.1.size + 1 + o - (o + 1) = e.1.size by omega, enc_mem]
    rw [hmem]
    (try simp only [xl, xo, Bool.not_eq_true', decide_eq_false_iff_not, ite_not, List.size_toArray, List.length_cons, List.length_nil, Nat.reduceAdd, qt, decide_eq_true_eq, Int.toNat_zero, Int.toNat_natCast, Nat.zero_mul, Nat.mul_one, Nat.one_mul, List.toList_toArray, List.cons_append, List.nil_append, List.append_nil, true_and, and_true, Nat.zero_add, Nat.add_zero, Bool.not_true, Bool.not_false, if_true, if_false, reduceCtorEq, List.set_cons_zero, List.set_cons_succ])
    refine h_store2 hh rfl rfl (by simp) fun H2 hh => ?_
    refine h_load2 hh rfl rfl ?_
    have := hK H2 hh.right
    rw [show ((10 + e.1.size : Nat) : Int) = 9 + (e.1.size : Int) + 1 by omega] at this
    exact this
end Go.X.W
