/- Contracts: sets: the packed form: score, put, drop, Cut. Contracts: sets: the list's form. Contracts: sets: the list's form: Cut, bytes; both forms' methods. Contracts: sets: what both forms do, called through their interface. Contracts: sets: New, Len, Range, Cut, Score, Remove, Encoding, Bytes, lists. Contracts: sets: lists, Add. -/
import Derived.Test.YtochkahbnhegaaaGreatZS15
set_option linter.unusedVariables false
set_option linter.unusedSimpArgs false
namespace Go.X.W
open Go Go.X Go.Proofs

theorem join_ofS {S G : Type} {B : S → G → Heap → Prop} {A : (S → Heap → Prop) → Prop} (F : S → Heap → Prop) (hB : ∀ s Q, F s Q → ∀ g, B s g Q) (hA : ∀ J : S → Heap → Prop, (∀ s Q, F s Q → J s Q) → A J) : JoinP B A := hA _ hB

theorem h_put {H : Heap} {m r : Mem} {b : Nat} {x v : Value} {K : Heap → Prop} [p : PickC b m [x] r] (h : Has H m) (hv : v.oneCell = true) (hk : ∀ H', Has H' (cell b [v] + r) → K H') : StoreP none H (ptrV b) v K :=
  h_store (b := b) h hv (by simp) fun H' hh => hk H' hh

/-- A member's score. -/
def sco (x : ByteArray) (l : List Ent) : Option Int := (fnd x l).bind fun i => (l[i]?).map (·.2)
theorem sco_fnd {x : ByteArray} {l : List Ent} {i : Nat} (h : fnd x l = some i) : ∃ s, l[i]? = some (x, s) ∧ sco x l = some s := by
  obtain ⟨⟨s, hs⟩, _⟩ := fnd_some.1 h
  exact ⟨s, hs, by simp [sco, h, hs]⟩
theorem sco_none {x : ByteArray} {l : List Ent} (h : fnd x l = none) : sco x l = none := by simp [sco, h]
abbrev scoV (o : Option Int) : Value := .tuple #[.int .i64 (o.getD 0), .bool o.isSome]

variable {H : Heap} {m : Mem} {K : Value → Heap → Prop}
section
variable {pb : Nat} {L : List Ent} {r : Mem}

theorem packed_score_h {x : ByteArray} (ok : POk L) [p : PickC pb m [.string (packS L)] r] (hh : Has H m) (hK : ∀ H', Has H' m → K (scoV (sco x L)) H') : CallH P f_zset_packed_score [ptrV pb, .string x] H K := by
  apply k_zset_packed_score
  unfold c_zset_packed_score
  have get : ∀ {G : Heap} {m' : Mem} {K' : Value → Heap → Prop}, Has G m' → (∀ H' a s w, Has H' m' → (s = (sco x L).getD 0 ∧ (decide (w = (0 : Int)) = (sco x L).isSome)) → K' (.tuple #[entV (a, s), .int .i64 w]) H') → CallH P f_pack_Get [.string (packS L), .int .i64 (fndI x L)] G K' := by
    intro G m' K' hh hk
    cases hf : fnd x L with
    | none =>
      have : fndI x L = -1 := by simp [fndI, hf]
      rw [this]
      exact pack_Get_neg ok hh fun H' hh => hk H' _ 0 2 hh (by rw [sco_none hf]; simp)
    | some i =>
      have : fndI x L = (i : Int) := by simp [fndI, hf]
      rw [this]
      obtain ⟨s, h1, h2⟩ := sco_fnd hf
      exact pack_Get_h ok h1 hh fun H' hh => hk H' x s 0 hh (by rw [h2]; simp)
  refine join_ofS (fun s Q => ∃ eb a sc w, s = ((ptrV eb, .int .i64 w), []) ∧ (sc = (sco x L).getD 0 ∧ (decide (w = (0 : Int)) = (sco x L).isSome)) ∧ Has Q (cell eb [.string a, .int .i64 sc] + m)) ?_ ?_
  · rintro s Q ⟨eb, a, sc, w, rfl, ⟨h1, h2⟩, hh⟩ g
    (try simp only [xl, xo, Bool.not_eq_true', decide_eq_false_iff_not, ite_not, List.size_toArray, List.length_cons, List.length_nil, Nat.reduceAdd, qt, decide_eq_true_eq, Int.toNat_zero, Int.toNat_natCast, Nat.zero_mul, Nat.mul_one, Nat.one_mul, List.toList_toArray, List.cons_append, List.nil_append, List.append_nil, true_and, and_true, Nat.zero_add, Nat.add_zero, Bool.not_true, Bool.not_false, if_true, if_false, reduceCtorEq, List.set_cons_zero, List.set_cons_succ])
    refine h_load (b := eb) hh rfl ?_
    (try simp only [xl, xo, Bool.not_eq_true', decide_eq_false_iff_not, ite_not, List.size_toArray, List.length_cons, List.length_nil, Nat.reduceAdd, qt, decide_eq_true_eq, Int.toNat_zero, Int.toNat_natCast, Nat.zero_mul, Nat.mul_one, Nat.one_mul, List.toList_toArray, List.cons_append, List.nil_append, List.append_nil, true_and, and_true, Nat.zero_add, Nat.add_zero, Bool.not_true, Bool.not_false, if_true, if_false, reduceCtorEq, List.set_cons_zero, List.set_cons_succ])
    rw [h2, h1]
    exact hK Q hh.right
  · intro J hJ
    (try simp only [xl, xo, Bool.not_eq_true', decide_eq_false_iff_not, ite_not, List.size_toArray, List.length_cons, List.length_nil, Nat.reduceAdd, qt, decide_eq_true_eq, Int.toNat_zero, Int.toNat_natCast, Nat.zero_mul, Nat.mul_one, Nat.one_mul, List.toList_toArray, List.cons_append, List.nil_append, List.append_nil, true_and, and_true, Nat.zero_add, Nat.add_zero, Bool.not_true, Bool.not_false, if_true, if_false, reduceCtorEq, List.set_cons_zero, List.set_cons_succ])
    refine h_load (b := pb) hh rfl (h_load (b := pb) hh rfl ⟨?_, ?_⟩)
    · refine pack_Find_h ok hh fun H1 hh => ⟨h_loadIs (b := pb) hh rfl, ?_, ?_⟩
      · refine get hh fun H2 a s w hh hs => ?_
        (try simp only [xl, xo, Bool.not_eq_true', decide_eq_false_iff_not, ite_not, List.size_toArray, List.length_cons, List.length_nil, Nat.reduceAdd, qt, decide_eq_true_eq, Int.toNat_zero, Int.toNat_natCast, Nat.zero_mul, Nat.mul_one, Nat.one_mul, List.toList_toArray, List.cons_append, List.nil_append, List.append_nil, true_and, and_true, Nat.zero_add, Nat.add_zero, Bool.not_true, Bool.not_false, if_true, if_false, reduceCtorEq, List.set_cons_zero, List.set_cons_succ])
        refine h_alloc hh fun eb H3 hh => ?_
        refine h_store2 (b := eb) hh rfl rfl (by simp) fun H4 hh => hJ _ _ ⟨eb, a, s, w, rfl, hs, hh⟩
      · refine h_alloc hh fun eb H2 hh => ?_
        refine ⟨h_loadIs (b := pb) hh rfl, ?_⟩
        refine get hh fun H3 a s w hh hs => ?_
        (try simp only [xl, xo, Bool.not_eq_true', decide_eq_false_iff_not, ite_not, List.size_toArray, List.length_cons, List.length_nil, Nat.reduceAdd, qt, decide_eq_true_eq, Int.toNat_zero, Int.toNat_natCast, Nat.zero_mul, Nat.mul_one, Nat.one_mul, List.toList_toArray, List.cons_append, List.nil_append, List.append_nil, true_and, and_true, Nat.zero_add, Nat.add_zero, Bool.not_true, Bool.not_false, if_true, if_false, reduceCtorEq, List.set_cons_zero, List.set_cons_succ])
        refine h_store2 (b := eb) hh rfl rfl (by simp) fun H4 hh => hJ _ _ ⟨eb, a, s, w, rfl, hs, hh⟩
    · refine h_alloc hh fun eb H1 hh => ?_
      refine ⟨h_loadIs (b := pb) hh rfl, h_loadIs (b := pb) hh rfl, ?_⟩
      refine pack_Find_h ok hh fun H2 hh => ⟨h_loadIs (b := pb) hh rfl, ?_⟩
      refine get hh fun H3 a s w hh hs => ?_
      (try simp only [xl, xo, Bool.not_eq_true', decide_eq_false_iff_not, ite_not, List.size_toArray, List.length_cons, List.length_nil, Nat.reduceAdd, qt, decide_eq_true_eq, Int.toNat_zero, Int.toNat_natCast, Nat.zero_mul, Nat.mul_one, Nat.one_mul, List.toList_toArray, List.cons_append, List.nil_append, List.append_nil, true_and, and_true, Nat.zero_add, Nat.add_zero, Bool.not_true, Bool.not_false, if_true, if_false, reduceCtorEq, List.set_cons_zero, List.set_cons_succ])
      refine h_store2 (b := eb) hh rfl rfl (by simp) fun H4 hh => hJ _ _ ⟨eb, a, s, w, rfl, hs, hh⟩

/-- Where an entry goes. -/
theorem elt_not {a b : Ent} (h : a ≠ b) : elt b a = !elt a b := by
  rcases elt_tri a b with h1 | h1 | h1
  · rw [h1, elt_asymm h1]; rfl
  · exact absurd h1 h
  · rw [h1, elt_asymm h1]; rfl
theorem cnt_search {e : Ent} {l : List Ent} (hs : SortedE l) (hn : e ∉ l) {i : Nat} {a : Ent} (h : l[i]? = some a) : elt e a = decide (cntE e l ≤ i) := by
  have h1 := cntE_spec (e := e) hs i a h
  have hne : a ≠ e := fun h2 => hn (h2 ▸ List.mem_of_getElem? h)
  rw [elt_not hne, h1, ← decide_not, decide_eq_decide]
  omega

theorem packed_put_h {e : Ent} {lv : Int} (ok : POk L) (hs : SortedE L) (hn : e ∉ L) (he : EOk e) (hl : L.length < 200) [p : PickC pb m [.string (packS L)] r] (hh : Has H m) (hK : ∀ H', Has H' (cell pb [.string (packS (insAt L (cntE e L) e))] + r) → K (.tuple #[]) H') :
    CallH P f_zset_packed_put [ptrV pb, entV e, .int .i64 lv] H K := by
  apply k_zset_packed_put
  unfold c_zset_packed_put
  rw [p.eq] at hh
  rw [x_boxN]
  refine h_allocA hh fun eb H1 hh => ?_
  refine packed_entries_h (pb := pb) ok hh fun H2 v sl hv hlv hh => ?_
  refine h_alloc hh fun lb H3 hh => ?_
  refine h_store (b := lb) hh (own_oc hv) (by simp) fun H4 hh => ?_
  simp only [List.set_cons_zero] at hh
  refine h_load (b := lb) hh rfl ?_
  refine own_len hv ?_
  rw [hlv]
  have hc := cntE_le e L
  refine sort_Search_h (c := cntE e L) hc (by omega) (fun Q => Has Q (cell lb [v] + (sl + (cell eb (entC e) + (cell pb [.string (packS L)] + r))))) hh ?_ fun G hh => ?_
  · intro i G hi hh
    rw [x_callV]
    apply k_zset_packed_put_1
    unfold c_zset_packed_put_1
    refine h_load2 (b := eb) hh rfl rfl (h_load (b := lb) hh rfl ?_)
    have hg : L[i]? = some (L[i]'hi) := List.getElem?_eq_getElem hi
    generalize L[i]'hi = a at hg
    obtain ⟨b, hb1, hb2, _⟩ := own_at (i := i) hv (by rw [entsC_length, hlv]) (by omega)
    refine hb1 _ ?_
    refine hb2 G _ _ (hh.front sl) ?_
    rw [entsC_get hg]
    refine bound_Less_h (a := e) (b := a) hh fun G2 hh => ⟨?_, hh⟩
    rw [cnt_search hs hn hg]
  · (try simp only [xl, xo, Bool.not_eq_true', decide_eq_false_iff_not, ite_not, List.size_toArray, List.length_cons, List.length_nil, Nat.reduceAdd, qt, decide_eq_true_eq, Int.toNat_zero, Int.toNat_natCast, Nat.zero_mul, Nat.mul_one, Nat.one_mul, List.toList_toArray, List.cons_append, List.nil_append, List.append_nil, true_and, and_true, Nat.zero_add, Nat.add_zero, Bool.not_true, Bool.not_false, if_true, if_false, reduceCtorEq, List.set_cons_zero, List.set_cons_succ])
    refine h_load (b := pb) hh rfl (h_load2 (b := eb) hh rfl rfl ?_)
    refine pack_Insert_h ok hc he hl hh fun G2 hh => ?_
    (try simp only [xl, xo, Bool.not_eq_true', decide_eq_false_iff_not, ite_not, List.size_toArray, List.length_cons, List.length_nil, Nat.reduceAdd, qt, decide_eq_true_eq, Int.toNat_zero, Int.toNat_natCast, Nat.zero_mul, Nat.mul_one, Nat.one_mul, List.toList_toArray, List.cons_append, List.nil_append, List.append_nil, true_and, and_true, Nat.zero_add, Nat.add_zero, Bool.not_true, Bool.not_false, if_true, if_false, reduceCtorEq, List.set_cons_zero, List.set_cons_succ])
    refine h_put (b := pb) hh rfl fun G3 hh => hK G3 ?_
    exact (hh.front (cell pb [.string (packS (insAt L (cntE e L) e))] + r)).left

theorem packed_drop_h {e : Ent} {i : Nat} (ok : POk L) (hf : fnd e.1 L = some i) [p : PickC pb m [.string (packS L)] r] (hh : Has H m) (hK : ∀ H', Has H' (cell pb [.string (packS (delAt L i))] + r) → K (.tuple #[]) H') :
    CallH P f_zset_packed_drop [ptrV pb, entV e] H K := by
  apply k_zset_packed_drop
  unfold c_zset_packed_drop
  rw [p.eq] at hh
  rw [x_boxN]
  refine h_allocA hh fun eb H1 hh => ?_
  (try simp only [xl, xo, Bool.not_eq_true', decide_eq_false_iff_not, ite_not, List.size_toArray, List.length_cons, List.length_nil, Nat.reduceAdd, qt, decide_eq_true_eq, Int.toNat_zero, Int.toNat_natCast, Nat.zero_mul, Nat.mul_one, Nat.one_mul, List.toList_toArray, List.cons_append, List.nil_append, List.append_nil, true_and, and_true, Nat.zero_add, Nat.add_zero, Bool.not_true, Bool.not_false, if_true, if_false, reduceCtorEq, List.set_cons_zero, List.set_cons_succ])
  refine h_load (b := pb) hh rfl (h_load (b := pb) hh rfl ?_)
  refine h_load (b := eb) hh rfl ?_
  refine pack_Find_h ok hh fun H2 hh => ⟨h_loadIs (b := pb) hh rfl, ?_⟩
  have : fndI e.1 L = (i : Int) := by simp [fndI, hf]
  rw [this]
  obtain ⟨s, h1, _⟩ := sco_fnd hf
  refine pack_Delete_h ok h1 hh fun H3 hh => ?_
  (try simp only [xl, xo, Bool.not_eq_true', decide_eq_false_iff_not, ite_not, List.size_toArray, List.length_cons, List.length_nil, Nat.reduceAdd, qt, decide_eq_true_eq, Int.toNat_zero, Int.toNat_natCast, Nat.zero_mul, Nat.mul_one, Nat.one_mul, List.toList_toArray, List.cons_append, List.nil_append, List.append_nil, true_and, and_true, Nat.zero_add, Nat.add_zero, Bool.not_true, Bool.not_false, if_true, if_false, reduceCtorEq, List.set_cons_zero, List.set_cons_succ])
  refine h_put (b := pb) hh rfl fun G3 hh => hK G3 ?_
  exact (hh.front (cell pb [.string (packS (delAt L i))] + r)).left

theorem POk.del {L : List Ent} (ok : POk L) (i : Nat) : POk (delAt L i) := by
  refine ⟨fun e he => ok.1 e ?_, ?_⟩
  · rcases List.mem_append.1 he with h | h
    · exact List.mem_of_mem_take h
    · exact List.mem_of_mem_drop h
  · have := ok.2
    simp [delAt]; omega
theorem POk.cut {L : List Ent} (ok : POk L) (f t : Nat) (h : f ≤ t) : POk (L.take f ++ L.drop t) := by
  refine ⟨fun e he => ok.1 e ?_, ?_⟩
  · rcases List.mem_append.1 he with h | h
    · exact List.mem_of_mem_take h
    · exact List.mem_of_mem_drop h
  · have := ok.2
    simp; omega

theorem packed_Cut_h {f t : Int} (ok : POk L) [p : PickC pb m [.string (packS L)] r] (hh : Has H m)
    (hK : ∀ H', Has H' (cell pb [.string (packS (L.take (fromN f L.length) ++ L.drop (toN f t L.length)))] + r) → K (.int .i64 ((toN f t L.length - fromN f L.length : Nat) : Int)) H') :
    CallH P f_zset_packed_Cut [ptrV pb, .int .i64 f, .int .i64 t] H K := by
  apply k_zset_packed_Cut
  unfold c_zset_packed_Cut
  have h200 := ok.2
  rw [p.eq] at hh
  refine packed_Len_h (pb := pb) ok hh fun H1 hh => ?_
  have hft := fromto f t L.length
  refine zset_within_h ?_
  generalize fromN f L.length = a at *
  generalize toN f t L.length = z at *
  (try simp only [xl, xo, Bool.not_eq_true', decide_eq_false_iff_not, ite_not, List.size_toArray, List.length_cons, List.length_nil, Nat.reduceAdd, qt, decide_eq_true_eq, Int.toNat_zero, Int.toNat_natCast, Nat.zero_mul, Nat.mul_one, Nat.one_mul, List.toList_toArray, List.cons_append, List.nil_append, List.append_nil, true_and, and_true, Nat.zero_add, Nat.add_zero, Bool.not_true, Bool.not_false, if_true, if_false, reduceCtorEq, List.set_cons_zero, List.set_cons_succ])
  rw [w64 (n := (z : Int) - a) (by omega)]
  refine loop_i (fun k s G => ∃ j : Nat, j + k = z - a ∧ s = (.int .i64 j, []) ∧ Has G (cell pb [.string (packS (L.take a ++ L.drop (a + j)))] + r)) (z - a) ⟨0, by omega, rfl, hh.to (by rw [Nat.add_zero, List.take_append_drop])⟩ ?_
  clear hh
  rintro k _ g G ⟨j, hjk, rfl, hh⟩
  (try simp only [xl, xo, Bool.not_eq_true', decide_eq_false_iff_not, ite_not, List.size_toArray, List.length_cons, List.length_nil, Nat.reduceAdd, qt, decide_eq_true_eq, Int.toNat_zero, Int.toNat_natCast, Nat.zero_mul, Nat.mul_one, Nat.one_mul, List.toList_toArray, List.cons_append, List.nil_append, List.append_nil, true_and, and_true, Nat.zero_add, Nat.add_zero, Bool.not_true, Bool.not_false, if_true, if_false, reduceCtorEq, List.set_cons_zero, List.set_cons_succ])
  by_cases hj : j < z - a
  · rw [if_pos (by omega)]
    refine h_load (b := pb) hh rfl ?_
    have hal : (L.take a).length = a := by rw [List.length_take]; omega
    have hg : (L.take a ++ L.drop (a + j))[a]? = some (L[a + j]'(by omega)) := by
      rw [List.getElem?_append_right (by omega), hal, Nat.sub_self, List.getElem?_drop, Nat.add_zero, List.getElem?_eq_getElem]
    refine pack_Delete_h (ok.cut a (a + j) (by omega)) hg hh fun G2 hh => ?_
    (try simp only [xl, xo, Bool.not_eq_true', decide_eq_false_iff_not, ite_not, List.size_toArray, List.length_cons, List.length_nil, Nat.reduceAdd, qt, decide_eq_true_eq, Int.toNat_zero, Int.toNat_natCast, Nat.zero_mul, Nat.mul_one, Nat.one_mul, List.toList_toArray, List.cons_append, List.nil_append, List.append_nil, true_and, and_true, Nat.zero_add, Nat.add_zero, Bool.not_true, Bool.not_false, if_true, if_false, reduceCtorEq, List.set_cons_zero, List.set_cons_succ])
    refine h_store (b := pb) hh rfl (by simp) fun G3 hh => ?_
    rw [w64 (n := (j : Int) + 1) (by omega)]
    refine ⟨k - 1, by omega, j + 1, by omega, rfl, hh.to ?_⟩
    have e1 : delAt (L.take a ++ L.drop (a + j)) a = L.take a ++ L.drop (a + (j + 1)) := by
     unfold delAt
     rw [List.take_append_of_le_length (by omega), List.take_take, Nat.min_self, List.drop_append, hal, List.drop_eq_nil_of_le (by omega), List.nil_append, List.drop_drop]
     congr 2
     omega
    rw [e1]
    rfl
  · rw [if_neg (by omega)]
    have : j = z - a := by omega
    subst this
    rw [show a + (z - a) = z by omega] at hh
    have := hK G hh
    rw [show ((z : Int) - a) = ((z - a : Nat) : Int) by omega]
    exact this
end
end Go.X.W
set_option linter.unusedVariables false
set_option linter.unusedSimpArgs false
namespace Go.X.W
open Go Go.X Go.Proofs

variable {H : Heap} {m : Mem} {K : Value → Heap → Prop}

/-- A table, and its part of the memory. -/
def DRep (d : Nat) (M : List (ByteArray × Value)) (dm : Mem) : Prop := ∃ D : DSt, dm = dictM d D ∧ D.Ok ∧ (D.flat.map fun x => (x.key, x.v)).Perm M ∧ (M.map (·.1)).Nodup ∧ D.n = M.length
theorem DRep.at {d : Nat} {M : List (ByteArray × Value)} {dm : Mem} (h : DRep d M dm) (hh : Has H (dm + m)) : DictAt H d M m := by
  obtain ⟨D, rfl, h2⟩ := h; exact ⟨D, hh, h2⟩
theorem DictAt.rep {d : Nat} {M : List (ByteArray × Value)} (h : DictAt H d M m) : ∃ dm, DRep d M dm ∧ Has H (dm + m) := by
  obtain ⟨D, hh, h2⟩ := h; exact ⟨_, ⟨D, rfl, h2⟩, hh⟩
theorem DRep.perm {d : Nat} {M M' : List (ByteArray × Value)} {dm : Mem} (h : DRep d M dm) (p : M.Perm M') : DRep d M' dm := by
  obtain ⟨D, h1, h2, h3, h4, h5⟩ := h
  exact ⟨D, h1, h2, h3.trans p, (p.map _).nodup_iff.1 h4, by rw [h5, p.length_eq]⟩

abbrev pairV (e : Ent) : ByteArray × Value := (e.1, .int .i64 e.2)
/-- What is right about a set's entries. -/
structure LOk (l : List Ent) : Prop where
  sorted : SortedE l
  nodup : (l.map (·.1)).Nodup
  ok : ∀ e ∈ l, EOk e
  len : l.length ≤ 400

theorem pair_keys (l : List Ent) : (l.map pairV).map (·.1) = l.map (·.1) := by simp [Function.comp_def]
theorem nodup_get {l : List Ent} (h : (l.map (·.1)).Nodup) {i j : Nat} {a b : Ent} (hi : l[i]? = some a) (hj : l[j]? = some b) (e : a.1 = b.1) : i = j := by
  have hi' := (List.getElem?_eq_some_iff.1 hi).1
  have hj' := (List.getElem?_eq_some_iff.1 hj).1
  have h1 := (List.getElem?_eq_some_iff.1 hi).2
  have h2 := (List.getElem?_eq_some_iff.1 hj).2
  have key := List.pairwise_iff_getElem.1 (List.nodup_iff_pairwise_ne.1 h)
  rcases Nat.lt_trichotomy i j with hlt | hlt | hlt
  · refine absurd ?_ (key i j (by simpa using hi') (by simpa using hj') hlt)
    rw [List.getElem_map, List.getElem_map, h1, h2, e]
  · exact hlt
  · refine absurd ?_ (key j i (by simpa using hj') (by simpa using hi') hlt)
    rw [List.getElem_map, List.getElem_map, h1, h2, e]
theorem fnd_of {l : List Ent} (h : (l.map (·.1)).Nodup) {i : Nat} {a : Ent} (hi : l[i]? = some a) : fnd a.1 l = some i :=
  fnd_some.2 ⟨⟨a.2, hi⟩, fun j hj b hb e => by have := nodup_get h hb hi e; omega⟩
theorem filter_delE {l : List Ent} (h : (l.map (·.1)).Nodup) {i : Nat} {a : Ent} (hi : l[i]? = some a) : (l.map pairV).filter (fun p => decide (p.1 ≠ a.1)) = (delAt l i).map pairV := by
  have hi' := (List.getElem?_eq_some_iff.1 hi).1
  have e : l = l.take i ++ a :: l.drop (i + 1) := by
    have h2 : l[i] = a := (List.getElem?_eq_some_iff.1 hi).2
    rw [← h2, ← List.drop_eq_getElem_cons hi', List.take_append_drop]
  have key : ∀ x ∈ delAt l i, x.1 ≠ a.1 := by
    rw [e, List.map_append, List.map_cons, List.nodup_append] at h
    obtain ⟨h1, h2, h3⟩ := h
    rw [List.nodup_cons] at h2
    intro x hx hxa
    rcases List.mem_append.1 hx with hx | hx
    · exact h3 x.1 (List.mem_map_of_mem hx) a.1 (by simp) hxa
    · exact h2.1 (hxa ▸ List.mem_map_of_mem hx)
  have : l.map pairV = (l.take i).map pairV ++ pairV a :: (l.drop (i + 1)).map pairV := by
    conv => lhs; rw [e]
    rw [List.map_append, List.map_cons]
  rw [this, List.filter_append, List.filter_cons]
  simp only [pairV, ne_eq, not_true, decide_false, Bool.false_eq_true, if_false]
  unfold delAt
  rw [List.map_append]
  congr 1
  · rw [List.filter_eq_self]
    intro p hp
    obtain ⟨x, hx, rfl⟩ := List.mem_map.1 hp
    simpa using key x (List.mem_append.2 (.inl hx))
  · rw [List.filter_eq_self]
    intro p hp
    obtain ⟨x, hx, rfl⟩ := List.mem_map.1 hp
    simpa using key x (List.mem_append.2 (.inr hx))
theorem isAt_get {e : Ent} {l : List Ent} {c : Nat} : isAt e l c = true ↔ l[c]? = some e := by
  unfold isAt
  cases h : l[c]? with
  | none => simp
  | some a =>
    simp only [Bool.and_eq_true, decide_eq_true_eq, Option.some.injEq, Prod.ext_iff]
theorem cnt_get {e : Ent} {l : List Ent} (hs : SortedE l) {i : Nat} (h : l[i]? = some e) : cntE e l = i := by
  have h1 := cntE_spec (e := e) hs i e h
  rw [elt_irr] at h1
  have h2 : ¬ i + 1 ≤ cntE e l := by simpa using h1.symm
  refine Nat.le_antisymm (by omega) (Nat.le_of_not_lt fun hlt => ?_)
  have hi' := (List.getElem?_eq_some_iff.1 h).1
  have hg : l[cntE e l]? = some (l[cntE e l]'(by omega)) := List.getElem?_eq_getElem (by omega)
  have h3 := cntE_spec (e := e) hs _ _ hg
  have h4 : elt (l[cntE e l]'(by omega)) e = true := by
    have := List.pairwise_iff_getElem.1 hs (cntE e l) i (by omega) hi' hlt
    rwa [(List.getElem?_eq_some_iff.1 h).2] at this
  rw [h4] at h3
  have : cntE e l + 1 ≤ cntE e l := by simpa using h3.symm
  omega

/-- The list's form: its parts. -/
structure LiRep (lb : Nat) (L : List Ent) (fm : Mem) : Prop where
  ex : ∃ sk d hd lv S dm, fm = cell lb [ptrV sk, ptrV d] + (listM sk hd S + dm) ∧ SkOk hd lv S ∧ S.map (·.e) = L ∧ DRep d (L.map pairV) dm

section
variable {lb : Nat} {L : List Ent} {fm : Mem}
theorem ekey {e : Ent} (h : EOk e) : e.1.size < 4611686018427387904 := by have := h.1; omega

theorem listed_score_h {x : ByteArray} (hx : x.size < 4611686018427387904) (hr : LiRep lb L fm) (hn : (L.map (·.1)).Nodup) (hh : Has H (fm + m)) (hK : ∀ H' fm', LiRep lb L fm' → Has H' (fm' + m) → K (scoV (sco x L)) H') : CallH P f_zset_listed_score [ptrV lb, .string x] H K := by
  obtain ⟨sk, d, hd, lv, S, dm, rfl, ok, he, hD⟩ := hr.ex
  apply k_zset_listed_score
  unfold c_zset_listed_score
  (try simp only [xl, xo, Bool.not_eq_true', decide_eq_false_iff_not, ite_not, List.size_toArray, List.length_cons, List.length_nil, Nat.reduceAdd, qt, decide_eq_true_eq, Int.toNat_zero, Int.toNat_natCast, Nat.zero_mul, Nat.mul_one, Nat.one_mul, List.toList_toArray, List.cons_append, List.nil_append, List.append_nil, true_and, and_true, Nat.zero_add, Nat.add_zero, Bool.not_true, Bool.not_false, if_true, if_false, reduceCtorEq, List.set_cons_zero, List.set_cons_succ])
  refine h_load (b := lb) hh rfl ?_
  refine dict_Get_h hx (hD.at (hh.to (show _ = dm + (cell lb [ptrV sk, ptrV d] + (listM sk hd S + m)) by ac_rfl))) (fun H' v hD hv => ?_) fun H' hD hv => ?_
  · obtain ⟨dm', hD, hh⟩ := hD.rep
    obtain ⟨a, ha, e⟩ := List.mem_map.1 hv
    obtain ⟨i, hi⟩ := List.getElem?_of_mem ha
    simp only [pairV, Prod.mk.injEq] at e
    have hf := fnd_of hn hi
    rw [e.1] at hf
    obtain ⟨s, h1, h2⟩ := sco_fnd hf
    rw [hi] at h1
    simp only [Option.some.injEq] at h1
    subst h1
    (try simp only [xl, xo, Bool.not_eq_true', decide_eq_false_iff_not, ite_not, List.size_toArray, List.length_cons, List.length_nil, Nat.reduceAdd, qt, decide_eq_true_eq, Int.toNat_zero, Int.toNat_natCast, Nat.zero_mul, Nat.mul_one, Nat.one_mul, List.toList_toArray, List.cons_append, List.nil_append, List.append_nil, true_and, and_true, Nat.zero_add, Nat.add_zero, Bool.not_true, Bool.not_false, if_true, if_false, reduceCtorEq, List.set_cons_zero, List.set_cons_succ])
    have := hK H' _ ⟨sk, d, hd, lv, S, dm', rfl, ok, he, hD⟩ (hh.to (by ac_rfl))
    rw [h2] at this
    rw [← e.2]
    exact this
  · obtain ⟨dm', hD, hh⟩ := hD.rep
    have hf : fnd x L = none := fnd_none.2 fun e he => hv (pairV e) (List.mem_map_of_mem he)
    (try simp only [xl, xo, Bool.not_eq_true', decide_eq_false_iff_not, ite_not, List.size_toArray, List.length_cons, List.length_nil, Nat.reduceAdd, qt, decide_eq_true_eq, Int.toNat_zero, Int.toNat_natCast, Nat.zero_mul, Nat.mul_one, Nat.one_mul, List.toList_toArray, List.cons_append, List.nil_append, List.append_nil, true_and, and_true, Nat.zero_add, Nat.add_zero, Bool.not_true, Bool.not_false, if_true, if_false, reduceCtorEq, List.set_cons_zero, List.set_cons_succ])
    have := hK H' _ ⟨sk, d, hd, lv, S, dm', rfl, ok, he, hD⟩ (hh.to (by ac_rfl))
    rw [sco_none hf] at this
    exact this

theorem listed_Len_h (hr : LiRep lb L fm) (hh : Has H (fm + m)) (hK : K (.int .i64 L.length) H) : ∃ sk, LoadIs none H (ptrV lb) (ptrV sk) ∧ CallH P f_skip_List_Len [ptrV sk] H K := by
  obtain ⟨sk, d, hd, lv, S, dm, rfl, ok, he, hD⟩ := hr.ex
  refine ⟨sk, h_loadIs (b := lb) hh rfl, ?_⟩
  refine skip_Len_h (m := cell lb [ptrV sk, ptrV d] + (dm + m)) (hh.to (by ac_rfl)) ok ?_
  rw [← he, List.length_map] at hK
  exact hK
theorem listed_Range_h {f t : Int} (hr : LiRep lb L fm) (hh : Has H (fm + m)) (hK : ∀ H' v sl, SlOwn 2 v (entsC (rng f t L)) sl → lenV v = (rng f t L).length → Has H' (sl + (fm + m)) → K v H') :
    ∃ sk, LoadIs none H (ptrV lb) (ptrV sk) ∧ CallH P f_skip_List_Range [ptrV sk, .int .i64 f, .int .i64 t] H K := by
  obtain ⟨sk, d, hd, lv, S, dm, rfl, ok, he, hD⟩ := hr.ex
  refine ⟨sk, h_loadIs (b := lb) hh rfl, ?_⟩
  have hl : S.length = L.length := by rw [← he, List.length_map]
  refine skip_Range_h (m := cell lb [ptrV sk, ptrV d] + (dm + m)) (hh.to (by ac_rfl)) ok fun H' v sl hv hh hlv => ?_
  rw [he, hl] at hv
  rw [hl] at hlv
  exact hK H' v sl hv (by rw [hlv, rng_len]) (hh.to (by ac_rfl))

theorem ins_perm (L : List Ent) (c : Nat) (e : Ent) : ((insAt L c e).map pairV).Perm (pairV e :: L.map pairV) := by
  unfold insAt
  rw [List.map_append, List.map_cons]
  refine List.perm_middle.trans (List.Perm.cons _ ?_)
  rw [← List.map_append, List.take_append_drop]

theorem listed_put_h {e : Ent} {level : Nat} (hr : LiRep lb L fm) (ok0 : LOk L) (he0 : EOk e) (hlev : 1 ≤ level ∧ level ≤ 32) (hnew : fnd e.1 L = none) (hh : Has H (fm + m)) (hK : ∀ H' fm', LiRep lb (insAt L (cntE e L) e) fm' → Has H' (fm' + m) → K (.tuple #[]) H') :
    CallH P f_zset_listed_put [ptrV lb, entV e, .int .i64 level] H K := by
  obtain ⟨sk, d, hd, lv, S, dm, rfl, ok, he, hD⟩ := hr.ex
  apply k_zset_listed_put
  unfold c_zset_listed_put
  have hl : S.length = L.length := by rw [← he, List.length_map]
  have h400 := ok0.len
  rw [x_boxN]
  refine h_allocA hh fun eb H1 hh => ?_
  (try simp only [xl, xo, Bool.not_eq_true', decide_eq_false_iff_not, ite_not, List.size_toArray, List.length_cons, List.length_nil, Nat.reduceAdd, qt, decide_eq_true_eq, Int.toNat_zero, Int.toNat_natCast, Nat.zero_mul, Nat.mul_one, Nat.one_mul, List.toList_toArray, List.cons_append, List.nil_append, List.append_nil, true_and, and_true, Nat.zero_add, Nat.add_zero, Bool.not_true, Bool.not_false, if_true, if_false, reduceCtorEq, List.set_cons_zero, List.set_cons_succ])
  refine h_load (b := lb) hh rfl (h_load2 (b := eb) hh rfl rfl ?_)
  have hna : isAt e L (cntE e L) = false := by
    cases h : isAt e L (cntE e L) with
    | false => rfl
    | true => exact absurd rfl (fnd_none.1 hnew e (List.mem_of_getElem? (isAt_get.1 h)))
  refine skip_Insert_h (m := cell lb [ptrV sk, ptrV d] + (dm + (cell eb (entC e) + m))) (hh.to (by ac_rfl)) ok (by rw [he]; exact ok0.sorted) hlev (by rw [he]; exact hna) (by omega) fun H2 hd' lv' S' hh ok' he' => ?_
  rw [he] at he'
  refine h_load (b := lb) hh rfl (h_load (b := eb) hh rfl (h_load (b := eb) hh rfl ?_))
  have hDat := hD.at (hh.to (show _ = dm + (cell lb [ptrV sk, ptrV d] + (listM sk hd' S' + (cell eb (entC e) + m))) by ac_rfl))
  refine dict_Set_h (ekey he0) rfl (by rw [List.length_map]; omega) hDat (fun H' v0 hv _ => ?_) fun H' hv hD => ?_
  · obtain ⟨a, ha, e1⟩ := List.mem_map.1 hv
    simp only [pairV, Prod.mk.injEq] at e1
    exact absurd e1.1 (fnd_none.1 hnew a ha)
  · obtain ⟨dm', hD, hh⟩ := hD.rep
    refine hK H' _ ⟨sk, d, hd', lv', S', dm', rfl, ok', he', hD.perm (ins_perm L _ e).symm⟩ ?_
    exact (hh.front (cell lb [ptrV sk, ptrV d] + (listM sk hd' S' + dm') + m)).left

theorem listed_drop_h {e : Ent} {i : Nat} (hr : LiRep lb L fm) (ok0 : LOk L) (hg : L[i]? = some e) (hh : Has H (fm + m)) (hK : ∀ H' fm', LiRep lb (delAt L i) fm' → Has H' (fm' + m) → K (.tuple #[]) H') : CallH P f_zset_listed_drop [ptrV lb, entV e] H K := by
  obtain ⟨sk, d, hd, lv, S, dm, rfl, ok, he, hD⟩ := hr.ex
  apply k_zset_listed_drop
  unfold c_zset_listed_drop
  have h400 := ok0.len
  have he0 := ok0.ok e (List.mem_of_getElem? hg)
  have hc := cnt_get ok0.sorted hg
  rw [x_boxN]
  refine h_allocA hh fun eb H1 hh => ?_
  (try simp only [xl, xo, Bool.not_eq_true', decide_eq_false_iff_not, ite_not, List.size_toArray, List.length_cons, List.length_nil, Nat.reduceAdd, qt, decide_eq_true_eq, Int.toNat_zero, Int.toNat_natCast, Nat.zero_mul, Nat.mul_one, Nat.one_mul, List.toList_toArray, List.cons_append, List.nil_append, List.append_nil, true_and, and_true, Nat.zero_add, Nat.add_zero, Bool.not_true, Bool.not_false, if_true, if_false, reduceCtorEq, List.set_cons_zero, List.set_cons_succ])
  refine h_load (b := lb) hh rfl (h_load2 (b := eb) hh rfl rfl ?_)
  refine skip_Delete_h (e := e) (m := cell lb [ptrV sk, ptrV d] + (dm + (cell eb (entC e) + m))) (hh.to (by ac_rfl)) ok (by rw [he]; exact ok0.sorted) fun H2 hd' lv' S' hh ok' he' => ?_
  rw [he, hc, if_pos (isAt_get.2 hg)] at he'
  refine h_load (b := lb) hh rfl (h_load (b := eb) hh rfl ?_)
  have hDat := hD.at (hh.to (show _ = dm + (cell lb [ptrV sk, ptrV d] + (listM sk hd' S' + (cell eb (entC e) + m))) by ac_rfl))
  refine dict_Delete_h (ekey he0) (by rw [List.length_map]; omega) hDat (fun H' v hv hD => ?_) fun H' hv hD => ?_
  · obtain ⟨dm', hD, hh⟩ := hD.rep
    rw [filter_delE ok0.nodup hg] at hD
    refine hK H' _ ⟨sk, d, hd', lv', S', dm', rfl, ok', he', hD⟩ ?_
    exact (hh.front (cell lb [ptrV sk, ptrV d] + (listM sk hd' S' + dm') + m)).left
  · exact absurd rfl (hv (pairV e) (List.mem_map_of_mem (List.mem_of_getElem? hg)))
end
end Go.X.W
set_option linter.unusedVariables false
set_option linter.unusedSimpArgs false
namespace Go.X.W
open Go Go.X Go.Proofs

variable {H : Heap} {m : Mem} {K : Value → Heap → Prop}

theorem nodup_cut {l : List Ent} (h : (l.map (·.1)).Nodup) (a b : Nat) (hab : a ≤ b) : ((l.take a ++ l.drop b).map (·.1)).Nodup := by
  have hs : (l.take a ++ l.drop b).Sublist l := by
    have e : l = l.take a ++ l.drop a := (List.take_append_drop a l).symm
    conv => rhs; rw [e]
    refine List.Sublist.append (List.Sublist.refl _) ?_
    rw [show b = a + (b - a) by omega, ← List.drop_drop]
    exact List.drop_sublist _ _
  exact (hs.map _).nodup h

section
variable {lb : Nat} {L : List Ent} {fm : Mem}
theorem listed_Cut_h {f t : Int} (hr : LiRep lb L fm) (ok0 : LOk L) (hh : Has H (fm + m))
    (hK : ∀ H' fm', LiRep lb (L.take (fromN f L.length) ++ L.drop (toN f t L.length)) fm' → Has H' (fm' + m) → K (.int .i64 ((toN f t L.length - fromN f L.length : Nat) : Int)) H') :
    CallH P f_zset_listed_Cut [ptrV lb, .int .i64 f, .int .i64 t] H K := by
  obtain ⟨sk, d, hd, lv, S, dm, rfl, ok, he, hD⟩ := hr.ex
  apply k_zset_listed_Cut
  unfold c_zset_listed_Cut
  have h400 := ok0.len
  have hl : S.length = L.length := by rw [← he, List.length_map]
  have hft := fromto f t L.length
  have hrl := rng_len f t L
  (try simp only [xl, xo, Bool.not_eq_true', decide_eq_false_iff_not, ite_not, List.size_toArray, List.length_cons, List.length_nil, Nat.reduceAdd, qt, decide_eq_true_eq, Int.toNat_zero, Int.toNat_natCast, Nat.zero_mul, Nat.mul_one, Nat.one_mul, List.toList_toArray, List.cons_append, List.nil_append, List.append_nil, true_and, and_true, Nat.zero_add, Nat.add_zero, Bool.not_true, Bool.not_false, if_true, if_false, reduceCtorEq, List.set_cons_zero, List.set_cons_succ])
  refine h_load (b := lb) hh rfl ?_
  refine skip_Range_h (m := cell lb [ptrV sk, ptrV d] + (dm + m)) (hh.to (by ac_rfl)) ok fun H1 v sl hv hh hlv => ?_
  rw [he, hl] at hv
  rw [hl] at hlv
  have hv' : SlOwn 2 v (entsC (rng f t L)) sl := hv
  refine own_len hv ?_
  rw [hlv]
  generalize hfa : fromN f L.length = a at *
  generalize htz : toN f t L.length = z at *
  refine loop_i (fun k s G => ∃ (j : Nat) (dm' m' : Mem), j + k = z - a ∧ s = (.int .i64 j, []) ∧ DRep d ((L.take a ++ L.drop (a + j)).map pairV) dm' ∧ Has G (sl + (listM sk hd S + (cell lb [ptrV sk, ptrV d] + (dm' + (m + m')))))) (z - a)
    ⟨0, dm, emp, by omega, rfl, by rw [Nat.add_zero, List.take_append_drop]; exact hD, hh.to (by rw [add_emp])⟩ ?_
  clear hh hD
  rintro k _ g G ⟨j, dm', m', hjk, rfl, hD, hh⟩
  (try simp only [xl, xo, Bool.not_eq_true', decide_eq_false_iff_not, ite_not, List.size_toArray, List.length_cons, List.length_nil, Nat.reduceAdd, qt, decide_eq_true_eq, Int.toNat_zero, Int.toNat_natCast, Nat.zero_mul, Nat.mul_one, Nat.one_mul, List.toList_toArray, List.cons_append, List.nil_append, List.append_nil, true_and, and_true, Nat.zero_add, Nat.add_zero, Bool.not_true, Bool.not_false, if_true, if_false, reduceCtorEq, List.set_cons_zero, List.set_cons_succ])
  by_cases hj : j < z - a
  · rw [if_pos (by omega)]
    have hgL : L[a + j]? = some (L[a + j]'(by omega)) := List.getElem?_eq_getElem (by omega)
    generalize L[a + j]'(by omega) = e at hgL
    have hgr : (rng f t L)[j]? = some e := by
      unfold rng
      rw [hfa, htz, List.getElem?_take, if_pos hj, List.getElem?_drop, hgL]
    obtain ⟨b, hb1, hb2, _⟩ := own_at (i := j) hv' (by rw [entsC_length, hlv, hrl]) (by omega)
    refine hb1 _ ?_
    refine hb2 G _ _ hh ?_
    rw [entsC_get hgr]
    refine h_alloc hh fun eb G1 hh => ?_
    refine h_store2 (b := eb) hh rfl rfl (by simp) fun G2 hh => ?_
    refine h_load (b := lb) hh rfl (h_load (b := eb) hh rfl ?_)
    have he0 := ok0.ok e (List.mem_of_getElem? hgL)
    have hal : (L.take a).length = a := by rw [List.length_take]; omega
    have hg2 : (L.take a ++ L.drop (a + j))[a]? = some e := by
      rw [List.getElem?_append_right (by omega), hal, Nat.sub_self, List.getElem?_drop, Nat.add_zero, hgL]
    have hnd := nodup_cut ok0.nodup a (a + j) (by omega)
    have hDat := hD.at ((hh.front dm'))
    refine dict_Delete_h (ekey he0) (by rw [List.length_map, List.length_append, List.length_take, List.length_drop]; omega) hDat (fun H' v hv hD => ?_) fun H' hv hD => ?_
    · obtain ⟨dm2, hD, hh⟩ := hD.rep
      rw [filter_delE hnd hg2] at hD
      have e1 : delAt (L.take a ++ L.drop (a + j)) a = L.take a ++ L.drop (a + (j + 1)) := by
        unfold delAt
        rw [List.take_append_of_le_length (by omega), List.take_take, Nat.min_self, List.drop_append, hal, List.drop_eq_nil_of_le (by omega), List.nil_append, List.drop_drop]
        congr 2
        omega
      rw [e1] at hD
      rw [w64 (n := (j : Int) + 1) (by omega)]
      refine ⟨k - 1, by omega, j + 1, dm2, _, by omega, rfl, hD, (hh.front (sl + (listM sk hd S + (cell lb [ptrV sk, ptrV d] + (dm2 + m))))).to (by simp only [mem_assoc]; rfl)⟩
    · exact absurd rfl (hv (pairV e) (List.mem_map_of_mem (List.mem_of_getElem? hg2)))
  · rw [if_neg (by omega)]
    have : j = z - a := by omega
    subst this
    rw [show a + (z - a) = z by omega] at hD
    refine h_load (b := lb) hh rfl ?_
    refine skip_Cut_h (m := sl + (cell lb [ptrV sk, ptrV d] + (dm' + (m + m')))) (hh.to (by ac_rfl)) ok fun H' hd' lv' S' hh ok' he' => ?_
    rw [hl, hfa, htz, he] at he'
    rw [hl, hfa, htz]
    refine hK H' _ ⟨sk, d, hd', lv', S', dm', rfl, ok', he', hD⟩ ?_
    exact (hh.front (cell lb [ptrV sk, ptrV d] + (listM sk hd' S' + dm') + m)).left

def szs (l : List Ent) : Nat := (l.map fun e => e.1.size).sum
theorem szs_le {l : List Ent} (h : ∀ e ∈ l, EOk e) : szs l ≤ 64 * l.length := by
  induction l with
  | nil => simp [szs]
  | cons e l ih =>
    have h1 := (h e (by simp)).1
    have h2 := ih fun x hx => h x (by simp [hx])
    simp only [szs, List.map_cons, List.sum_cons, List.length_cons] at *
    omega
theorem szs_take {l : List Ent} {i : Nat} {e : Ent} (h : l[i]? = some e) : szs (l.take (i + 1)) = szs (l.take i) + e.1.size := by
  rw [List.take_add_one, h]
  simp [szs]

theorem zset_sizes_h {v : Value} {l : List Ent} {sl : Mem} (hv : SlOwn 2 v (entsC l) sl) (hlv : lenV v = l.length) (hok : ∀ e ∈ l, EOk e) (hb : l.length ≤ 400) (hh : Has H (sl + m)) (hK : ∀ H', Has H' (sl + m) → K (.int .i64 (szs l)) H') : CallH P f_zset_sizes [v] H K := by
  apply k_zset_sizes
  unfold c_zset_sizes
  refine own_len hv ?_
  rw [hlv]
  have hz := szs_le hok
  refine loop_i (fun k s G => ∃ (j : Nat) (m' : Mem), j + k = l.length ∧ s = ((.int .i64 (szs (l.take j)), .int .i64 j), []) ∧ Has G (sl + (m + m'))) l.length ⟨0, emp, by omega, rfl, hh.to (by rw [add_emp])⟩ ?_
  clear hh
  rintro k _ g G ⟨j, m', hjk, rfl, hh⟩
  (try simp only [xl, xo, Bool.not_eq_true', decide_eq_false_iff_not, ite_not, List.size_toArray, List.length_cons, List.length_nil, Nat.reduceAdd, qt, decide_eq_true_eq, Int.toNat_zero, Int.toNat_natCast, Nat.zero_mul, Nat.mul_one, Nat.one_mul, List.toList_toArray, List.cons_append, List.nil_append, List.append_nil, true_and, and_true, Nat.zero_add, Nat.add_zero, Bool.not_true, Bool.not_false, if_true, if_false, reduceCtorEq, List.set_cons_zero, List.set_cons_succ])
  by_cases hj : j < l.length
  · rw [if_pos (by omega)]
    have hg : l[j]? = some (l[j]'hj) := List.getElem?_eq_getElem hj
    generalize l[j]'hj = e at hg
    obtain ⟨b, hb1, hb2, _⟩ := own_at (i := j) hv (by rw [entsC_length, hlv]) (by omega)
    refine hb1 _ ?_
    refine hb2 G _ _ hh ?_
    rw [entsC_get hg]
    refine h_alloc hh fun eb G1 hh => ?_
    refine h_store2 (b := eb) hh rfl rfl (by simp) fun G2 hh => ?_
    refine h_load (b := eb) hh rfl ?_
    (try simp only [xl, xo, Bool.not_eq_true', decide_eq_false_iff_not, ite_not, List.size_toArray, List.length_cons, List.length_nil, Nat.reduceAdd, qt, decide_eq_true_eq, Int.toNat_zero, Int.toNat_natCast, Nat.zero_mul, Nat.mul_one, Nat.one_mul, List.toList_toArray, List.cons_append, List.nil_append, List.append_nil, true_and, and_true, Nat.zero_add, Nat.add_zero, Bool.not_true, Bool.not_false, if_true, if_false, reduceCtorEq, List.set_cons_zero, List.set_cons_succ])
    have ht := szs_take hg
    have hz2 := szs_le (l := l.take (j + 1)) fun x hx => hok x (List.mem_of_mem_take hx)
    have hz3 : (l.take (j + 1)).length ≤ l.length := by rw [List.length_take]; omega
    rw [w64 (n := (j : Int) + 1) (by omega), w64 (by omega)]
    refine ⟨k - 1, by omega, j + 1, _, by omega, ?_, (hh.front (sl + m)).to (by simp only [mem_assoc]; rfl)⟩
    rw [ht]
    rfl
  · rw [if_neg (by omega)]
    have : j = l.length := by omega
    subst this
    rw [List.take_of_length_le (Nat.le_refl _)]
    exact hK G (hh.front (sl + m)).left

theorem fromto_all (n : Nat) : fromN 0 n = 0 ∧ toN 0 n n = n := by unfold fromN toN; omega
theorem rng_all (l : List Ent) : rng 0 (l.length : Nat) l = l := by
  unfold rng
  rw [(fromto_all l.length).1, (fromto_all l.length).2, List.drop_zero, Nat.sub_zero, List.take_of_length_le (Nat.le_refl _)]

theorem listed_bytes_h (hr : LiRep lb L fm) (ok0 : LOk L) (hh : Has H (fm + m)) (hK : ∀ H', Has H' (fm + m) → K (.int .i64 ((64 * L.length + 2 * szs L : Nat) : Int)) H') : CallH P f_zset_listed_bytes [ptrV lb] H K := by
  have hr0 := hr
  obtain ⟨sk, d, hd, lv, S, dm, rfl, ok, he, hD⟩ := hr.ex
  apply k_zset_listed_bytes
  unfold c_zset_listed_bytes
  have h400 := ok0.len
  have hl : S.length = L.length := by rw [← he, List.length_map]
  have hz := szs_le ok0.ok
  (try simp only [xl, xo, Bool.not_eq_true', decide_eq_false_iff_not, ite_not, List.size_toArray, List.length_cons, List.length_nil, Nat.reduceAdd, qt, decide_eq_true_eq, Int.toNat_zero, Int.toNat_natCast, Nat.zero_mul, Nat.mul_one, Nat.one_mul, List.toList_toArray, List.cons_append, List.nil_append, List.append_nil, true_and, and_true, Nat.zero_add, Nat.add_zero, Bool.not_true, Bool.not_false, if_true, if_false, reduceCtorEq, List.set_cons_zero, List.set_cons_succ])
  refine h_load (b := lb) hh rfl (h_load (b := lb) hh rfl (h_load (b := lb) hh rfl ?_))
  refine skip_Len_h (m := cell lb [ptrV sk, ptrV d] + (dm + m)) (hh.to (by ac_rfl)) ok ?_
  refine ⟨h_loadIs (b := lb) hh rfl, h_loadIs (b := lb) hh rfl, ?_⟩
  (try simp only [xl, xo, Bool.not_eq_true', decide_eq_false_iff_not, ite_not, List.size_toArray, List.length_cons, List.length_nil, Nat.reduceAdd, qt, decide_eq_true_eq, Int.toNat_zero, Int.toNat_natCast, Nat.zero_mul, Nat.mul_one, Nat.one_mul, List.toList_toArray, List.cons_append, List.nil_append, List.append_nil, true_and, and_true, Nat.zero_add, Nat.add_zero, Bool.not_true, Bool.not_false, if_true, if_false, reduceCtorEq, List.set_cons_zero, List.set_cons_succ])
  refine skip_Len_h (m := cell lb [ptrV sk, ptrV d] + (dm + m)) (hh.to (by ac_rfl)) ok ?_
  refine ⟨h_loadIs (b := lb) hh rfl, ?_⟩
  refine skip_Range_h (m := cell lb [ptrV sk, ptrV d] + (dm + m)) (hh.to (by ac_rfl)) ok fun H1 v sl hv hh hlv => ?_
  rw [he, hl] at hv
  rw [hl] at hlv
  rw [hl]
  have hv' : SlOwn 2 v (entsC (rng 0 (L.length : Nat) L)) sl := hv
  rw [rng_all] at hv'
  have hlv' : lenV v = L.length := by rw [hlv, (fromto_all L.length).1, (fromto_all L.length).2, Nat.sub_zero]
  refine zset_sizes_h hv' hlv' ok0.ok h400 hh fun H2 hh => ?_
  (try simp only [xl, xo, Bool.not_eq_true', decide_eq_false_iff_not, ite_not, List.size_toArray, List.length_cons, List.length_nil, Nat.reduceAdd, qt, decide_eq_true_eq, Int.toNat_zero, Int.toNat_natCast, Nat.zero_mul, Nat.mul_one, Nat.one_mul, List.toList_toArray, List.cons_append, List.nil_append, List.append_nil, true_and, and_true, Nat.zero_add, Nat.add_zero, Bool.not_true, Bool.not_false, if_true, if_false, reduceCtorEq, List.set_cons_zero, List.set_cons_succ])
  rw [w64 (n := 64 * (L.length : Int)) (by omega), w64 (n := 2 * (szs L : Int)) (by omega), w64 (by omega)]
  have := hK H2 ((hh.front (cell lb [ptrV sk, ptrV d] + (listM sk hd S + dm) + m)).left)
  rw [show ((64 * L.length + 2 * szs L : Nat) : Int) = 64 * (L.length : Int) + 2 * (szs L : Int) by omega] at this
  exact this
end
end Go.X.W
set_option linter.unusedVariables false
set_option linter.unusedSimpArgs false
set_option maxRecDepth 100000
namespace Go.X.W
open Go Go.X Go.Proofs

variable {H : Heap} {m : Mem} {K : Value → Heap → Prop}

theorem inv_packed {pb : Nat} {name : String} {f : FuncId} {args : List Value} (hf : findM P T_p_zset_packed name = some ([], some (f, true))) (h : CallH P f (ptrV pb :: args) H K) : InvokeP P (.iface T_p_zset_packed (ptrV pb)) name args H K :=
  ⟨f, _, meth_ptr hf u_p_zset_packed, h⟩
theorem inv_listed {pb : Nat} {name : String} {f : FuncId} {args : List Value} (hf : findM P T_p_zset_listed name = some ([], some (f, true))) (h : CallH P f (ptrV pb :: args) H K) : InvokeP P (.iface T_p_zset_listed (ptrV pb)) name args H K :=
  ⟨f, _, meth_ptr hf u_p_zset_listed, h⟩
theorem inv_emb {pb sk : Nat} {name : String} {f : FuncId} {args : List Value} (hf : findM P T_p_zset_listed name = some ([⟨T_zset_listed, 0, true⟩], some (f, true))) (hl : LoadIs none H (ptrV pb) (ptrV sk)) (h : CallH P f (ptrV sk :: args) H K) : InvokeP P (.iface T_p_zset_listed (ptrV pb)) name args H K :=
  ⟨f, _, meth_emb (s := T_zset_listed) (k := 0) (o := 0) (e := T_skip_List) (fs := #[⟨ "List", T_p_skip_List, 0, true, "", "", 0⟩, ⟨ "scores", T_p_dict_Dict_int64, 1, false, "", "palio/zset", 8⟩]) (fd := ⟨ "List", T_p_skip_List, 0, true, "", "", 0⟩) hf (by kernel_rfl) rfl rfl (by kernel_rfl) (by kernel_rfl) (by kernel_rfl) (by kernel_rfl) hl, h⟩

/-- A set's form: its value, its part of the memory. -/
def FRep (il : Bool) (L : List Ent) (fv : Value) (fm : Mem) : Prop :=
  (il = false ∧ ∃ pb, fv = .iface T_p_zset_packed (ptrV pb) ∧ fm = cell pb [.string (packS L)] ∧ L.length ≤ 200) ∨ (il = true ∧ ∃ lb, fv = .iface T_p_zset_listed (ptrV lb) ∧ LiRep lb L fm)
theorem FRep.oc {il : Bool} {L : List Ent} {fv : Value} {fm : Mem} (h : FRep il L fv fm) : fv.oneCell = true := by
  rcases h with ⟨_, _, rfl, _⟩ | ⟨_, _, rfl, _⟩ <;> rfl
theorem LOk.pk {L : List Ent} (h : LOk L) (hl : L.length ≤ 200) : POk L := ⟨h.ok, hl⟩

def cutL (f t : Int) (l : List Ent) : List Ent := l.take (fromN f l.length) ++ l.drop (toN f t l.length)
def cutN (f t : Int) (l : List Ent) : Nat := toN f t l.length - fromN f l.length
def byts (il : Bool) (l : List Ent) : Nat := if il then 64 * l.length + 2 * szs l else (packL l).length
theorem body_szs (l : List Ent) : (bodyL l).length = 10 * l.length + szs l := by
  induction l with
  | nil => rfl
  | cons e l ih =>
    rw [bodyL_cons, List.length_append, encL_len, ih]
    simp only [szs, List.map_cons, List.sum_cons, List.length_cons]
    omega

section
variable {il : Bool} {L : List Ent} {fv : Value} {fm : Mem}
theorem form_score {x : ByteArray} (hx : x.size < 4611686018427387904) (hr : FRep il L fv fm) (ok : LOk L) (hh : Has H (fm + m)) (hK : ∀ H' fm', FRep il L fv fm' → Has H' (fm' + m) → K (scoV (sco x L)) H') : InvokeP P fv "palio/zset.score" [.string x] H K := by
  rcases hr with ⟨rfl, pb, rfl, rfl, hl⟩ | ⟨rfl, lb, rfl, hli⟩
  · refine inv_packed (f := f_zset_packed_score) (by kernel_rfl) ?_
    exact packed_score_h (pb := pb) (ok.pk hl) hh fun H' hh => hK H' _ (.inl ⟨rfl, pb, rfl, rfl, hl⟩) hh
  · refine inv_listed (f := f_zset_listed_score) (by kernel_rfl) ?_
    exact listed_score_h hx hli ok.nodup hh fun H' fm' hli hh => hK H' fm' (.inr ⟨rfl, lb, rfl, hli⟩) hh
theorem form_Len (hr : FRep il L fv fm) (ok : LOk L) (hh : Has H (fm + m)) (hK : ∀ H', Has H' (fm + m) → K (.int .i64 L.length) H') : InvokeP P fv "Len" [] H K := by
  rcases hr with ⟨rfl, pb, rfl, rfl, hl⟩ | ⟨rfl, lb, rfl, hli⟩
  · refine inv_packed (f := f_zset_packed_Len) (by kernel_rfl) ?_
    exact packed_Len_h (pb := pb) (ok.pk hl) hh hK
  · obtain ⟨sk, h1, h2⟩ := listed_Len_h (K := K) hli hh (hK H hh)
    exact inv_emb (f := f_skip_List_Len) (by kernel_rfl) h1 h2
theorem form_Range {f t : Int} (hr : FRep il L fv fm) (ok : LOk L) (hh : Has H (fm + m)) (hK : ∀ H' v sl, SlOwn 2 v (entsC (rng f t L)) sl → lenV v = (rng f t L).length → Has H' (sl + (fm + m)) → K v H') : InvokeP P fv "Range" [.int .i64 f, .int .i64 t] H K := by
  rcases hr with ⟨rfl, pb, rfl, rfl, hl⟩ | ⟨rfl, lb, rfl, hli⟩
  · refine inv_packed (f := f_zset_packed_Range) (by kernel_rfl) ?_
    exact packed_Range_h (pb := pb) (ok.pk hl) hh hK
  · obtain ⟨sk, h1, h2⟩ := listed_Range_h (K := K) hli hh hK
    exact inv_emb (f := f_skip_List_Range) (by kernel_rfl) h1 h2
theorem form_Cut {f t : Int} (hr : FRep il L fv fm) (ok : LOk L) (hh : Has H (fm + m)) (hK : ∀ H' fm', FRep il (cutL f t L) fv fm' → Has H' (fm' + m) → K (.int .i64 (cutN f t L : Nat)) H') : InvokeP P fv "Cut" [.int .i64 f, .int .i64 t] H K := by
  rcases hr with ⟨rfl, pb, rfl, rfl, hl⟩ | ⟨rfl, lb, rfl, hli⟩
  · refine inv_packed (f := f_zset_packed_Cut) (by kernel_rfl) ?_
    refine packed_Cut_h (pb := pb) (ok.pk hl) hh fun H' hh => hK H' _ (.inl ⟨rfl, pb, rfl, rfl, ?_⟩) hh
    have := fromto f t L.length
    simp [cutL]; omega
  · refine inv_listed (f := f_zset_listed_Cut) (by kernel_rfl) ?_
    exact listed_Cut_h hli ok hh fun H' fm' hli hh => hK H' fm' (.inr ⟨rfl, lb, rfl, hli⟩) hh
theorem form_put {e : Ent} {level : Nat} (hr : FRep il L fv fm) (ok : LOk L) (he : EOk e) (hlev : 1 ≤ level ∧ level ≤ 32) (hnew : fnd e.1 L = none) (hp : il = false → L.length < 200) (hh : Has H (fm + m))
    (hK : ∀ H' fm', FRep il (insAt L (cntE e L) e) fv fm' → Has H' (fm' + m) → K (.tuple #[]) H') : InvokeP P fv "palio/zset.put" [entV e, .int .i64 level] H K := by
  have hn : e ∉ L := fun h => fnd_none.1 hnew e h rfl
  rcases hr with ⟨rfl, pb, rfl, rfl, hl⟩ | ⟨rfl, lb, rfl, hli⟩
  · refine inv_packed (f := f_zset_packed_put) (by kernel_rfl) ?_
    refine packed_put_h (pb := pb) (ok.pk hl) ok.sorted hn he (hp rfl) hh fun H' hh => hK H' _ (.inl ⟨rfl, pb, rfl, rfl, ?_⟩) hh
    have := hp rfl
    have := cntE_le e L
    simp [insAt]; omega
  · refine inv_listed (f := f_zset_listed_put) (by kernel_rfl) ?_
    exact listed_put_h hli ok he hlev hnew hh fun H' fm' hli hh => hK H' fm' (.inr ⟨rfl, lb, rfl, hli⟩) hh
theorem form_drop {e : Ent} {i : Nat} (hr : FRep il L fv fm) (ok : LOk L) (hg : L[i]? = some e) (hh : Has H (fm + m)) (hK : ∀ H' fm', FRep il (delAt L i) fv fm' → Has H' (fm' + m) → K (.tuple #[]) H') : InvokeP P fv "palio/zset.drop" [entV e] H K := by
  rcases hr with ⟨rfl, pb, rfl, rfl, hl⟩ | ⟨rfl, lb, rfl, hli⟩
  · refine inv_packed (f := f_zset_packed_drop) (by kernel_rfl) ?_
    exact packed_drop_h (pb := pb) (ok.pk hl) (fnd_of ok.nodup hg) hh fun H' hh => hK H' _ (.inl ⟨rfl, pb, rfl, rfl, ((ok.pk hl).del i).2⟩) hh
  · refine inv_listed (f := f_zset_listed_drop) (by kernel_rfl) ?_
    exact listed_drop_h hli ok hg hh fun H' fm' hli hh => hK H' fm' (.inr ⟨rfl, lb, rfl, hli⟩) hh
theorem form_bytes (hr : FRep il L fv fm) (ok : LOk L) (hh : Has H (fm + m)) (hK : ∀ H', Has H' (fm + m) → K (.int .i64 (byts il L : Nat)) H') : InvokeP P fv "palio/zset.bytes" [] H K := by
  rcases hr with ⟨rfl, pb, rfl, rfl, hl⟩ | ⟨rfl, lb, rfl, hli⟩
  · refine inv_packed (f := f_zset_packed_bytes) (by kernel_rfl) ?_
    exact packed_bytes_h (pb := pb) hh (hK H hh)
  · refine inv_listed (f := f_zset_listed_bytes) (by kernel_rfl) ?_
    exact listed_bytes_h hli ok hh hK
end

/-! ### What stays right -/
theorem cnt_take {e : Ent} {l : List Ent} (hs : SortedE l) : ∀ a ∈ l.take (cntE e l), elt a e = true := by
  intro a ha
  obtain ⟨i, hi⟩ := List.getElem?_of_mem ha
  rw [List.getElem?_take] at hi
  split at hi
  · rw [cntE_spec hs i a hi]; simpa using (by omega : i + 1 ≤ cntE e l)
  · cases hi
theorem cnt_drop {e : Ent} {l : List Ent} (hs : SortedE l) (hn : e ∉ l) : ∀ a ∈ l.drop (cntE e l), elt e a = true := by
  intro a ha
  obtain ⟨i, hi⟩ := List.getElem?_of_mem ha
  rw [List.getElem?_drop] at hi
  rw [cnt_search hs hn hi]
  simp
theorem LOk.ins {L : List Ent} {e : Ent} (ok : LOk L) (he : EOk e) (hn : fnd e.1 L = none) (hl : L.length < 400) : LOk (insAt L (cntE e L) e) := by
  have hne : e ∉ L := fun h => fnd_none.1 hn e h rfl
  have hc := cntE_le e L
  refine ⟨?_, ?_, fun x hx => ?_, by simp [insAt]; omega⟩
  · unfold SortedE insAt
    rw [List.pairwise_append]
    refine ⟨ok.sorted.sublist (List.take_sublist _ _), ?_, fun a ha b hb => ?_⟩
    · rw [List.pairwise_cons]
      exact ⟨fun b hb => cnt_drop ok.sorted hne b hb, ok.sorted.sublist (List.drop_sublist _ _)⟩
    · have h1 := cnt_take ok.sorted a ha
      rcases List.mem_cons.1 hb with rfl | hb
      · exact h1
      · exact elt_trans h1 (cnt_drop ok.sorted hne b hb)
  · have hp : ((insAt L (cntE e L) e).map (·.1)).Perm (e.1 :: L.map (·.1)) := by
      unfold insAt
      rw [List.map_append, List.map_cons]
      refine List.perm_middle.trans (List.Perm.cons _ ?_)
      rw [← List.map_append, List.take_append_drop]
    refine hp.nodup_iff.2 (List.nodup_cons.2 ⟨fun h => ?_, ok.nodup⟩)
    obtain ⟨a, ha, h2⟩ := List.mem_map.1 h
    exact fnd_none.1 hn a ha h2
  · rcases List.mem_append.1 hx with h | h
    · exact ok.ok x (List.mem_of_mem_take h)
    · rcases List.mem_cons.1 h with rfl | h
      · exact he
      · exact ok.ok x (List.mem_of_mem_drop h)
theorem LOk.sub {L L' : List Ent} (ok : LOk L) (h : L'.Sublist L) : LOk L' :=
  ⟨ok.sorted.sublist h, (h.map _).nodup ok.nodup, fun e he => ok.ok e (h.subset he), Nat.le_trans h.length_le ok.len⟩
theorem cut_sub {α : Type} (l : List α) {a b : Nat} (h : a ≤ b) : (l.take a ++ l.drop b).Sublist l := by
  have e : l = l.take a ++ l.drop a := (List.take_append_drop a l).symm
  conv => rhs; rw [e]
  refine List.Sublist.append (List.Sublist.refl _) ?_
  rw [show b = a + (b - a) by omega, ← List.drop_drop]
  exact List.drop_sublist _ _
theorem LOk.del {L : List Ent} (ok : LOk L) (i : Nat) : LOk (delAt L i) := ok.sub (cut_sub L (by omega))
theorem LOk.cut {L : List Ent} (ok : LOk L) (f t : Int) : LOk (cutL f t L) := ok.sub (cut_sub L (fromto f t L.length).1)
end Go.X.W
set_option linter.unusedVariables false
set_option linter.unusedSimpArgs false
namespace Go.X.W
open Go Go.X Go.Proofs

variable {H : Heap} {m : Mem} {K : Value → Heap → Prop}

/-- A set. -/
structure ZSt where
  L : List Ent
  il : Bool
  le : Int
  lm : Int
  seed : Int
structure ZOk (z : ZSt) : Prop where
  ok : LOk z.L
  le : 0 ≤ z.le ∧ z.le ≤ 200
  lm : 0 ≤ z.lm ∧ z.lm ≤ 64
  pk : z.il = false → (z.L.length : Int) ≤ z.le
def ZRep (z : ZSt) (s : Nat) (zm : Mem) : Prop := ∃ fv fm, FRep z.il z.L fv fm ∧ zm = cell s [fv, .int .i64 z.le, .int .i64 z.lm, .int .u32 z.seed] + fm

def clampI (lo hi x : Int) : Int := max lo (min hi x)
theorem zset_New_h {le lm seed : Int} (hh : Has H m) (hK : ∀ H' s zm, ZRep ⟨[], false, clampI 0 200 le, clampI 0 64 lm, seed⟩ s zm → Has H' (zm + m) → K (ptrV s) H') : CallH P f_zset_New [.agg #[.int .i64 le, .int .i64 lm], .int .u32 seed] H K := by
  apply k_zset_New
  unfold c_zset_New
  rw [x_boxN]
  refine h_allocA hh fun lb H1 hh => ?_
  (try simp only [xl, xo, Bool.not_eq_true', decide_eq_false_iff_not, ite_not, List.size_toArray, List.length_cons, List.length_nil, Nat.reduceAdd, qt, decide_eq_true_eq, Int.toNat_zero, Int.toNat_natCast, Nat.zero_mul, Nat.mul_one, Nat.one_mul, List.toList_toArray, List.cons_append, List.nil_append, List.append_nil, true_and, and_true, Nat.zero_add, Nat.add_zero, Bool.not_true, Bool.not_false, if_true, if_false, reduceCtorEq, List.set_cons_zero, List.set_cons_succ])
  refine h_load (b := lb) hh rfl ?_
  (try simp only [xl, xo, Bool.not_eq_true', decide_eq_false_iff_not, ite_not, List.size_toArray, List.length_cons, List.length_nil, Nat.reduceAdd, qt, decide_eq_true_eq, Int.toNat_zero, Int.toNat_natCast, Nat.zero_mul, Nat.mul_one, Nat.one_mul, List.toList_toArray, List.cons_append, List.nil_append, List.append_nil, true_and, and_true, Nat.zero_add, Nat.add_zero, Bool.not_true, Bool.not_false, if_true, if_false, reduceCtorEq, List.set_cons_zero, List.set_cons_succ])
  refine h_load (b := lb) hh rfl ?_
  (try simp only [xl, xo, Bool.not_eq_true', decide_eq_false_iff_not, ite_not, List.size_toArray, List.length_cons, List.length_nil, Nat.reduceAdd, qt, decide_eq_true_eq, Int.toNat_zero, Int.toNat_natCast, Nat.zero_mul, Nat.mul_one, Nat.one_mul, List.toList_toArray, List.cons_append, List.nil_append, List.append_nil, true_and, and_true, Nat.zero_add, Nat.add_zero, Bool.not_true, Bool.not_false, if_true, if_false, reduceCtorEq, List.set_cons_zero, List.set_cons_succ])
  refine h_alloc hh fun l2 H2 hh => ?_
  refine h_store2 (b := l2) hh rfl rfl (by simp) fun H3 hh => ?_
  refine h_load2 (b := l2) hh rfl rfl ?_
  refine pack_New_h hh fun H4 hh => ⟨h_loadNIs (b := l2) hh (by simp), ?_⟩
  (try simp only [xl, xo, Bool.not_eq_true', decide_eq_false_iff_not, ite_not, List.size_toArray, List.length_cons, List.length_nil, Nat.reduceAdd, qt, decide_eq_true_eq, Int.toNat_zero, Int.toNat_natCast, Nat.zero_mul, Nat.mul_one, Nat.one_mul, List.toList_toArray, List.cons_append, List.nil_append, List.append_nil, true_and, and_true, Nat.zero_add, Nat.add_zero, Bool.not_true, Bool.not_false, if_true, if_false, reduceCtorEq, List.set_cons_zero, List.set_cons_succ])
  refine h_alloc hh fun pb H5 hh => ?_
  refine ⟨h_loadNIs (b := l2) hh (by simp), ?_⟩
  (try simp only [xl, xo, Bool.not_eq_true', decide_eq_false_iff_not, ite_not, List.size_toArray, List.length_cons, List.length_nil, Nat.reduceAdd, qt, decide_eq_true_eq, Int.toNat_zero, Int.toNat_natCast, Nat.zero_mul, Nat.mul_one, Nat.one_mul, List.toList_toArray, List.cons_append, List.nil_append, List.append_nil, true_and, and_true, Nat.zero_add, Nat.add_zero, Bool.not_true, Bool.not_false, if_true, if_false, reduceCtorEq, List.set_cons_zero, List.set_cons_succ])
  refine h_alloc hh fun sb H6 hh => ?_
  refine hK H6 sb _ ⟨_, _, .inl ⟨rfl, pb, rfl, rfl, by simp⟩, rfl⟩ ?_
  have := (hh.front (cell sb [.iface T_p_zset_packed (ptrV pb), .int .i64 (max 0 (min 200 le)), .int .i64 (max 0 (min 64 lm)), .int .u32 seed] + cell pb [.string (packS [])] + m)).left
  exact this
theorem ZOk.new (le lm seed : Int) : ZOk ⟨[], false, clampI 0 200 le, clampI 0 64 lm, seed⟩ := by
  refine ⟨⟨List.Pairwise.nil, List.nodup_nil, by simp, by simp⟩, ?_, ?_, fun _ => ?_⟩ <;> simp only [clampI, List.length_nil] <;> omega

section
variable {z : ZSt} {s : Nat} {zm : Mem}
theorem zset_Len_h (hz : ZRep z s zm) (ok : ZOk z) (hh : Has H (zm + m)) (hK : ∀ H', Has H' (zm + m) → K (.int .i64 z.L.length) H') : CallH P f_zset_Set_Len [ptrV s] H K := by
  obtain ⟨fv, fm, hf, rfl⟩ := hz
  apply k_zset_Set_Len
  unfold c_zset_Set_Len
  (try simp only [xl, xo, Bool.not_eq_true', decide_eq_false_iff_not, ite_not, List.size_toArray, List.length_cons, List.length_nil, Nat.reduceAdd, qt, decide_eq_true_eq, Int.toNat_zero, Int.toNat_natCast, Nat.zero_mul, Nat.mul_one, Nat.one_mul, List.toList_toArray, List.cons_append, List.nil_append, List.append_nil, true_and, and_true, Nat.zero_add, Nat.add_zero, Bool.not_true, Bool.not_false, if_true, if_false, reduceCtorEq, List.set_cons_zero, List.set_cons_succ])
  refine h_load (b := s) hh rfl ?_
  refine form_Len (m := cell s [fv, .int .i64 z.le, .int .i64 z.lm, .int .u32 z.seed] + m) hf ok.ok (hh.to (by ac_rfl)) fun H' hh => hK H' (hh.to (by ac_rfl))
theorem zset_Range_h {f t : Int} (hz : ZRep z s zm) (ok : ZOk z) (hh : Has H (zm + m)) (hK : ∀ H' v sl, SlOwn 2 v (entsC (rng f t z.L)) sl → lenV v = (rng f t z.L).length → Has H' (sl + (zm + m)) → K v H') : CallH P f_zset_Set_Range [ptrV s, .int .i64 f, .int .i64 t] H K := by
  obtain ⟨fv, fm, hf, rfl⟩ := hz
  apply k_zset_Set_Range
  unfold c_zset_Set_Range
  (try simp only [xl, xo, Bool.not_eq_true', decide_eq_false_iff_not, ite_not, List.size_toArray, List.length_cons, List.length_nil, Nat.reduceAdd, qt, decide_eq_true_eq, Int.toNat_zero, Int.toNat_natCast, Nat.zero_mul, Nat.mul_one, Nat.one_mul, List.toList_toArray, List.cons_append, List.nil_append, List.append_nil, true_and, and_true, Nat.zero_add, Nat.add_zero, Bool.not_true, Bool.not_false, if_true, if_false, reduceCtorEq, List.set_cons_zero, List.set_cons_succ])
  refine h_load (b := s) hh rfl ?_
  refine form_Range (m := cell s [fv, .int .i64 z.le, .int .i64 z.lm, .int .u32 z.seed] + m) hf ok.ok (hh.to (by ac_rfl)) fun H' v sl hv hl hh => hK H' v sl hv hl (hh.to (by ac_rfl))
theorem zset_Cut_h {f t : Int} (hz : ZRep z s zm) (ok : ZOk z) (hh : Has H (zm + m)) (hK : ∀ H' zm', ZRep { z with L := cutL f t z.L } s zm' → Has H' (zm' + m) → K (.int .i64 (cutN f t z.L : Nat)) H') : CallH P f_zset_Set_Cut [ptrV s, .int .i64 f, .int .i64 t] H K := by
  obtain ⟨fv, fm, hf, rfl⟩ := hz
  apply k_zset_Set_Cut
  unfold c_zset_Set_Cut
  (try simp only [xl, xo, Bool.not_eq_true', decide_eq_false_iff_not, ite_not, List.size_toArray, List.length_cons, List.length_nil, Nat.reduceAdd, qt, decide_eq_true_eq, Int.toNat_zero, Int.toNat_natCast, Nat.zero_mul, Nat.mul_one, Nat.one_mul, List.toList_toArray, List.cons_append, List.nil_append, List.append_nil, true_and, and_true, Nat.zero_add, Nat.add_zero, Bool.not_true, Bool.not_false, if_true, if_false, reduceCtorEq, List.set_cons_zero, List.set_cons_succ])
  refine h_load (b := s) hh rfl ?_
  refine form_Cut (m := cell s [fv, .int .i64 z.le, .int .i64 z.lm, .int .u32 z.seed] + m) hf ok.ok (hh.to (by ac_rfl)) fun H' fm' hf hh => hK H' _ ⟨fv, fm', hf, rfl⟩ (hh.to (by ac_rfl))
theorem zset_Score_h {x : ByteArray} (hx : x.size < 4611686018427387904) (hz : ZRep z s zm) (ok : ZOk z) (hh : Has H (zm + m)) (hK : ∀ H' zm', ZRep z s zm' → Has H' (zm' + m) → K (scoV (sco x z.L)) H') : CallH P f_zset_Set_Score [ptrV s, .string x] H K := by
  obtain ⟨fv, fm, hf, rfl⟩ := hz
  apply k_zset_Set_Score
  unfold c_zset_Set_Score
  (try simp only [xl, xo, Bool.not_eq_true', decide_eq_false_iff_not, ite_not, List.size_toArray, List.length_cons, List.length_nil, Nat.reduceAdd, qt, decide_eq_true_eq, Int.toNat_zero, Int.toNat_natCast, Nat.zero_mul, Nat.mul_one, Nat.one_mul, List.toList_toArray, List.cons_append, List.nil_append, List.append_nil, true_and, and_true, Nat.zero_add, Nat.add_zero, Bool.not_true, Bool.not_false, if_true, if_false, reduceCtorEq, List.set_cons_zero, List.set_cons_succ])
  refine h_load (b := s) hh rfl ?_
  refine form_score (m := cell s [fv, .int .i64 z.le, .int .i64 z.lm, .int .u32 z.seed] + m) hx hf ok.ok (hh.to (by ac_rfl)) fun H' fm' hf hh => ?_
  (try simp only [xl, xo, Bool.not_eq_true', decide_eq_false_iff_not, ite_not, List.size_toArray, List.length_cons, List.length_nil, Nat.reduceAdd, qt, decide_eq_true_eq, Int.toNat_zero, Int.toNat_natCast, Nat.zero_mul, Nat.mul_one, Nat.one_mul, List.toList_toArray, List.cons_append, List.nil_append, List.append_nil, true_and, and_true, Nat.zero_add, Nat.add_zero, Bool.not_true, Bool.not_false, if_true, if_false, reduceCtorEq, List.set_cons_zero, List.set_cons_succ])
  exact hK H' _ ⟨fv, fm', hf, rfl⟩ (hh.to (by ac_rfl))
/-- A set's entries without a member's. -/
def rem (x : ByteArray) (l : List Ent) : List Ent := match fnd x l with | some i => delAt l i | none => l
theorem zset_Remove_h {x : ByteArray} (hx : x.size < 4611686018427387904) (hz : ZRep z s zm) (ok : ZOk z) (hh : Has H (zm + m)) (hK : ∀ H' zm', ZRep { z with L := rem x z.L } s zm' → Has H' (zm' + m) → K (.bool (fnd x z.L).isSome) H') : CallH P f_zset_Set_Remove [ptrV s, .string x] H K := by
  apply k_zset_Set_Remove
  unfold c_zset_Set_Remove
  refine zset_Score_h hx hz ok hh fun H1 zm1 hz1 hh => ?_
  obtain ⟨fv, fm, hf, rfl⟩ := hz1
  (try simp only [xl, xo, Bool.not_eq_true', decide_eq_false_iff_not, ite_not, List.size_toArray, List.length_cons, List.length_nil, Nat.reduceAdd, qt, decide_eq_true_eq, Int.toNat_zero, Int.toNat_natCast, Nat.zero_mul, Nat.mul_one, Nat.one_mul, List.toList_toArray, List.cons_append, List.nil_append, List.append_nil, true_and, and_true, Nat.zero_add, Nat.add_zero, Bool.not_true, Bool.not_false, if_true, if_false, reduceCtorEq, List.set_cons_zero, List.set_cons_succ])
  cases hfx : fnd x z.L with
  | none =>
    have e : rem x z.L = z.L := by simp [rem, hfx]
    rw [e] at hK
    rw [hfx] at hK
    simp only [sco_none hfx, Option.isSome_none]
    (try simp only [xl, xo, Bool.not_eq_true', decide_eq_false_iff_not, ite_not, List.size_toArray, List.length_cons, List.length_nil, Nat.reduceAdd, qt, decide_eq_true_eq, Int.toNat_zero, Int.toNat_natCast, Nat.zero_mul, Nat.mul_one, Nat.one_mul, List.toList_toArray, List.cons_append, List.nil_append, List.append_nil, true_and, and_true, Nat.zero_add, Nat.add_zero, Bool.not_true, Bool.not_false, if_true, if_false, reduceCtorEq, List.set_cons_zero, List.set_cons_succ])
    exact hK H1 _ ⟨fv, fm, hf, rfl⟩ hh
  | some i =>
    have e : rem x z.L = delAt z.L i := by simp [rem, hfx]
    rw [e] at hK
    rw [hfx] at hK
    obtain ⟨sc, h1, h2⟩ := sco_fnd hfx
    simp only [h2, Option.isSome_some, Option.getD_some]
    (try simp only [xl, xo, Bool.not_eq_true', decide_eq_false_iff_not, ite_not, List.size_toArray, List.length_cons, List.length_nil, Nat.reduceAdd, qt, decide_eq_true_eq, Int.toNat_zero, Int.toNat_natCast, Nat.zero_mul, Nat.mul_one, Nat.one_mul, List.toList_toArray, List.cons_append, List.nil_append, List.append_nil, true_and, and_true, Nat.zero_add, Nat.add_zero, Bool.not_true, Bool.not_false, if_true, if_false, reduceCtorEq, List.set_cons_zero, List.set_cons_succ])
    refine h_load (b := s) hh rfl ?_
    refine form_drop (e := (x, sc)) (m := cell s [fv, .int .i64 z.le, .int .i64 z.lm, .int .u32 z.seed] + m) hf ok.ok h1 (hh.to (by ac_rfl)) fun H' fm' hf hh => ?_
    exact hK H' _ ⟨fv, fm', hf, rfl⟩ (hh.to (by ac_rfl))
abbrev listS : ByteArray := ⟨#[115, 107, 105, 112, 108, 105, 115, 116]⟩
abbrev packN : ByteArray := ⟨#[108, 105, 115, 116, 112, 97, 99, 107]⟩
theorem zset_Encoding_h (hz : ZRep z s zm) (hh : Has H (zm + m)) (hK : K (.string (if z.il then listS else packN)) H) : CallH P f_zset_Set_Encoding [ptrV s] H K := by
  obtain ⟨fv, fm, hf, rfl⟩ := hz
  apply k_zset_Set_Encoding
  unfold c_zset_Set_Encoding
  (try simp only [xl, xo, Bool.not_eq_true', decide_eq_false_iff_not, ite_not, List.size_toArray, List.length_cons, List.length_nil, Nat.reduceAdd, qt, decide_eq_true_eq, Int.toNat_zero, Int.toNat_natCast, Nat.zero_mul, Nat.mul_one, Nat.one_mul, List.toList_toArray, List.cons_append, List.nil_append, List.append_nil, true_and, and_true, Nat.zero_add, Nat.add_zero, Bool.not_true, Bool.not_false, if_true, if_false, reduceCtorEq, List.set_cons_zero, List.set_cons_succ])
  refine h_load (b := s) hh rfl ?_
  rcases hf with ⟨h, pb, rfl, rfl, hl⟩ | ⟨h, lb, rfl, hli⟩
  · rw [h] at hK
    simp only [TypeAssertP]
    rw [show Nat.beq T_p_zset_packed T_p_zset_listed = false by decide, cond_false]
    (try simp only [xl, xo, Bool.not_eq_true', decide_eq_false_iff_not, ite_not, List.size_toArray, List.length_cons, List.length_nil, Nat.reduceAdd, qt, decide_eq_true_eq, Int.toNat_zero, Int.toNat_natCast, Nat.zero_mul, Nat.mul_one, Nat.one_mul, List.toList_toArray, List.cons_append, List.nil_append, List.append_nil, true_and, and_true, Nat.zero_add, Nat.add_zero, Bool.not_true, Bool.not_false, if_true, if_false, reduceCtorEq, List.set_cons_zero, List.set_cons_succ])
    simpa using hK
  · rw [h] at hK
    simp only [TypeAssertP]
    rw [show Nat.beq T_p_zset_listed T_p_zset_listed = true by decide, cond_true, cond_true]
    (try simp only [xl, xo, Bool.not_eq_true', decide_eq_false_iff_not, ite_not, List.size_toArray, List.length_cons, List.length_nil, Nat.reduceAdd, qt, decide_eq_true_eq, Int.toNat_zero, Int.toNat_natCast, Nat.zero_mul, Nat.mul_one, Nat.one_mul, List.toList_toArray, List.cons_append, List.nil_append, List.append_nil, true_and, and_true, Nat.zero_add, Nat.add_zero, Bool.not_true, Bool.not_false, if_true, if_false, reduceCtorEq, List.set_cons_zero, List.set_cons_succ])
    simpa using hK
theorem zset_Bytes_h (hz : ZRep z s zm) (ok : ZOk z) (hh : Has H (zm + m)) (hK : ∀ H', Has H' (zm + m) → K (.int .i64 (byts z.il z.L : Nat)) H') : CallH P f_zset_Set_Bytes [ptrV s] H K := by
  obtain ⟨fv, fm, hf, rfl⟩ := hz
  apply k_zset_Set_Bytes
  unfold c_zset_Set_Bytes
  (try simp only [xl, xo, Bool.not_eq_true', decide_eq_false_iff_not, ite_not, List.size_toArray, List.length_cons, List.length_nil, Nat.reduceAdd, qt, decide_eq_true_eq, Int.toNat_zero, Int.toNat_natCast, Nat.zero_mul, Nat.mul_one, Nat.one_mul, List.toList_toArray, List.cons_append, List.nil_append, List.append_nil, true_and, and_true, Nat.zero_add, Nat.add_zero, Bool.not_true, Bool.not_false, if_true, if_false, reduceCtorEq, List.set_cons_zero, List.set_cons_succ])
  refine h_load (b := s) hh rfl ?_
  refine form_bytes (m := cell s [fv, .int .i64 z.le, .int .i64 z.lm, .int .u32 z.seed] + m) hf ok.ok (hh.to (by ac_rfl)) fun H' hh => hK H' (hh.to (by ac_rfl))
end
end Go.X.W
set_option linter.unusedVariables false
set_option linter.unusedSimpArgs false
namespace Go.X.W
open Go Go.X Go.Proofs

variable {H : Heap} {m : Mem} {K : Value → Heap → Prop}

theorem cnt_all {e : Ent} : ∀ {l : List Ent}, (∀ a ∈ l, elt a e = true) → cntE e l = l.length
  | [], _ => rfl
  | a :: l, h => by
    have h1 := cnt_all (e := e) (l := l) fun x hx => h x (by simp [hx])
    unfold cntE at *
    rw [List.takeWhile_cons, if_pos (h a (by simp)), List.length_cons, h1, List.length_cons]
theorem ins_next {L : List Ent} {j : Nat} {e : Ent} (ok : LOk L) (hg : L[j]? = some e) : insAt (L.take j) (cntE e (L.take j)) e = L.take (j + 1) ∧ fnd e.1 (L.take j) = none := by
  have hj := (List.getElem?_eq_some_iff.1 hg).1
  have h1 : ∀ a ∈ L.take j, elt a e = true := by
    intro a ha
    obtain ⟨i, hi⟩ := List.getElem?_of_mem ha
    rw [List.getElem?_take] at hi
    split at hi
    · rename_i hlt
      have := List.pairwise_iff_getElem.1 ok.sorted i j (by omega) hj hlt
      rwa [(List.getElem?_eq_some_iff.1 hi).2, (List.getElem?_eq_some_iff.1 hg).2] at this
    · cases hi
  constructor
  · unfold insAt
    rw [cnt_all h1, List.take_length, List.drop_length, List.take_add_one, hg]
    rfl
  · refine fnd_none.2 fun a ha h2 => ?_
    obtain ⟨i, hi⟩ := List.getElem?_of_mem ha
    rw [List.getElem?_take] at hi
    split at hi
    · rename_i hlt
      have := nodup_get ok.nodup hi hg h2
      omega
    · cases hi

section
variable {z : ZSt} {s : Nat} {zm : Mem}
theorem zset_lists_h (hz : ZRep z s zm) (ok : ZOk z) (hh : Has H (zm + m)) (hK : ∀ H' zm', ZRep { z with il := true } s zm' → Has H' (zm' + m) → K (.tuple #[]) H') : CallH P f_zset_Set_lists [ptrV s] H K := by
  obtain ⟨fv, fm, hf, rfl⟩ := hz
  apply k_zset_Set_lists
  unfold c_zset_Set_lists
  (try simp only [xl, xo, Bool.not_eq_true', decide_eq_false_iff_not, ite_not, List.size_toArray, List.length_cons, List.length_nil, Nat.reduceAdd, qt, decide_eq_true_eq, Int.toNat_zero, Int.toNat_natCast, Nat.zero_mul, Nat.mul_one, Nat.one_mul, List.toList_toArray, List.cons_append, List.nil_append, List.append_nil, true_and, and_true, Nat.zero_add, Nat.add_zero, Bool.not_true, Bool.not_false, if_true, if_false, reduceCtorEq, List.set_cons_zero, List.set_cons_succ])
  refine h_load (b := s) hh rfl ?_
  have hf0 := hf
  rcases hf with ⟨h, pb, rfl, rfl, hl⟩ | ⟨h, lb, rfl, hli⟩
  · simp only [TypeAssertP]
    rw [show Nat.beq T_p_zset_packed T_p_zset_packed = true by decide, cond_true, cond_true]
    (try simp only [xl, xo, Bool.not_eq_true', decide_eq_false_iff_not, ite_not, List.size_toArray, List.length_cons, List.length_nil, Nat.reduceAdd, qt, decide_eq_true_eq, Int.toNat_zero, Int.toNat_natCast, Nat.zero_mul, Nat.mul_one, Nat.one_mul, List.toList_toArray, List.cons_append, List.nil_append, List.append_nil, true_and, and_true, Nat.zero_add, Nat.add_zero, Bool.not_true, Bool.not_false, if_true, if_false, reduceCtorEq, List.set_cons_zero, List.set_cons_succ])
    refine h_load (b := s) hh rfl ?_
    refine skip_New_h hh fun sk hd H1 hh sok => ⟨h_loadIs (b := s) hh rfl, ?_⟩
    refine dict_New_h hh fun H2 d hD => ?_
    obtain ⟨dm, hDr, hh⟩ := hD.rep
    clear hD
    (try simp only [xl, xo, Bool.not_eq_true', decide_eq_false_iff_not, ite_not, List.size_toArray, List.length_cons, List.length_nil, Nat.reduceAdd, qt, decide_eq_true_eq, Int.toNat_zero, Int.toNat_natCast, Nat.zero_mul, Nat.mul_one, Nat.one_mul, List.toList_toArray, List.cons_append, List.nil_append, List.append_nil, true_and, and_true, Nat.zero_add, Nat.add_zero, Bool.not_true, Bool.not_false, if_true, if_false, reduceCtorEq, List.set_cons_zero, List.set_cons_succ])
    refine h_alloc hh fun lb H3 hh => ?_
    refine h_load (b := s) hh rfl (h_load (b := s) hh rfl ?_)
    (try simp only [xl, xo, Bool.not_eq_true', decide_eq_false_iff_not, ite_not, List.size_toArray, List.length_cons, List.length_nil, Nat.reduceAdd, qt, decide_eq_true_eq, Int.toNat_zero, Int.toNat_natCast, Nat.zero_mul, Nat.mul_one, Nat.one_mul, List.toList_toArray, List.cons_append, List.nil_append, List.append_nil, true_and, and_true, Nat.zero_add, Nat.add_zero, Bool.not_true, Bool.not_false, if_true, if_false, reduceCtorEq, List.set_cons_zero, List.set_cons_succ])
    generalize hfv : Value.iface T_p_zset_packed (ptrV pb) = fv at *
    refine form_Len (m := cell s [fv, .int .i64 z.le, .int .i64 z.lm, .int .u32 z.seed] + (cell lb [ptrV sk, ptrV d] + (dm + (listM sk hd [] + m)))) hf0 ok.ok (hh.to (by ac_rfl)) fun H4 hh => ⟨h_loadIs (b := s) hh rfl, ?_⟩
    refine form_Range hf0 ok.ok hh fun H5 v sl hv hlv hh => ?_
    rw [rng_all] at hv hlv
    refine own_len hv ?_
    rw [hlv]
    refine loop_i (fun k st G => ∃ (j : Nat) (lm m' : Mem), j + k = z.L.length ∧ st = (.int .i64 j, []) ∧ LiRep lb (z.L.take j) lm ∧ Has G (lm + (sl + (cell s [fv, .int .i64 z.le, .int .i64 z.lm, .int .u32 z.seed] + (m + m'))))) z.L.length
      ⟨0, cell lb [ptrV sk, ptrV d] + (listM sk hd [] + dm), cell pb [.string (packS z.L)], by omega, rfl, ⟨sk, d, hd, 0, [], dm, rfl, sok, rfl, hDr⟩, hh.to (by ac_rfl)⟩ ?_
    clear hh hf0
    rintro k _ g G ⟨j, lm, m', hjk, rfl, hli, hh⟩
    (try simp only [xl, xo, Bool.not_eq_true', decide_eq_false_iff_not, ite_not, List.size_toArray, List.length_cons, List.length_nil, Nat.reduceAdd, qt, decide_eq_true_eq, Int.toNat_zero, Int.toNat_natCast, Nat.zero_mul, Nat.mul_one, Nat.one_mul, List.toList_toArray, List.cons_append, List.nil_append, List.append_nil, true_and, and_true, Nat.zero_add, Nat.add_zero, Bool.not_true, Bool.not_false, if_true, if_false, reduceCtorEq, List.set_cons_zero, List.set_cons_succ])
    by_cases hj : j < z.L.length
    · rw [if_pos (by omega)]
      have hg : z.L[j]? = some (z.L[j]'hj) := List.getElem?_eq_getElem hj
      generalize z.L[j]'hj = e at hg
      obtain ⟨b, hb1, hb2, _⟩ := own_at (i := j) hv (by rw [entsC_length, hlv]) (by omega)
      refine hb1 _ ?_
      refine hb2 G _ _ (hh.front sl) ?_
      rw [entsC_get hg]
      refine h_alloc hh fun eb G1 hh => ?_
      refine h_store2 (b := eb) hh rfl rfl (by simp) fun G2 hh => ?_
      refine h_load2 (b := eb) hh rfl rfl ?_
      obtain ⟨h1, h2⟩ := ins_next ok.ok hg
      have hok1 := ok.ok.sub (List.take_sublist j z.L)
      refine listed_put_h (e := e) (level := 1) hli hok1 (ok.ok.ok e (List.mem_of_getElem? hg)) (by omega) h2 (hh.front lm) fun G3 lm' hli' hh => ?_
      rw [h1] at hli'
      rw [w64 (n := (j : Int) + 1) (by have := ok.ok.len; omega)]
      exact ⟨k - 1, by omega, j + 1, lm', _, by omega, rfl, hli', (hh.front (lm' + (sl + (cell s [fv, .int .i64 z.le, .int .i64 z.lm, .int .u32 z.seed] + m)))).to (by simp only [mem_assoc]; rfl)⟩
    · rw [if_neg (by omega)]
      have : j = z.L.length := by omega
      subst this
      rw [List.take_length] at hli
      refine h_store (b := s) hh rfl (by simp) fun G2 hh => ?_
      simp only [List.set_cons_zero] at hh
      refine hK G2 (cell s [.iface T_p_zset_listed (ptrV lb), .int .i64 z.le, .int .i64 z.lm, .int .u32 z.seed] + lm) ⟨_, lm, .inr ⟨rfl, lb, rfl, hli⟩, rfl⟩ ?_
      exact (hh.front (cell s [.iface T_p_zset_listed (ptrV lb), .int .i64 z.le, .int .i64 z.lm, .int .u32 z.seed] + lm + m)).left
  · simp only [TypeAssertP]
    rw [show Nat.beq T_p_zset_listed T_p_zset_packed = false by decide, cond_false]
    (try simp only [xl, xo, Bool.not_eq_true', decide_eq_false_iff_not, ite_not, List.size_toArray, List.length_cons, List.length_nil, Nat.reduceAdd, qt, decide_eq_true_eq, Int.toNat_zero, Int.toNat_natCast, Nat.zero_mul, Nat.mul_one, Nat.one_mul, List.toList_toArray, List.cons_append, List.nil_append, List.append_nil, true_and, and_true, Nat.zero_add, Nat.add_zero, Bool.not_true, Bool.not_false, if_true, if_false, reduceCtorEq, List.set_cons_zero, List.set_cons_succ])
    have e : { z with il := true } = z := by cases z; simp only at h; subst h; rfl
    rw [e] at hK
    refine hK H _ ⟨_, fm, .inr ⟨h, lb, rfl, hli⟩, rfl⟩ hh

noncomputable def zAddL (z : ZSt) (x : ByteArray) (sc : Int) : List Ent := insAt (rem x z.L) (cntE (x, sc) (rem x z.L)) (x, sc)
def zAddI (z : ZSt) (x : ByteArray) : Bool := z.il || (decide (z.le < ((rem x z.L).length : Int) + 1) || decide (z.lm < (x.size : Int)))
/-- What Add tells, and the set behind it. -/
noncomputable def zAdd (z : ZSt) (x : ByteArray) (sc lv : Int) : Bool × Int × ZSt :=
  if 64 < x.size ∨ lv < 1 ∨ 32 < lv then (false, 2, z)
  else if (fnd x z.L).isNone = true ∧ z.L.length = 400 then (false, 51, z)
  else ((fnd x z.L).isNone, 0, { z with L := zAddL z x sc, il := zAddI z x })

theorem rem_none {x : ByteArray} {l : List Ent} (h : (l.map (·.1)).Nodup) : fnd x (rem x l) = none := by
  unfold rem
  cases hf : fnd x l with
  | none => exact hf
  | some i =>
    obtain ⟨sc, h1, _⟩ := sco_fnd hf
    simp only []
    refine fnd_none.2 fun a ha h2 => ?_
    obtain ⟨j, hj⟩ := List.getElem?_of_mem ha
    unfold delAt at hj
    have hi := (List.getElem?_eq_some_iff.1 h1).1
    have hal : (l.take i).length = i := by rw [List.length_take]; omega
    by_cases hji : j < i
    · rw [List.getElem?_append_left (by omega), List.getElem?_take, if_pos hji] at hj
      have := nodup_get h hj h1 h2
      omega
    · rw [List.getElem?_append_right (by omega), List.getElem?_drop, hal] at hj
      have := nodup_get h hj h1 h2
      omega
theorem rem_len {x : ByteArray} {l : List Ent} : (rem x l).length + (if (fnd x l).isSome = true then 1 else 0) = l.length := by
  unfold rem
  cases hf : fnd x l with
  | none => simp
  | some i =>
    obtain ⟨sc, h1, _⟩ := sco_fnd hf
    have hi := (List.getElem?_eq_some_iff.1 h1).1
    simp [delAt]
    omega
theorem LOk.rem {L : List Ent} (ok : LOk L) (x : ByteArray) : LOk (rem x L) := by
  unfold X.W.rem
  split
  · exact ok.del _
  · exact ok
theorem ZOk.rem {z : ZSt} (ok : ZOk z) (x : ByteArray) : ZOk { z with L := rem x z.L } :=
  ⟨ok.ok.rem x, ok.le, ok.lm, fun h => by have := ok.pk h; have := rem_len (x := x) (l := z.L); simp only; omega⟩
theorem ZOk.cut {z : ZSt} (ok : ZOk z) (f t : Int) : ZOk { z with L := cutL f t z.L } :=
  ⟨ok.ok.cut f t, ok.le, ok.lm, fun h => by
    have := ok.pk h; have := (cut_sub z.L (fromto f t z.L.length).1).length_le; simp only [cutL]; omega⟩

theorem zset_Add_h {x : ByteArray} {sc lv : Int} (hx : x.size < 4611686018427387904) (hsc : -9223372036854775808 ≤ sc ∧ sc ≤ 9223372036854775807) (hz : ZRep z s zm) (ok : ZOk z) (hh : Has H (zm + m))
    (hK : ∀ H' zm', ZRep (zAdd z x sc lv).2.2 s zm' → Has H' (zm' + m) → K (.tuple #[.bool (zAdd z x sc lv).1, .int .i64 (zAdd z x sc lv).2.1]) H') : CallH P f_zset_Set_Add [ptrV s, .string x, .int .i64 sc, .int .i64 lv] H K := by
  apply k_zset_Set_Add
  unfold c_zset_Set_Add
  (try simp only [xl, xo, Bool.not_eq_true', decide_eq_false_iff_not, ite_not, List.size_toArray, List.length_cons, List.length_nil, Nat.reduceAdd, qt, decide_eq_true_eq, Int.toNat_zero, Int.toNat_natCast, Nat.zero_mul, Nat.mul_one, Nat.one_mul, List.toList_toArray, List.cons_append, List.nil_append, List.append_nil, true_and, and_true, Nat.zero_add, Nat.add_zero, Bool.not_true, Bool.not_false, if_true, if_false, reduceCtorEq, List.set_cons_zero, List.set_cons_succ])
  by_cases hbad : 64 < x.size ∨ lv < 1 ∨ 32 < lv
  · have ez : zAdd z x sc lv = (false, 2, z) := by unfold zAdd; rw [if_pos hbad]
    rw [ez] at hK
    by_cases h1 : (64 : Int) < x.size
    · rw [if_pos h1]; exact hK H zm hz hh
    · rw [if_neg h1]
      by_cases h2 : lv < 1
      · rw [if_pos h2]; exact hK H zm hz hh
      · rw [if_neg h2, if_pos (by omega)]; exact hK H zm hz hh
  · rw [if_neg (by omega), if_neg (by omega), if_neg (by omega)]
    obtain ⟨fv, fm, hf, rfl⟩ := hz
    have h400 := ok.ok.len
    refine h_load (b := s) hh rfl ?_
    refine form_score (m := cell s [fv, .int .i64 z.le, .int .i64 z.lm, .int .u32 z.seed] + m) hx hf ok.ok (hh.to (by ac_rfl)) fun H1 fm1 hf1 hh => ?_
    (try simp only [xl, xo, Bool.not_eq_true', decide_eq_false_iff_not, ite_not, List.size_toArray, List.length_cons, List.length_nil, Nat.reduceAdd, qt, decide_eq_true_eq, Int.toNat_zero, Int.toNat_natCast, Nat.zero_mul, Nat.mul_one, Nat.one_mul, List.toList_toArray, List.cons_append, List.nil_append, List.append_nil, true_and, and_true, Nat.zero_add, Nat.add_zero, Bool.not_true, Bool.not_false, if_true, if_false, reduceCtorEq, List.set_cons_zero, List.set_cons_succ])
    have hz1 : ZRep z s (cell s [fv, .int .i64 z.le, .int .i64 z.lm, .int .u32 z.seed] + fm1) := ⟨fv, fm1, hf1, rfl⟩
    have hh : Has H1 ((cell s [fv, .int .i64 z.le, .int .i64 z.lm, .int .u32 z.seed] + fm1) + m) := hh.to (by ac_rfl)
    have hsome : (sco x z.L).isSome = (fnd x z.L).isSome := by
      cases hfx : fnd x z.L with
      | none => rw [sco_none hfx]; rfl
      | some i => obtain ⟨sc0, _, h2⟩ := sco_fnd hfx; rw [h2]; rfl
    have okr := ok.rem x
    have hrn := rem_none (x := x) ok.ok.nodup
    have hrl := rem_len (x := x) (l := z.L)
    refine join_of ((), []) (fun Q => ¬ ((fnd x z.L).isNone = true ∧ z.L.length = 400) ∧ Has Q ((cell s [fv, .int .i64 z.le, .int .i64 z.lm, .int .u32 z.seed] + fm1) + m)) ?_ ?_
    · rintro Q ⟨hnf, hh⟩ g1
      have ez : zAdd z x sc lv = ((fnd x z.L).isNone, 0, { z with L := zAddL z x sc, il := zAddI z x }) := by unfold zAdd; rw [if_neg hbad, if_neg hnf]
      rw [ez] at hK
      refine join_of ((), []) (fun Q => ∃ zm2, ZRep { z with L := rem x z.L } s zm2 ∧ Has Q (zm2 + m)) ?_ ?_
      · rintro Q2 ⟨zm2, hz2, hh⟩ g2
        refine join_of ((), []) (fun Q => ∃ zm3, ZRep { z with L := rem x z.L, il := zAddI z x } s zm3 ∧ Has Q (zm3 + m)) ?_ ?_
        · rintro Q3 ⟨zm3, ⟨fv3, fm3, hf3, rfl⟩, hh⟩ g3
          have h32 : ∃ n : Nat, lv = n ∧ 1 ≤ n ∧ n ≤ 32 := ⟨lv.toNat, by omega, by omega, by omega⟩
          obtain ⟨n, rfl, hn1, hn2⟩ := h32
          (try simp only [xl, xo, Bool.not_eq_true', decide_eq_false_iff_not, ite_not, List.size_toArray, List.length_cons, List.length_nil, Nat.reduceAdd, qt, decide_eq_true_eq, Int.toNat_zero, Int.toNat_natCast, Nat.zero_mul, Nat.mul_one, Nat.one_mul, List.toList_toArray, List.cons_append, List.nil_append, List.append_nil, true_and, and_true, Nat.zero_add, Nat.add_zero, Bool.not_true, Bool.not_false, if_true, if_false, reduceCtorEq, List.set_cons_zero, List.set_cons_succ])
          refine h_load (b := s) hh rfl ?_
          (try simp only [xl, xo, Bool.not_eq_true', decide_eq_false_iff_not, ite_not, List.size_toArray, List.length_cons, List.length_nil, Nat.reduceAdd, qt, decide_eq_true_eq, Int.toNat_zero, Int.toNat_natCast, Nat.zero_mul, Nat.mul_one, Nat.one_mul, List.toList_toArray, List.cons_append, List.nil_append, List.append_nil, true_and, and_true, Nat.zero_add, Nat.add_zero, Bool.not_true, Bool.not_false, if_true, if_false, reduceCtorEq, List.set_cons_zero, List.set_cons_succ])
          refine form_put (e := (x, sc)) (level := n) (m := cell s [fv3, .int .i64 z.le, .int .i64 z.lm, .int .u32 z.seed] + m) hf3 okr.ok ⟨by simp only; omega, hsc⟩ ⟨hn1, hn2⟩ hrn ?_ (hh.to (by ac_rfl)) fun H4 fm4 hf4 hh => ?_
          · intro hi
            have h1 : zAddI z x = false := hi
            unfold zAddI at h1
            simp only [Bool.or_eq_false_iff, decide_eq_false_iff_not] at h1
            have h2 := ok.le
            simp only
            omega
          · (try simp only [xl, xo, Bool.not_eq_true', decide_eq_false_iff_not, ite_not, List.size_toArray, List.length_cons, List.length_nil, Nat.reduceAdd, qt, decide_eq_true_eq, Int.toNat_zero, Int.toNat_natCast, Nat.zero_mul, Nat.mul_one, Nat.one_mul, List.toList_toArray, List.cons_append, List.nil_append, List.append_nil, true_and, and_true, Nat.zero_add, Nat.add_zero, Bool.not_true, Bool.not_false, if_true, if_false, reduceCtorEq, List.set_cons_zero, List.set_cons_succ])
            have := hK H4 _ ⟨fv3, fm4, hf4, rfl⟩ (hh.to (by ac_rfl))
            rw [hsome]
            cases hfx : fnd x z.L <;> rw [hfx] at this <;> exact this
        · intro J hJ
          have hz2' := hz2
          obtain ⟨fv2, fm2, hf2, rfl⟩ := hz2
          (try simp only [xl, xo, Bool.not_eq_true', decide_eq_false_iff_not, ite_not, List.size_toArray, List.length_cons, List.length_nil, Nat.reduceAdd, qt, decide_eq_true_eq, Int.toNat_zero, Int.toNat_natCast, Nat.zero_mul, Nat.mul_one, Nat.one_mul, List.toList_toArray, List.cons_append, List.nil_append, List.append_nil, true_and, and_true, Nat.zero_add, Nat.add_zero, Bool.not_true, Bool.not_false, if_true, if_false, reduceCtorEq, List.set_cons_zero, List.set_cons_succ])
          refine h_load (b := s) hh rfl ?_
          refine zset_Len_h hz2' okr hh fun H4 hh => ⟨h_loadIs (b := s) hh rfl, ?_⟩
          (try simp only [xl, xo, Bool.not_eq_true', decide_eq_false_iff_not, ite_not, List.size_toArray, List.length_cons, List.length_nil, Nat.reduceAdd, qt, decide_eq_true_eq, Int.toNat_zero, Int.toNat_natCast, Nat.zero_mul, Nat.mul_one, Nat.one_mul, List.toList_toArray, List.cons_append, List.nil_append, List.append_nil, true_and, and_true, Nat.zero_add, Nat.add_zero, Bool.not_true, Bool.not_false, if_true, if_false, reduceCtorEq, List.set_cons_zero, List.set_cons_succ])
          rw [w64 (n := ((rem x z.L).length : Int) + 1) (by omega)]
          by_cases h1 : z.le < ((rem x z.L).length : Int) + 1
          · rw [if_pos h1]
            have ei : zAddI z x = true := by unfold zAddI; simp [h1]
            refine zset_lists_h hz2' okr hh fun H5 zm3 hz3 hh => hJ H5 ⟨zm3, ?_, hh⟩
            rw [ei]; exact hz3
          · rw [if_neg h1]
            refine h_load (b := s) hh rfl ?_
            (try simp only [xl, xo, Bool.not_eq_true', decide_eq_false_iff_not, ite_not, List.size_toArray, List.length_cons, List.length_nil, Nat.reduceAdd, qt, decide_eq_true_eq, Int.toNat_zero, Int.toNat_natCast, Nat.zero_mul, Nat.mul_one, Nat.one_mul, List.toList_toArray, List.cons_append, List.nil_append, List.append_nil, true_and, and_true, Nat.zero_add, Nat.add_zero, Bool.not_true, Bool.not_false, if_true, if_false, reduceCtorEq, List.set_cons_zero, List.set_cons_succ])
            by_cases h2 : z.lm < (x.size : Int)
            · rw [if_pos h2]
              have ei : zAddI z x = true := by unfold zAddI; simp [h2]
              refine zset_lists_h hz2' okr hh fun H5 zm3 hz3 hh => hJ H5 ⟨zm3, ?_, hh⟩
              rw [ei]; exact hz3
            · rw [if_neg h2]
              have ei : zAddI z x = z.il := by unfold zAddI; simp [h1, h2]
              refine hJ H4 ⟨_, ?_, hh⟩
              rw [ei]; exact hz2'
      · intro J hJ
        rw [hsome]
        cases hfx : fnd x z.L with
        | none =>
          (try simp only [xl, xo, Bool.not_eq_true', decide_eq_false_iff_not, ite_not, List.size_toArray, List.length_cons, List.length_nil, Nat.reduceAdd, qt, decide_eq_true_eq, Int.toNat_zero, Int.toNat_natCast, Nat.zero_mul, Nat.mul_one, Nat.one_mul, List.toList_toArray, List.cons_append, List.nil_append, List.append_nil, true_and, and_true, Nat.zero_add, Nat.add_zero, Bool.not_true, Bool.not_false, if_true, if_false, reduceCtorEq, List.set_cons_zero, List.set_cons_succ])
          refine hJ Q ⟨_, ?_, hh⟩
          have e : rem x z.L = z.L := by simp [rem, hfx]
          rw [e]
          exact hz1
        | some i =>
          obtain ⟨sc0, h1, h2⟩ := sco_fnd hfx
          have e : rem x z.L = delAt z.L i := by simp [rem, hfx]
          rw [h2]
          (try simp only [xl, xo, Bool.not_eq_true', decide_eq_false_iff_not, ite_not, List.size_toArray, List.length_cons, List.length_nil, Nat.reduceAdd, qt, decide_eq_true_eq, Int.toNat_zero, Int.toNat_natCast, Nat.zero_mul, Nat.mul_one, Nat.one_mul, List.toList_toArray, List.cons_append, List.nil_append, List.append_nil, true_and, and_true, Nat.zero_add, Nat.add_zero, Bool.not_true, Bool.not_false, if_true, if_false, reduceCtorEq, List.set_cons_zero, List.set_cons_succ])
          refine h_load (b := s) hh rfl ?_
          refine form_drop (e := (x, sc0)) (m := cell s [fv, .int .i64 z.le, .int .i64 z.lm, .int .u32 z.seed] + m) hf1 ok.ok h1 (hh.to (by ac_rfl)) fun H4 fm4 hf4 hh => ?_
          refine hJ H4 ⟨cell s [fv, .int .i64 z.le, .int .i64 z.lm, .int .u32 z.seed] + fm4, ?_, hh.to (by ac_rfl)⟩
          rw [e]
          exact ⟨fv, fm4, hf4, rfl⟩
    · intro J hJ
      rw [hsome]
      cases hfx : fnd x z.L with
      | some i =>
        (try simp only [xl, xo, Bool.not_eq_true', decide_eq_false_iff_not, ite_not, List.size_toArray, List.length_cons, List.length_nil, Nat.reduceAdd, qt, decide_eq_true_eq, Int.toNat_zero, Int.toNat_natCast, Nat.zero_mul, Nat.mul_one, Nat.one_mul, List.toList_toArray, List.cons_append, List.nil_append, List.append_nil, true_and, and_true, Nat.zero_add, Nat.add_zero, Bool.not_true, Bool.not_false, if_true, if_false, reduceCtorEq, List.set_cons_zero, List.set_cons_succ])
        exact hJ H1 ⟨by rw [hfx]; simp, hh⟩
      | none =>
        simp only [Option.isSome_none]
        (try simp only [xl, xo, Bool.not_eq_true', decide_eq_false_iff_not, ite_not, List.size_toArray, List.length_cons, List.length_nil, Nat.reduceAdd, qt, decide_eq_true_eq, Int.toNat_zero, Int.toNat_natCast, Nat.zero_mul, Nat.mul_one, Nat.one_mul, List.toList_toArray, List.cons_append, List.nil_append, List.append_nil, true_and, and_true, Nat.zero_add, Nat.add_zero, Bool.not_true, Bool.not_false, if_true, if_false, reduceCtorEq, List.set_cons_zero, List.set_cons_succ])
        refine zset_Len_h hz1 ok hh fun H4 hh => ?_
        (try simp only [xl, xo, Bool.not_eq_true', decide_eq_false_iff_not, ite_not, List.size_toArray, List.length_cons, List.length_nil, Nat.reduceAdd, qt, decide_eq_true_eq, Int.toNat_zero, Int.toNat_natCast, Nat.zero_mul, Nat.mul_one, Nat.one_mul, List.toList_toArray, List.cons_append, List.nil_append, List.append_nil, true_and, and_true, Nat.zero_add, Nat.add_zero, Bool.not_true, Bool.not_false, if_true, if_false, reduceCtorEq, List.set_cons_zero, List.set_cons_succ])
        by_cases hfull : z.L.length = 400
        · rw [if_pos (by omega)]
          have ez : zAdd z x sc lv = (false, 51, z) := by unfold zAdd; rw [if_neg hbad, if_pos ⟨by rw [hfx]; rfl, hfull⟩]
          rw [ez] at hK
          exact hK H4 _ hz1 hh
        · rw [if_neg (by omega)]
          exact hJ H4 ⟨by simp [hfull], hh⟩
end
end Go.X.W
