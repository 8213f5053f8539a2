/- Contracts: packs: entry. Contracts: packs: count, spots, all, Right, Entries. Contracts: packs: Right, Entries, spotAt, Get, Find. Contracts: packs: Find. Contracts: packs: changed, Insert, Delete; slices.Concat. Contracts: packs: changed, Insert, Delete. Contracts: sets: sort.Search, slices.Clone, the packed form. -/
import Derived.Test.YtochkahbnhegaaaGreatZS14
set_option linter.unusedVariables false
set_option linter.unusedSimpArgs false
namespace Go.X.W
open Go Go.X Go.Proofs

variable {H : Heap} {m : Mem} {K : Value → Heap → Prop}

theorem h_storeRow {b o : Nat} {vs cs : List Value} {r : Mem} {K : Heap → Prop} [p : PickC b m cs r] (hh : Has H m) (hv : ∀ v ∈ vs, v.oneCell = true) (hl : o + vs.length ≤ cs.length)
    (hk : ∀ H', Has H' (cell b (spliceL cs o vs) + r) → K H') : storeAll ⟨b, o, none⟩ vs 0 H K :=
  storeAll_frm (hh.blk (b := b)) hv hl fun H' f hb => hk H' (Has.set (c := .cells cs) (p.eq ▸ hh) f hb)

theorem sc_shift {s : Int} {i : Nat} (h : i < 8) : IntKind.u8.wrap ((scN s : Int).fdiv (2 ^ (min ((8 * ((7 : Int) - i)).toNat) 64))) = ((scB s i).toNat : Int) := by
  have e : (8 * ((7 : Int) - i)).toNat = 8 * (7 - i) := by omega
  rw [e, Nat.min_eq_left (by omega)]
  unfold scB
  rw [← wu8n, Int.fdiv_eq_ediv_of_nonneg _ (Int.le_of_lt (Int.pow_pos (by omega)))]
  congr 1
  rw [show (256 : Nat) = 2 ^ 8 by rfl, ← Nat.pow_mul]
  simp

theorem byV_oc (l : List UInt8) : ∀ v ∈ l.map byV, v.oneCell = true := by
  intro v hv
  obtain ⟨b, _, rfl⟩ := List.mem_map.1 hv
  rfl

theorem zeros_rep (z : Value) (n : Nat) : zerosN #[z] n = List.replicate n z := by
  unfold zerosN
  induction n with
  | zero => rfl
  | succ n ih => rw [List.replicate_succ, List.flatten_cons, ih, List.replicate_succ]; rfl
theorem set_mid {α : Type} (a : List α) (x v : α) (b : List α) {n : Nat} (h : a.length = n) : (a ++ x :: b).set n v = a ++ v :: b := by
  subst h
  rw [List.set_append_right _ _ (Nat.le_refl _), Nat.sub_self, List.set_cons_zero]

theorem pack_entry_h {e : Ent} (hh : Has H m) (he : EOk e) (hK : ∀ b H', Has H' (cell b ((encL e).map byV) + m) → K (.slice (some ⟨b, 0, none⟩) (10 + e.1.size) (10 + e.1.size)) H') : CallH P f_pack_entry [entV e] H K := by
  apply k_pack_entry
  unfold c_pack_entry
  obtain ⟨h64, hsc⟩ := he
  have hml : e.1.data.toList.length = e.1.size := rfl
  rw [x_boxN]
  refine h_allocA hh fun eb H1 hh => ?_
  (repeat (first | (refine h_load hh (by rfl) ?_) | (simp only [xl, xo, Bool.not_eq_true', decide_eq_false_iff_not, ite_not, List.size_toArray, List.length_cons, List.length_nil, Nat.reduceAdd, qt, decide_eq_true_eq, Int.toNat_zero, Int.toNat_natCast, Nat.zero_mul, Nat.mul_one, Nat.one_mul, List.toList_toArray, List.cons_append, List.nil_append, List.append_nil, true_and, and_true, Nat.zero_add, Nat.add_zero, Bool.not_true, Bool.not_false, if_true, if_false, reduceCtorEq, List.set_cons_zero, List.set_cons_succ])))
  rw [w64 (n := 9 + (e.1.size : Int)) (by omega), w64 (n := 9 + (e.1.size : Int) + 1) (by omega)]
  refine h_make hh ze_uint8 by_uint8 ⟨by omega, by omega, by omega, by omega⟩ fun nb H2 hh => ?_
  have e1 : (9 + (e.1.size : Int) + 1).toNat = 10 + e.1.size := by omega
  rw [e1, zeros_rep] at hh
  rw [e1]
  (try simp only [xl, xo, Bool.not_eq_true', decide_eq_false_iff_not, ite_not, List.size_toArray, List.length_cons, List.length_nil, Nat.reduceAdd, qt, decide_eq_true_eq, Int.toNat_zero, Int.toNat_natCast, Nat.zero_mul, Nat.mul_one, Nat.one_mul, List.toList_toArray, List.cons_append, List.nil_append, List.append_nil, true_and, and_true, Nat.zero_add, Nat.add_zero, Bool.not_true, Bool.not_false, if_true, if_false, reduceCtorEq, List.set_cons_zero, List.set_cons_succ])
  refine ⟨by omega, ?_⟩
  refine h_store (b := nb) hh rfl (by rw [List.length_replicate]; omega) fun H3 hh => ?_
  refine ⟨10 + e.1.size, 10 + e.1.size, 1, rfl, by simp, rfl, ⟨by omega, rfl⟩, ?_⟩
  rw [if_neg (by omega)]
  simp only [Option.map_some, addr_add]
  (repeat (first | (refine h_load hh (by rfl) ?_) | (simp only [xl, xo, Bool.not_eq_true', decide_eq_false_iff_not, ite_not, List.size_toArray, List.length_cons, List.length_nil, Nat.reduceAdd, qt, decide_eq_true_eq, Int.toNat_zero, Int.toNat_natCast, Nat.zero_mul, Nat.mul_one, Nat.one_mul, List.toList_toArray, List.cons_append, List.nil_append, List.append_nil, true_and, and_true, Nat.zero_add, Nat.add_zero, Bool.not_true, Bool.not_false, if_true, if_false, reduceCtorEq, List.set_cons_zero, List.set_cons_succ])))
  refine ⟨e.1.data.toList.map byV, ?_, ?_⟩
  · rw [sz_uint8]
    simp only [readCells, lenV]
    rw [show Nat.min e.1.size (10 + e.1.size - 1) = e.1.size from Nat.min_eq_left (by omega)]
    simp
  simp only [StoreRowP, addr_add, Nat.add_zero]
  refine h_storeRow (b := nb) hh (byV_oc _) (by simp <;> omega) fun H4 hh => ?_
  have hcells : spliceL ((List.replicate (10 + e.1.size) (Value.int .u8 0)).set 0 (.int .u8 (IntKind.u8.wrap (e.1.size : Int)))) 1 (e.1.data.toList.map byV) = byV (UInt8.ofNat e.1.size) :: (e.1.data.toList.map byV ++ List.replicate 9 (.int .u8 0)) := by
    rw [show 10 + e.1.size = (9 + e.1.size) + 1 by omega, List.replicate_succ, List.set_cons_zero]
    have := splice_mid (e.1.data.toList.map byV) [Value.int .u8 (IntKind.u8.wrap (e.1.size : Int))] (List.replicate (9 + e.1.size) (.int .u8 0)) (by simp <;> omega)
    simp only [List.cons_append, List.nil_append, List.length_cons, List.length_nil, Nat.zero_add] at this
    rw [this, wu8n, List.drop_replicate, List.length_map, hml, show 9 + e.1.size - e.1.size = 9 by omega]
  rw [hcells] at hh
  refine loop_i (fun k s G => ∃ i : Nat, i + k = 8 ∧ s = (.int .i64 i, []) ∧ Has G (cell nb ((byV (UInt8.ofNat e.1.size) :: (e.1.data.toList.map byV ++ ((scL e.2).take i).map byV)) ++ List.replicate (9 - i) (.int .u8 0)) + (cell eb (entC e) + m))) 8
    ⟨0, by omega, rfl, hh.to (by simp)⟩ ?_
  clear hh hcells
  rintro k _ g G ⟨i, hik, rfl, hh⟩
  have hpl : ∀ i, i ≤ 8 → (byV (UInt8.ofNat e.1.size) :: (e.1.data.toList.map byV ++ ((scL e.2).take i).map byV)).length = 1 + e.1.size + i := fun i hi => by
    simp only [List.length_cons, List.length_append, List.length_map, hml, List.length_take]
    rw [Nat.min_eq_left (show i ≤ (scL e.2).length from hi)]
    omega
  (try simp only [xl, xo, Bool.not_eq_true', decide_eq_false_iff_not, ite_not, List.size_toArray, List.length_cons, List.length_nil, Nat.reduceAdd, qt, decide_eq_true_eq, Int.toNat_zero, Int.toNat_natCast, Nat.zero_mul, Nat.mul_one, Nat.one_mul, List.toList_toArray, List.cons_append, List.nil_append, List.append_nil, true_and, and_true, Nat.zero_add, Nat.add_zero, Bool.not_true, Bool.not_false, if_true, if_false, reduceCtorEq, List.set_cons_zero, List.set_cons_succ])
  by_cases hi : i < 8
  · rw [if_pos (by omega)]
    refine h_load (b := eb) hh rfl ?_
    (try simp only [xl, xo, Bool.not_eq_true', decide_eq_false_iff_not, ite_not, List.size_toArray, List.length_cons, List.length_nil, Nat.reduceAdd, qt, decide_eq_true_eq, Int.toNat_zero, Int.toNat_natCast, Nat.zero_mul, Nat.mul_one, Nat.one_mul, List.toList_toArray, List.cons_append, List.nil_append, List.append_nil, true_and, and_true, Nat.zero_add, Nat.add_zero, Bool.not_true, Bool.not_false, if_true, if_false, reduceCtorEq, List.set_cons_zero, List.set_cons_succ])
    rw [w64 (n := 1 + (e.1.size : Int)) (by omega), w64 (n := 1 + (e.1.size : Int) + i) (by omega), w64 (n := 7 - (i : Int)) (by omega), w64 (n := 8 * (7 - (i : Int))) (by omega), scN_to]
    have hsh := sc_shift (s := e.2) hi
    refine ⟨by omega, ⟨by omega, by omega⟩, ?_⟩
    rw [show IntKind.u64.bits = 64 from rfl, hsh]
    have e2 : (1 + (e.1.size : Int) + i).toNat = 1 + e.1.size + i := by omega
    rw [e2]
    refine h_store (b := nb) hh rfl (by rw [List.length_append, hpl i (by omega)]; simp; omega) fun G2 hh => ?_
    rw [show 9 - i = (8 - i) + 1 by omega, List.replicate_succ, set_mid _ _ _ _ (hpl i (by omega))] at hh
    rw [w64 (n := (i : Int) + 1) (by omega)]
    refine ⟨k - 1, by omega, i + 1, by omega, rfl, hh.to ?_⟩
    rw [List.take_add_one, scL_get hi, show 9 - (i + 1) = 8 - i by omega]
    simp
  · rw [if_neg (by omega)]
    have : i = 8 := by omega
    subst this
    rw [w64 (n := ((10 + e.1.size : Nat) : Int) - 1) (by omega)]
    have e3 : (((10 + e.1.size : Nat) : Int) - 1).toNat = 1 + e.1.size + 8 := by omega
    rw [e3]
    refine ⟨by omega, ?_⟩
    refine h_store (b := nb) hh rfl (by rw [List.length_append, hpl 8 (by omega)]; simp) fun G2 hh => ?_
    rw [show 9 - 8 = 0 + 1 by rfl, List.replicate_succ, set_mid _ _ _ _ (hpl 8 (by omega)), show 9 + (e.1.size : Int) = ((9 + e.1.size : Nat) : Int) by omega, wu8n] at hh
    refine hK nb G2 ((hh.to ?_).left (b := cell eb (entC e)))
    rw [List.take_of_length_le (show (scL e.2).length ≤ 8 from Nat.le_refl _)]
    have : (byV (UInt8.ofNat e.1.size) :: (e.1.data.toList.map byV ++ (scL e.2).map byV)) ++ byV (UInt8.ofNat (9 + e.1.size)) :: List.replicate 0 (.int .u8 0) = (encL e).map byV := by
      simp [encL]
    rw [this]
    ac_rfl
end Go.X.W
set_option linter.unusedVariables false
set_option linter.unusedSimpArgs false
namespace Go.X.W
open Go Go.X Go.Proofs

variable {H : Heap} {m : Mem} {K : Value → Heap → Prop}

def offN (l : List Ent) (j : Nat) : Nat := 2 + (bodyL (l.take j)).length
theorem off_drop {l : List Ent} {j : Nat} : (packL l).drop (offN l j) = bodyL (l.drop j) := by
  have h : bodyL l = bodyL (l.take j) ++ bodyL (l.drop j) := by rw [← bodyL_append, List.take_append_drop]
  unfold packL offN
  rw [List.drop_append, show (headL l.length).length = 2 from rfl, List.drop_eq_nil_of_le (by rw [show (headL l.length).length = 2 from rfl]; omega), List.nil_append, h, Nat.add_sub_cancel_left, List.drop_left]
theorem off_succ {l : List Ent} {j : Nat} {e : Ent} (h : l[j]? = some e) : offN l (j + 1) = offN l j + (10 + e.1.size) := by
  unfold offN
  rw [List.take_add_one, h, Option.toList_some, bodyL_append, List.length_append, bodyL_cons, List.length_append, encL_len]
  simp [bodyL]
  omega
theorem off_end {l : List Ent} {j : Nat} (h : l.length ≤ j) : offN l j = (packL l).length := by
  unfold offN
  rw [List.take_of_length_le h, packL_len]
theorem drop_cons {l : List Ent} {j : Nat} {e : Ent} (h : l[j]? = some e) : l.drop j = e :: l.drop (j + 1) := by
  have hj := (List.getElem?_eq_some_iff.1 h).1
  rw [List.drop_eq_getElem_cons hj, (List.getElem?_eq_some_iff.1 h).2]
theorem pack_big {l : List Ent} (h : POk l) : (packL l).length < 20000 := by
  rw [packL_len]
  have := body_le h.1
  have := h.2
  omega

theorem pack_count_h {l : List Ent} (ok : POk l) (hK : K (.int .i64 l.length) H) : CallH P f_pack_count [.string (packS l)] H K := by
  apply k_pack_count
  unfold c_pack_count packS
  have h200 := ok.2
  (try simp only [xl, xo, Bool.not_eq_true', decide_eq_false_iff_not, ite_not, List.size_toArray, List.length_cons, List.length_nil, Nat.reduceAdd, qt, decide_eq_true_eq, Int.toNat_zero, Int.toNat_natCast, Nat.zero_mul, Nat.mul_one, Nat.one_mul, List.toList_toArray, List.cons_append, List.nil_append, List.append_nil, true_and, and_true, Nat.zero_add, Nat.add_zero, Bool.not_true, Bool.not_false, if_true, if_false, reduceCtorEq, List.set_cons_zero, List.set_cons_succ])
  rw [baL_size, packL_len, if_neg (by omega)]
  have g0 : (baL (packL l))[((0 : Int)).toNat]? = some (UInt8.ofNat (l.length / 256)) := by rw [baL_get]; rfl
  have g1 : (baL (packL l))[((1 : Int)).toNat]? = some (UInt8.ofNat l.length) := by rw [baL_get]; rfl
  refine ⟨by omega, _, g0, ?_⟩
  have e0 : ((UInt8.ofNat (l.length / 256)).toNat : Int) = 0 := by
    have : l.length / 256 = 0 := by omega
    rw [this]; rfl
  have e1 : ((UInt8.ofNat l.length).toNat : Int) = l.length := by simp; omega
  rw [e0]
  (try simp only [xl, xo, Bool.not_eq_true', decide_eq_false_iff_not, ite_not, List.size_toArray, List.length_cons, List.length_nil, Nat.reduceAdd, qt, decide_eq_true_eq, Int.toNat_zero, Int.toNat_natCast, Nat.zero_mul, Nat.mul_one, Nat.one_mul, List.toList_toArray, List.cons_append, List.nil_append, List.append_nil, true_and, and_true, Nat.zero_add, Nat.add_zero, Bool.not_true, Bool.not_false, if_true, if_false, reduceCtorEq, List.set_cons_zero, List.set_cons_succ])
  refine ⟨by omega, by omega, _, g1, ?_⟩
  rw [e1]
  (try simp only [xl, xo, Bool.not_eq_true', decide_eq_false_iff_not, ite_not, List.size_toArray, List.length_cons, List.length_nil, Nat.reduceAdd, qt, decide_eq_true_eq, Int.toNat_zero, Int.toNat_natCast, Nat.zero_mul, Nat.mul_one, Nat.one_mul, List.toList_toArray, List.cons_append, List.nil_append, List.append_nil, true_and, and_true, Nat.zero_add, Nat.add_zero, Bool.not_true, Bool.not_false, if_true, if_false, reduceCtorEq, List.set_cons_zero, List.set_cons_succ])
  rw [w64 (n := (0 : Int)) (by omega), w64 (n := (l.length : Int)) (by omega), Int.zero_mul, w64 (n := (0 : Int)) (by omega)]
  have e2 : IntKind.i64.wrap ((BitVec.ofInt IntKind.i64.bits 0 ||| BitVec.ofInt IntKind.i64.bits (l.length : Int)).toNat : Nat) = (l.length : Int) := by
    rw [show IntKind.i64.bits = 64 from rfl, BitVec.ofInt_natCast, show BitVec.ofInt 64 0 = 0#64 from rfl, BitVec.zero_or, BitVec.toNat_ofNat, Nat.mod_eq_of_lt (by omega), w64 (by omega)]
  rw [e2, if_pos (by omega)]
  exact hK

abbrev spotV (e : Ent) (f t : Nat) : Value := .agg #[.string e.1, .int .i64 e.2, .int .i64 f, .int .i64 t]
abbrev spotE (e : Ent) (f t : Nat) : List Value := [.string e.1, .int .i64 e.2, .int .i64 f, .int .i64 t]
def spotsC : Nat → List Ent → List Value
  | _, [] => []
  | o, e :: l => spotE e o (o + (10 + e.1.size)) ++ spotsC (o + (10 + e.1.size)) l
theorem spotsC_append : ∀ (A B : List Ent) (o : Nat), spotsC o (A ++ B) = spotsC o A ++ spotsC (o + (bodyL A).length) B
  | [], B, o => by simp [spotsC, bodyL]
  | e :: A, B, o => by
    rw [List.cons_append, spotsC, spotsC, spotsC_append A B, bodyL_cons, List.length_append, encL_len, List.append_assoc, Nat.add_assoc o]
theorem spotsC_len : ∀ (l : List Ent) (o : Nat), (spotsC o l).length = l.length * 4
  | [], _ => rfl
  | e :: l, o => by rw [spotsC, List.length_append, spotsC_len l]; simp; omega
theorem spotsC_get : ∀ {l : List Ent} {i : Nat} {e : Ent} (o : Nat), l[i]? = some e → ((spotsC o l).drop (i * 4)).take 4 = spotE e (o + (bodyL (l.take i)).length) (o + (bodyL (l.take i)).length + (10 + e.1.size))
  | [], i, e, o, h => by simp at h
  | x :: l, 0, e, o, h => by
    simp only [List.getElem?_cons_zero, Option.some.injEq] at h
    subst h
    simp [spotsC, bodyL]
  | x :: l, i + 1, e, o, h => by
    simp only [List.getElem?_cons_succ] at h
    rw [spotsC, Nat.add_mul, Nat.one_mul, Nat.add_comm (i * 4) 4, ← List.drop_drop, show (spotE x o (o + (10 + x.1.size)) ++ spotsC (o + (10 + x.1.size)) l).drop 4 = spotsC (o + (10 + x.1.size)) l from rfl, spotsC_get _ h, List.take_succ_cons, bodyL_cons, List.length_append, encL_len]
    simp only [Nat.add_assoc]

theorem own_slice {sz : Nat} {v : Value} {cs : List Value} {sl : Mem} (h : SlOwn sz v cs sl) : ∃ a c, v = .slice a (lenV v) c := by
  rcases h with ⟨rfl, _, _⟩ | ⟨b, len, cap, rest, rfl, _⟩
  · exact ⟨none, 0, rfl⟩
  · exact ⟨_, _, rfl⟩
theorem own_oc {sz : Nat} {v : Value} {cs : List Value} {sl : Mem} (h : SlOwn sz v cs sl) : v.oneCell = true := by
  rcases h with ⟨rfl, _⟩ | ⟨_, _, _, _, rfl, _⟩ <;> rfl
theorem own_len {sz : Nat} {v : Value} {cs : List Value} {sl : Mem} (h : SlOwn sz v cs sl) {K : Value → Prop} (hK : K (.int .i64 (lenV v))) : LenP v K := by
  obtain ⟨a, c, e⟩ := own_slice h
  rw [e] at hK ⊢
  exact hK

theorem pack_spots_i {l xb : Nat} {L : List Ent} (ok : POk L) (Inv : Nat → Heap → Prop) (Stop : Heap → Prop)
    (hI : ∀ j G, Inv j G → ∃ m', Has G (cell xb [.string (packS L)] + m') ∧ ∀ G', Has G' (cell xb [.string (packS L)] + m') → Inv j G')
    (hY : ∀ j e G, L[j]? = some e → Inv j G → YieldH P l [spotV e (offN L j) (offN L (j + 1))] G fun v G' => (v = .bool true ∧ Inv (j + 1) G') ∨ (v = .bool false ∧ Stop G'))
    (h0 : Inv 0 H) (hK : ∀ G, Inv L.length G → K (.tuple #[]) G) (hS : ∀ G, Stop G → K (.tuple #[]) G) :
    CallH P f_pack_spots_1 [.func (.yield l) #[] #[], ptrV xb] H K := by
  apply k_pack_spots_1
  unfold c_pack_spots_1
  have hbig := pack_big ok
  refine loop_i (fun k s G => ∃ j, j + k = L.length ∧ s = (.int .i64 (offN L j), []) ∧ Inv j G) L.length ⟨0, by omega, rfl, h0⟩ ?_
  rintro k _ g G ⟨j, hjk, rfl, hi⟩
  obtain ⟨m', hh, hst⟩ := hI j G hi
  refine h_load (b := xb) hh rfl ?_
  cases hg : L[j]? with
  | none =>
    have hj : j = L.length := by have := List.getElem?_eq_none_iff.1 hg; omega
    subst hj
    rw [packS]
    refine pack_read_end hh (by rw [off_end (Nat.le_refl _)]; exact Nat.le_refl _) fun G2 hh => ?_
    (try simp only [xl, xo, Bool.not_eq_true', decide_eq_false_iff_not, ite_not, List.size_toArray, List.length_cons, List.length_nil, Nat.reduceAdd, qt, decide_eq_true_eq, Int.toNat_zero, Int.toNat_natCast, Nat.zero_mul, Nat.mul_one, Nat.one_mul, List.toList_toArray, List.cons_append, List.nil_append, List.append_nil, true_and, and_true, Nat.zero_add, Nat.add_zero, Bool.not_true, Bool.not_false, if_true, if_false, reduceCtorEq, List.set_cons_zero, List.set_cons_succ])
    refine h_alloc hh fun eb G3 hh => ?_
    refine h_store2 hh rfl rfl (by simp) fun G4 hh => ?_
    exact hK G4 (hst G4 hh.right)
  | some e =>
    have hd : (packL L).drop (offN L j) = encL e ++ bodyL (L.drop (j + 1)) := by rw [off_drop, drop_cons hg, bodyL_cons]
    have he := ok.1 e (List.mem_of_getElem? hg)
    have hl := at_len hd (by simp [encL])
    rw [List.length_append, encL_len] at hl
    rw [packS]
    refine pack_read_h hh hd he (by omega) fun G2 hh => ?_
    (try simp only [xl, xo, Bool.not_eq_true', decide_eq_false_iff_not, ite_not, List.size_toArray, List.length_cons, List.length_nil, Nat.reduceAdd, qt, decide_eq_true_eq, Int.toNat_zero, Int.toNat_natCast, Nat.zero_mul, Nat.mul_one, Nat.one_mul, List.toList_toArray, List.cons_append, List.nil_append, List.append_nil, true_and, and_true, Nat.zero_add, Nat.add_zero, Bool.not_true, Bool.not_false, if_true, if_false, reduceCtorEq, List.set_cons_zero, List.set_cons_succ])
    refine h_alloc hh fun eb G3 hh => ?_
    refine h_store2 hh rfl rfl (by simp) fun G4 hh => ?_
    rw [if_neg (by omega)]
    refine h_load2 hh rfl rfl ?_
    rw [w64 (by omega)]
    (try simp only [xl, xo, Bool.not_eq_true', decide_eq_false_iff_not, ite_not, List.size_toArray, List.length_cons, List.length_nil, Nat.reduceAdd, qt, decide_eq_true_eq, Int.toNat_zero, Int.toNat_natCast, Nat.zero_mul, Nat.mul_one, Nat.one_mul, List.toList_toArray, List.cons_append, List.nil_append, List.append_nil, true_and, and_true, Nat.zero_add, Nat.add_zero, Bool.not_true, Bool.not_false, if_true, if_false, reduceCtorEq, List.set_cons_zero, List.set_cons_succ])
    have hjj := hY j e G4 hg (hst G4 hh.right)
    rw [off_succ hg] at hjj
    rw [show (offN L j : Int) + ((10 + e.1.size : Nat) : Int) = ((offN L j + (10 + e.1.size) : Nat) : Int) by omega]
    refine YieldH.mono hjj ?_
    rintro v G5 (⟨rfl, h5⟩ | ⟨rfl, h5⟩)
    · (try simp only [xl, xo, Bool.not_eq_true', decide_eq_false_iff_not, ite_not, List.size_toArray, List.length_cons, List.length_nil, Nat.reduceAdd, qt, decide_eq_true_eq, Int.toNat_zero, Int.toNat_natCast, Nat.zero_mul, Nat.mul_one, Nat.one_mul, List.toList_toArray, List.cons_append, List.nil_append, List.append_nil, true_and, and_true, Nat.zero_add, Nat.add_zero, Bool.not_true, Bool.not_false, if_true, if_false, reduceCtorEq, List.set_cons_zero, List.set_cons_succ])
      refine ⟨k - 1, by have := (List.getElem?_eq_some_iff.1 hg).1; omega, j + 1, by have := (List.getElem?_eq_some_iff.1 hg).1; omega, ?_, h5⟩
      rw [off_succ hg]
    · (try simp only [xl, xo, Bool.not_eq_true', decide_eq_false_iff_not, ite_not, List.size_toArray, List.length_cons, List.length_nil, Nat.reduceAdd, qt, decide_eq_true_eq, Int.toNat_zero, Int.toNat_natCast, Nat.zero_mul, Nat.mul_one, Nat.one_mul, List.toList_toArray, List.cons_append, List.nil_append, List.append_nil, true_and, and_true, Nat.zero_add, Nat.add_zero, Bool.not_true, Bool.not_false, if_true, if_false, reduceCtorEq, List.set_cons_zero, List.set_cons_succ])
      exact hS G5 h5

theorem pack_all_h {L : List Ent} (ok : POk L) (hh : Has H m) (hK : ∀ H' v sl, SlOwn 4 v (spotsC 2 L) sl → lenV v = L.length → Has H' (sl + m) → K (.tuple #[v, .int .i64 0]) H') :
    CallH P f_pack_all [.string (packS L)] H K := by
  apply k_pack_all
  unfold c_pack_all
  have hbig := pack_big ok
  have h200 := ok.2
  refine h_alloc hh fun ob H1 hh => ?_
  refine h_alloc hh fun nb H2 hh => ?_
  refine h_store hh (by rfl) (by simp) fun H3 hh => ?_; (try simp only [List.set_cons_zero, List.set_cons_succ] at hh)
  apply k_pack_spots
  unfold c_pack_spots
  (try simp only [xl, xo, Bool.not_eq_true', decide_eq_false_iff_not, ite_not, List.size_toArray, List.length_cons, List.length_nil, Nat.reduceAdd, qt, decide_eq_true_eq, Int.toNat_zero, Int.toNat_natCast, Nat.zero_mul, Nat.mul_one, Nat.one_mul, List.toList_toArray, List.cons_append, List.nil_append, List.append_nil, true_and, and_true, Nat.zero_add, Nat.add_zero, Bool.not_true, Bool.not_false, if_true, if_false, reduceCtorEq, List.set_cons_zero, List.set_cons_succ])
  refine h_alloc hh fun xb H4 hh => ?_
  refine h_range hh fun D l Lp G hh hst hpd hY => ?_
  (try simp only [xl, xo, Bool.not_eq_true', decide_eq_false_iff_not, ite_not, List.size_toArray, List.length_cons, List.length_nil, Nat.reduceAdd, qt, decide_eq_true_eq, Int.toNat_zero, Int.toNat_natCast, Nat.zero_mul, Nat.mul_one, Nat.one_mul, List.toList_toArray, List.cons_append, List.nil_append, List.append_nil, true_and, and_true, Nat.zero_add, Nat.add_zero, Bool.not_true, Bool.not_false, if_true, if_false, reduceCtorEq, List.set_cons_zero, List.set_cons_succ])
  refine pack_spots_i (l := l) (xb := xb) (L := L) ok (fun j Q => ∃ v sl m', SlOwn 4 v (spotsC 2 (L.take j)) sl ∧ lenV v = j ∧ j ≤ L.length ∧
      Has Q (cell xb [.string (packS L)] + (sl + (cell ob [v] + (cell nb [.int .i64 (offN L j)] + (objM l (.loop Lp) + (objM D (.deferred (some [])) + (m + m')))))))) (fun _ => False) ?_ ?_ ?_ ?_ (fun _ h => h.elim)
  · rintro j Q ⟨v, sl, m', h1, h2, h3, hh⟩
    exact ⟨_, hh, fun G' hh => ⟨v, sl, m', h1, h2, h3, hh⟩⟩
  · rintro j e Q hg ⟨v, sl, m', h1, h2, h3, hh⟩
    have hj := (List.getElem?_eq_some_iff.1 hg).1
    refine hY (spotV e (offN L j) (offN L (j + 1))) Q _ hh.obj ?_
    refine h_alloc hh fun eb Q1 hh => ?_
    refine h_storeN hh rfl (by simp [Value.oneCell]) (by simp) fun Q2 hh => ?_
    refine h_begin hh hst fun Q3 hh => ?_
    refine h_load hh rfl ?_
    refine h_loadN (b := eb) hh (by simp [spliceL]) ?_
    (try simp only [xl, xo, Bool.not_eq_true', decide_eq_false_iff_not, ite_not, List.size_toArray, List.length_cons, List.length_nil, Nat.reduceAdd, qt, decide_eq_true_eq, Int.toNat_zero, Int.toNat_natCast, Nat.zero_mul, Nat.mul_one, Nat.one_mul, List.toList_toArray, List.cons_append, List.nil_append, List.append_nil, true_and, and_true, Nat.zero_add, Nat.add_zero, Bool.not_true, Bool.not_false, if_true, if_false, reduceCtorEq, List.set_cons_zero, List.set_cons_succ])
    refine ⟨by simp [spliceL], ?_⟩
    refine h_buildSl hh fun tb Q4 hh => ?_
    have hcl : (spotsC 2 (L.take j)).length = j * 4 := by rw [spotsC_len, List.length_take, Nat.min_eq_left (by omega)]
    refine h_append (len := j) (new := spotE e (offN L j) (offN L (j + 1))) sz_pack_spot by_pack_spot (by rw [ze_pack_spot]; rfl) (by omega) h1 (hh.front sl) hcl ?_ rfl (by simp [Value.oneCell]) (by simp [lenV]; omega) fun v' sl' Q5 h1' hh h2' => ?_
    · exact h_read (bb := tb) (n := 1) hh (by simp [spliceL, zerosN])
    refine h_store (b := ob) hh (own_oc h1') (by simp) fun Q6 hh => ?_
    refine h_load (b := eb) hh rfl ?_
    refine h_store (b := nb) hh rfl (by simp) fun Q7 hh => ?_
    simp only [List.set_cons_zero] at hh
    refine h_end hh hst hpd fun Q8 hh => .inl ⟨rfl, ?_⟩
    refine ⟨v', sl', _, ?_, ?_, by omega, ((hh.front (cell xb [.string (packS L)] + (sl' + (cell ob [v'] + (cell nb [.int .i64 (offN L (j + 1) : Nat)] + (objM l (.loop Lp) + (objM D (.deferred (some [])) + m))))))).to (by
      simp only [mem_assoc]
      rfl))⟩
    · rw [List.take_add_one, hg, Option.toList_some, spotsC_append]
      have : 2 + (bodyL (L.take j)).length = offN L j := rfl
      rw [this]
      simp only [spotsC, List.append_nil]
      rw [← off_succ hg]
      exact h1'
    · rw [h2']; rfl
  · exact ⟨.slice none 0 0, emp, emp, .inl ⟨rfl, rfl, rfl⟩, rfl, by omega, hh.to (by simp only [emp_add, add_emp]; simp only [offN, List.take_zero, bodyL, List.flatMap_nil, List.length_nil]; ac_rfl)⟩
  · rintro Q ⟨v, sl, m', h1, h2, h3, hh⟩
    refine ⟨Lp, _, hh.front (objM l (.loop Lp)), by rw [hst]; simp, fun Q1 hh => ?_⟩
    simp only [x_alt1, x_j0, hpd, true_and]
    refine pack_count_h ok ?_
    (try simp only [xl, xo, Bool.not_eq_true', decide_eq_false_iff_not, ite_not, List.size_toArray, List.length_cons, List.length_nil, Nat.reduceAdd, qt, decide_eq_true_eq, Int.toNat_zero, Int.toNat_natCast, Nat.zero_mul, Nat.mul_one, Nat.one_mul, List.toList_toArray, List.cons_append, List.nil_append, List.append_nil, true_and, and_true, Nat.zero_add, Nat.add_zero, Bool.not_true, Bool.not_false, if_true, if_false, reduceCtorEq, List.set_cons_zero, List.set_cons_succ])
    rw [if_neg (by omega)]
    refine h_load (b := ob) hh rfl ?_
    refine own_len h1 ?_
    (try simp only [xl, xo, Bool.not_eq_true', decide_eq_false_iff_not, ite_not, List.size_toArray, List.length_cons, List.length_nil, Nat.reduceAdd, qt, decide_eq_true_eq, Int.toNat_zero, Int.toNat_natCast, Nat.zero_mul, Nat.mul_one, Nat.one_mul, List.toList_toArray, List.cons_append, List.nil_append, List.append_nil, true_and, and_true, Nat.zero_add, Nat.add_zero, Bool.not_true, Bool.not_false, if_true, if_false, reduceCtorEq, List.set_cons_zero, List.set_cons_succ])
    rw [if_pos (by omega)]
    refine h_load (b := nb) hh rfl ?_
    (try simp only [xl, xo, Bool.not_eq_true', decide_eq_false_iff_not, ite_not, List.size_toArray, List.length_cons, List.length_nil, Nat.reduceAdd, qt, decide_eq_true_eq, Int.toNat_zero, Int.toNat_natCast, Nat.zero_mul, Nat.mul_one, Nat.one_mul, List.toList_toArray, List.cons_append, List.nil_append, List.append_nil, true_and, and_true, Nat.zero_add, Nat.add_zero, Bool.not_true, Bool.not_false, if_true, if_false, reduceCtorEq, List.set_cons_zero, List.set_cons_succ])
    rw [off_end (Nat.le_refl _), show (packS L).size = (packL L).length from rfl, if_pos rfl]
    refine h_load (b := ob) hh rfl ?_
    refine h_ret1 hh fun Q2 hh => ?_
    rw [List.take_of_length_le (Nat.le_refl _)] at h1
    exact hK Q2 v sl h1 h2 (hh.front (sl + m)).left
end Go.X.W
set_option linter.unusedVariables false
set_option linter.unusedSimpArgs false
namespace Go.X.W
open Go Go.X Go.Proofs

variable {H : Heap} {m : Mem} {K : Value → Heap → Prop}

theorem own_at {sz : Nat} {v : Value} {cs : List Value} {sl : Mem} {i : Nat} (h : SlOwn sz v cs sl) (hl : cs.length = lenV v * sz) (hi : i < lenV v) :
    ∃ b, (∀ K : Value → Prop, K (.pointer (some ⟨b, i * sz, none⟩)) → IdxSliceP sz v (.int .i64 i) K) ∧
      (∀ H m (K : Value → Prop), Has H (sl + m) → K (.agg ((cs.drop (i * sz)).take sz).toArray) → LoadP (some sz) H (.pointer (some ⟨b, i * sz, none⟩)) K) ∧
      (∀ H m k x (K : Value → Prop), Has H (sl + m) → cs[i * sz + k]? = some x → K x → LoadP none H (.pointer (some ⟨b, i * sz + k, none⟩)) K) := by
  rcases h with ⟨rfl, _, _⟩ | ⟨b, len, cap, rest, rfl, h1, h2, h3, rfl⟩
  · simp [lenV] at hi
  · simp only [lenV] at hi hl
    have hle : i * sz + sz ≤ cs.length := by
      rw [hl]
      have := Nat.mul_le_mul_right sz (show i + 1 ≤ len by omega)
      rwa [Nat.add_mul, Nat.one_mul] at this
    refine ⟨b, fun K hK => ?_, fun H m K hh hK => ?_, fun H m k x K hh hx hK => ?_⟩
    · rw [x_idx]
      refine ⟨⟨by omega, by omega⟩, ?_⟩
      rw [Int.toNat_natCast, Nat.zero_add]
      exact hK
    · refine h_loadN (b := b) hh (by rw [List.length_append]; omega) ?_
      rw [List.drop_append_of_le_length (by omega), List.take_append_of_le_length (by rw [List.length_drop]; omega)]
      exact hK
    · refine h_load (b := b) hh ?_ hK
      rw [List.getElem?_append_left (List.getElem?_eq_some_iff.1 hx).1]
      exact hx

theorem entsC_get : ∀ {l : List Ent} {i : Nat} {e : Ent}, l[i]? = some e → ((entsC l).drop (i * 2)).take 2 = entC e
  | [], i, e, h => by simp at h
  | x :: l, 0, e, h => by
    simp only [List.getElem?_cons_zero, Option.some.injEq] at h
    subst h
    simp [entsC]
  | x :: l, i + 1, e, h => by
    simp only [List.getElem?_cons_succ] at h
    rw [Nat.add_mul, Nat.one_mul, Nat.add_comm (i * 2) 2, ← List.drop_drop, show (entsC (x :: l)).drop 2 = entsC l from rfl, entsC_get h]

theorem pack_Right_h {L : List Ent} (ok : POk L) (hh : Has H m) (hK : ∀ H', Has H' m → K (.bool true) H') : CallH P f_pack_Right [.string (packS L)] H K := by
  apply k_pack_Right
  unfold c_pack_Right
  refine pack_all_h ok hh fun H1 v sl _ _ hh => ?_
  (try simp only [xl, xo, Bool.not_eq_true', decide_eq_false_iff_not, ite_not, List.size_toArray, List.length_cons, List.length_nil, Nat.reduceAdd, qt, decide_eq_true_eq, Int.toNat_zero, Int.toNat_natCast, Nat.zero_mul, Nat.mul_one, Nat.one_mul, List.toList_toArray, List.cons_append, List.nil_append, List.append_nil, true_and, and_true, Nat.zero_add, Nat.add_zero, Bool.not_true, Bool.not_false, if_true, if_false, reduceCtorEq, List.set_cons_zero, List.set_cons_succ])
  exact hK H1 hh.right

theorem pack_Entries_h {L : List Ent} (ok : POk L) (hh : Has H m) (hK : ∀ H' v sl, SlOwn 2 v (entsC L) sl → lenV v = L.length → Has H' (sl + m) → K (.tuple #[v, .int .i64 0]) H') :
    CallH P f_pack_Entries [.string (packS L)] H K := by
  apply k_pack_Entries
  unfold c_pack_Entries
  have h200 := ok.2
  refine pack_all_h ok hh fun H1 v sl how hlv hh => ?_
  (try simp only [xl, xo, Bool.not_eq_true', decide_eq_false_iff_not, ite_not, List.size_toArray, List.length_cons, List.length_nil, Nat.reduceAdd, qt, decide_eq_true_eq, Int.toNat_zero, Int.toNat_natCast, Nat.zero_mul, Nat.mul_one, Nat.one_mul, List.toList_toArray, List.cons_append, List.nil_append, List.append_nil, true_and, and_true, Nat.zero_add, Nat.add_zero, Bool.not_true, Bool.not_false, if_true, if_false, reduceCtorEq, List.set_cons_zero, List.set_cons_succ])
  refine own_len how ?_
  rw [hlv]
  refine loop_i (fun k s G => ∃ (j : Nat) (u : Value) (ul m' : Mem), j + k = L.length ∧ s = ((u, .int .i64 j), []) ∧ SlOwn 2 u (entsC (L.take j)) ul ∧ lenV u = j ∧ Has G (sl + (ul + (m + m')))) L.length
    ⟨0, .slice none 0 0, emp, emp, by omega, rfl, .inl ⟨rfl, rfl, rfl⟩, rfl, hh.to (by simp only [emp_add, add_emp])⟩ ?_
  clear hh
  rintro k _ g G ⟨j, u, ul, m', hjk, rfl, hu, hlu, hh⟩
  (try simp only [xl, xo, Bool.not_eq_true', decide_eq_false_iff_not, ite_not, List.size_toArray, List.length_cons, List.length_nil, Nat.reduceAdd, qt, decide_eq_true_eq, Int.toNat_zero, Int.toNat_natCast, Nat.zero_mul, Nat.mul_one, Nat.one_mul, List.toList_toArray, List.cons_append, List.nil_append, List.append_nil, true_and, and_true, Nat.zero_add, Nat.add_zero, Bool.not_true, Bool.not_false, if_true, if_false, reduceCtorEq, List.set_cons_zero, List.set_cons_succ])
  by_cases hj : j < L.length
  · rw [if_pos (by omega)]
    have hg : L[j]? = some (L[j]'hj) := List.getElem?_eq_getElem hj
    generalize L[j]'hj = e at hg
    obtain ⟨b, hb1, hb2, _⟩ := own_at (i := j) how (by rw [spotsC_len, hlv]) (by omega)
    refine hb1 _ ?_
    refine hb2 G _ _ hh ?_
    rw [spotsC_get 2 hg]
    refine h_alloc hh fun eb G1 hh => ?_
    refine h_storeN hh rfl (by simp [Value.oneCell]) (by simp) fun G2 hh => ?_
    (try simp only [xl, xo, Bool.not_eq_true', decide_eq_false_iff_not, ite_not, List.size_toArray, List.length_cons, List.length_nil, Nat.reduceAdd, qt, decide_eq_true_eq, Int.toNat_zero, Int.toNat_natCast, Nat.zero_mul, Nat.mul_one, Nat.one_mul, List.toList_toArray, List.cons_append, List.nil_append, List.append_nil, true_and, and_true, Nat.zero_add, Nat.add_zero, Bool.not_true, Bool.not_false, if_true, if_false, reduceCtorEq, List.set_cons_zero, List.set_cons_succ])
    refine h_load2 (b := eb) hh rfl rfl ?_
    (try simp only [xl, xo, Bool.not_eq_true', decide_eq_false_iff_not, ite_not, List.size_toArray, List.length_cons, List.length_nil, Nat.reduceAdd, qt, decide_eq_true_eq, Int.toNat_zero, Int.toNat_natCast, Nat.zero_mul, Nat.mul_one, Nat.one_mul, List.toList_toArray, List.cons_append, List.nil_append, List.append_nil, true_and, and_true, Nat.zero_add, Nat.add_zero, Bool.not_true, Bool.not_false, if_true, if_false, reduceCtorEq, List.set_cons_zero, List.set_cons_succ])
    refine h_buildSl hh fun tb G3 hh => ?_
    have hcl : (entsC (L.take j)).length = j * 2 := by rw [entsC_length, List.length_take, Nat.min_eq_left (by omega)]
    refine h_append (len := j) (new := entC e) sz_api_Entry by_api_Entry (by rw [ze_api_Entry]; rfl) (by omega) hu (hh.front ul) hcl ?_ rfl (by simp [Value.oneCell]) (by simp [lenV]; omega) fun u' ul' G4 hu' hh hlu' => ?_
    · exact h_read (bb := tb) (cs := entC e) (n := 1) hh (by simp)
    rw [w64 (by omega)]
    refine ⟨k - 1, by omega, j + 1, u', ul', _, by omega, rfl, ?_, ?_, (hh.front (sl + (ul' + m))).to (by simp only [mem_assoc]; rfl)⟩
    · rw [List.take_add_one, hg, Option.toList_some, entsC_append]
      simpa [entsC] using hu'
    · rw [hlu']; rfl
  · rw [if_neg (by omega)]
    have : j = L.length := by omega
    subst this
    rw [List.take_of_length_le (Nat.le_refl _)] at hu
    exact hK G u ul hu hlu (hh.front (ul + m)).left

theorem pack_spotAt_h {L : List Ent} {i : Nat} {e : Ent} (ok : POk L) (hg : L[i]? = some e) (hh : Has H m) (hK : ∀ H', Has H' m → K (.tuple #[spotV e (offN L i) (offN L (i + 1)), .int .i64 0]) H') :
    CallH P f_pack_spotAt [.string (packS L), .int .i64 i] H K := by
  apply k_pack_spotAt
  unfold c_pack_spotAt
  have h200 := ok.2
  have hi := (List.getElem?_eq_some_iff.1 hg).1
  refine h_alloc hh fun sb H1 hh => ?_
  refine pack_all_h ok hh fun H2 v sl how hlv hh => ?_
  (try simp only [xl, xo, Bool.not_eq_true', decide_eq_false_iff_not, ite_not, List.size_toArray, List.length_cons, List.length_nil, Nat.reduceAdd, qt, decide_eq_true_eq, Int.toNat_zero, Int.toNat_natCast, Nat.zero_mul, Nat.mul_one, Nat.one_mul, List.toList_toArray, List.cons_append, List.nil_append, List.append_nil, true_and, and_true, Nat.zero_add, Nat.add_zero, Bool.not_true, Bool.not_false, if_true, if_false, reduceCtorEq, List.set_cons_zero, List.set_cons_succ])
  rw [if_neg (by omega)]
  refine own_len how ?_
  rw [hlv]
  (try simp only [xl, xo, Bool.not_eq_true', decide_eq_false_iff_not, ite_not, List.size_toArray, List.length_cons, List.length_nil, Nat.reduceAdd, qt, decide_eq_true_eq, Int.toNat_zero, Int.toNat_natCast, Nat.zero_mul, Nat.mul_one, Nat.one_mul, List.toList_toArray, List.cons_append, List.nil_append, List.append_nil, true_and, and_true, Nat.zero_add, Nat.add_zero, Bool.not_true, Bool.not_false, if_true, if_false, reduceCtorEq, List.set_cons_zero, List.set_cons_succ])
  rw [if_neg (by omega)]
  obtain ⟨b, hb1, hb2, _⟩ := own_at (i := i) how (by rw [spotsC_len, hlv]) (by omega)
  refine hb1 _ ?_
  refine hb2 H2 _ _ hh ?_
  rw [spotsC_get 2 hg]
  refine h_storeN (b := sb) hh rfl (by simp [Value.oneCell]) (by simp) fun H3 hh => ?_
  refine h_loadN (b := sb) hh (by simp [spliceL]) ?_
  have := hK H3 (hh.front m).left
  rw [off_succ hg] at this
  exact this
theorem pack_spotAt_neg {L : List Ent} (ok : POk L) (hh : Has H m) (hK : ∀ H', Has H' m → K (.tuple #[.agg #[.string ⟨#[]⟩, .int .i64 0, .int .i64 0, .int .i64 0], .int .i64 2]) H') :
    CallH P f_pack_spotAt [.string (packS L), .int .i64 (-1)] H K := by
  apply k_pack_spotAt
  unfold c_pack_spotAt
  refine h_alloc hh fun sb H1 hh => ?_
  refine pack_all_h ok hh fun H2 v sl how hlv hh => ?_
  (try simp only [xl, xo, Bool.not_eq_true', decide_eq_false_iff_not, ite_not, List.size_toArray, List.length_cons, List.length_nil, Nat.reduceAdd, qt, decide_eq_true_eq, Int.toNat_zero, Int.toNat_natCast, Nat.zero_mul, Nat.mul_one, Nat.one_mul, List.toList_toArray, List.cons_append, List.nil_append, List.append_nil, true_and, and_true, Nat.zero_add, Nat.add_zero, Bool.not_true, Bool.not_false, if_true, if_false, reduceCtorEq, List.set_cons_zero, List.set_cons_succ])
  rw [if_pos (by omega)]
  refine h_storeN (b := sb) hh rfl (by simp [Value.oneCell]) (by simp) fun H3 hh => ?_
  refine h_loadN (b := sb) hh (by simp [spliceL]) ?_
  exact hK H3 (hh.front m).left

theorem pack_Get_h {L : List Ent} {i : Nat} {e : Ent} (ok : POk L) (hg : L[i]? = some e) (hh : Has H m) (hK : ∀ H', Has H' m → K (.tuple #[entV e, .int .i64 0]) H') : CallH P f_pack_Get [.string (packS L), .int .i64 i] H K := by
  apply k_pack_Get
  unfold c_pack_Get
  refine h_alloc hh fun eb H1 hh => ?_
  refine pack_spotAt_h ok hg hh fun H2 hh => ?_
  (try simp only [xl, xo, Bool.not_eq_true', decide_eq_false_iff_not, ite_not, List.size_toArray, List.length_cons, List.length_nil, Nat.reduceAdd, qt, decide_eq_true_eq, Int.toNat_zero, Int.toNat_natCast, Nat.zero_mul, Nat.mul_one, Nat.one_mul, List.toList_toArray, List.cons_append, List.nil_append, List.append_nil, true_and, and_true, Nat.zero_add, Nat.add_zero, Bool.not_true, Bool.not_false, if_true, if_false, reduceCtorEq, List.set_cons_zero, List.set_cons_succ])
  refine h_alloc hh fun sb H3 hh => ?_
  refine h_storeN (b := sb) hh rfl (by simp [Value.oneCell]) (by simp) fun H4 hh => ?_
  refine h_load2 (b := sb) hh rfl rfl ?_
  refine h_store2 (b := eb) hh rfl rfl (by simp) fun H5 hh => ?_
  refine h_load2 (b := eb) hh rfl rfl ?_
  exact hK H5 (hh.front m).left
theorem pack_Get_neg {L : List Ent} (ok : POk L) (hh : Has H m) (hK : ∀ H', Has H' m → K (.tuple #[entV (⟨#[]⟩, 0), .int .i64 2]) H') : CallH P f_pack_Get [.string (packS L), .int .i64 (-1)] H K := by
  apply k_pack_Get
  unfold c_pack_Get
  refine h_alloc hh fun eb H1 hh => ?_
  refine pack_spotAt_neg ok hh fun H2 hh => ?_
  (try simp only [xl, xo, Bool.not_eq_true', decide_eq_false_iff_not, ite_not, List.size_toArray, List.length_cons, List.length_nil, Nat.reduceAdd, qt, decide_eq_true_eq, Int.toNat_zero, Int.toNat_natCast, Nat.zero_mul, Nat.mul_one, Nat.one_mul, List.toList_toArray, List.cons_append, List.nil_append, List.append_nil, true_and, and_true, Nat.zero_add, Nat.add_zero, Bool.not_true, Bool.not_false, if_true, if_false, reduceCtorEq, List.set_cons_zero, List.set_cons_succ])
  refine h_alloc hh fun sb H3 hh => ?_
  refine h_storeN (b := sb) hh rfl (by simp [Value.oneCell]) (by simp) fun H4 hh => ?_
  refine h_load2 (b := sb) hh rfl rfl ?_
  refine h_store2 (b := eb) hh rfl rfl (by simp) fun H5 hh => ?_
  refine h_load2 (b := eb) hh rfl rfl ?_
  exact hK H5 (hh.front m).left
end Go.X.W
set_option linter.unusedVariables false
set_option linter.unusedSimpArgs false
namespace Go.X.W
open Go Go.X Go.Proofs

variable {H : Heap} {m : Mem} {K : Value → Heap → Prop}

/-- Where a member is; -1: nowhere. -/
def fnd (x : ByteArray) : List Ent → Option Nat
  | [] => none
  | e :: l => if e.1 = x then some 0 else (fnd x l).map (· + 1)
def fndI (x : ByteArray) (l : List Ent) : Int := match fnd x l with | some i => i | none => -1
theorem fnd_some {x : ByteArray} : ∀ {l : List Ent} {i : Nat}, fnd x l = some i ↔ (∃ s, l[i]? = some (x, s)) ∧ ∀ j, j < i → ∀ e, l[j]? = some e → e.1 ≠ x
  | [], i => by simp [fnd]
  | e :: l, i => by
    unfold fnd
    by_cases h : e.1 = x
    · rw [if_pos h]
      constructor
      · intro hi
        simp only [Option.some.injEq] at hi
        subst hi
        exact ⟨⟨e.2, by rw [List.getElem?_cons_zero, ← h]⟩, fun j hj => by omega⟩
      · rintro ⟨_, h2⟩
        cases i with
        | zero => rfl
        | succ i => exact absurd h (h2 0 (by omega) e rfl)
    · rw [if_neg h]
      cases i with
      | zero =>
        constructor
        · intro hi; cases hf : fnd x l <;> rw [hf] at hi <;> simp at hi
        · rintro ⟨⟨s, hs⟩, _⟩
          simp only [List.getElem?_cons_zero, Option.some.injEq] at hs
          subst hs
          exact absurd rfl h
      | succ i =>
        have ih := fnd_some (x := x) (l := l) (i := i)
        rw [Option.map_eq_some_iff]
        constructor
        · rintro ⟨a, ha, e2⟩
          obtain rfl : a = i := by omega
          obtain ⟨h1, h2⟩ := ih.1 ha
          refine ⟨by simpa using h1, fun j hj y hy => ?_⟩
          cases j with
          | zero => simp only [List.getElem?_cons_zero, Option.some.injEq] at hy; subst hy; exact h
          | succ j => exact h2 j (by omega) y (by simpa using hy)
        · rintro ⟨h1, h2⟩
          exact ⟨i, ih.2 ⟨by simpa using h1, fun j hj y hy => h2 (j + 1) (by omega) y (by simpa using hy)⟩, rfl⟩
theorem fnd_none {x : ByteArray} : ∀ {l : List Ent}, fnd x l = none ↔ ∀ e ∈ l, e.1 ≠ x
  | [] => by simp [fnd]
  | e :: l => by
    unfold fnd
    by_cases h : e.1 = x
    · rw [if_pos h]; simp [h]
    · rw [if_neg h, Option.map_eq_none_iff, fnd_none]
      simp [h]

theorem pack_Find_h {L : List Ent} {x : ByteArray} (ok : POk L) (hh : Has H m) (hK : ∀ H', Has H' m → K (.int .i64 (fndI x L)) H') : CallH P f_pack_Find [.string (packS L), .string x] H K := by
  apply k_pack_Find
  unfold c_pack_Find
  have h200 := ok.2
  rw [x_box]
  refine ⟨rfl, ?_⟩
  refine h_alloc hh fun mb H1 hh => ?_
  refine pack_Right_h ok hh fun H2 hh => ?_
  (try simp only [xl, xo, Bool.not_eq_true', decide_eq_false_iff_not, ite_not, List.size_toArray, List.length_cons, List.length_nil, Nat.reduceAdd, qt, decide_eq_true_eq, Int.toNat_zero, Int.toNat_natCast, Nat.zero_mul, Nat.mul_one, Nat.one_mul, List.toList_toArray, List.cons_append, List.nil_append, List.append_nil, true_and, and_true, Nat.zero_add, Nat.add_zero, Bool.not_true, Bool.not_false, if_true, if_false, reduceCtorEq, List.set_cons_zero, List.set_cons_succ])
  refine h_alloc hh fun ab H3 hh => ?_
  refine h_alloc hh fun fb H4 hh => ?_
  refine h_store hh (by rfl) (by simp) fun H5 hh => ?_; (try simp only [List.set_cons_zero, List.set_cons_succ] at hh)
  refine h_store hh (by rfl) (by simp) fun H6 hh => ?_; (try simp only [List.set_cons_zero, List.set_cons_succ] at hh)
  apply k_pack_spots
  unfold c_pack_spots
  (try simp only [xl, xo, Bool.not_eq_true', decide_eq_false_iff_not, ite_not, List.size_toArray, List.length_cons, List.length_nil, Nat.reduceAdd, qt, decide_eq_true_eq, Int.toNat_zero, Int.toNat_natCast, Nat.zero_mul, Nat.mul_one, Nat.one_mul, List.toList_toArray, List.cons_append, List.nil_append, List.append_nil, true_and, and_true, Nat.zero_add, Nat.add_zero, Bool.not_true, Bool.not_false, if_true, if_false, reduceCtorEq, List.set_cons_zero, List.set_cons_succ])
  refine h_alloc hh fun xb H7 hh => ?_
  refine h_range hh fun D l Lp G hh hst hpd hY => ?_
  (try simp only [xl, xo, Bool.not_eq_true', decide_eq_false_iff_not, ite_not, List.size_toArray, List.length_cons, List.length_nil, Nat.reduceAdd, qt, decide_eq_true_eq, Int.toNat_zero, Int.toNat_natCast, Nat.zero_mul, Nat.mul_one, Nat.one_mul, List.toList_toArray, List.cons_append, List.nil_append, List.append_nil, true_and, and_true, Nat.zero_add, Nat.add_zero, Bool.not_true, Bool.not_false, if_true, if_false, reduceCtorEq, List.set_cons_zero, List.set_cons_succ])
  refine pack_spots_i (l := l) (xb := xb) (L := L) ok (fun j Q => ∃ m', j ≤ L.length ∧ (∀ i, i < j → ∀ e, L[i]? = some e → e.1 ≠ x) ∧
      Has Q (cell xb [.string (packS L)] + (cell mb [.string x] + (cell ab [.int .i64 j] + (cell fb [.int .i64 (-1)] + (objM l (.loop Lp) + (objM D (.deferred (some [])) + (m + m'))))))))
    (fun Q => ∃ j m', fnd x L = some j ∧
      Has Q (objM l (.loop { Lp with state := .done, pending := some (.exit 0) }) + (cell fb [.int .i64 j] + (objM D (.deferred (some [])) + (m + m'))))) ?_ ?_ ?_ ?_ ?_
  · rintro j Q ⟨m', h1, h2, hh⟩
    exact ⟨_, hh, fun G' hh => ⟨m', h1, h2, hh⟩⟩
  · rintro j e Q hg ⟨m', h1, h2, hh⟩
    have hj := (List.getElem?_eq_some_iff.1 hg).1
    refine hY (spotV e (offN L j) (offN L (j + 1))) Q _ hh.obj ?_
    refine h_alloc hh fun eb Q1 hh => ?_
    refine h_storeN hh rfl (by simp [Value.oneCell]) (by simp) fun Q2 hh => ?_
    refine h_begin hh hst fun Q3 hh => ?_
    refine h_load (b := mb) hh rfl ?_
    (try simp only [xl, xo, Bool.not_eq_true', decide_eq_false_iff_not, ite_not, List.size_toArray, List.length_cons, List.length_nil, Nat.reduceAdd, qt, decide_eq_true_eq, Int.toNat_zero, Int.toNat_natCast, Nat.zero_mul, Nat.mul_one, Nat.one_mul, List.toList_toArray, List.cons_append, List.nil_append, List.append_nil, true_and, and_true, Nat.zero_add, Nat.add_zero, Bool.not_true, Bool.not_false, if_true, if_false, reduceCtorEq, List.set_cons_zero, List.set_cons_succ])
    refine h_load (b := eb) hh rfl ?_
    (try simp only [xl, xo, Bool.not_eq_true', decide_eq_false_iff_not, ite_not, List.size_toArray, List.length_cons, List.length_nil, Nat.reduceAdd, qt, decide_eq_true_eq, Int.toNat_zero, Int.toNat_natCast, Nat.zero_mul, Nat.mul_one, Nat.one_mul, List.toList_toArray, List.cons_append, List.nil_append, List.append_nil, true_and, and_true, Nat.zero_add, Nat.add_zero, Bool.not_true, Bool.not_false, if_true, if_false, reduceCtorEq, List.set_cons_zero, List.set_cons_succ])
    refine h_alloc hh fun sb Q4 hh => ?_
    refine h_store2 (b := sb) hh rfl rfl (by simp) fun Q5 hh => ?_
    refine h_load2 (b := eb) hh rfl rfl ?_
    refine h_load2 (b := sb) hh rfl rfl ?_
    (try simp only [xl, xo, Bool.not_eq_true', decide_eq_false_iff_not, ite_not, List.size_toArray, List.length_cons, List.length_nil, Nat.reduceAdd, qt, decide_eq_true_eq, Int.toNat_zero, Int.toNat_natCast, Nat.zero_mul, Nat.mul_one, Nat.one_mul, List.toList_toArray, List.cons_append, List.nil_append, List.append_nil, true_and, and_true, Nat.zero_add, Nat.add_zero, Bool.not_true, Bool.not_false, if_true, if_false, reduceCtorEq, List.set_cons_zero, List.set_cons_succ])
    by_cases hex : e.1 = x
    · simp only [hex, decide_true, Bool.true_and, if_true]
      refine h_load (b := ab) hh rfl ?_
      refine h_store (b := fb) hh rfl (by simp) fun Q6 hh => ?_
      simp only [List.set_cons_zero] at hh
      refine h_endJ (l := l) (L := Lp) hh rfl (x_j2 0) fun Q7 hh => .inr ⟨rfl, j, _, ?_, ((hh.front (objM l (.loop { Lp with state := .done, pending := some (.exit 0) }) + (cell fb [.int .i64 j] + (objM D (.deferred (some [])) + m)))).to (by simp only [mem_assoc]; rfl))⟩
      exact fnd_some.2 ⟨⟨e.2, by rw [hg, ← hex]⟩, h2⟩
    · simp only [hex, decide_false, Bool.false_and, if_false, Bool.false_eq_true]
      refine h_load (b := ab) hh rfl ?_
      (try simp only [xl, xo, Bool.not_eq_true', decide_eq_false_iff_not, ite_not, List.size_toArray, List.length_cons, List.length_nil, Nat.reduceAdd, qt, decide_eq_true_eq, Int.toNat_zero, Int.toNat_natCast, Nat.zero_mul, Nat.mul_one, Nat.one_mul, List.toList_toArray, List.cons_append, List.nil_append, List.append_nil, true_and, and_true, Nat.zero_add, Nat.add_zero, Bool.not_true, Bool.not_false, if_true, if_false, reduceCtorEq, List.set_cons_zero, List.set_cons_succ])
      refine h_store (b := ab) hh rfl (by simp) fun Q6 hh => ?_
      rw [w64 (by omega)] at hh
      simp only [List.set_cons_zero] at hh
      refine h_end hh hst hpd fun Q7 hh => .inl ⟨rfl, _, by omega, ?_, ((hh.front (cell xb [.string (packS L)] + (cell mb [.string x] + (cell ab [.int .i64 ((j : Int) + 1)] + (cell fb [.int .i64 (-1)] + (objM l (.loop Lp) + (objM D (.deferred (some [])) + m))))))).to (by simp only [mem_assoc]; rfl))⟩
      intro i hi e' hg'
      by_cases hij : i = j
      · subst hij; rw [hg] at hg'; simp only [Option.some.injEq] at hg'; subst hg'; exact hex
      · exact h2 i (by omega) e' hg'
  · exact ⟨emp, by omega, fun i hi => by omega, hh.to (by rw [add_emp]; ac_rfl)⟩
  · rintro Q ⟨m', h1, h2, hh⟩
    refine ⟨Lp, _, hh.front (objM l (.loop Lp)), by rw [hst]; simp, fun Q1 hh => ?_⟩
    refine .inl ⟨hpd, ?_⟩
    refine h_load (b := fb) hh rfl ?_
    refine h_ret1 hh fun Q2 hh => ?_
    have := hK Q2 (hh.front m).left
    have hn : fnd x L = none := fnd_none.2 fun e he => by
      obtain ⟨i, hi⟩ := List.getElem?_of_mem he
      exact h2 i (List.getElem?_eq_some_iff.1 hi).1 e hi
    simp only [fndI, hn] at this
    exact this
  · rintro Q ⟨j, m', hf, hh⟩
    refine ⟨_, _, hh, by simp, fun Q1 hh => ?_⟩
    refine .inr ⟨rfl, ?_⟩
    refine h_load (b := fb) hh rfl ?_
    refine h_ret1 hh fun Q2 hh => ?_
    have := hK Q2 (hh.front m).left
    simp only [fndI, hf] at this
    exact this
end Go.X.W
set_option linter.unusedVariables false
set_option linter.unusedSimpArgs false
namespace Go.X.W
open Go Go.X Go.Proofs

variable {H : Heap} {m : Mem} {K : Value → Heap → Prop}

theorem own_lenB {v : Value} {l : List UInt8} {sl : Mem} (h : SlOwn 1 v (l.map byV) sl) : lenV v = l.length := by
  rcases h with ⟨rfl, e, rfl⟩ | ⟨b, len, cap, rest, rfl, h1, h2, h3, rfl⟩
  · have : l = [] := by simpa using e
    subst this; rfl
  · simpa [lenV] using h1.symm

theorem slices_Grow_h {n : Nat} (hn : 0 < n ∧ n < 1000000) (hh : Has H m) (hK : ∀ H' v sl, SlOwn 1 v ([] : List Value) sl → Has H' (sl + m) → K v H') : CallH P f_slices_Grow_s_byte_byte [.slice none 0 0, .int .i64 n] H K := by
  apply k_slices_Grow_s_byte_byte
  unfold c_slices_Grow_s_byte_byte
  (try simp only [xl, xo, Bool.not_eq_true', decide_eq_false_iff_not, ite_not, List.size_toArray, List.length_cons, List.length_nil, Nat.reduceAdd, qt, decide_eq_true_eq, Int.toNat_zero, Int.toNat_natCast, Nat.zero_mul, Nat.mul_one, Nat.one_mul, List.toList_toArray, List.cons_append, List.nil_append, List.append_nil, true_and, and_true, Nat.zero_add, Nat.add_zero, Bool.not_true, Bool.not_false, if_true, if_false, reduceCtorEq, List.set_cons_zero, List.set_cons_succ])
  rw [if_neg (by omega)]
  rw [w64 (n := ((0 : Nat) : Int) - ((0 : Nat) : Int)) (by omega), w64 (n := (n : Int) - (((0 : Nat) : Int) - ((0 : Nat) : Int))) (by omega)]
  rw [if_pos (by omega)]
  refine ⟨0, 0, 0, rfl, by simp, ⟨by omega, by simp⟩, rfl, ?_⟩
  simp only [if_true, Nat.sub_self]
  rw [show (n : Int) - (((0 : Nat) : Int) - ((0 : Nat) : Int)) = (n : Int) by omega]
  have hb1 : bytesT P T_uint8 = 1 := by_uint8
  have hz : (zeroT P T_uint8).cells = #[.int .u8 0] := ze_uint8
  refine ⟨⟨by omega, by simp [IntKind.max, IntKind.bits, IntKind.signed]; omega, by rw [hb1]; omega⟩, fun h => by simp at h; omega, fun _ => ⟨[], rfl, ?_, by simp [IntKind.max, IntKind.bits, IntKind.signed]; omega, fun c hc => ?_⟩⟩
  · rw [hb1, Int.toNat_natCast, Nat.zero_add]
    exact growslice_fits (by omega) (by omega)
  · rw [Int.toNat_natCast, Nat.zero_add] at *
    (try simp only [xl, xo, Bool.not_eq_true', decide_eq_false_iff_not, ite_not, List.size_toArray, List.length_cons, List.length_nil, Nat.reduceAdd, qt, decide_eq_true_eq, Int.toNat_zero, Int.toNat_natCast, Nat.zero_mul, Nat.mul_one, Nat.one_mul, List.toList_toArray, List.cons_append, List.nil_append, List.append_nil, true_and, and_true, Nat.zero_add, Nat.add_zero, Bool.not_true, Bool.not_false, if_true, if_false, reduceCtorEq, List.set_cons_zero, List.set_cons_succ])
    refine ⟨c, 0, 0, rfl, by simp, ⟨by omega, by simp⟩, rfl, ?_⟩
    rw [hz, zeros_rep, zeros_rep]
    have h2 : Has (H.push (.cells (([] : List Value) ++ List.replicate n (Value.int .u8 0) ++ List.replicate (c - n) (Value.int .u8 0)).toArray T_uint8)) (cell H.size (([] : List Value) ++ List.replicate n (.int .u8 0) ++ List.replicate (c - n) (.int .u8 0)) + m) :=
      hh.new (c := .cells _) (push_frm _ _ _) (Nat.le_refl _) ⟨T_uint8, by simp⟩
    refine hK _ _ _ (.inr ⟨H.size, 0, c, List.replicate n (Value.int .u8 0) ++ List.replicate (c - n) (Value.int .u8 0), ?_, rfl, by omega, ?_, rfl⟩) (by simpa only [List.nil_append] using h2)
    · split
      · rfl
      · simp only [Option.map_some, Nat.zero_mul, addr_add, Nat.add_zero, Nat.sub_zero, Nat.sub_self]
    · simp; omega

theorem slices_Concat_h {sb n c : Nat} {vs : List Value} {ls : List (List UInt8)} {r : Mem} (hh : Has H (cell sb vs + r)) (hn : vs.length = n ∧ ls.length = n ∧ n < 1000) (hr : ∀ (i : Nat) v l, vs[i]? = some v → ls[i]? = some l → Rd r v l)
    (hp : 0 < ls.flatten.length ∧ ls.flatten.length < 1000000) (hK : ∀ H' v sl, SlOwn 1 v (ls.flatten.map byV) sl → Has H' (sl + (cell sb vs + r)) → K v H') :
    CallH P f_slices_Concat_s_byte_byte [.slice (some ⟨sb, 0, none⟩) n c] H K := by
  apply k_slices_Concat_s_byte_byte
  unfold c_slices_Concat_s_byte_byte
  have hge : ∀ i, i < n → ∃ v l, vs[i]? = some v ∧ ls[i]? = some l ∧ Rd r v l := fun i hi =>
    ⟨_, _, List.getElem?_eq_getElem (by omega), List.getElem?_eq_getElem (by omega), hr i _ _ (List.getElem?_eq_getElem (by omega)) (List.getElem?_eq_getElem (by omega))⟩
  have htl : ∀ j, (ls.take j).flatten.length ≤ ls.flatten.length := fun j => by
    have : ls.flatten = (ls.take j).flatten ++ (ls.drop j).flatten := by rw [← List.flatten_append, List.take_append_drop]
    rw [this, List.length_append]
    omega
  have hts : ∀ j l, ls[j]? = some l → (ls.take (j + 1)).flatten = (ls.take j).flatten ++ l := fun j l h => by
    rw [List.take_add_one, h, Option.toList_some, List.flatten_append]
    simp
  rw [x_len]
  refine loop_i (fun k s G => ∃ j, j + k = n ∧ s = ((.int .i64 ((ls.take j).flatten.length : Nat), .int .i64 j), []) ∧ G = H) n ⟨0, by omega, rfl, rfl⟩ ?_
  rintro k _ g G ⟨j, hjk, rfl, rfl⟩
  (try simp only [xl, xo, Bool.not_eq_true', decide_eq_false_iff_not, ite_not, List.size_toArray, List.length_cons, List.length_nil, Nat.reduceAdd, qt, decide_eq_true_eq, Int.toNat_zero, Int.toNat_natCast, Nat.zero_mul, Nat.mul_one, Nat.one_mul, List.toList_toArray, List.cons_append, List.nil_append, List.append_nil, true_and, and_true, Nat.zero_add, Nat.add_zero, Bool.not_true, Bool.not_false, if_true, if_false, reduceCtorEq, List.set_cons_zero, List.set_cons_succ])
  by_cases hj : j < n
  · rw [if_pos (by omega)]
    obtain ⟨v, l, hv, hl, hrd⟩ := hge j hj
    refine ⟨by omega, ?_⟩
    refine h_load (b := sb) hh hv ?_
    obtain ⟨⟨a, c2, rfl⟩, _⟩ := hrd
    have h3 := hts j l hl
    have h4 := htl (j + 1)
    rw [h3, List.length_append] at h4
    (try simp only [xl, xo, Bool.not_eq_true', decide_eq_false_iff_not, ite_not, List.size_toArray, List.length_cons, List.length_nil, Nat.reduceAdd, qt, decide_eq_true_eq, Int.toNat_zero, Int.toNat_natCast, Nat.zero_mul, Nat.mul_one, Nat.one_mul, List.toList_toArray, List.cons_append, List.nil_append, List.append_nil, true_and, and_true, Nat.zero_add, Nat.add_zero, Bool.not_true, Bool.not_false, if_true, if_false, reduceCtorEq, List.set_cons_zero, List.set_cons_succ])
    rw [w64 (by omega), if_neg (by omega), w64 (by omega)]
    refine ⟨k - 1, by omega, j + 1, by omega, ?_⟩
    rw [h3, List.length_append]
    simp
  · rw [if_neg (by omega)]
    have : j = n := by omega
    subst this
    rw [List.take_of_length_le (by omega)]
    refine slices_Grow_h hp hh fun H2 u ul hu hh => ?_
    (try simp only [xl, xo, Bool.not_eq_true', decide_eq_false_iff_not, ite_not, List.size_toArray, List.length_cons, List.length_nil, Nat.reduceAdd, qt, decide_eq_true_eq, Int.toNat_zero, Int.toNat_natCast, Nat.zero_mul, Nat.mul_one, Nat.one_mul, List.toList_toArray, List.cons_append, List.nil_append, List.append_nil, true_and, and_true, Nat.zero_add, Nat.add_zero, Bool.not_true, Bool.not_false, if_true, if_false, reduceCtorEq, List.set_cons_zero, List.set_cons_succ])
    refine loop_i (fun k s G => ∃ (i : Nat) (u : Value) (ul m' : Mem), i + k = j ∧ s = ((u, .int .i64 i), []) ∧ SlOwn 1 u ((ls.take i).flatten.map byV) ul ∧ Has G (ul + (cell sb vs + r))) j ⟨0, u, ul, emp, by omega, rfl, hu, hh⟩ ?_
    clear hh hu
    rintro k _ g G ⟨i, u, ul, m', hik, rfl, hu, hh⟩
    (try simp only [xl, xo, Bool.not_eq_true', decide_eq_false_iff_not, ite_not, List.size_toArray, List.length_cons, List.length_nil, Nat.reduceAdd, qt, decide_eq_true_eq, Int.toNat_zero, Int.toNat_natCast, Nat.zero_mul, Nat.mul_one, Nat.one_mul, List.toList_toArray, List.cons_append, List.nil_append, List.append_nil, true_and, and_true, Nat.zero_add, Nat.add_zero, Bool.not_true, Bool.not_false, if_true, if_false, reduceCtorEq, List.set_cons_zero, List.set_cons_succ])
    by_cases hi : i < j
    · rw [if_pos (by omega)]
      obtain ⟨v, l, hv, hl, hrd⟩ := hge i hi
      refine ⟨by omega, ?_⟩
      refine h_load (b := sb) (hh.front (cell sb vs)) hv ?_
      obtain ⟨⟨a, c2, rfl⟩, hrd⟩ := hrd
      have h3 := hts i l hl
      have h4 := htl (i + 1)
      rw [h3, List.length_append] at h4
      refine h_append (len := (ls.take i).flatten.length) (new := l.map byV) sz_uint8 by_uint8 (by rw [ze_uint8]; rfl) (by omega) hu hh (by rw [List.length_map, Nat.mul_one]) (hrd G hh.right.right) (by simp [lenV]) (byV_oc _) (by simp only [lenV]; omega) fun u' ul' G2 hu' hh _ => ?_
      rw [w64 (n := (i : Int) + 1) (by omega)]
      refine ⟨k - 1, by omega, i + 1, u', ul', emp, by omega, rfl, ?_, hh⟩
      rw [h3, List.map_append]
      exact hu'
    · rw [if_neg (by omega)]
      have : i = j := by omega
      subst this
      rw [List.take_of_length_le (by omega)] at hu
      exact hK G u ul hu hh
end Go.X.W
set_option linter.unusedVariables false
set_option linter.unusedSimpArgs false
namespace Go.X.W
open Go Go.X Go.Proofs

variable {H : Heap} {m : Mem} {K : Value → Heap → Prop}

theorem Rd.oc {m : Mem} {v : Value} {l : List UInt8} (h : Rd m v l) : v.oneCell = true := by
  obtain ⟨⟨a, c, rfl⟩, _⟩ := h; rfl

theorem changed_fin {p3 p5 p4 p7 : Value} {l3 l5 l4 l7 : List UInt8} (hh : Has H m) (r3 : Rd m p3 l3) (r5 : Rd m p5 l5) (r4 : Rd m p4 l4) (r7 : Rd m p7 l7) (h0 : 0 < l3.length) (hb : l3.length + l5.length + l4.length + l7.length < 1000000)
    (hK : ∀ H', Has H' m → K (.string (baL (l3 ++ (l5 ++ (l4 ++ l7))))) H') :
    BuildP (zerosN #[(.slice none 0 0)] 4) [(0, none, p3), (1, none, p5), (2, none, p4), (3, none, p7)] fun t_9 =>
      BuildSliceP T_s_uint8 4 t_9 H fun t_10 H11 => CallH P f_slices_Concat_s_byte_byte [t_10] H11 fun t_12 H13 => BytesStrP t_12 H13 fun t_14 => K t_14 H13 := by
  rw [zeros_rep]
  refine ⟨r3.oc, r5.oc, r4.oc, r7.oc, ?_⟩
  simp only [x_build0, List.replicate_succ, List.replicate_zero, List.set_cons_zero, List.set_cons_succ]
  refine h_buildSl hh fun sb H1 hh => ?_
  have e : ([l3, l5, l4, l7] : List (List UInt8)).flatten = l3 ++ (l5 ++ (l4 ++ l7)) := by simp
  refine slices_Concat_h (ls := [l3, l5, l4, l7]) hh ⟨rfl, rfl, by omega⟩ ?_ ⟨by rw [e]; simp; omega, by rw [e]; simp only [List.length_append]; omega⟩ fun H2 v sl hv hh => ?_
  · intro i v l hv hl
    match i with
    | 0 => simp at hv hl; subst hv hl; exact r3
    | 1 => simp at hv hl; subst hv hl; exact r5
    | 2 => simp at hv hl; subst hv hl; exact r4
    | 3 => simp at hv hl; subst hv hl; exact r7
    | i + 4 => simp at hv
  · rw [e] at hv
    exact bytes_of hh.left (own_rd hv (own_lenB hv)) (hK H2 hh.right.right)

theorem pack_changed_h {l l4 : List UInt8} {n f t : Nat} {v4 : Value} (hh : Has H m) (r4 : Rd m v4 l4) (hn : n < 65536) (hf : 2 ≤ f ∧ f ≤ l.length) (ht : t ≤ l.length) (hb : l.length < 100000) (hb4 : l4.length < 1000)
    (hK : ∀ H', Has H' m → K (.string (baL (headL n ++ (((l.drop 2).take (f - 2)) ++ (l4 ++ l.drop t))))) H') :
    CallH P f_pack_changed [.string (baL l), .int .i64 n, .int .i64 f, .int .i64 t, v4] H K := by
  apply k_pack_changed
  unfold c_pack_changed
  have hbb : (headL n).length + ((l.drop 2).take (f - 2)).length + l4.length + (l.drop t).length < 1000000 := by
    rw [List.length_take, List.length_drop, List.length_drop, show (headL n).length = 2 from rfl]; omega
  refine ⟨f, 2, ⟨by rw [baL_size]; omega, by omega⟩, ⟨by omega, rfl⟩, ?_⟩
  refine ⟨l.length, t, rfl, ⟨by omega, by omega⟩, ?_⟩
  have e1 : (baL l).extract 2 f = baL ((l.drop 2).take (f - 2)) := by rw [baL_ext]
  have e2 : (baL l).extract t l.length = baL (l.drop t) := by rw [baL_ext, List.take_of_length_le (by rw [List.length_drop]; omega)]
  rw [e1, e2]
  generalize (l.drop 2).take (f - 2) = a at *
  generalize l.drop t = c at *
  have d : ∀ x : List UInt8, (baL x).data.toList = x := fun x => rfl
  refine ⟨?_, ?_, ?_⟩
  · refine pack_head_h hh hn fun hb1 H1 hh => ⟨?_, ?_⟩
    · refine h_strBytes hh fun v b1 o1 H2 q1 hh => ?_
      refine h_strBytes hh fun u b2 o2 H3 q2 hh => ?_
      rw [d] at q1 q2
      refine changed_fin hh (l3 := headL n) (l5 := a) (l7 := c) ((Rd.cell rfl).wide fun H' h => (h.front (cell hb1 ((headL n).map byV))).left) (q1.wide fun H' h => (h.front (objM b1 o1)).left) (r4.wide fun H' h => (h.front m).left) (q2.wide fun H' h => (h.front (objM b2 o2)).left) (by simp [headL]) hbb fun H' hh => hK H' (hh.front m).left
    · refine h_strBytes hh fun u b2 o2 H2 q2 hh => ?_
      refine h_strBytes hh fun v b1 o1 H3 q1 hh => ?_
      rw [d] at q1 q2
      refine changed_fin hh (l3 := headL n) (l5 := a) (l7 := c) ((Rd.cell rfl).wide fun H' h => (h.front (cell hb1 ((headL n).map byV))).left) (q1.wide fun H' h => (h.front (objM b1 o1)).left) (r4.wide fun H' h => (h.front m).left) (q2.wide fun H' h => (h.front (objM b2 o2)).left) (by simp [headL]) hbb fun H' hh => hK H' (hh.front m).left
  · refine h_strBytes hh fun v b1 o1 H1 q1 hh => ⟨?_, ?_⟩
    · refine pack_head_h hh hn fun hb1 H2 hh => ?_
      refine h_strBytes hh fun u b2 o2 H3 q2 hh => ?_
      rw [d] at q1 q2
      refine changed_fin hh (l3 := headL n) (l5 := a) (l7 := c) ((Rd.cell rfl).wide fun H' h => (h.front (cell hb1 ((headL n).map byV))).left) (q1.wide fun H' h => (h.front (objM b1 o1)).left) (r4.wide fun H' h => (h.front m).left) (q2.wide fun H' h => (h.front (objM b2 o2)).left) (by simp [headL]) hbb fun H' hh => hK H' (hh.front m).left
    · refine h_strBytes hh fun u b2 o2 H2 q2 hh => ?_
      refine pack_head_h hh hn fun hb1 H3 hh => ?_
      rw [d] at q1 q2
      refine changed_fin hh (l3 := headL n) (l5 := a) (l7 := c) ((Rd.cell rfl).wide fun H' h => (h.front (cell hb1 ((headL n).map byV))).left) (q1.wide fun H' h => (h.front (objM b1 o1)).left) (r4.wide fun H' h => (h.front m).left) (q2.wide fun H' h => (h.front (objM b2 o2)).left) (by simp [headL]) hbb fun H' hh => hK H' (hh.front m).left
  · refine h_strBytes hh fun u b2 o2 H1 q2 hh => ⟨?_, ?_⟩
    · refine pack_head_h hh hn fun hb1 H2 hh => ?_
      refine h_strBytes hh fun v b1 o1 H3 q1 hh => ?_
      rw [d] at q1 q2
      refine changed_fin hh (l3 := headL n) (l5 := a) (l7 := c) ((Rd.cell rfl).wide fun H' h => (h.front (cell hb1 ((headL n).map byV))).left) (q1.wide fun H' h => (h.front (objM b1 o1)).left) (r4.wide fun H' h => (h.front m).left) (q2.wide fun H' h => (h.front (objM b2 o2)).left) (by simp [headL]) hbb fun H' hh => hK H' (hh.front m).left
    · refine h_strBytes hh fun v b1 o1 H2 q1 hh => ?_
      refine pack_head_h hh hn fun hb1 H3 hh => ?_
      rw [d] at q1 q2
      refine changed_fin hh (l3 := headL n) (l5 := a) (l7 := c) ((Rd.cell rfl).wide fun H' h => (h.front (cell hb1 ((headL n).map byV))).left) (q1.wide fun H' h => (h.front (objM b1 o1)).left) (r4.wide fun H' h => (h.front m).left) (q2.wide fun H' h => (h.front (objM b2 o2)).left) (by simp [headL]) hbb fun H' hh => hK H' (hh.front m).left

def insAt (l : List Ent) (c : Nat) (e : Ent) : List Ent := l.take c ++ e :: l.drop c
theorem pack_body (l : List Ent) (j : Nat) : ((packL l).drop 2).take (offN l j - 2) = bodyL (l.take j) := by
  have h : bodyL l = bodyL (l.take j) ++ bodyL (l.drop j) := by rw [← bodyL_append, List.take_append_drop]
  unfold packL offN
  rw [List.drop_append, show (headL l.length).length = 2 from rfl, List.drop_eq_nil_of_le (by rw [show (headL l.length).length = 2 from rfl]; omega), List.nil_append, Nat.sub_self, List.drop_zero, h, Nat.add_sub_cancel_left, List.take_left]
theorem off_le (l : List Ent) (j : Nat) : 2 ≤ offN l j ∧ offN l j ≤ (packL l).length := by
  have h : bodyL l = bodyL (l.take j) ++ bodyL (l.drop j) := by rw [← bodyL_append, List.take_append_drop]
  unfold offN
  rw [packL_len, h, List.length_append]
  omega

theorem pack_Insert_h {L : List Ent} {i : Nat} {e : Ent} (ok : POk L) (hi : i ≤ L.length) (he : EOk e) (hn : L.length < 200) (hh : Has H m) (hK : ∀ H', Has H' m → K (.tuple #[.string (packS (insAt L i e)), .int .i64 0]) H') :
    CallH P f_pack_Insert [.string (packS L), .int .i64 i, entV e] H K := by
  apply k_pack_Insert
  unfold c_pack_Insert
  have hbig := pack_big ok
  rw [x_boxN]
  refine h_allocA hh fun eb H1 hh => ?_
  refine pack_all_h ok hh fun H2 v sl how hlv hh => ?_
  (try simp only [xl, xo, Bool.not_eq_true', decide_eq_false_iff_not, ite_not, List.size_toArray, List.length_cons, List.length_nil, Nat.reduceAdd, qt, decide_eq_true_eq, Int.toNat_zero, Int.toNat_natCast, Nat.zero_mul, Nat.mul_one, Nat.one_mul, List.toList_toArray, List.cons_append, List.nil_append, List.append_nil, true_and, and_true, Nat.zero_add, Nat.add_zero, Bool.not_true, Bool.not_false, if_true, if_false, reduceCtorEq, List.set_cons_zero, List.set_cons_succ])
  refine own_len how ?_
  rw [hlv]
  (try simp only [xl, xo, Bool.not_eq_true', decide_eq_false_iff_not, ite_not, List.size_toArray, List.length_cons, List.length_nil, Nat.reduceAdd, qt, decide_eq_true_eq, Int.toNat_zero, Int.toNat_natCast, Nat.zero_mul, Nat.mul_one, Nat.one_mul, List.toList_toArray, List.cons_append, List.nil_append, List.append_nil, true_and, and_true, Nat.zero_add, Nat.add_zero, Bool.not_true, Bool.not_false, if_true, if_false, reduceCtorEq, List.set_cons_zero, List.set_cons_succ])
  rw [if_neg (by omega), if_neg (by omega)]
  refine own_len how ?_
  rw [hlv]
  (try simp only [xl, xo, Bool.not_eq_true', decide_eq_false_iff_not, ite_not, List.size_toArray, List.length_cons, List.length_nil, Nat.reduceAdd, qt, decide_eq_true_eq, Int.toNat_zero, Int.toNat_natCast, Nat.zero_mul, Nat.mul_one, Nat.one_mul, List.toList_toArray, List.cons_append, List.nil_append, List.append_nil, true_and, and_true, Nat.zero_add, Nat.add_zero, Bool.not_true, Bool.not_false, if_true, if_false, reduceCtorEq, List.set_cons_zero, List.set_cons_succ])
  rw [if_neg (by omega)]
  refine h_load (b := eb) hh rfl ?_
  (try simp only [xl, xo, Bool.not_eq_true', decide_eq_false_iff_not, ite_not, List.size_toArray, List.length_cons, List.length_nil, Nat.reduceAdd, qt, decide_eq_true_eq, Int.toNat_zero, Int.toNat_natCast, Nat.zero_mul, Nat.mul_one, Nat.one_mul, List.toList_toArray, List.cons_append, List.nil_append, List.append_nil, true_and, and_true, Nat.zero_add, Nat.add_zero, Bool.not_true, Bool.not_false, if_true, if_false, reduceCtorEq, List.set_cons_zero, List.set_cons_succ])
  rw [if_neg (by have := he.1; omega)]
  refine join_of (.int .i64 (offN L i : Nat), []) (fun Q => Has Q (sl + (cell eb (entC e) + m))) ?_ ?_
  · rintro Q hh g1
    refine own_len how ?_
    rw [hlv]
    (try simp only [xl, xo, Bool.not_eq_true', decide_eq_false_iff_not, ite_not, List.size_toArray, List.length_cons, List.length_nil, Nat.reduceAdd, qt, decide_eq_true_eq, Int.toNat_zero, Int.toNat_natCast, Nat.zero_mul, Nat.mul_one, Nat.one_mul, List.toList_toArray, List.cons_append, List.nil_append, List.append_nil, true_and, and_true, Nat.zero_add, Nat.add_zero, Bool.not_true, Bool.not_false, if_true, if_false, reduceCtorEq, List.set_cons_zero, List.set_cons_succ])
    refine h_load2 (b := eb) hh rfl rfl ?_
    refine pack_entry_h hh he fun b H3 hh => ?_
    rw [w64 (by omega), show (L.length : Int) + 1 = ((L.length + 1 : Nat) : Int) by omega]
    have h2 := off_le L i
    have hel := encL_len e
    have := he.1
    refine pack_changed_h (l := packL L) (l4 := encL e) hh ((Rd.cell (encL_len e)).wide fun H' h => (h.front (cell b ((encL e).map byV))).left) (by omega) ⟨h2.1, h2.2⟩ h2.2 (by omega) (by omega) fun H4 hh => ?_
    rw [pack_body, off_drop]
    (try simp only [xl, xo, Bool.not_eq_true', decide_eq_false_iff_not, ite_not, List.size_toArray, List.length_cons, List.length_nil, Nat.reduceAdd, qt, decide_eq_true_eq, Int.toNat_zero, Int.toNat_natCast, Nat.zero_mul, Nat.mul_one, Nat.one_mul, List.toList_toArray, List.cons_append, List.nil_append, List.append_nil, true_and, and_true, Nat.zero_add, Nat.add_zero, Bool.not_true, Bool.not_false, if_true, if_false, reduceCtorEq, List.set_cons_zero, List.set_cons_succ])
    have hpk : packL (insAt L i e) = headL (L.length + 1) ++ (bodyL (L.take i) ++ (encL e ++ bodyL (L.drop i))) := by
      unfold packL insAt
      rw [bodyL_append, bodyL_cons]
      congr 2
      simp
      omega
    have := hK H4 (hh.front m).left
    unfold packS at this
    rw [hpk] at this
    exact this
  · intro J hJ
    refine own_len how ?_
    rw [hlv]
    (try simp only [xl, xo, Bool.not_eq_true', decide_eq_false_iff_not, ite_not, List.size_toArray, List.length_cons, List.length_nil, Nat.reduceAdd, qt, decide_eq_true_eq, Int.toNat_zero, Int.toNat_natCast, Nat.zero_mul, Nat.mul_one, Nat.one_mul, List.toList_toArray, List.cons_append, List.nil_append, List.append_nil, true_and, and_true, Nat.zero_add, Nat.add_zero, Bool.not_true, Bool.not_false, if_true, if_false, reduceCtorEq, List.set_cons_zero, List.set_cons_succ])
    by_cases hil : i < L.length
    · rw [if_pos (by omega)]
      obtain ⟨b, hb1, _, hb3⟩ := own_at (i := i) how (by rw [spotsC_len, hlv]) (by omega)
      refine hb1 _ ?_
      have hg : L[i]? = some (L[i]'hil) := List.getElem?_eq_getElem hil
      generalize L[i]'hil = y at hg
      have hc := spotsC_get 2 hg
      have hx : (spotsC 2 L)[i * 4 + 2]? = some (.int .i64 (offN L i : Nat)) := by
        have := congrArg (fun l => l[2]?) hc
        rw [offN]
        simpa [List.getElem?_take, List.getElem?_drop] using this
      (try simp only [xl, xo, Bool.not_eq_true', decide_eq_false_iff_not, ite_not, List.size_toArray, List.length_cons, List.length_nil, Nat.reduceAdd, qt, decide_eq_true_eq, Int.toNat_zero, Int.toNat_natCast, Nat.zero_mul, Nat.mul_one, Nat.one_mul, List.toList_toArray, List.cons_append, List.nil_append, List.append_nil, true_and, and_true, Nat.zero_add, Nat.add_zero, Bool.not_true, Bool.not_false, if_true, if_false, reduceCtorEq, List.set_cons_zero, List.set_cons_succ])
      exact hb3 H2 _ 2 _ _ hh hx (hJ H2 hh)
    · rw [if_neg (by omega)]
      have : i = L.length := by omega
      subst this
      have := hJ H2 hh
      rw [off_end (Nat.le_refl _)] at this
      exact this

theorem pack_Delete_h {L : List Ent} {i : Nat} {e : Ent} (ok : POk L) (hg : L[i]? = some e) (hh : Has H m) (hK : ∀ H', Has H' m → K (.tuple #[.string (packS (delAt L i)), .int .i64 0]) H') :
    CallH P f_pack_Delete [.string (packS L), .int .i64 i] H K := by
  apply k_pack_Delete
  unfold c_pack_Delete
  have hbig := pack_big ok
  have h200 := ok.2
  have hi := (List.getElem?_eq_some_iff.1 hg).1
  refine pack_spotAt_h ok hg hh fun H1 hh => ?_
  (try simp only [xl, xo, Bool.not_eq_true', decide_eq_false_iff_not, ite_not, List.size_toArray, List.length_cons, List.length_nil, Nat.reduceAdd, qt, decide_eq_true_eq, Int.toNat_zero, Int.toNat_natCast, Nat.zero_mul, Nat.mul_one, Nat.one_mul, List.toList_toArray, List.cons_append, List.nil_append, List.append_nil, true_and, and_true, Nat.zero_add, Nat.add_zero, Bool.not_true, Bool.not_false, if_true, if_false, reduceCtorEq, List.set_cons_zero, List.set_cons_succ])
  refine h_alloc hh fun sb H2 hh => ?_
  refine h_storeN hh rfl (by simp [Value.oneCell]) (by simp) fun H3 hh => ?_
  refine h_load (b := sb) hh rfl (h_load (b := sb) hh rfl ?_)
  refine pack_count_h ok ?_
  refine ⟨h_loadIs (b := sb) hh rfl, h_loadIs (b := sb) hh rfl, ?_⟩
  (try simp only [xl, xo, Bool.not_eq_true', decide_eq_false_iff_not, ite_not, List.size_toArray, List.length_cons, List.length_nil, Nat.reduceAdd, qt, decide_eq_true_eq, Int.toNat_zero, Int.toNat_natCast, Nat.zero_mul, Nat.mul_one, Nat.one_mul, List.toList_toArray, List.cons_append, List.nil_append, List.append_nil, true_and, and_true, Nat.zero_add, Nat.add_zero, Bool.not_true, Bool.not_false, if_true, if_false, reduceCtorEq, List.set_cons_zero, List.set_cons_succ])
  rw [w64 (by omega), show (L.length : Int) - 1 = ((L.length - 1 : Nat) : Int) by omega]
  have h2 := off_le L i
  have h3 := off_le L (i + 1)
  refine pack_changed_h (l := packL L) (l4 := []) hh (Rd.nil _) (by omega) ⟨h2.1, h2.2⟩ h3.2 (by omega) (by simp) fun H4 hh => ?_
  rw [pack_body, off_drop]
  (try simp only [xl, xo, Bool.not_eq_true', decide_eq_false_iff_not, ite_not, List.size_toArray, List.length_cons, List.length_nil, Nat.reduceAdd, qt, decide_eq_true_eq, Int.toNat_zero, Int.toNat_natCast, Nat.zero_mul, Nat.mul_one, Nat.one_mul, List.toList_toArray, List.cons_append, List.nil_append, List.append_nil, true_and, and_true, Nat.zero_add, Nat.add_zero, Bool.not_true, Bool.not_false, if_true, if_false, reduceCtorEq, List.set_cons_zero, List.set_cons_succ])
  have hpk : packL (delAt L i) = headL (L.length - 1) ++ (bodyL (L.take i) ++ bodyL (L.drop (i + 1))) := by
    unfold packL delAt
    rw [bodyL_append]
    congr 2
    simp
    omega
  have := hK H4 (hh.front m).left
  unfold packS at this
  rw [hpk] at this
  exact this
end Go.X.W
set_option linter.unusedVariables false
set_option linter.unusedSimpArgs false
namespace Go.X.W
open Go Go.X Go.Proofs

variable {H : Heap} {m : Mem} {K : Value → Heap → Prop}

theorem sort_Search_h {n c : Nat} {fv : Value} (hc : c ≤ n) (hn : n < 1000000) (Inv : Heap → Prop) (h0 : Inv H) (hf : ∀ (i : Nat) G, i < n → Inv G → CallV P fv [.int .i64 i] G fun v G' => v = .bool (decide (c ≤ i)) ∧ Inv G') (hK : ∀ G, Inv G → K (.int .i64 c) G) :
    CallH P f_sort_Search [.int .i64 n, fv] H K := by
  apply k_sort_Search
  unfold c_sort_Search
  refine loop_i (fun k s G => ∃ i j : Nat, k = j - i ∧ i ≤ c ∧ c ≤ j ∧ j ≤ n ∧ s = ((.int .i64 i, .int .i64 j), []) ∧ Inv G) n ⟨0, n, by omega, by omega, hc, by omega, rfl, h0⟩ ?_
  rintro k _ g G ⟨i, j, rfl, h1, h2, h3, rfl, hi⟩
  (try simp only [xl, xo, Bool.not_eq_true', decide_eq_false_iff_not, ite_not, List.size_toArray, List.length_cons, List.length_nil, Nat.reduceAdd, qt, decide_eq_true_eq, Int.toNat_zero, Int.toNat_natCast, Nat.zero_mul, Nat.mul_one, Nat.one_mul, List.toList_toArray, List.cons_append, List.nil_append, List.append_nil, true_and, and_true, Nat.zero_add, Nat.add_zero, Bool.not_true, Bool.not_false, if_true, if_false, reduceCtorEq, List.set_cons_zero, List.set_cons_succ])
  by_cases hij : i < j
  · rw [if_pos (by omega)]
    refine ⟨by omega, ?_⟩
    rw [w64 (n := (i : Int) + j) (by omega), wu64 (n := (i : Int) + j) (by omega)]
    have e : IntKind.i64.wrap (((i : Int) + j).fdiv (2 ^ min (Int.toNat 1) IntKind.u64.bits)) = (((i + j) / 2 : Nat) : Int) := by
      rw [Int.fdiv_eq_ediv_of_nonneg _ (by simp [IntKind.bits])]
      have : ((i : Int) + j) / (2 ^ min (Int.toNat 1) IntKind.u64.bits) = (((i + j) / 2 : Nat) : Int) := by simp [IntKind.bits]
      rw [this, w64 (by omega)]
    rw [e]
    generalize hh : (i + j) / 2 = h
    refine CallV.mono (hf h G (by omega) hi) ?_
    rintro v G2 ⟨rfl, hi2⟩
    (try simp only [xl, xo, Bool.not_eq_true', decide_eq_false_iff_not, ite_not, List.size_toArray, List.length_cons, List.length_nil, Nat.reduceAdd, qt, decide_eq_true_eq, Int.toNat_zero, Int.toNat_natCast, Nat.zero_mul, Nat.mul_one, Nat.one_mul, List.toList_toArray, List.cons_append, List.nil_append, List.append_nil, true_and, and_true, Nat.zero_add, Nat.add_zero, Bool.not_true, Bool.not_false, if_true, if_false, reduceCtorEq, List.set_cons_zero, List.set_cons_succ])
    by_cases hch : c ≤ h
    · rw [if_pos (by simp [hch])]
      exact ⟨h - i, by omega, i, h, rfl, h1, hch, by omega, rfl, hi2⟩
    · rw [if_neg (by simpa using hch), w64 (by omega)]
      exact ⟨j - (h + 1), by omega, h + 1, j, rfl, by omega, h2, h3, rfl, hi2⟩
  · rw [if_neg (by omega)]
    have : i = c := by omega
    subst this
    exact hK G hi

/-- The cells of a piece. -/
theorem entsC_piece (L : List Ent) (f n : Nat) : ((entsC L).drop (f * 2)).take (n * 2) = entsC ((L.drop f).take n) := by
  have key : ∀ (L : List Ent) (n : Nat), (entsC L).take (n * 2) = entsC (L.take n) := by
    intro L
    induction L with
    | nil => intro n; simp [entsC]
    | cons e L ih =>
      intro n
      cases n with
      | zero => simp [entsC]
      | succ n =>
        rw [List.take_succ_cons, show entsC (e :: L) = entC e ++ entsC L from rfl, show entsC (e :: L.take n) = entC e ++ entsC (L.take n) from rfl, ← ih n, Nat.add_mul, Nat.one_mul]
        rfl
  have key2 : ∀ (L : List Ent) (f : Nat), (entsC L).drop (f * 2) = entsC (L.drop f) := by
    intro L
    induction L with
    | nil => intro n; simp [entsC]
    | cons e L ih =>
      intro n
      cases n with
      | zero => simp
      | succ n =>
        rw [List.drop_succ_cons, show entsC (e :: L) = entC e ++ entsC L from rfl, ← ih n, Nat.add_mul, Nat.one_mul]
        rfl
  rw [key2, key]

theorem own_piece {v : Value} {L : List Ent} {sl : Mem} {f t : Nat} {K : Value → Prop} (how : SlOwn 2 v (entsC L) sl) (hl : lenV v = L.length) (hft : f ≤ t ∧ t ≤ L.length)
    (hK : ∀ w, (w = .slice none 0 0 ∧ L = [] ∨ ∃ a c, w = .slice (some a) (t - f) c) → (∀ H m, Has H (sl + m) → readCells 2 (t - f) H w = some (entsC ((L.drop f).take (t - f)))) → lenV w = t - f → K w) :
    SliceSlP 2 v (some (.int .i64 f)) (some (.int .i64 t)) none K := by
  rcases how with ⟨rfl, e, rfl⟩ | ⟨b, len, cap, rest, rfl, h1, h2, h3, rfl⟩
  · have hL : L = [] := by
      cases L with
      | nil => rfl
      | cons a L => simp [entsC] at e
    subst hL
    have hf : f = 0 := by simp at hft; omega
    have ht : t = 0 := by simp at hft; omega
    subst hf ht
    refine ⟨0, 0, 0, rfl, by simp, ⟨by omega, by simp⟩, ⟨by omega, by simp⟩, ?_⟩
    exact hK _ (.inl ⟨rfl, rfl⟩) (fun H m _ => rfl) rfl
  · simp only [lenV] at hl
    refine ⟨cap, t, f, rfl, by simp, ⟨⟨by omega, by omega⟩, by simp⟩, ⟨⟨by omega, by omega⟩, by simp⟩, ?_⟩
    have hlen := entsC_length L
    by_cases hcf : cap = f
    · rw [if_pos hcf]
      have hz : t - f = 0 := by omega
      refine hK _ (.inr ⟨_, _, rfl⟩) (fun H m hh => ?_) rfl
      rw [hz]
      simp [readCells, readN, entsC]
    · rw [if_neg hcf]
      simp only [Option.map_some, addr_add, Nat.zero_add]
      refine hK _ (.inr ⟨_, _, rfl⟩) (fun H m hh => ?_) rfl
      simp only [readCells]
      rw [(hh.left.blk (b := b)).readN (f * 2) ((t - f) * 2) 0 (by rw [List.length_append, hlen, Nat.sub_mul]; omega)]
      rw [Nat.add_zero, List.drop_append_of_le_length (by omega), List.take_append_of_le_length (by rw [List.length_drop, hlen, Nat.sub_mul]; omega), entsC_piece]

theorem slices_Clone_h {w : Value} {l : List Ent} (hh : Has H m) (hw : (w = .slice none 0 0 ∧ l = []) ∨ ∃ a c, w = .slice (some a) l.length c) (hb : l.length < 1000000) (hr : ∀ H', Has H' m → readCells 2 l.length H' w = some (entsC l))
    (hK : ∀ H' v sl, SlOwn 2 v (entsC l) sl → lenV v = l.length → Has H' (sl + m) → K v H') : CallH P f_slices_Clone_s_api_Entry_api_Entry [w] H K := by
  apply k_slices_Clone_s_api_Entry_api_Entry
  unfold c_slices_Clone_s_api_Entry_api_Entry
  rcases hw with ⟨rfl, rfl⟩ | ⟨a, c, rfl⟩
  · (try simp only [xl, xo, Bool.not_eq_true', decide_eq_false_iff_not, ite_not, List.size_toArray, List.length_cons, List.length_nil, Nat.reduceAdd, qt, decide_eq_true_eq, Int.toNat_zero, Int.toNat_natCast, Nat.zero_mul, Nat.mul_one, Nat.one_mul, List.toList_toArray, List.cons_append, List.nil_append, List.append_nil, true_and, and_true, Nat.zero_add, Nat.add_zero, Bool.not_true, Bool.not_false, if_true, if_false, reduceCtorEq, List.set_cons_zero, List.set_cons_succ])
    exact hK H _ emp (.inl ⟨rfl, rfl, rfl⟩) rfl (hh.to (by rw [emp_add]))
  · (try simp only [xl, xo, Bool.not_eq_true', decide_eq_false_iff_not, ite_not, List.size_toArray, List.length_cons, List.length_nil, Nat.reduceAdd, qt, decide_eq_true_eq, Int.toNat_zero, Int.toNat_natCast, Nat.zero_mul, Nat.mul_one, Nat.one_mul, List.toList_toArray, List.cons_append, List.nil_append, List.append_nil, true_and, and_true, Nat.zero_add, Nat.add_zero, Bool.not_true, Bool.not_false, if_true, if_false, reduceCtorEq, List.set_cons_zero, List.set_cons_succ])
    refine h_buildSl hh fun nb H1 hh => ?_
    have hh : Has H1 (cell nb [] + m) := hh.to (by simp [zerosN])
    refine h_append (len := 0) (cs := []) (new := entsC l) (sl := cell nb []) sz_api_Entry by_api_Entry (by rw [ze_api_Entry]; rfl) (by omega) (.inr ⟨nb, 0, 0, [], rfl, rfl, by omega, rfl, rfl⟩) hh rfl (hr H1 hh.right) (by rw [entsC_length]; rfl) (entsC_oc _) (by simp only [lenV]; omega) fun v' sl' H2 hv hh hl => ?_
    exact hK H2 v' sl' (by simpa using hv) (by simpa [lenV] using hl) hh

theorem zset_within_h {f t : Int} {n : Nat} (hK : K (.tuple #[.int .i64 (fromN f n : Nat), .int .i64 (toN f t n : Nat)]) H) : CallH P f_zset_within [.int .i64 f, .int .i64 t, .int .i64 n] H K := by
  apply k_zset_within
  unfold c_zset_within
  (try simp only [xl, xo, Bool.not_eq_true', decide_eq_false_iff_not, ite_not, List.size_toArray, List.length_cons, List.length_nil, Nat.reduceAdd, qt, decide_eq_true_eq, Int.toNat_zero, Int.toNat_natCast, Nat.zero_mul, Nat.mul_one, Nat.one_mul, List.toList_toArray, List.cons_append, List.nil_append, List.append_nil, true_and, and_true, Nat.zero_add, Nat.add_zero, Bool.not_true, Bool.not_false, if_true, if_false, reduceCtorEq, List.set_cons_zero, List.set_cons_succ])
  rw [toN_eq, fromN_eq]
  exact hK

/-- Entries of places. -/
def rng (f t : Int) (l : List Ent) : List Ent := (l.drop (fromN f l.length)).take (toN f t l.length - fromN f l.length)
theorem rng_len (f t : Int) (l : List Ent) : (rng f t l).length = toN f t l.length - fromN f l.length := by
  have := fromto f t l.length
  simp [rng]; omega

section
variable {pb : Nat} {L : List Ent} {r : Mem}
theorem packed_entries_h (ok : POk L) [p : PickC pb m [.string (packS L)] r] (hh : Has H m) (hK : ∀ H' v sl, SlOwn 2 v (entsC L) sl → lenV v = L.length → Has H' (sl + m) → K v H') : CallH P f_zset_packed_entries [ptrV pb] H K := by
  apply k_zset_packed_entries
  unfold c_zset_packed_entries
  (try simp only [xl, xo, Bool.not_eq_true', decide_eq_false_iff_not, ite_not, List.size_toArray, List.length_cons, List.length_nil, Nat.reduceAdd, qt, decide_eq_true_eq, Int.toNat_zero, Int.toNat_natCast, Nat.zero_mul, Nat.mul_one, Nat.one_mul, List.toList_toArray, List.cons_append, List.nil_append, List.append_nil, true_and, and_true, Nat.zero_add, Nat.add_zero, Bool.not_true, Bool.not_false, if_true, if_false, reduceCtorEq, List.set_cons_zero, List.set_cons_succ])
  refine h_load (b := pb) hh rfl ?_
  refine pack_Entries_h ok hh fun H1 v sl hv hl hh => ?_
  (try simp only [xl, xo, Bool.not_eq_true', decide_eq_false_iff_not, ite_not, List.size_toArray, List.length_cons, List.length_nil, Nat.reduceAdd, qt, decide_eq_true_eq, Int.toNat_zero, Int.toNat_natCast, Nat.zero_mul, Nat.mul_one, Nat.one_mul, List.toList_toArray, List.cons_append, List.nil_append, List.append_nil, true_and, and_true, Nat.zero_add, Nat.add_zero, Bool.not_true, Bool.not_false, if_true, if_false, reduceCtorEq, List.set_cons_zero, List.set_cons_succ])
  exact hK H1 v sl hv hl hh
theorem packed_Len_h (ok : POk L) [p : PickC pb m [.string (packS L)] r] (hh : Has H m) (hK : ∀ H', Has H' m → K (.int .i64 L.length) H') : CallH P f_zset_packed_Len [ptrV pb] H K := by
  apply k_zset_packed_Len
  unfold c_zset_packed_Len
  refine packed_entries_h ok hh fun H1 v sl hv hl hh => ?_
  refine own_len hv ?_
  rw [hl]
  exact hK H1 hh.right
theorem packed_Range_h {f t : Int} (ok : POk L) [p : PickC pb m [.string (packS L)] r] (hh : Has H m) (hK : ∀ H' v sl, SlOwn 2 v (entsC (rng f t L)) sl → lenV v = (rng f t L).length → Has H' (sl + m) → K v H') :
    CallH P f_zset_packed_Range [ptrV pb, .int .i64 f, .int .i64 t] H K := by
  apply k_zset_packed_Range
  unfold c_zset_packed_Range
  have h200 := ok.2
  have hft := fromto f t L.length
  refine packed_entries_h ok hh fun H1 v sl hv hl hh => ?_
  refine own_len hv ?_
  rw [hl]
  refine zset_within_h ?_
  (try simp only [xl, xo, Bool.not_eq_true', decide_eq_false_iff_not, ite_not, List.size_toArray, List.length_cons, List.length_nil, Nat.reduceAdd, qt, decide_eq_true_eq, Int.toNat_zero, Int.toNat_natCast, Nat.zero_mul, Nat.mul_one, Nat.one_mul, List.toList_toArray, List.cons_append, List.nil_append, List.append_nil, true_and, and_true, Nat.zero_add, Nat.add_zero, Bool.not_true, Bool.not_false, if_true, if_false, reduceCtorEq, List.set_cons_zero, List.set_cons_succ])
  have hrl := rng_len f t L
  refine own_piece hv hl hft fun w hw hr hlw => ?_
  refine slices_Clone_h (l := rng f t L) hh ?_ (by rw [hrl]; omega) (fun H' hh' => by rw [hrl]; exact hr H' _ hh') fun H2 u ul hu hlu hh => ?_
  · rcases hw with ⟨rfl, rfl⟩ | ⟨a, c, rfl⟩
    · exact .inl ⟨rfl, by simp [rng]⟩
    · exact .inr ⟨a, c, by rw [hrl]⟩
  · exact hK H2 u ul hu hlu ((hh.front (ul + m)).left)
theorem packed_bytes_h [p : PickC pb m [.string (packS L)] r] (hh : Has H m) (hK : K (.int .i64 (packL L).length) H) : CallH P f_zset_packed_bytes [ptrV pb] H K := by
  apply k_zset_packed_bytes
  unfold c_zset_packed_bytes
  (try simp only [xl, xo, Bool.not_eq_true', decide_eq_false_iff_not, ite_not, List.size_toArray, List.length_cons, List.length_nil, Nat.reduceAdd, qt, decide_eq_true_eq, Int.toNat_zero, Int.toNat_natCast, Nat.zero_mul, Nat.mul_one, Nat.one_mul, List.toList_toArray, List.cons_append, List.nil_append, List.append_nil, true_and, and_true, Nat.zero_add, Nat.add_zero, Bool.not_true, Bool.not_false, if_true, if_false, reduceCtorEq, List.set_cons_zero, List.set_cons_succ])
  refine h_load (b := pb) hh rfl ?_
  (try simp only [xl, xo, Bool.not_eq_true', decide_eq_false_iff_not, ite_not, List.size_toArray, List.length_cons, List.length_nil, Nat.reduceAdd, qt, decide_eq_true_eq, Int.toNat_zero, Int.toNat_natCast, Nat.zero_mul, Nat.mul_one, Nat.one_mul, List.toList_toArray, List.cons_append, List.nil_append, List.append_nil, true_and, and_true, Nat.zero_add, Nat.add_zero, Bool.not_true, Bool.not_false, if_true, if_false, reduceCtorEq, List.set_cons_zero, List.set_cons_succ])
  exact hK
end
end Go.X.W
