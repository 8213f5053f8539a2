/- The order of texts. Which function a call through an interface reaches. append, and slices that one owns. Contracts: a dict's chains and tables, as parts of memory. Contracts: a dict's state, its moving. Contracts: a dict. Contracts: a dict of keys and things. -/
import Derived.Test.YtochkahbnhegaaaGreatZS10
import Derived.Laws.Append
set_option linter.unusedVariables false
set_option linter.unusedSimpArgs false
namespace Go.X
open Go

def lless : List UInt8 → List UInt8 → Bool
  | _, [] => false
  | [], _ :: _ => true
  | x :: a, y :: b => decide (x < y) || (decide (x = y) && lless a b)

theorem lless_eq : ∀ a b : List UInt8, Op.bytesLess a b = lless a b
  | [], [] => by simp [Op.bytesLess, lless]
  | [], _ :: _ => by simp [Op.bytesLess, lless]
  | _ :: _, [] => by simp [Op.bytesLess, lless]
  | x :: a, y :: b => by
    simp only [Op.bytesLess, lless, lless_eq a b]
    by_cases h : x = y <;> simp [h]
theorem lless_irr : ∀ a, lless a a = false
  | [] => rfl
  | x :: a => by simp [lless, lless_irr a]
theorem u8_lt {x y : UInt8} : x < y ↔ x.toNat < y.toNat := UInt8.lt_iff_toNat_lt
theorem u8_eq {x y : UInt8} : x = y ↔ x.toNat = y.toNat := UInt8.toNat_inj.symm
theorem lless_trans : ∀ a b c, lless a b = true → lless b c = true → lless a c = true
  | _, [], _, h, _ => by cases ‹List UInt8› <;> simp [lless] at h
  | _, _ :: _, [], _, h => by simp [lless] at h
  | [], _ :: _, _ :: _, _, _ => rfl
  | x :: a, y :: b, z :: c, h1, h2 => by
    simp only [lless, Bool.or_eq_true, Bool.and_eq_true, decide_eq_true_eq, u8_lt, u8_eq] at *
    rcases h1 with h1 | ⟨h1, h1'⟩ <;> rcases h2 with h2 | ⟨h2, h2'⟩
    · left; omega
    · left; omega
    · left; omega
    · right; exact ⟨by omega, lless_trans a b c h1' h2'⟩
theorem lless_tri : ∀ a b, lless a b = true ∨ a = b ∨ lless b a = true
  | [], [] => .inr (.inl rfl)
  | [], _ :: _ => .inl rfl
  | _ :: _, [] => .inr (.inr rfl)
  | x :: a, y :: b => by
    simp only [lless, Bool.or_eq_true, Bool.and_eq_true, decide_eq_true_eq, u8_lt, u8_eq, List.cons.injEq]
    rcases Nat.lt_trichotomy x.toNat y.toNat with h | h | h
    · exact .inl (.inl h)
    · rcases lless_tri a b with h' | h' | h'
      · exact .inl (.inr ⟨h, h'⟩)
      · exact .inr (.inl ⟨h, h'⟩)
      · exact .inr (.inr (.inr ⟨h.symm, h'⟩))
    · exact .inr (.inr (.inl h))

/-- Does a text stand ahead of another one? -/
def blD (a b : ByteArray) : Bool := lless a.data.toList b.data.toList
theorem bl_ex : ∃ f : ByteArray → ByteArray → Bool, f = blD := ⟨_, rfl⟩
noncomputable def bl : ByteArray → ByteArray → Bool := Classical.choose bl_ex
theorem bl_def : bl = blD := Classical.choose_spec bl_ex
theorem bl_eq (a b : ByteArray) : Op.bytesLess a.toList b.toList = bl a b := by rw [lless_eq, bl_def, blD, ByteArray.toList_eq, ByteArray.toList_eq]
theorem bl_irr (a : ByteArray) : bl a a = false := by rw [bl_def]; exact lless_irr _
theorem bl_trans {a b c : ByteArray} (h1 : bl a b = true) (h2 : bl b c = true) : bl a c = true := by rw [bl_def] at *; exact lless_trans _ _ _ h1 h2
theorem bl_tri (a b : ByteArray) : bl a b = true ∨ a = b ∨ bl b a = true := by
  rw [bl_def]
  rcases lless_tri a.data.toList b.data.toList with h | h | h
  · exact .inl h
  · right; left
    cases a with | mk a => cases b with | mk b =>
    simpa using h
  · exact .inr (.inr h)
theorem bl_asymm {a b : ByteArray} (h : bl a b = true) : bl b a = false := by
  cases hb : bl b a with
  | false => rfl
  | true => have := bl_trans h hb; rw [bl_irr] at this; cases this
theorem bl_ne {a b : ByteArray} (h : bl a b = true) : a ≠ b := fun e => by rw [e, bl_irr] at h; cases h
theorem bl_not (a b : ByteArray) : (!(bl a b || decide (a = b))) = bl b a := by
  rcases bl_tri a b with h | rfl | h
  · rw [h, bl_asymm h]; rfl
  · simp [bl_irr]
  · rw [h, bl_asymm h]; simp [(bl_ne h).symm]

section
variable {K : Value → Prop} {KH : Value → Heap → Prop} {H : Heap}
theorem x_eqlS (a b : ByteArray) : BinP .eql (.string a) (.string b) K = K (.bool (decide (a = b))) := by simp [BinP, strV, OptP, tl_beq]
theorem x_neqS (a b : ByteArray) : BinP .neq (.string a) (.string b) K = K (.bool (!decide (a = b))) := by simp [BinP, strV, OptP, tl_beq]
theorem x_lssS (a b : ByteArray) : BinP .lss (.string a) (.string b) K = K (.bool (bl a b)) := by simp [BinP, strV, OptP, bl_eq]
theorem x_gtrS (a b : ByteArray) : BinP .gtr (.string a) (.string b) K = K (.bool (bl b a)) := by simp only [BinP, strV, OptP, bl_eq, tl_beq, bl_not]
end

/-! ### Entries -/
/-- A member and its score. -/
abbrev Ent := ByteArray × Int
abbrev entV (e : Ent) : Value := .agg #[.string e.1, .int .i64 e.2]
abbrev entC (e : Ent) : List Value := [.string e.1, .int .i64 e.2]
/-- What stands ahead. -/
noncomputable def elt (a b : Ent) : Bool := decide (a.2 < b.2) || (decide (a.2 = b.2) && bl a.1 b.1)
theorem elt_irr (a : Ent) : elt a a = false := by simp [elt, bl_irr]
theorem elt_trans {a b c : Ent} (h1 : elt a b = true) (h2 : elt b c = true) : elt a c = true := by
  simp only [elt, Bool.or_eq_true, Bool.and_eq_true, decide_eq_true_eq] at *
  rcases h1 with h1 | ⟨h1, h1'⟩ <;> rcases h2 with h2 | ⟨h2, h2'⟩
  · left; omega
  · left; omega
  · left; omega
  · right; exact ⟨by omega, bl_trans h1' h2'⟩
theorem elt_asymm {a b : Ent} (h : elt a b = true) : elt b a = false := by
  cases hb : elt b a with
  | false => rfl
  | true => have := elt_trans h hb; rw [elt_irr] at this; cases this
theorem elt_tri (a b : Ent) : elt a b = true ∨ a = b ∨ elt b a = true := by
  obtain ⟨a1, a2⟩ := a; obtain ⟨b1, b2⟩ := b
  simp only [elt, Bool.or_eq_true, Bool.and_eq_true, decide_eq_true_eq, Prod.mk.injEq]
  rcases Int.lt_trichotomy a2 b2 with h | h | h
  · exact .inl (.inl h)
  · rcases bl_tri a1 b1 with h' | h' | h'
    · exact .inl (.inr ⟨h, h'⟩)
    · exact .inr (.inl ⟨h', h⟩)
    · exact .inr (.inr (.inr ⟨h.symm, h'⟩))
  · exact .inr (.inr (.inl h))

/-- The step equations, together. -/
theorem xo : type_of% @x_spl0 ∧ type_of% @x_spl1 ∧ type_of% @x_eqlS ∧ type_of% @x_neqS ∧ type_of% @x_lssS ∧ type_of% @x_gtrS :=
  ⟨@x_spl0, @x_spl1, @x_eqlS, @x_neqS, @x_lssS, @x_gtrS⟩
end Go.X
set_option linter.unusedVariables false
set_option linter.unusedSimpArgs false
namespace Go.X
open Go
variable {P : Program}

def findM (P : Program) (t : TypeId) (name : String) : Option (List FieldStep × Option (FuncId × Bool)) :=
  match P.info? t with
  | some i => (i.methods.find? (·.name == name)).map fun m => (m.path.toList, m.func)
  | none => none

theorem findM_some {t : TypeId} {name : String} {ps : List FieldStep} {fb : Option (FuncId × Bool)} (h : findM P t name = some (ps, fb)) :
    ∃ i m, P.info? t = some i ∧ i.methods.find? (·.name == name) = some m ∧ m.path.toList = ps ∧ m.func = fb := by
  unfold findM at h
  cases hi : P.info? t with
  | none => rw [hi] at h; cases h
  | some i =>
    rw [hi] at h
    simp only [Option.map_eq_some_iff, Prod.mk.injEq] at h
    obtain ⟨m, hm, h1, h2⟩ := h
    exact ⟨i, m, rfl, hm, h1, h2⟩

theorem meth_ptr {t e : TypeId} {name : String} {f : FuncId} {v : Value} {H : Heap} (h : findM P t name = some ([], some (f, true))) (hu : P.underlying t = some (.pointer e)) : MethodIs P t v name H f v := by
  obtain ⟨i, m, hi, hm, hp, hf⟩ := findM_some h
  intro w hw
  show (method (P.types.size + 99 + 1) t v name).run P w = _
  generalize P.types.size + 99 = n
  simp only [method, Sem.run_bind, run_typeInfo' hi, Result.andThen_ok, hm, hp, follow, Sem.run_pure, hf, receiverAt, run_underlying hu, Place.get]

theorem meth_val {t : TypeId} {u : TypeDesc} {name : String} {f : FuncId} {v : Value} {H : Heap} (h : findM P t name = some ([], some (f, false))) (hu : P.underlying t = some u) (hn : ∀ e, u ≠ .pointer e) : MethodIs P t v name H f v := by
  obtain ⟨i, m, hi, hm, hp, hf⟩ := findM_some h
  intro w hw
  show (method (P.types.size + 99 + 1) t v name).run P w = _
  generalize P.types.size + 99 = n
  simp only [method, Sem.run_bind, run_typeInfo' hi, Result.andThen_ok, hm, hp, follow, Sem.run_pure, hf, receiverAt, run_underlying hu]
  cases u <;> first | exact absurd rfl (hn _) | simp [Place.get]

theorem meth_emb {t s e : TypeId} {k o : Nat} {fs : Array Field} {fd : Field} {name : String} {f : FuncId} {a : Addr} {x : Value} {H : Heap} (h : findM P t name = some ([⟨s, k, true⟩], some (f, true)))
    (hs : P.underlying s = some (.struct fs)) (hk : fs[k]? = some fd) (ho : fd.offset = o) (hu : P.underlying fd.type = some (.pointer e)) (ok : okT P fd.type = true) (hag : isAggT P fd.type = false) (hsz : sizeT P fd.type = 1)
    (hl : LoadIs none H (.pointer (some (a.add o))) x) : MethodIs P t (.pointer (some a)) name H f x := by
  obtain ⟨i, m, hi, hm, hp, hf⟩ := findM_some h
  intro w hw
  have hl' : LoadIs (shapeT P fd.type) H (.pointer (some (a.add o))) x := by rw [shapeT, hag]; exact hl
  show (method (P.types.size + 99 + 1) t (.pointer (some a)) name).run P w = _
  generalize P.types.size + 99 = n
  simp only [method, Sem.run_bind, run_typeInfo' hi, Result.andThen_ok, hm, hp, follow, Sem.run_pure, run_underlying hs, hk, if_true, Place.get, asAddr, fieldPlace, run_sizeOf' ok, hsz, Sem.run_ite, hf, receiverAt, run_underlying hu, ho]
  simp [run_underlying hu, run_loadVar' ok hl' hw]
end Go.X
set_option linter.unusedVariables false
set_option linter.unusedSimpArgs false
namespace Go.X
open Go
variable {P : Program}

/-- A slice whose cells, and whose room, are one's own. -/
def SlOwn (sz : Nat) (v : Value) (cs : List Value) (m : Mem) : Prop :=
  (v = .slice none 0 0 ∧ cs = [] ∧ m = emp) ∨ ∃ b len cap rest, v = .slice (some ⟨b, 0, none⟩) len cap ∧ cs.length = len * sz ∧ len ≤ cap ∧ rest.length = (cap - len) * sz ∧ m = cell b (cs ++ rest)

theorem storeAll_frm {b o : Nat} {K : Heap → Prop} {vs cs : List Value} {H : Heap} (h : Blk H b cs) (hv : ∀ v ∈ vs, v.oneCell = true) (hl : o + vs.length ≤ cs.length)
    (hk : ∀ H', Frm (fun x => x = b) H H' → Blk H' b (spliceL cs o vs) → K H') : storeAll ⟨b, o, none⟩ vs 0 H K :=
  storeAll_blk vs 0 H cs h hv (by simpa using hl) fun H' f _ hb => hk H' f (by simpa using hb)

theorem splice_mid : ∀ (vs cs rest : List Value), vs.length ≤ rest.length → spliceL (cs ++ rest) cs.length vs = cs ++ vs ++ rest.drop vs.length
  | [], cs, rest, _ => by simp [spliceL]
  | v :: vs, cs, r :: rest, h => by
    have e : (cs ++ r :: rest).set cs.length v = (cs ++ [v]) ++ rest := by
      rw [List.set_append_right _ _ (Nat.le_refl _), Nat.sub_self, List.set_cons_zero, List.append_assoc]; rfl
    rw [spliceL, e]
    have := splice_mid vs (cs ++ [v]) rest (by simpa using h)
    rw [List.length_append] at this
    simp only [List.length_cons, List.length_nil, Nat.zero_add] at this
    rw [this]
    simp
  | _ :: _, cs, [], h => by simp at h

/-- append to a slice that one owns. -/
theorem h_append {elem : TypeId} {sz bt : Nat} {s x : Value} {cs new : List Value} {sl m : Mem} {H : Heap} {K : Value → Heap → Prop} {len : Nat} (hsz : sizeT P elem = sz) (hbt : bytesT P elem = bt) (hz : (zeroT P elem).cells.size = sz)
    (h0 : 0 < sz ∧ 0 < bt ∧ bt ≤ 100) (hown : SlOwn sz s cs sl) (hh : Has H (sl + m)) (hl : cs.length = len * sz) (hx : readCells sz (lenV x) H x = some new) (hn : new.length = lenV x * sz) (hoc : ∀ v ∈ new, v.oneCell = true)
    (hb : len + lenV x ≤ 1000000000)
    (hk : ∀ v' sl' H', SlOwn sz v' (cs ++ new) sl' → Has H' (sl' + m) → lenV v' = len + lenV x → K v' H') : AppendP P elem s x H K := by
  have room : ∀ cap, cap < len + lenV x → Builtin.nextslicecap (len + lenV x) cap * bytesT P elem ≤ 2 ^ 48 := fun cap hc => by
    rw [hbt]
    have h2 : (len + lenV x) * bt ≤ 1000000000 * 100 := Nat.mul_le_mul hb h0.2.2
    exact growslice_fits hc (by omega)
  rcases hown with ⟨rfl, rfl, rfl⟩ | ⟨b, len', cap, rest, rfl, hlen, hcap, hrest, rfl⟩
  · have hlen0 : len = 0 := by
      have : len * sz = 0 := by simpa using hl.symm
      rcases Nat.mul_eq_zero.1 this with h | h
      · exact h
      · omega
    subst hlen0
    rw [emp_add] at hh
    rw [Nat.zero_add] at *
    refine ⟨new, by rw [hsz]; exact hx, fun hle => ?_, fun hlt => ⟨[], rfl, (by rw [Nat.zero_add]; exact room 0 (by omega)), ⟨by rw [hbt]; exact h0.2.1, by simp [IntKind.max, IntKind.bits, IntKind.signed]; omega⟩, fun c hc => ?_⟩⟩
    · have hx0 : lenV x = 0 := by omega
      have hnil : new = [] := List.eq_nil_of_length_eq_zero (by rw [hn, hx0]; simp)
      subst hnil
      simp only [StoreRowP]
      rw [hx0, Nat.add_zero]
      exact hk _ emp H (.inl ⟨rfl, rfl, rfl⟩) (by rw [emp_add]; exact hh) (by rw [hx0]; rfl)
    · rw [Nat.zero_add]
      refine hk _ (cell H.size (new ++ zerosN (zeroT P elem).cells (c - lenV x))) _ (.inr ⟨H.size, lenV x, c, zerosN (zeroT P elem).cells (c - lenV x), rfl, by simpa using hn, by omega, ?_, by simp⟩) ?_ (by simp [lenV])
      · rw [zerosN_length, hz]
      · refine hh.new (push_frm _ _ _) (Nat.le_refl _) ⟨elem, ?_⟩
        simp
  · have hll : len' = len := by
      have : len' * sz = len * sz := by rw [← hlen, hl]
      exact Nat.eq_of_mul_eq_mul_right h0.1 this
    subst hll
    refine ⟨new, by rw [hsz]; exact hx, fun hle => ?_, fun hlt => ?_⟩
    · simp only [StoreRowP, addr_add, Nat.zero_add, hsz]
      have hb2 : Blk H b (cs ++ rest) := hh.blk
      have hroom : new.length ≤ rest.length := by
        rw [hn, hrest]
        exact Nat.mul_le_mul_right _ (by omega)
      refine storeAll_frm hb2 hoc (by rw [List.length_append, ← hl]; omega) fun H' f hb' => ?_
      rw [← hl, splice_mid _ _ _ hroom] at hb'
      refine hk _ (cell b (cs ++ new ++ rest.drop new.length)) H' (.inr ⟨b, len' + lenV x, cap, rest.drop new.length, rfl, ?_, hle, ?_, rfl⟩) ?_ (by simp [lenV])
      · rw [List.length_append, hlen, hn, Nat.add_mul]
      · rw [List.length_drop, hrest, hn, ← Nat.sub_mul]
        congr 1
        omega
      · exact Has.set (c := .cells _) (c' := .cells _) hh f hb'
    · have hb2 : Blk H b (cs ++ rest) := hh.blk
      refine ⟨cs, ?_, room cap hlt, ⟨by rw [hbt]; exact h0.2.1, by simp [IntKind.max, IntKind.bits, IntKind.signed]; omega⟩, fun c hc => ?_⟩
      · rw [hsz]
        simp only [readCells]
        rw [← hl, hb2.readN 0 cs.length 0 (by simp)]
        simp
      · refine hk _ (cell H.size (cs ++ new ++ zerosN (zeroT P elem).cells (c - (len' + lenV x)))) _ (.inr ⟨H.size, len' + lenV x, c, zerosN (zeroT P elem).cells (c - (len' + lenV x)), rfl, ?_, by omega, ?_, rfl⟩) ?_ (by simp [lenV])
        · rw [List.length_append, hlen, hn, Nat.add_mul]
        · rw [zerosN_length, hz]
        · refine hh.right.new (push_frm _ _ _) (Nat.le_refl _) ⟨elem, ?_⟩
          simp
end Go.X
set_option linter.unusedVariables false
set_option linter.unusedSimpArgs false
namespace Go.X.W
open Go Go.X Go.Proofs

/-- A hash's slot. -/
def slotD (sum : Int) (size : Nat) : Nat := sum.toNat % size
theorem slot_ex : ∃ f : Int → Nat → Nat, f = slotD := ⟨_, rfl⟩
noncomputable def slotN : Int → Nat → Nat := Classical.choose slot_ex
theorem slotN_def : slotN = slotD := Classical.choose_spec slot_ex

theorem slot_val {sum : Int} {n : Nat} (hs : 0 ≤ sum ∧ sum < 4294967296) (hn : IsSz n) :
    IntKind.i64.wrap (IntKind.u32.wrap (BitVec.ofInt 32 sum &&& BitVec.ofInt 32 (IntKind.u32.wrap (IntKind.i64.wrap ((n : Int) - 1)))).toNat) = (slotN sum n : Nat) := by
  have hb := hn.bd
  rw [w64 (n := (n : Int) - 1) (by omega), wu32 (n := (n : Int) - 1) (by omega)]
  have e1 : (BitVec.ofInt 32 sum).toNat = sum.toNat := by
    rw [BitVec.toNat_ofInt]; omega
  have e2 : (BitVec.ofInt 32 ((n : Int) - 1)).toNat = n - 1 := by
    rw [BitVec.toNat_ofInt]; omega
  rw [BitVec.toNat_and, e1, e2]
  obtain ⟨k, h2, h16, rfl⟩ := hn
  rw [Nat.and_two_pow_sub_one_eq_mod, slotN_def]
  have hlt : sum.toNat % 2 ^ k < 2 ^ k := Nat.mod_lt _ (by omega)
  unfold slotD
  generalize sum.toNat % 2 ^ k = m at *
  rw [wu32 (by omega), w64 (by omega)]

theorem slotN_lt {sum : Int} {n : Nat} (hn : IsSz n) : slotN sum n < n := by rw [slotN_def]; exact Nat.mod_lt _ (by have := hn.bd; omega)

theorem dict_slot_k {sum : Int} {n c : Nat} {a : Option Addr} {H : Heap} {K : Value → Heap → Prop} (hs : 0 ≤ sum ∧ sum < 4294967296) (hn : IsSz n)
    (hK : K (.int .i64 (slotN sum n : Nat)) H) : CallH P f_dict_slot_int64 [.slice a n c, .int .u32 sum] H K := by
  apply k_dict_slot_int64
  unfold c_dict_slot_int64
  (repeat (first | (refine Blk.load (by assumption) (by rfl) ?_) | (simp only [xl, xo, List.size_toArray, List.length_cons, List.length_nil, Nat.reduceAdd, qt, decide_eq_true_eq, Int.toNat_zero, Int.toNat_natCast, Nat.zero_mul, Nat.mul_one, Nat.one_mul, List.toList_toArray, List.cons_append, List.nil_append, List.append_nil, true_and, and_true, Nat.zero_add, Nat.add_zero, Bool.not_true, Bool.not_false, if_true, if_false, reduceCtorEq, List.set_cons_zero, List.set_cons_succ])))
  exact (congrArg (fun z => K (.int .i64 z) H) (slot_val hs hn)).mpr hK

theorem dict_put_h {sum : Int} {key v nx y : Value} {tb x lb c c' n : Nat} {cs : List Value} {H : Heap} {m r r1 r2 : Mem} {K : Value → Heap → Prop} (hh : Has H m) [p3 : PickC lb m [.pointer (some ⟨x, 0, none⟩)] r] [p1 : PickC tb r cs r1]
    [p2 : PickC x r1 [.int .u32 sum, key, v, nx] r2] (hl : cs.length = n) (hs : 0 ≤ sum ∧ sum < 4294967296) (hn : IsSz n) (hy : cs[slotN sum n]? = some y) (hoc : y.oneCell = true)
    (hK : ∀ H', Has H' (cell tb (cs.set (slotN sum n) (.pointer (some ⟨x, 0, none⟩))) + (cell x [.int .u32 sum, key, v, y] + r2)) → K (.tuple #[]) H') :
    CallH P f_dict_put_int64 [.slice (some ⟨tb, 0, none⟩) n c, .slice (some ⟨lb, 0, none⟩) 1 c'] H K := by
  rw [p3.eq, p1.eq, p2.eq] at hh
  have hh := hh.to (show _ = cell tb cs + (cell x [.int .u32 sum, key, v, nx] + (cell lb [.pointer (some ⟨x, 0, none⟩)] + r2)) by ac_rfl)
  apply k_dict_put_int64
  unfold c_dict_put_int64
  (repeat (first | (refine h_load hh (by rfl) ?_) | (simp only [xl, xo, List.size_toArray, List.length_cons, List.length_nil, Nat.reduceAdd, qt, decide_eq_true_eq, Int.toNat_zero, Int.toNat_natCast, Nat.zero_mul, Nat.mul_one, Nat.one_mul, List.toList_toArray, List.cons_append, List.nil_append, List.append_nil, true_and, and_true, Nat.zero_add, Nat.add_zero, Bool.not_true, Bool.not_false, if_true, if_false, reduceCtorEq, List.set_cons_zero, List.set_cons_succ])))
  have hi := slotN_lt (sum := sum) hn
  refine loop_i (fun k s H' => (k = 1 ∧ Has H' (cell tb cs + (cell x [.int .u32 sum, key, v, nx] + (cell lb [.pointer (some ⟨x, 0, none⟩)] + r2))) ∧ s = (.int .i64 0, [])) ∨ (k = 0 ∧ s = (.int .i64 1, []) ∧ K (.tuple #[]) H')) 1 (.inl ⟨rfl, hh, rfl⟩) ?_
  rintro k s g H' (⟨rfl, hh, rfl⟩ | ⟨rfl, rfl, hk⟩)
  · (repeat (first | (refine h_load hh (by rfl) ?_) | (simp only [xl, xo, List.size_toArray, List.length_cons, List.length_nil, Nat.reduceAdd, qt, decide_eq_true_eq, Int.toNat_zero, Int.toNat_natCast, Nat.zero_mul, Nat.mul_one, Nat.one_mul, List.toList_toArray, List.cons_append, List.nil_append, List.append_nil, true_and, and_true, Nat.zero_add, Nat.add_zero, Bool.not_true, Bool.not_false, if_true, if_false, reduceCtorEq, List.set_cons_zero, List.set_cons_succ])))
    rw [if_pos (by omega)]
    (repeat (first | (refine h_load hh (by rfl) ?_) | (simp only [xl, xo, List.size_toArray, List.length_cons, List.length_nil, Nat.reduceAdd, qt, decide_eq_true_eq, Int.toNat_zero, Int.toNat_natCast, Nat.zero_mul, Nat.mul_one, Nat.one_mul, List.toList_toArray, List.cons_append, List.nil_append, List.append_nil, true_and, and_true, Nat.zero_add, Nat.add_zero, Bool.not_true, Bool.not_false, if_true, if_false, reduceCtorEq, List.set_cons_zero, List.set_cons_succ])))
    refine ⟨by omega, ?_⟩
    (repeat (first | (refine h_load hh (by rfl) ?_) | (simp only [xl, xo, List.size_toArray, List.length_cons, List.length_nil, Nat.reduceAdd, qt, decide_eq_true_eq, Int.toNat_zero, Int.toNat_natCast, Nat.zero_mul, Nat.mul_one, Nat.one_mul, List.toList_toArray, List.cons_append, List.nil_append, List.append_nil, true_and, and_true, Nat.zero_add, Nat.add_zero, Bool.not_true, Bool.not_false, if_true, if_false, reduceCtorEq, List.set_cons_zero, List.set_cons_succ])))
    refine dict_slot_k hs hn ?_
    (repeat (first | (refine h_load hh (by rfl) ?_) | (simp only [xl, xo, List.size_toArray, List.length_cons, List.length_nil, Nat.reduceAdd, qt, decide_eq_true_eq, Int.toNat_zero, Int.toNat_natCast, Nat.zero_mul, Nat.mul_one, Nat.one_mul, List.toList_toArray, List.cons_append, List.nil_append, List.append_nil, true_and, and_true, Nat.zero_add, Nat.add_zero, Bool.not_true, Bool.not_false, if_true, if_false, reduceCtorEq, List.set_cons_zero, List.set_cons_succ])))
    refine ⟨by omega, ?_⟩
    refine h_load hh hy ?_
    (repeat (first | (refine h_load hh (by rfl) ?_) | (simp only [xl, xo, List.size_toArray, List.length_cons, List.length_nil, Nat.reduceAdd, qt, decide_eq_true_eq, Int.toNat_zero, Int.toNat_natCast, Nat.zero_mul, Nat.mul_one, Nat.one_mul, List.toList_toArray, List.cons_append, List.nil_append, List.append_nil, true_and, and_true, Nat.zero_add, Nat.add_zero, Bool.not_true, Bool.not_false, if_true, if_false, reduceCtorEq, List.set_cons_zero, List.set_cons_succ])))
    refine h_store hh hoc (by simp) fun H2 hh => ?_
    (repeat (first | (refine h_load hh (by rfl) ?_) | (simp only [xl, xo, List.size_toArray, List.length_cons, List.length_nil, Nat.reduceAdd, qt, decide_eq_true_eq, Int.toNat_zero, Int.toNat_natCast, Nat.zero_mul, Nat.mul_one, Nat.one_mul, List.toList_toArray, List.cons_append, List.nil_append, List.append_nil, true_and, and_true, Nat.zero_add, Nat.add_zero, Bool.not_true, Bool.not_false, if_true, if_false, reduceCtorEq, List.set_cons_zero, List.set_cons_succ])))
    refine ⟨by omega, ?_⟩
    refine h_store hh rfl (by omega) fun H3 hh => ?_
    (repeat (first | (refine h_load hh (by rfl) ?_) | (simp only [xl, xo, List.size_toArray, List.length_cons, List.length_nil, Nat.reduceAdd, qt, decide_eq_true_eq, Int.toNat_zero, Int.toNat_natCast, Nat.zero_mul, Nat.mul_one, Nat.one_mul, List.toList_toArray, List.cons_append, List.nil_append, List.append_nil, true_and, and_true, Nat.zero_add, Nat.add_zero, Bool.not_true, Bool.not_false, if_true, if_false, reduceCtorEq, List.set_cons_zero, List.set_cons_succ])))
    refine ⟨0, by omega, .inr ⟨rfl, rfl, hK _ ?_⟩⟩
    simp only [List.set_cons_zero, List.set_cons_succ] at hh
    have hh := hh.drop (cell lb [.pointer (some ⟨x, 0, none⟩)])
    exact hh
  · (repeat (first | (refine h_load hh (by rfl) ?_) | (simp only [xl, xo, List.size_toArray, List.length_cons, List.length_nil, Nat.reduceAdd, qt, decide_eq_true_eq, Int.toNat_zero, Int.toNat_natCast, Nat.zero_mul, Nat.mul_one, Nat.one_mul, List.toList_toArray, List.cons_append, List.nil_append, List.append_nil, true_and, and_true, Nat.zero_add, Nat.add_zero, Bool.not_true, Bool.not_false, if_true, if_false, reduceCtorEq, List.set_cons_zero, List.set_cons_succ])))
    rw [if_neg (by omega)]
    exact hk

/-- A node of a dict: its block, its key, its thing. -/
structure DNode where
  b : Nat
  key : ByteArray
  v : Value
abbrev Tabl := List (List DNode)

abbrev nilV : Value := .pointer none
def headV (nx : Value) (l : List DNode) : Value := match l with | [] => nx | x :: _ => .pointer (some ⟨x.b, 0, none⟩)
/-- A piece of a chain, as far as what is behind it. -/
noncomputable def seg (seed : Int) (nx : Value) : List DNode → Mem
  | [] => emp
  | x :: l => cell x.b [.int .u32 (hsum seed x.key), .string x.key, x.v, headV nx l] + seg seed nx l
noncomputable def chains (seed : Int) : Tabl → Mem
  | [] => emp
  | c :: T => seg seed nilV c + chains seed T
noncomputable def tabM (seed : Int) (tb : Nat) (T : Tabl) : Mem := cell tb (T.map (headV nilV)) + chains seed T

theorem headV_oc (c : List DNode) : (headV nilV c).oneCell = true := by cases c <;> rfl
theorem headV_append (nx : Value) (l1 l2 : List DNode) : headV nx (l1 ++ l2) = headV (headV nx l2) l1 := by cases l1 <;> rfl
theorem seg_append (seed : Int) (nx : Value) (l1 l2 : List DNode) : seg seed nx (l1 ++ l2) = seg seed (headV nx l2) l1 + seg seed nx l2 := by
  induction l1 with
  | nil => rw [List.nil_append, seg, emp_add]
  | cons x l ih => rw [List.cons_append, seg, seg, ih, headV_append, mem_assoc]
theorem chains_set {seed : Int} {T : Tabl} {i : Nat} (c : List DNode) (hi : i < T.length) : chains seed (T.set i c) = seg seed nilV c + chains seed (T.set i []) := by
  induction T generalizing i with
  | nil => simp at hi
  | cons a T ih =>
    cases i with
    | zero => simp [chains, seg, emp_add]
    | succ i =>
      simp only [List.set_cons_succ, chains]
      rw [ih (i := i) (by simpa using hi), mem_left_comm]
theorem set_self {T : Tabl} {i : Nat} {c : List DNode} (h : T[i]? = some c) : T.set i c = T := by
  apply List.ext_getElem?
  intro j
  rw [List.getElem?_set]
  split
  · rename_i e; subst e
    rw [h]
    split
    · rfl
    · rename_i hh; rw [List.getElem?_eq_none (by omega)] at h; cases h
  · rfl
theorem chains_get {seed : Int} {T : Tabl} {i : Nat} {c : List DNode} (h : T[i]? = some c) : chains seed T = seg seed nilV c + chains seed (T.set i []) := by
  have hi : i < T.length := (List.getElem?_eq_some_iff.1 h).1
  have := chains_set (seed := seed) c hi
  rwa [set_self h] at this

theorem flat_set {T : Tabl} {i : Nat} (c : List DNode) (hi : i < T.length) : (T.set i c).flatten.Perm (c ++ (T.set i []).flatten) := by
  induction T generalizing i with
  | nil => simp at hi
  | cons c' T ih =>
    cases i with
    | zero => simp
    | succ i =>
      simp only [List.set_cons_succ, List.flatten_cons]
      refine ((ih (i := i) (by simpa using hi)).append_left c').trans ?_
      rw [← List.append_assoc, ← List.append_assoc]
      exact List.perm_append_comm.append_right _
theorem flat_get {T : Tabl} {i : Nat} {c : List DNode} (h : T[i]? = some c) : T.flatten.Perm (c ++ (T.set i []).flatten) := by
  have hi : i < T.length := (List.getElem?_eq_some_iff.1 h).1
  have := flat_set c hi
  rwa [set_self h] at this

/-- What is right about a table. -/
structure TabOk (seed : Int) (T : Tabl) : Prop where
  sz : IsSz T.length
  bd : T.length ≤ 1024
  slot : ∀ i c, T[i]? = some c → ∀ x ∈ c, slotN (hsum seed x.key) T.length = i
  oc : ∀ c ∈ T, ∀ x ∈ c, x.v.oneCell = true

theorem TabOk.set {seed : Int} {i : Nat} {T : Tabl} {c' : List DNode} (h : TabOk seed T) (hs : ∀ x ∈ c', slotN (hsum seed x.key) T.length = i) (hoc : ∀ x ∈ c', x.v.oneCell = true) : TabOk seed (T.set i c') := by
  by_cases hi : i < T.length
  case neg =>
    rw [List.set_eq_of_length_le (by omega)]; exact h
  have spl : ∀ (j : Nat) (c : List DNode), (T.set i c')[j]? = some c → (j = i ∧ c = c') ∨ T[j]? = some c := by
    intro j c hj
    by_cases e : j = i
    · subst e
      rw [List.getElem?_set_self hi] at hj
      left; exact ⟨rfl, by simpa using hj.symm⟩
    · rw [List.getElem?_set_ne (fun e' => e e'.symm)] at hj
      exact .inr hj
  refine ⟨by rw [List.length_set]; exact h.sz, by rw [List.length_set]; exact h.bd, fun j c hc2 => ?_, fun c hc2 => ?_⟩
  · rw [List.length_set]
    rcases spl j c hc2 with ⟨rfl, rfl⟩ | hj
    · exact hs
    · exact h.slot j c hj
  · obtain ⟨j, hj⟩ := List.getElem?_of_mem hc2
    rcases spl j c hj with ⟨rfl, rfl⟩ | hj
    · exact hoc
    · exact h.oc c (List.mem_of_getElem? hj)

/-- The nodes of a chain are gone through, one by one. -/
theorem dict_chain_i {l cb : Nat} {H : Heap} {K : Value → Heap → Prop} (c : List DNode) (Inv : List DNode → Heap → Prop)
    (hx : ∀ r G, Inv r G → Blk G cb [headV nilV r])
    (hn : ∀ x r G, Inv (x :: r) G → ∃ s k v, Blk G x.b [s, k, v, headV nilV r])
    (hY : ∀ x r G, Inv (x :: r) G → YieldH P l [.pointer (some ⟨x.b, 0, none⟩)] G (fun v G' => v = .bool true ∧ ∃ m', Has G' (cell cb [headV nilV (x :: r)] + m') ∧
      ∀ G'', Has G'' (cell cb [headV nilV r] + m') → Inv r G''))
    (h0 : Inv c H) (hK : ∀ G, Inv [] G → K (.tuple #[]) G) : CallH P f_dict_chain_int64_1 [.func (.yield l) #[] #[], .pointer (some ⟨cb, 0, none⟩)] H K := by
  apply k_dict_chain_int64_1
  unfold c_dict_chain_int64_1
  refine loop_i (fun m s G => ∃ r : List DNode, r.length = m ∧ s = ((), []) ∧ Inv r G) c.length ⟨c, rfl, rfl, h0⟩ ?_
  rintro m _ g G ⟨r, rfl, rfl, hi⟩
  have hc := hx r G hi
  cases r with
  | nil =>
    simp only [headV] at hc
    (repeat (first | (refine Blk.load (by assumption) (by rfl) ?_) | (simp only [xl, xo, List.size_toArray, List.length_cons, List.length_nil, Nat.reduceAdd, qt, decide_eq_true_eq, Int.toNat_zero, Int.toNat_natCast, Nat.zero_mul, Nat.mul_one, Nat.one_mul, List.toList_toArray, List.cons_append, List.nil_append, List.append_nil, true_and, and_true, Nat.zero_add, Nat.add_zero, Bool.not_true, Bool.not_false, if_true, if_false, reduceCtorEq, List.set_cons_zero, List.set_cons_succ])))
    exact hK G hi
  | cons x r =>
    obtain ⟨s, k, v, hb⟩ := hn x r G hi
    have e : headV nilV (x :: r) = .pointer (some ⟨x.b, 0, none⟩) := rfl
    rw [e] at hc
    (repeat (first | (refine Blk.load (by assumption) (by rfl) ?_) | (simp only [xl, xo, List.size_toArray, List.length_cons, List.length_nil, Nat.reduceAdd, qt, decide_eq_true_eq, Int.toNat_zero, Int.toNat_natCast, Nat.zero_mul, Nat.mul_one, Nat.one_mul, List.toList_toArray, List.cons_append, List.nil_append, List.append_nil, true_and, and_true, Nat.zero_add, Nat.add_zero, Bool.not_true, Bool.not_false, if_true, if_false, reduceCtorEq, List.set_cons_zero, List.set_cons_succ])))
    refine YieldH.mono (hY x r G hi) ?_
    rintro v G' ⟨rfl, m', hh, hr⟩
    (repeat (first | (refine Blk.load (by assumption) (by rfl) ?_) | (simp only [xl, xo, List.size_toArray, List.length_cons, List.length_nil, Nat.reduceAdd, qt, decide_eq_true_eq, Int.toNat_zero, Int.toNat_natCast, Nat.zero_mul, Nat.mul_one, Nat.one_mul, List.toList_toArray, List.cons_append, List.nil_append, List.append_nil, true_and, and_true, Nat.zero_add, Nat.add_zero, Bool.not_true, Bool.not_false, if_true, if_false, reduceCtorEq, List.set_cons_zero, List.set_cons_succ])))
    refine h_store hh (headV_oc r) (by simp) fun G2 hh => ?_
    exact ⟨r.length, by simp, r, rfl, hr G2 hh⟩
end Go.X.W
set_option linter.unusedVariables false
set_option linter.unusedSimpArgs false
namespace Go.X.W
open Go Go.X Go.Proofs

/-- A dict's state. -/
structure DSt where
  seed : Int
  tb0 : Nat
  T0 : Tabl
  R : Option (Nat × Tabl)
  pos : Nat
  n : Int

def sndV (R : Option (Nat × Tabl)) : Value := match R with | none => .slice none 0 0 | some (tb1, T1) => .slice (some ⟨tb1, 0, none⟩) T1.length T1.length
def rFlat (R : Option (Nat × Tabl)) : List DNode := match R with | none => [] | some (_, T1) => T1.flatten
noncomputable def rM (seed : Int) (R : Option (Nat × Tabl)) : Mem := match R with | none => emp | some (tb1, T1) => tabM seed tb1 T1
def dictCells (D : DSt) : List Value := [.int .u32 D.seed, .slice (some ⟨D.tb0, 0, none⟩) D.T0.length D.T0.length, sndV D.R, .int .i64 D.pos, .int .i64 D.n]
noncomputable def restM (D : DSt) : Mem := tabM D.seed D.tb0 D.T0 + rM D.seed D.R
noncomputable def dictM (d : Nat) (D : DSt) : Mem := cell d (dictCells D) + restM D
def DSt.flat (D : DSt) : List DNode := D.T0.flatten ++ rFlat D.R
structure DSt.Ok (D : DSt) : Prop where
  t0 : TabOk D.seed D.T0
  t1 : ∀ tb1 T1, D.R = some (tb1, T1) → TabOk D.seed T1
  at0 : D.R = none → D.pos = 0
  at1 : D.R ≠ none → D.pos < D.T0.length
  mv : ∀ i, i < D.pos → D.T0[i]? = some []

/-- A place that is the start of a slot in both tables. -/
def Al (D : DSt) (p : Nat) : Prop := p % (4294967296 / D.T0.length) = 0 ∧ ∀ tb1 T1, D.R = some (tb1, T1) → p % (4294967296 / T1.length) = 0
def AlLe (D D' : DSt) : Prop := ∀ p, Al D p → Al D' p

theorem dict_isMoving_k {H : Heap} {d : Nat} {R : Option (Nat × Tabl)} {a b c e : Value} {K : Value → Heap → Prop} (h : Blk H d [a, b, sndV R, c, e]) (hK : K (.bool R.isSome) H) :
    CallH P f_dict_Dict_int64_isMoving [.pointer (some ⟨d, 0, none⟩)] H K := by
  apply k_dict_Dict_int64_isMoving
  unfold c_dict_Dict_int64_isMoving
  (repeat (first | (refine Blk.load (by assumption) (by rfl) ?_) | (simp only [xl, xo, List.size_toArray, List.length_cons, List.length_nil, Nat.reduceAdd, qt, decide_eq_true_eq, Int.toNat_zero, Int.toNat_natCast, Nat.zero_mul, Nat.mul_one, Nat.one_mul, List.toList_toArray, List.cons_append, List.nil_append, List.append_nil, true_and, and_true, Nat.zero_add, Nat.add_zero, Bool.not_true, Bool.not_false, if_true, if_false, reduceCtorEq, List.set_cons_zero, List.set_cons_succ])))
  refine ⟨by omega, ?_⟩
  refine h.load rfl ?_
  cases R with
  | none => simp only [sndV]; (repeat (first | (refine Blk.load (by assumption) (by rfl) ?_) | (simp only [xl, xo, List.size_toArray, List.length_cons, List.length_nil, Nat.reduceAdd, qt, decide_eq_true_eq, Int.toNat_zero, Int.toNat_natCast, Nat.zero_mul, Nat.mul_one, Nat.one_mul, List.toList_toArray, List.cons_append, List.nil_append, List.append_nil, true_and, and_true, Nat.zero_add, Nat.add_zero, Bool.not_true, Bool.not_false, if_true, if_false, reduceCtorEq, List.set_cons_zero, List.set_cons_succ]))); exact hK
  | some R => simp only [sndV]; (repeat (first | (refine Blk.load (by assumption) (by rfl) ?_) | (simp only [xl, xo, List.size_toArray, List.length_cons, List.length_nil, Nat.reduceAdd, qt, decide_eq_true_eq, Int.toNat_zero, Int.toNat_natCast, Nat.zero_mul, Nat.mul_one, Nat.one_mul, List.toList_toArray, List.cons_append, List.nil_append, List.append_nil, true_and, and_true, Nat.zero_add, Nat.add_zero, Bool.not_true, Bool.not_false, if_true, if_false, reduceCtorEq, List.set_cons_zero, List.set_cons_succ]))); exact hK

theorem dict_StepA_h {H : Heap} {d : Nat} {D : DSt} {k : Int} {K : Value → Heap → Prop} {m : Mem} (hk : k < 9223372036854775807) (hh : Has H (dictM d D + m)) (hD : D.Ok)
    (hK : ∀ H' D' v, Has H' (dictM d D' + m) → D'.Ok → D'.flat.Perm D.flat → D'.seed = D.seed → D'.n = D.n → AlLe D D' → K (.int .i64 v) H') :
    CallH P f_dict_Dict_int64_Step [.pointer (some ⟨d, 0, none⟩), .int .i64 k] H K := by
  apply k_dict_Dict_int64_Step
  unfold c_dict_Dict_int64_Step
  (try simp only [xl, xo, List.size_toArray, List.length_cons, List.length_nil, Nat.reduceAdd, qt, decide_eq_true_eq, Int.toNat_zero, Int.toNat_natCast, Nat.zero_mul, Nat.mul_one, Nat.one_mul, List.toList_toArray, List.cons_append, List.nil_append, List.append_nil, true_and, and_true, Nat.zero_add, Nat.add_zero, Bool.not_true, Bool.not_false, if_true, if_false, reduceCtorEq, List.set_cons_zero, List.set_cons_succ])
  refine h_alloc hh fun dv H1 hh => ?_
  (repeat (first | (refine h_load hh (by rfl) ?_) | (simp only [xl, xo, List.size_toArray, List.length_cons, List.length_nil, Nat.reduceAdd, qt, decide_eq_true_eq, Int.toNat_zero, Int.toNat_natCast, Nat.zero_mul, Nat.mul_one, Nat.one_mul, List.toList_toArray, List.cons_append, List.nil_append, List.append_nil, true_and, and_true, Nat.zero_add, Nat.add_zero, Bool.not_true, Bool.not_false, if_true, if_false, reduceCtorEq, List.set_cons_zero, List.set_cons_succ])))
  refine loop_i (fun j s G => ∃ (D' : DSt) (v : Int) (Ds : List Nat), s = (.int .i64 v, dsL Ds) ∧ 0 ≤ v ∧ j = (k - v).toNat ∧
      Has G (dsM Ds + (cell dv [.pointer (some ⟨d, 0, none⟩)] + (dictM d D' + m))) ∧ D'.Ok ∧ D'.flat.Perm D.flat ∧ D'.seed = D.seed ∧ D'.n = D.n ∧ AlLe D D') k.toNat
    ⟨D, 0, [], rfl, by omega, by simp, by rw [dsM, emp_add]; exact hh, hD, List.Perm.refl _, rfl, rfl, fun p h => h⟩ ?_
  rintro j s g G ⟨D', v, Ds, rfl, hv0, hj, hh, hD', hP, hse, hn, hal⟩
  have fin : RetP (dsL Ds) G fun G' => K (.int .i64 v) G' := by
    refine h_ret Ds hh fun G' hh => hK G' D' v hh.right hD' hP hse hn hal
  simp only [x_lss, x_splitD]
  by_cases hvk : v < k
  case neg => rw [if_neg hvk]; exact fin
  rw [if_pos hvk]
  obtain ⟨seed, tb0, T0, R, pos, n⟩ := D'
  simp only at hse hn
  simp only [dictM, restM, dictCells] at hh
  (repeat (first | (refine h_load hh (by rfl) ?_) | (simp only [xl, xo, List.size_toArray, List.length_cons, List.length_nil, Nat.reduceAdd, qt, decide_eq_true_eq, Int.toNat_zero, Int.toNat_natCast, Nat.zero_mul, Nat.mul_one, Nat.one_mul, List.toList_toArray, List.cons_append, List.nil_append, List.append_nil, true_and, and_true, Nat.zero_add, Nat.add_zero, Bool.not_true, Bool.not_false, if_true, if_false, reduceCtorEq, List.set_cons_zero, List.set_cons_succ])))
  refine dict_isMoving_k hh.blk ?_
  cases R with
  | none => (repeat (first | (refine h_load hh (by rfl) ?_) | (simp only [xl, xo, List.size_toArray, List.length_cons, List.length_nil, Nat.reduceAdd, qt, decide_eq_true_eq, Int.toNat_zero, Int.toNat_natCast, Nat.zero_mul, Nat.mul_one, Nat.one_mul, List.toList_toArray, List.cons_append, List.nil_append, List.append_nil, true_and, and_true, Nat.zero_add, Nat.add_zero, Bool.not_true, Bool.not_false, if_true, if_false, reduceCtorEq, List.set_cons_zero, List.set_cons_succ]))); exact fin
  | some R =>
  obtain ⟨tb1, T1⟩ := R
  simp only [Option.isSome, sndV, rM, tabM] at hh ⊢
  (repeat (first | (refine h_load hh (by rfl) ?_) | (simp only [xl, xo, List.size_toArray, List.length_cons, List.length_nil, Nat.reduceAdd, qt, decide_eq_true_eq, Int.toNat_zero, Int.toNat_natCast, Nat.zero_mul, Nat.mul_one, Nat.one_mul, List.toList_toArray, List.cons_append, List.nil_append, List.append_nil, true_and, and_true, Nat.zero_add, Nat.add_zero, Bool.not_true, Bool.not_false, if_true, if_false, reduceCtorEq, List.set_cons_zero, List.set_cons_succ])))
  refine ⟨by omega, ?_⟩
  (repeat (first | (refine h_load hh (by rfl) ?_) | (simp only [xl, xo, List.size_toArray, List.length_cons, List.length_nil, Nat.reduceAdd, qt, decide_eq_true_eq, Int.toNat_zero, Int.toNat_natCast, Nat.zero_mul, Nat.mul_one, Nat.one_mul, List.toList_toArray, List.cons_append, List.nil_append, List.append_nil, true_and, and_true, Nat.zero_add, Nat.add_zero, Bool.not_true, Bool.not_false, if_true, if_false, reduceCtorEq, List.set_cons_zero, List.set_cons_succ])))
  have hat : pos < T0.length := hD'.at1 (by simp)
  refine ⟨by omega, ?_⟩
  refine h_load hh (x := headV nilV (T0[pos]'hat)) (by simp [hat]) ?_
  apply k_dict_chain_int64
  unfold c_dict_chain_int64
  rw [x_box]
  refine ⟨headV_oc _, ?_⟩
  refine h_alloc hh fun cb G1 hh => ?_
  refine h_range hh fun D1 l L G2 hh hst hpd hY => ?_
  (try simp only [xl, xo, List.size_toArray, List.length_cons, List.length_nil, Nat.reduceAdd, qt, decide_eq_true_eq, Int.toNat_zero, Int.toNat_natCast, Nat.zero_mul, Nat.mul_one, Nat.one_mul, List.toList_toArray, List.cons_append, List.nil_append, List.append_nil, true_and, and_true, Nat.zero_add, Nat.add_zero, Bool.not_true, Bool.not_false, if_true, if_false, reduceCtorEq, List.set_cons_zero, List.set_cons_succ])
  have hTat : T0[pos]? = some (T0[pos]'hat) := List.getElem?_eq_getElem hat
  generalize hcdef : T0[pos]'hat = c at *
  rw [chains_get (seed := seed) hTat] at hh
  have hcoc : ∀ x ∈ c, x.v.oneCell = true := hD'.t0.oc c (List.mem_of_getElem? hTat)
  have hT1 := hD'.t1 tb1 T1 rfl
  have hsz := hD'.t0.sz.bd
  simp only at hsz
  refine dict_chain_i (H := G2) c (fun r Q => ∃ (p : List DNode) (U : Tabl), c = p ++ r ∧ TabOk seed U ∧ U.length = T1.length ∧ (U.flatten).Perm (p ++ T1.flatten) ∧
      Has Q (cell cb [headV nilV r] + (objM l (.loop L) + (seg seed nilV r + (tabM seed tb1 U + (chains seed (T0.set pos []) + (cell tb0 (T0.map (headV nilV)) +
        (cell d [.int .u32 seed, .slice (some ⟨tb0, 0, none⟩) T0.length T0.length, .slice (some ⟨tb1, 0, none⟩) T1.length T1.length, .int .i64 pos, .int .i64 n] +
        (cell dv [.pointer (some ⟨d, 0, none⟩)] + (objM D1 (.deferred (some [])) + (dsM Ds + m)))))))))))
    (fun r Q hi => by obtain ⟨p, U, _, _, _, _, h2⟩ := hi; exact h2.blk)
    (fun x r Q hi => by obtain ⟨p, U, _, _, _, _, h2⟩ := hi; exact ⟨_, _, _, h2.right.right.left.left.blk⟩) ?_ ⟨[], T1, rfl, hT1, rfl, List.Perm.refl _, hh.to (by simp only [tabM]; ac_rfl)⟩ ?_
  · rintro x r Q ⟨p, U, q1, q2, q3, q4, hh⟩
    have hxc : x ∈ c := by rw [q1]; simp
    refine hY (.pointer (some ⟨x.b, 0, none⟩)) Q _ hh.obj ?_
    refine h_begin hh hst fun Q1 hh => ?_
    simp only [seg, tabM] at hh
    (repeat (first | (refine h_load hh (by rfl) ?_) | (simp only [xl, xo, List.size_toArray, List.length_cons, List.length_nil, Nat.reduceAdd, qt, decide_eq_true_eq, Int.toNat_zero, Int.toNat_natCast, Nat.zero_mul, Nat.mul_one, Nat.one_mul, List.toList_toArray, List.cons_append, List.nil_append, List.append_nil, true_and, and_true, Nat.zero_add, Nat.add_zero, Bool.not_true, Bool.not_false, if_true, if_false, reduceCtorEq, List.set_cons_zero, List.set_cons_succ])))
    refine ⟨by omega, ?_⟩
    (repeat (first | (refine h_load hh (by rfl) ?_) | (simp only [xl, xo, List.size_toArray, List.length_cons, List.length_nil, Nat.reduceAdd, qt, decide_eq_true_eq, Int.toNat_zero, Int.toNat_natCast, Nat.zero_mul, Nat.mul_one, Nat.one_mul, List.toList_toArray, List.cons_append, List.nil_append, List.append_nil, true_and, and_true, Nat.zero_add, Nat.add_zero, Bool.not_true, Bool.not_false, if_true, if_false, reduceCtorEq, List.set_cons_zero, List.set_cons_succ])))
    refine h_buildSl hh fun lb Q2 hh => ?_
    have hsl : slotN (hsum seed x.key) T1.length < U.length := by rw [q3]; exact slotN_lt hT1.sz
    have hg : U[slotN (hsum seed x.key) T1.length]? = some (U[slotN (hsum seed x.key) T1.length]'hsl) := List.getElem?_eq_getElem hsl
    generalize hc2 : U[slotN (hsum seed x.key) T1.length]'hsl = c2 at *
    refine dict_put_h (y := headV nilV c2) hh (by rw [List.length_map, q3]) (hsum_bd _ _) hT1.sz (by rw [List.getElem?_map, hg]; rfl) (headV_oc c2) fun Q3 hh => ?_
    refine h_end hh hst hpd fun Q4 hh => ?_
    rw [chains_get (seed := seed) hg] at hh
    refine ⟨rfl, _, hh.frontC cb, fun Q5 hh => ⟨p ++ [x], U.set (slotN (hsum seed x.key) T1.length) (x :: c2), by rw [q1]; simp, ?_, by rw [List.length_set]; exact q3, ?_, ?_⟩⟩
    · refine q2.set (fun y hy => ?_) (fun y hy => ?_)
      · rcases List.mem_cons.1 hy with rfl | hy
        · rw [q3]
        · exact q2.slot _ _ hg y hy
      · rcases List.mem_cons.1 hy with rfl | hy
        · exact hcoc y hxc
        · exact q2.oc _ (List.mem_of_getElem? hg) y hy
    · refine (flat_set _ hsl).trans ?_
      rw [List.cons_append]
      refine ((flat_get hg).symm.cons x).trans ((q4.cons x).trans ?_)
      rw [List.append_assoc]
      exact List.perm_middle.symm
    · refine hh.to ?_
      rw [tabM, chains_set (seed := seed) (x :: c2) hsl, List.map_set, seg]
      simp only [headV]
      ac_rfl
  · rintro Q ⟨p, U, q1, q2, q3, q4, hh⟩
    rw [List.append_nil] at q1
    subst q1
    refine ⟨L, _, hh.front (objM l (.loop L)), by rw [hst]; simp, fun Q1 hh => ?_⟩
    simp only [x_alt1, x_j0, hpd, true_and, seg, tabM] at hh ⊢
    (repeat (first | (refine h_load hh (by rfl) ?_) | (simp only [xl, xo, List.size_toArray, List.length_cons, List.length_nil, Nat.reduceAdd, qt, decide_eq_true_eq, Int.toNat_zero, Int.toNat_natCast, Nat.zero_mul, Nat.mul_one, Nat.one_mul, List.toList_toArray, List.cons_append, List.nil_append, List.append_nil, true_and, and_true, Nat.zero_add, Nat.add_zero, Bool.not_true, Bool.not_false, if_true, if_false, reduceCtorEq, List.set_cons_zero, List.set_cons_succ])))
    refine ⟨by omega, ?_⟩
    (repeat (first | (refine h_load hh (by rfl) ?_) | (simp only [xl, xo, List.size_toArray, List.length_cons, List.length_nil, Nat.reduceAdd, qt, decide_eq_true_eq, Int.toNat_zero, Int.toNat_natCast, Nat.zero_mul, Nat.mul_one, Nat.one_mul, List.toList_toArray, List.cons_append, List.nil_append, List.append_nil, true_and, and_true, Nat.zero_add, Nat.add_zero, Bool.not_true, Bool.not_false, if_true, if_false, reduceCtorEq, List.set_cons_zero, List.set_cons_succ])))
    refine ⟨by omega, ?_⟩
    refine h_store hh rfl (by simpa using hat) fun Q2 hh => ?_
    (repeat (first | (refine h_load hh (by rfl) ?_) | (simp only [xl, xo, List.size_toArray, List.length_cons, List.length_nil, Nat.reduceAdd, qt, decide_eq_true_eq, Int.toNat_zero, Int.toNat_natCast, Nat.zero_mul, Nat.mul_one, Nat.one_mul, List.toList_toArray, List.cons_append, List.nil_append, List.append_nil, true_and, and_true, Nat.zero_add, Nat.add_zero, Bool.not_true, Bool.not_false, if_true, if_false, reduceCtorEq, List.set_cons_zero, List.set_cons_succ])))
    refine h_store hh (by rfl) (by simp) fun Q3 hh => ?_; (try simp only [List.set_cons_zero, List.set_cons_succ] at hh)
    rw [w64 (n := (pos : Int) + 1) (by omega)] at hh
    rw [w64 (n := v + 1) (by omega)]
    (repeat (first | (refine h_load hh (by rfl) ?_) | (simp only [xl, xo, List.size_toArray, List.length_cons, List.length_nil, Nat.reduceAdd, qt, decide_eq_true_eq, Int.toNat_zero, Int.toNat_natCast, Nat.zero_mul, Nat.mul_one, Nat.one_mul, List.toList_toArray, List.cons_append, List.nil_append, List.append_nil, true_and, and_true, Nat.zero_add, Nat.add_zero, Bool.not_true, Bool.not_false, if_true, if_false, reduceCtorEq, List.set_cons_zero, List.set_cons_succ])))
    refine ⟨by omega, ?_⟩
    (repeat (first | (refine h_load hh (by rfl) ?_) | (simp only [xl, xo, List.size_toArray, List.length_cons, List.length_nil, Nat.reduceAdd, qt, decide_eq_true_eq, Int.toNat_zero, Int.toNat_natCast, Nat.zero_mul, Nat.mul_one, Nat.one_mul, List.toList_toArray, List.cons_append, List.nil_append, List.append_nil, true_and, and_true, Nat.zero_add, Nat.add_zero, Bool.not_true, Bool.not_false, if_true, if_false, reduceCtorEq, List.set_cons_zero, List.set_cons_succ])))
    have hset : (T0.map (headV nilV)).set pos nilV = (T0.set pos []).map (headV nilV) := by rw [List.map_set]; rfl
    rw [hset] at hh
    have ok0 : TabOk seed (T0.set pos []) := hD'.t0.set (by intro x hx; cases hx) (by intro x hx; cases hx)
    have pP : (U.flatten ++ (T0.set pos []).flatten).Perm D.flat := by
      refine List.Perm.trans ?_ hP
      refine (q4.append_right _).trans ?_
      refine List.Perm.trans ?_ ((flat_get hTat).append_right _).symm
      simp only [rFlat]
      rw [List.append_assoc, List.append_assoc]
      exact List.Perm.append_left _ List.perm_append_comm
    have eds : ({ target := Target.collected D1, args := #[] } : Deferred) :: dsL Ds = dsL (D1 :: Ds) := rfl
    have emv : ∀ i, i < pos + 1 → (T0.set pos [])[i]? = some [] := fun i hi => by
      by_cases e : i = pos
      · subst e; exact List.getElem?_set_self hat
      · rw [List.getElem?_set_ne (fun e' => e e'.symm)]; exact hD'.mv i (by simp only; omega)
    by_cases hend : ((pos : Int) + 1) = T0.length
    · rw [if_pos hend]
      (repeat (first | (refine h_load hh (by rfl) ?_) | (simp only [xl, xo, List.size_toArray, List.length_cons, List.length_nil, Nat.reduceAdd, qt, decide_eq_true_eq, Int.toNat_zero, Int.toNat_natCast, Nat.zero_mul, Nat.mul_one, Nat.one_mul, List.toList_toArray, List.cons_append, List.nil_append, List.append_nil, true_and, and_true, Nat.zero_add, Nat.add_zero, Bool.not_true, Bool.not_false, if_true, if_false, reduceCtorEq, List.set_cons_zero, List.set_cons_succ])))
      refine ⟨by omega, ?_⟩
      (repeat (first | (refine h_load hh (by rfl) ?_) | (simp only [xl, xo, List.size_toArray, List.length_cons, List.length_nil, Nat.reduceAdd, qt, decide_eq_true_eq, Int.toNat_zero, Int.toNat_natCast, Nat.zero_mul, Nat.mul_one, Nat.one_mul, List.toList_toArray, List.cons_append, List.nil_append, List.append_nil, true_and, and_true, Nat.zero_add, Nat.add_zero, Bool.not_true, Bool.not_false, if_true, if_false, reduceCtorEq, List.set_cons_zero, List.set_cons_succ])))
      refine h_storeN hh (by simp) (by simp [Value.oneCell]) (by simp) fun Q4 hh => ?_
      simp only [spliceL] at hh
      refine ⟨h_loadIs hh rfl, ?_⟩
      (repeat (first | (refine h_load hh (by rfl) ?_) | (simp only [xl, xo, List.size_toArray, List.length_cons, List.length_nil, Nat.reduceAdd, qt, decide_eq_true_eq, Int.toNat_zero, Int.toNat_natCast, Nat.zero_mul, Nat.mul_one, Nat.one_mul, List.toList_toArray, List.cons_append, List.nil_append, List.append_nil, true_and, and_true, Nat.zero_add, Nat.add_zero, Bool.not_true, Bool.not_false, if_true, if_false, reduceCtorEq, List.set_cons_zero, List.set_cons_succ])))
      refine h_store hh (by rfl) (by simp) fun Q5 hh => ?_; (try simp only [List.set_cons_zero, List.set_cons_succ] at hh)
      refine ⟨(k - (v + 1)).toNat, by omega, ⟨seed, tb1, U, none, 0, n⟩, v + 1, D1 :: Ds, rfl, by omega, rfl, ?_, ⟨q2, by simp, by simp, by simp, by simp⟩, ?_, hse, hn, fun p hp => ⟨by simp only [q3]; exact (hal p hp).2 tb1 T1 rfl, by simp⟩⟩
      · rw [q3.symm] at hh
        refine Has.right (a := cell tb0 ((T0.set pos []).map (headV nilV))) (Has.right (a := cell cb [headV nilV []] + chains seed (T0.set pos [])) (hh.to ?_))
        simp only [dsM, dictM, restM, dictCells, sndV, rM, tabM, add_emp, emp_add, List.length_set, List.cons_append, List.take_zero, List.drop_succ_cons, List.drop_zero, List.take_succ_cons, List.nil_append, List.length_cons, List.length_nil]
        ac_rfl
      · simp only [DSt.flat, rFlat, List.append_nil]
        have e0 : (T0.set pos []).flatten = [] := by
          rw [List.flatten_eq_nil_iff]
          intro l' hl'
          obtain ⟨i, hi⟩ := List.getElem?_of_mem hl'
          have hlt : i < pos + 1 := by
            have := (List.getElem?_eq_some_iff.1 hi).1
            rw [List.length_set] at this
            omega
          rw [emv i hlt] at hi
          simpa using hi.symm
        rw [e0, List.append_nil] at pP
        exact pP
    · rw [if_neg hend]
      refine ⟨(k - (v + 1)).toNat, by omega, ⟨seed, tb0, T0.set pos [], some (tb1, U), pos + 1, n⟩, v + 1, D1 :: Ds, rfl, by omega, rfl, ?_, ⟨ok0, by rintro _ _ ⟨⟩; exact q2, by simp, ?_, emv⟩, ?_, hse, hn, fun p hp => ⟨by simp only [List.length_set]; exact (hal p hp).1, fun tb T e => by cases e; rw [q3]; exact (hal p hp).2 tb1 T1 rfl⟩⟩
      · refine Has.right (a := cell cb [headV nilV []]) (hh.to ?_)
        simp only [dsM, dictM, restM, dictCells, sndV, rM, tabM, add_emp, emp_add, List.length_set, q3]
        ac_rfl
      · intro _
        simp only [List.length_set]
        omega
      · simp only [DSt.flat, rFlat]
        exact List.perm_append_comm.trans pP
theorem dict_Step_h {H : Heap} {d : Nat} {D : DSt} {k : Int} {K : Value → Heap → Prop} {m : Mem} (hk : k < 9223372036854775807) (hh : Has H (dictM d D + m)) (hD : D.Ok)
    (hK : ∀ H' D' v, Has H' (dictM d D' + m) → D'.Ok → D'.flat.Perm D.flat → D'.seed = D.seed → D'.n = D.n → K (.int .i64 v) H') :
    CallH P f_dict_Dict_int64_Step [.pointer (some ⟨d, 0, none⟩), .int .i64 k] H K :=
  dict_StepA_h hk hh hD fun H' D' v h1 h2 h3 h4 h5 _ => hK H' D' v h1 h2 h3 h4 h5
end Go.X.W
set_option linter.unusedVariables false
set_option linter.unusedSimpArgs false
namespace Go.X.W
open Go Go.X Go.Proofs

def DSt.tab (D : DSt) : Bool → Option (Nat × Tabl)
  | false => some (D.tb0, D.T0)
  | true => D.R
def DSt.setT (D : DSt) (b : Bool) (i : Nat) (c : List DNode) : DSt :=
  match b with
  | false => { D with T0 := D.T0.set i c }
  | true => { D with R := D.R.map fun p => (p.1, p.2.set i c) }

/-- A dict, one of whose chains is looked at. -/
theorem dict_open {D : DSt} {b : Bool} {tb i : Nat} {T : Tabl} {c : List DNode} (hD : D.Ok) (ht : D.tab b = some (tb, T)) (hi : T[i]? = some c) :
    TabOk D.seed T ∧ ∃ (r : Mem) (rf : List DNode), (∀ c', restM (D.setT b i c') = cell tb ((T.map (headV nilV)).set i (headV nilV c')) + (seg D.seed nilV c' + r)) ∧ (∀ c', dictCells (D.setT b i c') = dictCells D) ∧
      (∀ c', (D.setT b i c').flat.Perm (c' ++ rf)) ∧ D.setT b i c = D ∧ (∀ c', (D.setT b i c').seed = D.seed ∧ (D.setT b i c').n = D.n) ∧
      (∀ c', (c ≠ [] ∨ b = true ∨ D.R = none) → (∀ x ∈ c', slotN (hsum D.seed x.key) T.length = i) → (∀ x ∈ c', x.v.oneCell = true) → (D.setT b i c').Ok) := by
  have hlt : i < T.length := (List.getElem?_eq_some_iff.1 hi).1
  cases b with
  | false =>
    simp only [DSt.tab, Option.some.injEq, Prod.mk.injEq] at ht
    obtain ⟨rfl, rfl⟩ := ht
    refine ⟨hD.t0, chains D.seed (D.T0.set i []) + rM D.seed D.R, (D.T0.set i []).flatten ++ rFlat D.R, fun c' => ?_, fun c' => ?_, fun c' => ?_, ?_, fun c' => ⟨rfl, rfl⟩, fun c' hc hs ho => ?_⟩
    · simp only [DSt.setT, restM, tabM, List.length_set, List.map_set, chains_set (seed := D.seed) c' hlt]
      ac_rfl
    · simp only [DSt.setT, dictCells, List.length_set]
    · simp only [DSt.setT, DSt.flat]
      rw [← List.append_assoc]
      exact (flat_set c' hlt).append_right _
    · simp only [DSt.setT, set_self hi]
    · refine ⟨hD.t0.set hs ho, hD.t1, hD.at0, fun h => by simp only [DSt.setT, List.length_set]; exact hD.at1 h, fun j hj => ?_⟩
      simp only [DSt.setT] at hj ⊢
      by_cases e : j = i
      · subst e
        rcases hc with hc | hc | hc
        · rw [hD.mv j hj] at hi
          simp only [Option.some.injEq] at hi
          exact absurd hi.symm hc
        · cases hc
        · have := hD.at0 hc
          omega
      · rw [List.getElem?_set_ne (fun e' => e e'.symm)]; exact hD.mv j hj
  | true =>
    simp only [DSt.tab] at ht
    have t1 := hD.t1 tb T ht
    obtain ⟨seed, tb0, T0, R, pos, n⟩ := D
    simp only at ht t1
    subst ht
    refine ⟨t1, chains seed (T.set i []) + tabM seed tb0 T0, (T.set i []).flatten ++ T0.flatten, fun c' => ?_, fun c' => ?_, fun c' => ?_, ?_, fun c' => ⟨rfl, rfl⟩, fun c' hc hs ho => ?_⟩
    · simp only [DSt.setT, Option.map_some, rM, restM, tabM, List.length_set, List.map_set, chains_set (seed := seed) c' hlt]
      ac_rfl
    · simp only [DSt.setT, Option.map_some, sndV, dictCells, List.length_set]
    · simp only [DSt.setT, DSt.flat, Option.map_some, rFlat]
      rw [← List.append_assoc]
      exact List.perm_append_comm.trans ((flat_set c' hlt).append_right _)
    · simp only [DSt.setT, Option.map_some, set_self hi]
    · refine ⟨hD.t0, ?_, by simp [DSt.setT], fun _ => hD.at1 (by simp), hD.mv⟩
      rintro tb1 T1 h
      simp only [DSt.setT, Option.map_some, Option.some.injEq, Prod.mk.injEq] at h
      obtain ⟨rfl, rfl⟩ := h
      exact t1.set hs ho

/-- Where a chain's piece hangs. -/
def posB (tb : Nat) (l : List DNode) : Nat := match l.getLast? with | none => tb | some y => y.b
def posO (i : Nat) (l : List DNode) : Nat := match l.getLast? with | none => i | some y => 3
abbrev posV (tb i : Nat) (l : List DNode) : Value := .pointer (some ⟨posB tb l, posO i l, none⟩)

theorem pos_nil (tb i : Nat) : posB tb [] = tb ∧ posO i [] = i := ⟨rfl, rfl⟩
theorem pos_snoc (tb i : Nat) (l : List DNode) (y : DNode) : posB tb (l ++ [y]) = y.b ∧ posO i (l ++ [y]) = 3 := by simp [posB, posO]

theorem pos_load {H : Heap} {tb i : Nat} {cs : List Value} {seed : Int} {l1 l2 : List DNode} {r : Mem} (hh : Has H (cell tb cs + (seg seed nilV (l1 ++ l2) + r))) (hi : cs[i]? = some (headV nilV (l1 ++ l2))) : LoadIs none H (posV tb i l1) (headV nilV l2) := by
  rcases List.eq_nil_or_concat l1 with rfl | ⟨l, y, rfl⟩
  · exact h_loadIs (b := tb) (o := i) hh hi
  · rw [List.concat_eq_append] at *
    unfold posV
    rw [(pos_snoc tb i l y).1, (pos_snoc tb i l y).2]
    rw [List.append_assoc, seg_append, List.cons_append, List.nil_append, seg] at hh
    exact h_loadIs hh rfl

theorem pos_store {H : Heap} {tb i : Nat} {cs : List Value} {seed : Int} {l1 l2 : List DNode} {x : DNode} {r : Mem} {K : Heap → Prop} (hh : Has H (cell tb cs + (seg seed nilV (l1 ++ x :: l2) + r))) (hi : cs[i]? = some (headV nilV (l1 ++ x :: l2)))
    (hk : ∀ H', Has H' (cell tb (cs.set i (headV nilV (l1 ++ l2))) + (seg seed nilV (l1 ++ l2) + r)) → K H') : StoreP none H (posV tb i l1) (headV nilV l2) K := by
  have hlt : i < cs.length := (List.getElem?_eq_some_iff.1 hi).1
  rcases List.eq_nil_or_concat l1 with rfl | ⟨l, y, rfl⟩
  · rw [List.nil_append] at *
    rw [seg] at hh
    show StoreP none H (.pointer (some ⟨tb, i, none⟩)) (headV nilV l2) K
    refine h_store hh (headV_oc l2) hlt fun H' hh => hk H' ?_
    refine Has.right (a := cell x.b [.int .u32 (hsum seed x.key), .string x.key, x.v, headV nilV l2]) (hh.to ?_)
    ac_rfl
  · rw [List.concat_eq_append] at *
    unfold posV
    rw [(pos_snoc tb i l y).1, (pos_snoc tb i l y).2]
    rw [List.append_assoc, seg_append, List.cons_append, List.nil_append, seg, seg] at hh
    refine h_store hh (headV_oc l2) (by simp) fun H' hh => hk H' ?_
    have e1 : headV nilV (l ++ [y] ++ l2) = headV nilV (l ++ [y] ++ x :: l2) := by
      rw [List.append_assoc, List.append_assoc]; cases l <;> rfl
    have e2 : cs.set i (headV nilV (l ++ [y] ++ l2)) = cs := by
      rw [e1]
      apply List.ext_getElem?
      intro j
      rw [List.getElem?_set]
      split
      · rename_i e; subst e; first | exact hi.symm | (rw [if_pos hlt]; exact hi.symm)
      · rfl
    rw [e2]
    refine Has.right (a := cell x.b [.int .u32 (hsum seed x.key), .string x.key, x.v, headV nilV l2]) (hh.to ?_)
    simp only [List.append_assoc, seg_append, List.cons_append, List.nil_append, seg, List.set_cons_succ, List.set_cons_zero]
    have e3 : headV nilV (y :: x :: l2) = headV nilV (y :: l2) := rfl
    rw [e3]
    ac_rfl

theorem dict_of_h {H : Heap} {d : Nat} {seed : Int} {key : ByteArray} {cs : List Value} {m : Mem} {K : Value → Heap → Prop} (hkey : key.size < 4611686018427387904) (hh : Has H m) (hb : Blk H d (.int .u32 seed :: cs))
    (hK : ∀ H', Has H' m → K (.agg #[.int .u32 (hsum seed key), .string key]) H') : CallH P f_dict_Dict_int64_of [.pointer (some ⟨d, 0, none⟩), .string key] H K := by
  apply k_dict_Dict_int64_of
  unfold c_dict_Dict_int64_of
  (try simp only [xl, xo, List.size_toArray, List.length_cons, List.length_nil, Nat.reduceAdd, qt, decide_eq_true_eq, Int.toNat_zero, Int.toNat_natCast, Nat.zero_mul, Nat.mul_one, Nat.one_mul, List.toList_toArray, List.cons_append, List.nil_append, List.append_nil, true_and, and_true, Nat.zero_add, Nat.add_zero, Bool.not_true, Bool.not_false, if_true, if_false, reduceCtorEq, List.set_cons_zero, List.set_cons_succ])
  refine alloc_i fun H1 f1 z1 b1 => ?_
  have hb := f1.blk hb id
  have hlt := hb.lt
  (repeat (first | (refine Blk.load (by assumption) (by rfl) ?_) | (simp only [xl, xo, List.size_toArray, List.length_cons, List.length_nil, Nat.reduceAdd, qt, decide_eq_true_eq, Int.toNat_zero, Int.toNat_natCast, Nat.zero_mul, Nat.mul_one, Nat.one_mul, List.toList_toArray, List.cons_append, List.nil_append, List.append_nil, true_and, and_true, Nat.zero_add, Nat.add_zero, Bool.not_true, Bool.not_false, if_true, if_false, reduceCtorEq, List.set_cons_zero, List.set_cons_succ])))
  refine hash_Sum_k hkey fun H2 f2 => ?_
  have b2 := f2.blk b1 id
  (try simp only [xl, xo, List.size_toArray, List.length_cons, List.length_nil, Nat.reduceAdd, qt, decide_eq_true_eq, Int.toNat_zero, Int.toNat_natCast, Nat.zero_mul, Nat.mul_one, Nat.one_mul, List.toList_toArray, List.cons_append, List.nil_append, List.append_nil, true_and, and_true, Nat.zero_add, Nat.add_zero, Bool.not_true, Bool.not_false, if_true, if_false, reduceCtorEq, List.set_cons_zero, List.set_cons_succ])
  refine b2.storeN (by rfl) (by simp [Value.oneCell]) (by simp) fun H3 f3 z3 b3 => ?_
  refine b3.load2 rfl rfl ?_
  refine hK H3 (hh.frm ?_)
  refine (Frm.trans' (S := E0) (f1.trans' f2 ?_) f3 ?_)
  · (intro bb hbb hxx; first | exact False.elim hxx | omega | (dsimp only at hxx ⊢; omega))
  · intro b hb' e; omega

theorem hkey_eq {seed : Int} {a b : ByteArray} : (decide (hsum seed a = hsum seed b) && decide (a = b)) = decide (a = b) := by
  by_cases h : a = b
  · subst h; simp
  · simp [h]

theorem dict_with_h {H : Heap} {d : Nat} {D : DSt} {key : ByteArray} {fv : Value} {m : Mem} {K : Value → Heap → Prop} (hkey : key.size < 4611686018427387904) (hh : Has H (dictM d D + m)) (hD : D.Ok)
    (miss : ∀ H', Has H' (dictM d D + m) → (∀ x ∈ D.flat, x.key ≠ key) → K (.bool false) H')
    (hit : ∀ H' b tb i T l1 x l2, Has H' (dictM d D + m) → D.tab b = some (tb, T) → T[i]? = some (l1 ++ x :: l2) → x.key = key → CallV P fv [posV tb i l1] H' (fun _ H'' => K (.bool true) H'')) :
    CallH P f_dict_Dict_int64_with [.pointer (some ⟨d, 0, none⟩), .string key, fv] H K := by
  apply k_dict_Dict_int64_with
  unfold c_dict_Dict_int64_with
  have hb : Blk H d (dictCells D) := Has.blk (m := cell d (dictCells D) + restM D) hh.left
  refine dict_of_h (cs := (dictCells D).tail) hkey hh hb fun H1 hh => ?_
  (try simp only [xl, xo, List.size_toArray, List.length_cons, List.length_nil, Nat.reduceAdd, qt, decide_eq_true_eq, Int.toNat_zero, Int.toNat_natCast, Nat.zero_mul, Nat.mul_one, Nat.one_mul, List.toList_toArray, List.cons_append, List.nil_append, List.append_nil, true_and, and_true, Nat.zero_add, Nat.add_zero, Bool.not_true, Bool.not_false, if_true, if_false, reduceCtorEq, List.set_cons_zero, List.set_cons_succ])
  refine h_alloc hh fun w H2 hh => ?_
  (repeat (first | (refine h_load hh (by rfl) ?_) | (simp only [xl, xo, List.size_toArray, List.length_cons, List.length_nil, Nat.reduceAdd, qt, decide_eq_true_eq, Int.toNat_zero, Int.toNat_natCast, Nat.zero_mul, Nat.mul_one, Nat.one_mul, List.toList_toArray, List.cons_append, List.nil_append, List.append_nil, true_and, and_true, Nat.zero_add, Nat.add_zero, Bool.not_true, Bool.not_false, if_true, if_false, reduceCtorEq, List.set_cons_zero, List.set_cons_succ])))
  refine h_store2 hh rfl rfl (by simp) fun H3 hh => ?_
  simp only [List.set_cons_zero, List.set_cons_succ] at hh
  have hb : Blk H3 d (dictCells D) := Has.blk (m := cell d (dictCells D) + restM D) hh.right.left
  (repeat (first | (refine h_load hh (by rfl) ?_) | (simp only [xl, xo, List.size_toArray, List.length_cons, List.length_nil, Nat.reduceAdd, qt, decide_eq_true_eq, Int.toNat_zero, Int.toNat_natCast, Nat.zero_mul, Nat.mul_one, Nat.one_mul, List.toList_toArray, List.cons_append, List.nil_append, List.append_nil, true_and, and_true, Nat.zero_add, Nat.add_zero, Bool.not_true, Bool.not_false, if_true, if_false, reduceCtorEq, List.set_cons_zero, List.set_cons_succ])))
  refine hb.load2 rfl rfl ?_
  refine loop_i (fun k s G => ∃ j : Nat, j + k = 2 ∧ s = ((.bool false, .int .i64 j), []) ∧ G = H3 ∧ (0 < j → ∀ x ∈ D.T0.flatten, x.key ≠ key) ∧ (1 < j → ∀ x ∈ rFlat D.R, x.key ≠ key)) 2
    ⟨0, by omega, rfl, rfl, by omega, by omega⟩ ?_
  rintro k _ g G ⟨j, hj, rfl, rfl, hm0, hm1⟩
  (repeat (first | (refine h_load hh (by rfl) ?_) | (simp only [xl, xo, List.size_toArray, List.length_cons, List.length_nil, Nat.reduceAdd, qt, decide_eq_true_eq, Int.toNat_zero, Int.toNat_natCast, Nat.zero_mul, Nat.mul_one, Nat.one_mul, List.toList_toArray, List.cons_append, List.nil_append, List.append_nil, true_and, and_true, Nat.zero_add, Nat.add_zero, Bool.not_true, Bool.not_false, if_true, if_false, reduceCtorEq, List.set_cons_zero, List.set_cons_succ])))
  by_cases hj2 : j < 2
  case neg =>
    rw [if_neg (by omega)]
    refine miss _ hh.right fun x hx => ?_
    rcases List.mem_append.1 hx with hx | hx
    · exact hm0 (by omega) x hx
    · exact hm1 (by omega) x hx
  rw [if_pos (by omega)]
  refine ⟨by omega, ?_⟩
  have hcase : (D.R = none ∧ j = 1) ∨ ∃ b tb T, D.tab b = some (tb, T) ∧ (∀ Q : Value → Prop, PartP none #[.slice (some ⟨D.tb0, 0, none⟩) D.T0.length D.T0.length, sndV D.R] j Q = Q (.slice (some ⟨tb, 0, none⟩) T.length T.length)) ∧ T.flatten = (if j = 0 then D.T0.flatten else rFlat D.R) := by
    have hj01 : j = 0 ∨ j = 1 := by omega
    rcases hj01 with rfl | rfl
    · exact .inr ⟨false, D.tb0, D.T0, rfl, fun Q => rfl, rfl⟩
    · cases hR : D.R with
      | none => exact .inl ⟨rfl, rfl⟩
      | some R => exact .inr ⟨true, R.1, R.2, hR, fun Q => rfl, rfl⟩
  rcases hcase with ⟨hR, rfl⟩ | ⟨b, tb, T, htab, hpart, hflat⟩
  · have : ∀ Q : Value → Prop, PartP none #[.slice (some ⟨D.tb0, 0, none⟩) D.T0.length D.T0.length, sndV D.R] 1 Q = Q (.slice none 0 0) := fun Q => by rw [hR]; rfl
    rw [this]
    (try simp only [xl, xo, List.size_toArray, List.length_cons, List.length_nil, Nat.reduceAdd, qt, decide_eq_true_eq, Int.toNat_zero, Int.toNat_natCast, Nat.zero_mul, Nat.mul_one, Nat.one_mul, List.toList_toArray, List.cons_append, List.nil_append, List.append_nil, true_and, and_true, Nat.zero_add, Nat.add_zero, Bool.not_true, Bool.not_false, if_true, if_false, reduceCtorEq, List.set_cons_zero, List.set_cons_succ])
    refine miss _ hh.right fun x hx => ?_
    rcases List.mem_append.1 hx with hx | hx
    · exact hm0 (by omega) x hx
    · rw [hR] at hx; cases hx
  · rw [hpart]
    (try simp only [xl, xo, List.size_toArray, List.length_cons, List.length_nil, Nat.reduceAdd, qt, decide_eq_true_eq, Int.toNat_zero, Int.toNat_natCast, Nat.zero_mul, Nat.mul_one, Nat.one_mul, List.toList_toArray, List.cons_append, List.nil_append, List.append_nil, true_and, and_true, Nat.zero_add, Nat.add_zero, Bool.not_true, Bool.not_false, if_true, if_false, reduceCtorEq, List.set_cons_zero, List.set_cons_succ])
    refine h_load hh rfl ?_
    have hsl0 : TabOk D.seed T := by
      cases b with
      | false => simp only [DSt.tab, Option.some.injEq, Prod.mk.injEq] at htab; obtain ⟨rfl, rfl⟩ := htab; exact hD.t0
      | true => exact hD.t1 tb T htab
    have hsl := slotN_lt (sum := hsum D.seed key) hsl0.sz
    refine dict_slot_k (hsum_bd _ _) hsl0.sz ?_
    (try simp only [xl, xo, List.size_toArray, List.length_cons, List.length_nil, Nat.reduceAdd, qt, decide_eq_true_eq, Int.toNat_zero, Int.toNat_natCast, Nat.zero_mul, Nat.mul_one, Nat.one_mul, List.toList_toArray, List.cons_append, List.nil_append, List.append_nil, true_and, and_true, Nat.zero_add, Nat.add_zero, Bool.not_true, Bool.not_false, if_true, if_false, reduceCtorEq, List.set_cons_zero, List.set_cons_succ])
    refine ⟨by omega, ?_⟩
    have hg : T[slotN (hsum D.seed key) T.length]? = some (T[slotN (hsum D.seed key) T.length]'hsl) := List.getElem?_eq_getElem hsl
    generalize hc : T[slotN (hsum D.seed key) T.length]'hsl = c at hg
    obtain ⟨hok, r, rf, e1, e1', e2, e3, e4, e5⟩ := dict_open hD htab hg
    have hh0 := hh
    have eD := e1 c
    rw [e3] at eD
    rw [dictM, eD] at hh
    have hcs : ((T.map (headV nilV)).set (slotN (hsum D.seed key) T.length) (headV nilV c))[slotN (hsum D.seed key) T.length]? = some (headV nilV c) := by
      rw [List.getElem?_set_self (by simpa using hsl)]
    have hall : ∀ x ∈ T.flatten, x.key = key → x ∈ c := by
      intro x hx hxk
      obtain ⟨c', hc', hx⟩ := List.mem_flatten.1 hx
      obtain ⟨i', hi'⟩ := List.getElem?_of_mem hc'
      have := hok.slot i' c' hi' x hx
      rw [hxk] at this
      subst this
      rw [hg] at hi'
      simp only [Option.some.injEq] at hi'
      subst hi'
      exact hx
    refine loop_i (fun q s Q => ∃ l1 l2 : List DNode, l2.length = q ∧ c = l1 ++ l2 ∧ (∀ x ∈ l1, x.key ≠ key) ∧ s = ((.bool false, posV tb (slotN (hsum D.seed key) T.length) l1), []) ∧ Q = G) c.length
      ⟨[], c, rfl, rfl, by simp, rfl, rfl⟩ ?_
    rintro q _ g2 Q ⟨l1, l2, rfl, hcl, hl1, rfl, rfl⟩
    have hpl : LoadIs none Q (posV tb (slotN (hsum D.seed key) T.length) l1) (headV nilV l2) := by
      have h2 := hh
      have h3 : Has Q (cell tb ((T.map (headV nilV)).set (slotN (hsum D.seed key) T.length) (headV nilV c)) + (seg D.seed nilV c + r)) := h2.right.left.right
      rw [hcl] at h3
      exact pos_load h3 (by rw [hcl] at hcs; exact hcs)
    unfold posV at *
    (try simp only [xl, xo, List.size_toArray, List.length_cons, List.length_nil, Nat.reduceAdd, qt, decide_eq_true_eq, Int.toNat_zero, Int.toNat_natCast, Nat.zero_mul, Nat.mul_one, Nat.one_mul, List.toList_toArray, List.cons_append, List.nil_append, List.append_nil, true_and, and_true, Nat.zero_add, Nat.add_zero, Bool.not_true, Bool.not_false, if_true, if_false, reduceCtorEq, List.set_cons_zero, List.set_cons_succ])
    refine ⟨_, hpl, ?_⟩
    cases l2 with
    | nil =>
      simp only [headV]
      (try simp only [xl, xo, List.size_toArray, List.length_cons, List.length_nil, Nat.reduceAdd, qt, decide_eq_true_eq, Int.toNat_zero, Int.toNat_natCast, Nat.zero_mul, Nat.mul_one, Nat.one_mul, List.toList_toArray, List.cons_append, List.nil_append, List.append_nil, true_and, and_true, Nat.zero_add, Nat.add_zero, Bool.not_true, Bool.not_false, if_true, if_false, reduceCtorEq, List.set_cons_zero, List.set_cons_succ])
      refine ⟨k - 1, by omega, j + 1, by omega, ?_, ?_, ?_⟩
      · rw [w64 (by omega)]; rfl
      all_goals
        intro hlt x hx hxk
      · by_cases h0 : j = 0
        · rw [if_pos h0] at hflat
          rw [← hflat] at hx
          have := hall x hx hxk
          rw [hcl, List.append_nil] at this
          exact hl1 x this hxk
        · exact hm0 (by omega) x hx hxk
      · by_cases h0 : j = 0
        · omega
        · rw [if_neg h0] at hflat
          rw [← hflat] at hx
          have := hall x hx hxk
          rw [hcl, List.append_nil] at this
          exact hl1 x this hxk
    | cons x l2 =>
      simp only [headV] at hpl ⊢
      (try simp only [xl, xo, List.size_toArray, List.length_cons, List.length_nil, Nat.reduceAdd, qt, decide_eq_true_eq, Int.toNat_zero, Int.toNat_natCast, Nat.zero_mul, Nat.mul_one, Nat.one_mul, List.toList_toArray, List.cons_append, List.nil_append, List.append_nil, true_and, and_true, Nat.zero_add, Nat.add_zero, Bool.not_true, Bool.not_false, if_true, if_false, reduceCtorEq, List.set_cons_zero, List.set_cons_succ])
      refine ⟨_, hpl, ?_⟩
      have hxb : Blk Q x.b [.int .u32 (hsum D.seed x.key), .string x.key, x.v, headV nilV l2] := by
        have h2 := hh
        rw [hcl, seg_append, seg] at h2
        exact h2.right.left.right.right.left.right.left.blk
      (try simp only [xl, xo, List.size_toArray, List.length_cons, List.length_nil, Nat.reduceAdd, qt, decide_eq_true_eq, Int.toNat_zero, Int.toNat_natCast, Nat.zero_mul, Nat.mul_one, Nat.one_mul, List.toList_toArray, List.cons_append, List.nil_append, List.append_nil, true_and, and_true, Nat.zero_add, Nat.add_zero, Bool.not_true, Bool.not_false, if_true, if_false, reduceCtorEq, List.set_cons_zero, List.set_cons_succ])
      refine hxb.load2 rfl rfl ?_
      refine h_load2 hh rfl rfl ?_
      (try simp only [xl, xo, List.size_toArray, List.length_cons, List.length_nil, Nat.reduceAdd, qt, decide_eq_true_eq, Int.toNat_zero, Int.toNat_natCast, Nat.zero_mul, Nat.mul_one, Nat.one_mul, List.toList_toArray, List.cons_append, List.nil_append, List.append_nil, true_and, and_true, Nat.zero_add, Nat.add_zero, Bool.not_true, Bool.not_false, if_true, if_false, reduceCtorEq, List.set_cons_zero, List.set_cons_succ])
      rw [hkey_eq]
      by_cases hxk : x.key = key
      · simp only [hxk, decide_true, if_true]
        rw [hcl] at hg
        have := hit Q b tb _ T l1 x l2 hh0.right htab hg hxk
        exact this
      · simp only [hxk, decide_false, Bool.false_eq_true, if_false]
        refine ⟨_, hpl, ?_⟩
        (try simp only [xl, xo, List.size_toArray, List.length_cons, List.length_nil, Nat.reduceAdd, qt, decide_eq_true_eq, Int.toNat_zero, Int.toNat_natCast, Nat.zero_mul, Nat.mul_one, Nat.one_mul, List.toList_toArray, List.cons_append, List.nil_append, List.append_nil, true_and, and_true, Nat.zero_add, Nat.add_zero, Bool.not_true, Bool.not_false, if_true, if_false, reduceCtorEq, List.set_cons_zero, List.set_cons_succ])
        refine ⟨l2.length, by simp, l1 ++ [x], l2, rfl, by rw [hcl]; simp, ?_, ?_⟩
        · intro y hy
          rcases List.mem_append.1 hy with hy | hy
          · exact hl1 y hy
          · simp only [List.mem_singleton] at hy; subst hy; exact hxk
        · rw [(pos_snoc tb 0 l1 x).1, (pos_snoc tb (slotN (hsum D.seed key) T.length) l1 x).2]
end Go.X.W
set_option linter.unusedVariables false
set_option linter.unusedSimpArgs false
namespace Go.X.W
open Go Go.X Go.Proofs

theorem chains_nil (seed : Int) (n : Nat) : chains seed (List.replicate n []) = emp := by
  induction n with
  | zero => rfl
  | succ n ih => rw [List.replicate_succ, chains, ih, seg, emp_add]
theorem zeros_nil (n : Nat) : zerosN #[nilV] n = (List.replicate n ([] : List DNode)).map (headV nilV) := by
  simp only [zerosN, List.map_replicate, headV]
  induction n with
  | zero => rfl
  | succ n ih => rw [List.replicate_succ, List.replicate_succ, List.flatten_cons, ih]; rfl
theorem tabOk_nil {seed : Int} {n : Nat} (h : IsSz n) (hb : n ≤ 1024) : TabOk seed (List.replicate n []) := by
  refine ⟨by simpa using h, by simpa using hb, fun i c hc x hx => ?_, fun c hc x hx => ?_⟩
  · have := List.mem_of_getElem? hc
    rw [List.eq_of_mem_replicate this] at hx; cases hx
  · rw [List.eq_of_mem_replicate hc] at hx; cases hx

theorem make_tab {H : Heap} {n : Nat} {m : Mem} {K : Value → Heap → Prop} (hh : Has H m) (hn : IsSz n)
    (hk : ∀ b H', Has H' (cell b ((List.replicate n ([] : List DNode)).map (headV nilV)) + m) → K (.slice (some ⟨b, 0, none⟩) n n) H') :
    MakeSliceP P T_p_dict_node_int64 (.int .i64 n) (.int .i64 n) H K := by
  have hb := hn.bd
  refine h_make hh ze_p_dict_node_int64 by_p_dict_node_int64 (by omega) fun b H' hh => ?_
  rw [Int.toNat_natCast] at *
  rw [zeros_nil] at hh
  exact hk b H' hh

theorem dict_moves_h {H : Heap} {d : Nat} {n : Int} {a b c e : Value} {m : Mem} {K : Value → Heap → Prop} (hh : Has H (cell d [a, b, .slice none 0 0, c, e] + m))
    (hK : ∀ H' tb s, IsSz s → (n ≤ 1024 → s ≤ 1024) → Has H' (cell d [a, b, .slice (some ⟨tb, 0, none⟩) s s, c, e] + (cell tb ((List.replicate s ([] : List DNode)).map (headV nilV)) + m)) → K (.tuple #[]) H') :
    CallH P f_dict_Dict_int64_moves [.pointer (some ⟨d, 0, none⟩), .int .i64 n] H K := by
  apply k_dict_Dict_int64_moves
  unfold c_dict_Dict_int64_moves
  (repeat (first | (refine h_load hh (by rfl) ?_) | (simp only [xl, xo, List.size_toArray, List.length_cons, List.length_nil, Nat.reduceAdd, qt, decide_eq_true_eq, Int.toNat_zero, Int.toNat_natCast, Nat.zero_mul, Nat.mul_one, Nat.one_mul, List.toList_toArray, List.cons_append, List.nil_append, List.append_nil, true_and, and_true, Nat.zero_add, Nat.add_zero, Bool.not_true, Bool.not_false, if_true, if_false, reduceCtorEq, List.set_cons_zero, List.set_cons_succ])))
  refine hash_SizeFor_k fun s H1 hs hsb f1 => ?_
  have hh := hh.frm f1
  refine make_tab hh hs fun tb H2 hh => ?_
  (repeat (first | (refine h_load hh (by rfl) ?_) | (simp only [xl, xo, List.size_toArray, List.length_cons, List.length_nil, Nat.reduceAdd, qt, decide_eq_true_eq, Int.toNat_zero, Int.toNat_natCast, Nat.zero_mul, Nat.mul_one, Nat.one_mul, List.toList_toArray, List.cons_append, List.nil_append, List.append_nil, true_and, and_true, Nat.zero_add, Nat.add_zero, Bool.not_true, Bool.not_false, if_true, if_false, reduceCtorEq, List.set_cons_zero, List.set_cons_succ])))
  refine ⟨by omega, ?_⟩
  refine h_store hh (by rfl) (by simp) fun H3 hh => ?_; (try simp only [List.set_cons_zero, List.set_cons_succ] at hh)
  exact hK H3 tb s hs hsb (hh.to (by ac_rfl))

/-- A dict, in memory, of these keys and things. -/
def DictAt (H : Heap) (d : Nat) (M : List (ByteArray × Value)) (m : Mem) : Prop :=
  ∃ D : DSt, Has H (dictM d D + m) ∧ D.Ok ∧ (D.flat.map fun x => (x.key, x.v)).Perm M ∧ (M.map (·.1)).Nodup ∧ D.n = M.length

theorem DictAt.perm {H : Heap} {d : Nat} {M M' : List (ByteArray × Value)} {m : Mem} (h : DictAt H d M m) (p : M.Perm M') : DictAt H d M' m := by
  obtain ⟨D, h1, h2, h3, h4, h5⟩ := h
  exact ⟨D, h1, h2, h3.trans p, (p.map _).nodup_iff.1 h4, by rw [h5, p.length_eq]⟩
theorem DictAt.frm {H H' : Heap} {d : Nat} {M : List (ByteArray × Value)} {m : Mem} (h : DictAt H d M m) (f : Frm E0 H H') : DictAt H' d M m := by
  obtain ⟨D, h1, h2⟩ := h
  exact ⟨D, h1.frm f, h2⟩
theorem DictAt.mono {H H' : Heap} {d : Nat} {M : List (ByteArray × Value)} {m m' : Mem} (h : DictAt H d M m) (f : ∀ D, Has H (dictM d D + m) → Has H' (dictM d D + m')) : DictAt H' d M m' := by
  obtain ⟨D, h1, h2⟩ := h
  exact ⟨D, f D h1, h2⟩

theorem dict_New_h {H : Heap} {seed : Int} {m : Mem} {K : Value → Heap → Prop} (hh : Has H m) (hK : ∀ H' d, DictAt H' d [] m → K (.pointer (some ⟨d, 0, none⟩)) H') : CallH P f_dict_New_int64 [.int .u32 seed] H K := by
  apply k_dict_New_int64
  unfold c_dict_New_int64
  have h4 : IsSz 4 := ⟨2, by omega, by omega, rfl⟩
  refine make_tab (n := 4) hh h4 fun tb H1 hh => ?_
  (repeat (first | (refine h_load hh (by rfl) ?_) | (simp only [xl, xo, List.size_toArray, List.length_cons, List.length_nil, Nat.reduceAdd, qt, decide_eq_true_eq, Int.toNat_zero, Int.toNat_natCast, Nat.zero_mul, Nat.mul_one, Nat.one_mul, List.toList_toArray, List.cons_append, List.nil_append, List.append_nil, true_and, and_true, Nat.zero_add, Nat.add_zero, Bool.not_true, Bool.not_false, if_true, if_false, reduceCtorEq, List.set_cons_zero, List.set_cons_succ])))
  refine h_alloc hh fun d H2 hh => ?_
  refine hK H2 d ⟨⟨seed, tb, List.replicate 4 [], none, 0, 0⟩, ?_, ⟨tabOk_nil h4 (by omega), by simp, by simp, by simp, by simp⟩, by simp [DSt.flat, rFlat], by simp, rfl⟩
  refine hh.to ?_
  simp only [dictM, restM, dictCells, sndV, tabM, rM, chains_nil, add_emp, emp_add, List.set_cons_zero, List.set_cons_succ, List.length_replicate]
  ac_rfl

theorem dict_Get_1_h {H : Heap} {q o b out : Nat} {key v nx old : Value} {sm : Value} {K : Value → Heap → Prop} {m : Mem} (hh : Has H (cell out [old] + m)) (hq : LoadIs none H (.pointer (some ⟨q, o, none⟩)) (.pointer (some ⟨b, 0, none⟩)))
    (hb : Blk H b [sm, key, v, nx]) (hv : v.oneCell = true) (hK : ∀ H', Has H' (cell out [v] + m) → K (.tuple #[]) H') :
    CallH P f_dict_Dict_int64_Get_1 [.pointer (some ⟨q, o, none⟩), .pointer (some ⟨out, 0, none⟩)] H K := by
  apply k_dict_Dict_int64_Get_1
  unfold c_dict_Dict_int64_Get_1
  (try simp only [xl, xo, List.size_toArray, List.length_cons, List.length_nil, Nat.reduceAdd, qt, decide_eq_true_eq, Int.toNat_zero, Int.toNat_natCast, Nat.zero_mul, Nat.mul_one, Nat.one_mul, List.toList_toArray, List.cons_append, List.nil_append, List.append_nil, true_and, and_true, Nat.zero_add, Nat.add_zero, Bool.not_true, Bool.not_false, if_true, if_false, reduceCtorEq, List.set_cons_zero, List.set_cons_succ])
  refine ⟨_, hq, ?_⟩
  (repeat (first | (refine Blk.load (by assumption) (by rfl) ?_) | (simp only [xl, xo, List.size_toArray, List.length_cons, List.length_nil, Nat.reduceAdd, qt, decide_eq_true_eq, Int.toNat_zero, Int.toNat_natCast, Nat.zero_mul, Nat.mul_one, Nat.one_mul, List.toList_toArray, List.cons_append, List.nil_append, List.append_nil, true_and, and_true, Nat.zero_add, Nat.add_zero, Bool.not_true, Bool.not_false, if_true, if_false, reduceCtorEq, List.set_cons_zero, List.set_cons_succ])))
  refine h_store hh hv (by simp) fun H1 hh => ?_
  exact hK H1 hh

theorem nodup_key {M : List (ByteArray × Value)} (h : (M.map (·.1)).Nodup) {k : ByteArray} {v v' : Value} (h1 : (k, v) ∈ M) (h2 : (k, v') ∈ M) : v = v' := by
  induction M with
  | nil => cases h1
  | cons p M ih =>
    rw [List.map_cons, List.nodup_cons] at h
    rcases List.mem_cons.1 h1 with rfl | g1 <;> rcases List.mem_cons.1 h2 with h2 | h2
    · simpa using h2.symm
    · exact absurd (List.mem_map.2 ⟨_, h2, rfl⟩) h.1
    · subst h2; exact absurd (List.mem_map.2 ⟨_, g1, rfl⟩) h.1
    · exact ih h.2 g1 h2

/-- The node that is found. -/
theorem dict_node {H : Heap} {d : Nat} {D : DSt} {b : Bool} {tb i : Nat} {T : Tabl} {l1 l2 : List DNode} {x : DNode} {m : Mem} (hh : Has H (dictM d D + m)) (hD : D.Ok) (ht : D.tab b = some (tb, T)) (hi : T[i]? = some (l1 ++ x :: l2)) :
    LoadIs none H (posV tb i l1) (.pointer (some ⟨x.b, 0, none⟩)) ∧ Blk H x.b [.int .u32 (hsum D.seed x.key), .string x.key, x.v, headV nilV l2] ∧ x.v.oneCell = true ∧ x ∈ D.flat := by
  obtain ⟨hok, r, rf, e1, e1', e2, e3, e4, e5⟩ := dict_open hD ht hi
  have eD := e1 (l1 ++ x :: l2)
  rw [e3] at eD
  rw [dictM, eD] at hh
  have hlt : i < T.length := (List.getElem?_eq_some_iff.1 hi).1
  have h2 := hh.left.right
  refine ⟨pos_load h2 (by rw [List.getElem?_set_self (by simpa using hlt)]), ?_, hok.oc _ (List.mem_of_getElem? hi) x (by simp), ?_⟩
  · rw [seg_append, seg] at h2
    exact h2.right.left.right.left.blk
  · have := e2 (l1 ++ x :: l2)
    rw [e3] at this
    exact this.mem_iff.2 (by simp)

theorem dict_Get_h {H : Heap} {d : Nat} {M : List (ByteArray × Value)} {key : ByteArray} {m : Mem} {K : Value → Heap → Prop} (hkey : key.size < 4611686018427387904) (h : DictAt H d M m)
    (hit : ∀ H' v, DictAt H' d M m → (key, v) ∈ M → K (.tuple #[v, .bool true]) H') (miss : ∀ H', DictAt H' d M m → (∀ p ∈ M, p.1 ≠ key) → K (.tuple #[.int .i64 0, .bool false]) H') :
    CallH P f_dict_Dict_int64_Get [.pointer (some ⟨d, 0, none⟩), .string key] H K := by
  obtain ⟨D, hh, hD, hM, hn, hl⟩ := h
  apply k_dict_Dict_int64_Get
  unfold c_dict_Dict_int64_Get
  refine h_alloc hh fun out H1 hh => ?_
  (repeat (first | (refine h_load hh (by rfl) ?_) | (simp only [xl, xo, List.size_toArray, List.length_cons, List.length_nil, Nat.reduceAdd, qt, decide_eq_true_eq, Int.toNat_zero, Int.toNat_natCast, Nat.zero_mul, Nat.mul_one, Nat.one_mul, List.toList_toArray, List.cons_append, List.nil_append, List.append_nil, true_and, and_true, Nat.zero_add, Nat.add_zero, Bool.not_true, Bool.not_false, if_true, if_false, reduceCtorEq, List.set_cons_zero, List.set_cons_succ])))
  refine dict_Step_h (by omega) (hh.to (show _ = dictM d D + (cell out [.int .i64 0] + m) by ac_rfl)) hD fun H2 D2 _ hh hD2 hP hse hnn => ?_
  have hM2 : (D2.flat.map fun x => (x.key, x.v)).Perm M := (hP.map _).trans hM
  refine dict_with_h hkey hh hD2 (fun H3 hh hm => ?_) (fun H3 b tb i T l1 x l2 hh ht hi hx => ?_)
  · (repeat (first | (refine h_load hh (by rfl) ?_) | (simp only [xl, xo, List.size_toArray, List.length_cons, List.length_nil, Nat.reduceAdd, qt, decide_eq_true_eq, Int.toNat_zero, Int.toNat_natCast, Nat.zero_mul, Nat.mul_one, Nat.one_mul, List.toList_toArray, List.cons_append, List.nil_append, List.append_nil, true_and, and_true, Nat.zero_add, Nat.add_zero, Bool.not_true, Bool.not_false, if_true, if_false, reduceCtorEq, List.set_cons_zero, List.set_cons_succ])))
    refine miss H3 ⟨D2, hh.to (show _ = dictM d D2 + m + cell out [.int .i64 0] by ac_rfl) |>.left, hD2, hM2, hn, by rw [hnn, hl]⟩ fun p hp e => ?_
    obtain ⟨x, hx, rfl⟩ := List.mem_map.1 (hM2.mem_iff.2 hp)
    exact hm x hx e
  · obtain ⟨g1, g2, g3, g4⟩ := dict_node hh hD2 ht hi
    (try simp only [xl, xo, List.size_toArray, List.length_cons, List.length_nil, Nat.reduceAdd, qt, decide_eq_true_eq, Int.toNat_zero, Int.toNat_natCast, Nat.zero_mul, Nat.mul_one, Nat.one_mul, List.toList_toArray, List.cons_append, List.nil_append, List.append_nil, true_and, and_true, Nat.zero_add, Nat.add_zero, Bool.not_true, Bool.not_false, if_true, if_false, reduceCtorEq, List.set_cons_zero, List.set_cons_succ])
    refine dict_Get_1_h (hh.front (cell out [.int .i64 0])) g1 g2 g3 fun H4 hh => ?_
    (repeat (first | (refine h_load hh (by rfl) ?_) | (simp only [xl, xo, List.size_toArray, List.length_cons, List.length_nil, Nat.reduceAdd, qt, decide_eq_true_eq, Int.toNat_zero, Int.toNat_natCast, Nat.zero_mul, Nat.mul_one, Nat.one_mul, List.toList_toArray, List.cons_append, List.nil_append, List.append_nil, true_and, and_true, Nat.zero_add, Nat.add_zero, Bool.not_true, Bool.not_false, if_true, if_false, reduceCtorEq, List.set_cons_zero, List.set_cons_succ])))
    refine hit H4 x.v ⟨D2, hh.right, hD2, hM2, hn, by rw [hnn, hl]⟩ ?_
    exact hM2.mem_iff.1 (List.mem_map.2 ⟨x, g4, by rw [hx]⟩)

/-- A thing is another one. -/
def updM (key : ByteArray) (v : Value) (M : List (ByteArray × Value)) : List (ByteArray × Value) := M.map fun p => if p.1 = key then (key, v) else p

theorem updM_notin {key : ByteArray} {v : Value} {M : List (ByteArray × Value)} (h : ∀ p ∈ M, p.1 ≠ key) : updM key v M = M := by
  unfold updM
  rw [List.map_congr_left (g := id) (fun p hp => by rw [if_neg (h p hp)]; rfl), List.map_id]
theorem updM_keys (key : ByteArray) (v : Value) (M : List (ByteArray × Value)) : (updM key v M).map (·.1) = M.map (·.1) := by
  unfold updM
  rw [List.map_map]
  refine List.map_congr_left fun p _ => ?_
  simp only [Function.comp]
  split
  · rename_i h; exact h.symm
  · rfl

theorem dict_Set_1_h {H : Heap} {q o b vb : Nat} {key v v' nx sm : Value} {K : Value → Heap → Prop} {m r : Mem} [p : PickC b m [sm, key, v, nx] r] (hh : Has H m) (hq : LoadIs none H (.pointer (some ⟨q, o, none⟩)) (.pointer (some ⟨b, 0, none⟩)))
    (hb : Blk H vb [v']) (hv : v'.oneCell = true) (hK : ∀ H', Has H' (cell b [sm, key, v', nx] + r) → K (.tuple #[]) H') :
    CallH P f_dict_Dict_int64_Set_1 [.pointer (some ⟨q, o, none⟩), .pointer (some ⟨vb, 0, none⟩)] H K := by
  apply k_dict_Dict_int64_Set_1
  unfold c_dict_Dict_int64_Set_1
  (try simp only [xl, xo, List.size_toArray, List.length_cons, List.length_nil, Nat.reduceAdd, qt, decide_eq_true_eq, Int.toNat_zero, Int.toNat_natCast, Nat.zero_mul, Nat.mul_one, Nat.one_mul, List.toList_toArray, List.cons_append, List.nil_append, List.append_nil, true_and, and_true, Nat.zero_add, Nat.add_zero, Bool.not_true, Bool.not_false, if_true, if_false, reduceCtorEq, List.set_cons_zero, List.set_cons_succ])
  refine ⟨_, hq, ?_⟩
  (repeat (first | (refine Blk.load (by assumption) (by rfl) ?_) | (simp only [xl, xo, List.size_toArray, List.length_cons, List.length_nil, Nat.reduceAdd, qt, decide_eq_true_eq, Int.toNat_zero, Int.toNat_natCast, Nat.zero_mul, Nat.mul_one, Nat.one_mul, List.toList_toArray, List.cons_append, List.nil_append, List.append_nil, true_and, and_true, Nat.zero_add, Nat.add_zero, Bool.not_true, Bool.not_false, if_true, if_false, reduceCtorEq, List.set_cons_zero, List.set_cons_succ])))
  refine h_store hh hv (by simp) fun H1 hh => ?_
  exact hK H1 hh
end Go.X.W
