/- A symbolic evaluator for Go code over heaps: operations that make or change memory are sound. A symbolic evaluator for Go code over heaps: regions are sound. A symbolic evaluator for Go code over heaps: regions that draw their order are sound. -/
import Derived.Test.YtochkahbnhegaaaGreatZS1
set_option linter.unusedVariables false
set_option linter.unusedSimpArgs false
namespace Go.X
open Go
variable {P : Program}

def FW (r : Option Nat) : Fence := { fn := fun _ => True, depth := none, alive := false, round := r }

/-- What an operation that is carried out comes to. -/
def EOk (P : Program) (w : World) (K : Value → Heap → Prop) : Result Next → Prop
  | .ok (.value v) w' => K v w'.heap ∧ SameIO w w'
  | .ok .skip w' => K undef w'.heap ∧ SameIO w w'
  | .ok (.enter f args) w' => Calls P f args w' fun e w'' => ∃ v, e = .returned v ∧ K v w''.heap ∧ SameIO w w''
  | .ok (.round l f tmps assign body) w' => RoundIn Fence.wide 0 P l f tmps assign body w' fun e w'' => ∃ v, e = .returned v ∧ K v w''.heap ∧ SameIO w w''
  | _ => False

theorem EOk.upon {r : Option Nat} {o : Oper} {a : Act} {next : Act → World → Prop} {Q : Exit → Act → World → Prop} {K : Value → Heap → Prop} {res : Result Next} {w : World}
    (h : EOk P w K res) (hk : ∀ v w', K v w'.heap → SameIO w w' → next (a.put o.dst v) w') : o.uponIn (FW r) 0 P a next Q res := by
  cases res with
  | halt x w' => exact h.elim
  | ok n w' =>
    cases n <;> first
      | exact h.elim
      | exact hk _ _ h.1 h.2
      | skip
    · refine ⟨(fun h => by cases h), ?_⟩
      have h2 : CallsIn Fence.wide 0 P _ _ w' _ := callsIn_wide.2 h
      have h3 : CallsIn (FW r) (0 - 1) P _ _ w' _ := h2
      exact h3.mono fun e w'' ⟨v, he, hv, hio⟩ => by subst he; exact hk _ _ hv hio
    · refine ⟨(fun h => by cases h), ?_⟩
      have h3 : RoundIn (FW r) (0 - 1) P _ _ _ _ _ w' _ := h
      exact h3.mono fun e w'' ⟨v, he, hv, hio⟩ => by subst he; exact hk _ _ hv hio

section
variable {H : Heap} {K : Value → Heap → Prop} {ρ : Operand → Value}

theorem oneCell_eq (v : Value) : v.oneCell = v.oneCell' := by cases v <;> rfl

theorem storeAll_run (p : Addr) : ∀ (vs : List Value) (i : Nat) (H : Heap) (K' : Heap → Prop) (w : World), w.heap = H → storeAll p vs i H K' →
    ∃ w', (storeCells p vs i).run P w = .ok () w' ∧ K' w'.heap ∧ SameIO w w' := by
  intro vs
  induction vs with
  | nil => intro i H K' w hw h; exact ⟨w, by simp [storeCells], by rw [hw]; exact h, SameIO.refl w⟩
  | cons v vs ih =>
    intro i H K' w hw h
    obtain ⟨h1, h2, h3, h4⟩ := h
    obtain ⟨u, hu⟩ := Option.isSome_iff_exists.1 h2
    have hs : (store (p.add i) v).run P w = .ok () (w.setCell (p.add i) v) := by
      rw [run_store P w _ _ _ (by rw [← oneCell_eq]; exact h1)]
      simp only [cell_eq, frozen_eq, hw, hu, h3]
      simp
    obtain ⟨w', hr, hk⟩ := ih (i + 1) _ K' (w.setCell (p.add i) v) (by rw [setCell_heap, hw]) h4
    exact ⟨w', by simp only [storeCells, Sem.run_bind, hs, Result.andThen_ok, hr], hk⟩

theorem add_zero (a : Addr) : a.add 0 = a := by simp [Addr.add]

theorem store_run {t : TypeId} {a v : Value} {K' : Heap → Prop} (ok : okT P t = true) (h : StoreP (shapeT P t) H a v K') (w : World) (hw : w.heap = H) :
    ∃ w', (Instr.storeAt t a v).run P w = .ok () w' ∧ K' w'.heap ∧ SameIO w w' := by
  simp only [StoreP] at h
  split at h
  · rename_i p
    obtain ⟨i, d, hi, hd, h1⟩ := okT_spec ok
    unfold shapeT at h
    cases ha : isAggT P t with
    | false =>
      rw [ha] at h
      simp only [cond_false] at h
      obtain ⟨g1, g2, g3, g4⟩ := h
      have hc : v.cells = #[v] := by cases v <;> first | rfl | (simp [Value.oneCell] at g1)
      have hz : sizeT P t = 1 := by simp [sizeT, hi, h1 ha]
      obtain ⟨w', hr, hk⟩ := storeAll_run (P := P) p [v] 0 H K' w hw ⟨g1, by rw [add_zero]; exact g2, by rw [add_zero]; exact g3, by rw [add_zero]; exact g4⟩
      refine ⟨w', ?_, hk⟩
      simp only [Instr.storeAt, Instr.sureAddr, Sem.run_bind, Sem.run_pure, Result.andThen_ok, storeVar, run_sizeOf' ok, Sem.run_ite, hc, hz]
      simpa using hr
    | true =>
      rw [ha] at h
      simp only [cond_true] at h
      split at h
      · rename_i cs
        obtain ⟨hn, h⟩ := h
        obtain ⟨w', hr, hk⟩ := storeAll_run (P := P) p cs.toList 0 H K' w hw h
        refine ⟨w', ?_, hk⟩
        simp only [Instr.storeAt, Instr.sureAddr, Sem.run_bind, Sem.run_pure, Result.andThen_ok, storeVar, run_sizeOf' ok, Sem.run_ite, Value.cells]
        simp [hn, hr]
      · exact h.elim
  · exact h.elim

theorem newVar_run (t : TypeId) (v : Value) (w : World) : (newVar t v).run P w = .ok ⟨w.heap.size, 0, none⟩ { w with heap := w.heap.push (.cells v.cells t) } := by
  simp [newVar, newRow]

theorem box_sound {t : TypeId} {v : Value} (h : BoxP (shapeT P t) t v H K) (w : World) (hw : w.heap = H) : EOk P w K ((do pure (Next.value (← Instr.box t v)) : Sem Next).run P w) := by
  simp only [BoxP] at h
  simp only [Sem.run_bind, Instr.box, newVar_run, Result.andThen_ok, Sem.run_pure, EOk]
  split at h
  · have hc : v.cells = #[v] := by
      have h1 := h.1
      cases v <;> first | rfl | (simp [Value.oneCell] at h1)
    rw [hw, hc]; exact ⟨h.2, rfl, rfl⟩
  · split at h
    · rw [hw]; exact ⟨h, rfl, rfl⟩
    · exact h.elim

theorem zerosN_length (z : Array Value) (n : Nat) : (zerosN z n).length = n * z.size := by
  simp [zerosN, List.length_flatten]

theorem zerosN_get (z : Array Value) : ∀ (n i : Nat), i < n * z.size → (zerosN z n)[i]? = some z[i % z.size]! := by
  intro n
  induction n with
  | zero => intro i h; simp at h
  | succ n ih =>
    intro i h
    simp only [zerosN, List.replicate_succ, List.flatten_cons]
    by_cases hi : i < z.size
    · rw [List.getElem?_append_left (by simpa using hi), Nat.mod_eq_of_lt hi]
      simp [hi]
    · have hi' : z.size ≤ i := by omega
      rw [List.getElem?_append_right (by simpa using hi')]
      have := ih (i - z.size) (by rw [Nat.succ_mul] at h; omega)
      simp only [zerosN] at this
      simp only [Array.length_toList]
      rw [this]
      congr 2
      rw [Nat.mod_eq_sub_mod hi']

theorem zeros_eq (z : Array Value) (n : Nat) : ((Array.range (n * z.size)).map (fun i => z[i % z.size]!)) = (zerosN z n).toArray := by
  apply Array.ext_getElem?
  intro i
  by_cases h : i < n * z.size
  · have := zerosN_get z n i h
    simp only [List.getElem?_toArray, this]
    simp [h]
  · have e1 : (zerosN z n)[i]? = none := by rw [List.getElem?_eq_none_iff, zerosN_length]; omega
    simp only [List.getElem?_toArray, e1]
    simp; omega

theorem zeroCells_eq (z : Array Value) (n : Nat) : Builtin.zeroCells z n = (zerosN z n).toArray := zeros_eq z n

theorem alloc_sound {t : TypeId} (ok : okElem P t = true) (h : AllocP (zeroT P t).cells t H K) (w : World) (hw : w.heap = H) :
    EOk P w K ((do pure (Next.value (← Instr.alloc t true (.tuple #[]))) : Sem Next).run P w) := by
  obtain ⟨o1, o2, o3⟩ := okElem_spec ok
  simp only [Sem.run_bind, Instr.alloc, run_zeroValue' o2, newVar_run, Result.andThen_ok, Sem.run_pure, EOk]
  rw [hw]; exact ⟨h, rfl, rfl⟩

theorem elemT_spec {t e : TypeId} (h : elemT P t = some e) : P.underlying t = some (.slice e) := by
  unfold elemT at h
  cases hu : P.underlying t with
  | none => rw [hu] at h; cases h
  | some d => rw [hu] at h; cases d with
    | slice e' => simp only [Option.some.injEq] at h; rw [h]
    | _ => cases h

theorem range0 : Array.range 0 = #[] := by apply Array.toList_inj.1; simp

theorem buildSlice_sound {t : TypeId} {len : Nat} {parts : Array (Nat × Operand)} (ok : okOp P (.buildSlice t len parts) = true) (h : opE P ρ (.buildSlice t len parts) H K)
    (w : World) (hw : w.heap = H) : EOk P w K ((do pure (Next.value (← Instr.buildSlice t len (parts.map fun (i, x) => (i, ρ x)))) : Sem Next).run P w) := by
  simp only [opE] at h
  simp only [okOp] at ok
  cases he : elemT P t with
  | none => rw [he] at h; exact h.elim
  | some e =>
    rw [he] at h ok
    simp only [Bool.and_eq_true, Nat.ble_eq] at ok h
    obtain ⟨⟨⟨ok0, ok1⟩, ok2⟩, ok3⟩ := ok
    obtain ⟨o1, o2, o3⟩ := okElem_spec ok0
    obtain ⟨cs, hk, hf⟩ := fill_build ρ _ (fun i => some (i * sizeT P e, sizeT P e)) (len * sizeT P e) parts.toList (zerosN (zeroT P e).cells len) _ (by
        intro p hp; rfl) (by rw [zerosN_length, o3]) ok3 h
    simp only [BuildSliceP] at hk
    have hz : ((Array.range (len * sizeT P e)).map (fun x => (zeroT P e).cells[x % (zeroT P e).cells.size]!)) = (zerosN (zeroT P e).cells len).toArray := by
      rw [← zeros_eq, o3]
    by_cases h0 : len * sizeT P e = 0
    · have hl : len = 0 := by
        rcases Nat.mul_eq_zero.1 h0 with h | h
        · exact h
        · omega
      subst hl
      have hf' : Instr.fill (fun i => some (i * sizeT P e, sizeT P e)) #[] (parts.map fun (i, x) => (i, ρ x)).toList = some cs.toArray := by
        rw [Array.toList_map]; exact hf
      simp only [Sem.run_bind, Instr.buildSlice, run_underlying (elemT_spec he), Result.andThen_ok, run_sizeOf' o1, Sem.run_ite, Nat.zero_mul, newRow, run_newObj, Sem.run_pure]
      simp only [if_true, Result.andThen_ok, range0, List.map_toArray, Array.toList_map, Array.size_empty, List.map_nil] at hf' ⊢
      simp only [Array.map_empty, hf', Sem.run_bind, run_newObj, Result.andThen_ok, Sem.run_pure, EOk, hw]
      exact ⟨hk, rfl, rfl⟩
    · have hf' : Instr.fill (fun i => some (i * sizeT P e, sizeT P e)) ((Array.range (len * sizeT P e)).map (fun x => (zeroT P e).cells[x % (zeroT P e).cells.size]!)) (parts.map fun (i, x) => (i, ρ x)).toList = some cs.toArray := by
        rw [Array.toList_map, hz]; exact hf
      have h24 : ¬ len * sizeT P e > 2 ^ 24 := by omega
      simp only [Sem.run_bind, Instr.buildSlice, run_underlying (elemT_spec he), Result.andThen_ok, run_sizeOf' o1, Sem.run_ite, h24, h0, if_false, run_zeroValue' o2, Sem.run_pure, newRow, run_newObj]
      simp only [hf', Sem.run_bind, run_newObj, Result.andThen_ok, Sem.run_pure, EOk, hw]
      exact ⟨hk, rfl, rfl⟩

theorem info_of_ok {t : TypeId} (h : okT P t = true) : ∃ i, P.info? t = some i ∧ i.bytes = bytesT P t := by
  obtain ⟨i, d, hi, hd, _⟩ := okT_spec h
  exact ⟨i, hi, by simp [bytesT, hi]⟩

theorem wrap_i64 {n : Int} (h0 : 0 ≤ n) (h1 : n ≤ IntKind.i64.max) : IntKind.i64.wrap n = n := by
  simp [IntKind.wrap, IntKind.max, IntKind.signed, IntKind.bits] at *
  omega

theorem makeSlice_sound {t e : TypeId} {l c : Value} (he : elemT P t = some e) (ok : okElem P e = true) (ok1 : 1 ≤ sizeT P e) (h : MakeSliceP P e l c H K) (w : World) (hw : w.heap = H) :
    EOk P w K ((do pure (Next.value (← Instr.makeSlice t l c)) : Sem Next).run P w) := by
  obtain ⟨o1, o2, o3⟩ := okElem_spec ok
  obtain ⟨i, hi, hb⟩ := info_of_ok o1
  simp only [MakeSliceP] at h
  split at h
  · rename_i k1 l k2 c
    obtain ⟨⟨h0, h1, h2, h3⟩, hk⟩ := h
    have hl : IntKind.i64.wrap l = l := wrap_i64 h0 (by omega)
    have hc : IntKind.i64.wrap c = c := wrap_i64 (by omega) h2
    have ht : (decide (c < 0) || decide ((bytesT P e : Int) * c > 2 ^ 48)) = false := by
      simp only [Bool.or_eq_false_iff, decide_eq_false_iff_not]; omega
    have hcond : ((decide (c < 0) || decide ((bytesT P e : Int) * c > 2 ^ 48)) = true ∨ l < 0) ∨ l > c ↔ False := by
      rw [ht]; simp; omega
    have hz : ((Array.range (c.toNat * sizeT P e)).map (fun x => (zeroT P e).cells[x % (zeroT P e).cells.size]!)) = (zerosN (zeroT P e).cells c.toNat).toArray := by
      rw [← zeros_eq, o3]
    simp only [Sem.run_bind, Instr.makeSlice, run_underlying (elemT_spec he), Result.andThen_ok, asInt, asIntOf, Sem.run_pure, run_typeInfo' hi, hb, hl, hc, Sem.run_ite, run_askRoom, run_sizeOf' o1]
    simp only [Bool.or_eq_true, decide_eq_true_eq, hcond, if_false, Result.andThen_ok]
    have hcond2 : (c < 0 ∨ (bytesT P e : Int) * c > 2 ^ 48) ↔ False := by simp; omega
    simp only [hcond2, false_or]
    have hcond3 : (l < 0 ∨ l > c) ↔ False := by simp; omega
    simp only [show (l < 0) = False by simp; omega, show (l > c) = False by simp; omega, or_false, if_false, Result.andThen_ok]
    by_cases h0' : c.toNat * sizeT P e = 0
    · have hc0 : c.toNat = 0 := by
        rcases Nat.mul_eq_zero.1 h0' with h | h
        · exact h
        · omega
      simp only [h0', if_true, Result.andThen_ok, newRow, Sem.run_bind, run_newObj, Sem.run_pure, EOk, hw]
      simp only [hc0] at hk ⊢
      exact ⟨by simpa [zerosN, range0] using hk, rfl, rfl⟩
    · simp only [h0', if_false, Sem.run_bind, run_zeroValue' o2, Result.andThen_ok, Sem.run_pure, newRow, run_newObj, EOk, hw, hz]
      exact ⟨hk, rfl, rfl⟩
  · exact h.elim

theorem callFunc_run {g : FuncId} (h : callable P g = true) (args : Array Value) (w : World) : (callFunc g args).run P w = .ok (.enter g args) w := by
  unfold callable at h
  cases hg : P.funcs[g]? with
  | none => rw [hg] at h; cases h
  | some fn =>
    rw [hg] at h
    simp only [Bool.and_eq_true, Option.isSome_iff_exists, Bool.not_eq_true'] at h
    obtain ⟨⟨c, hc⟩, hn⟩ := h
    have hn' : ¬ fn.name = "runtime.NumGoroutine" := by simpa using hn
    simp [callFunc, hg, hn', hc]

theorem callV_sound {f : Value} {args : List Value} (h : CallV P f args H K) (w : World) (hw : w.heap = H) :
    EOk P w K ((do let d ← Deferred.ofValue f args.toArray; invoke d.target d.args : Sem Next).run P w) := by
  cases f with
  | func fn first cap =>
    cases fn with
    | func g =>
      simp only [CallV] at h
      obtain ⟨hc, h⟩ := h
      have := h w hw
      simp only [Sem.run_bind, Deferred.ofValue, Sem.run_pure, Result.andThen_ok, invoke, callFunc_run hc, EOk]
      have e : first ++ args.toArray ++ cap = (first.toList ++ (args ++ cap.toList)).toArray := by
        apply Array.toList_inj.1; simp
      rw [e]; exact this
    | yield l =>
      simp only [CallV] at h
      obtain ⟨r, hl, ha, h⟩ := h
      have := h w hw
      have hob : (getObj l).run P w = .ok (.loop r) w := by
        simp only [getObj, Sem.run, hw, hl]
      have e : first ++ args.toArray = (first.toList ++ args).toArray := by
        apply Array.toList_inj.1; simp
      simp only [Sem.run_bind, Deferred.ofValue, Sem.run_pure, Result.andThen_ok, invoke, Instr.yield, Instr.getLoop, hob, Sem.run_ite]
      rw [if_neg (by rw [e]; simp only [List.size_toArray, ne_eq, Decidable.not_not]; exact ha)]
      simp only [Result.andThen_ok, EOk, e]
      exact this
    | _ => exact h.elim
  | _ => exact h.elim

theorem invoke_sound {recv : Value} {name : String} {args : List Value} (h : InvokeP P recv name args H K) (w : World) (hw : w.heap = H) :
    EOk P w K ((invoke (.fn (.method name) #[]) (#[recv] ++ args.toArray) : Sem Next).run P w) := by
  cases recv with
  | iface t v =>
    simp only [InvokeP] at h
    obtain ⟨f, r, hm, hc, h⟩ := h
    have := h w hw
    have hx : (#[Value.iface t v] ++ args.toArray)[0]? = some (Value.iface t v) := by simp
    have he : (#[Value.iface t v] ++ args.toArray).extract 1 (#[Value.iface t v] ++ args.toArray).size = args.toArray := by
      apply Array.toList_inj.1; simp
    simp only [invoke, hx, he, callMethod, Sem.run_bind, run_program, hm w hw, Result.andThen_ok, callFunc_run hc, EOk]
    have e : #[r] ++ args.toArray = (r :: args).toArray := by apply Array.toList_inj.1; simp
    rw [e]; exact this
  | _ => exact h.elim

theorem firstCells_run {size n : Nat} {x : Value} {cs : List Value} (h : readCells size n H x = some cs) (w : World) (hw : w.heap = H) :
    (Builtin.firstCells size n x).run P w = .ok cs.toArray w := by
  unfold readCells at h
  split at h
  · rename_i a _ _
    simp only [Builtin.firstCells, loadCells, run_loadCells' H a _ 0 #[] cs w hw h]
    simp
  · simp only [Option.some.injEq] at h
    subst h
    simp [Builtin.firstCells]
  · rename_i s
    simp only [Option.some.injEq] at h
    subst h
    simp only [Builtin.firstCells, Sem.run_pure]
    rw [← Array.toList_map]
  · cases h

theorem lenOf_run {size n : Nat} {x : Value} {cs : List Value} (h : readCells size n H x = some cs) (w : World) : (Builtin.lenOf x).run P w = .ok (lenV x) w := by
  unfold readCells at h
  split at h <;> first | rfl | cases h

theorem storeRow_run {base : Option Addr} {off : Nat} {vs : List Value} {K' : Heap → Prop} (h : StoreRowP base off vs H K') (w : World) (hw : w.heap = H) :
    ∃ w', ((match base with | some a => storeCells (a.add off) vs | none => Pure.pure () : Sem Unit)).run P w = .ok () w' ∧ K' w'.heap ∧ SameIO w w' := by
  cases base with
  | none => exact ⟨w, rfl, by rw [hw]; exact h, SameIO.refl w⟩
  | some a => exact storeAll_run (P := P) _ vs 0 H K' w hw h

theorem append_sound {t u e : TypeId} {ty : TypeId} {s x : Value} (he : elemT P t = some e) (ok : okElem P e = true) (hu : ∃ d, P.underlying u = some d ∧ ∀ k, d ≠ .int k)
    (h : AppendP P e s x H K) (w : World) (hw : w.heap = H) :
    EOk P w K ((do pure (Next.value (← Builtin.append_ #[t, u] ty #[s, x])) : Sem Next).run P w) := by
  obtain ⟨o1, o2, o3⟩ := okElem_spec ok
  obtain ⟨i, hi, hb⟩ := info_of_ok o1
  obtain ⟨d, hd, hni⟩ := hu
  simp only [AppendP] at h
  split at h
  · rename_i base len cap
    obtain ⟨new, hn, hin, hout⟩ := h
    have hnr := fun w hw => firstCells_run (P := P) hn w hw
    have hlen := lenOf_run (P := P) hn w
    have hfal : (match (generalizing := false) d with | .int _ => true | _ => false) = false := by cases d <;> first | rfl | exact absurd rfl (hni _)
    simp only [Sem.run_bind, Builtin.append_, run_underlying (elemT_spec he), Result.andThen_ok, run_sizeOf' o1]
    simp only [List.getElem?_toArray, List.getElem?_cons_zero, List.getElem?_cons_succ, Sem.run_bind, run_underlying (elemT_spec he), Result.andThen_ok, run_sizeOf' o1, run_underlying hd, Sem.run_pure]
    simp only [Bool.false_eq_true, if_false, Sem.run_bind, hlen, Result.andThen_ok, Sem.run_ite, Bool.not_false, if_true]
    by_cases hc : len + lenV x ≤ cap
    · obtain ⟨w', hr, hk⟩ := storeRow_run (P := P) (hin hc) w hw
      simp only [hc, if_true, Sem.run_bind, hnr w hw, Result.andThen_ok]
      cases base with
      | none =>
        simp only at hr
        simp only [Sem.run_pure, Result.ok.injEq] at hr
        simp only [Sem.run_pure, Result.andThen_ok, EOk]
        exact ⟨by rw [hr.2]; exact hk.1, SameIO.refl _⟩
      | some a =>
        simp only at hr
        simp only [Sem.run_bind, hr, Result.andThen_ok, Sem.run_pure, EOk]
        exact hk
    · obtain ⟨old, ho, hb1, ⟨hb2, hb3⟩, hk⟩ := hout (by omega)
      have hor := fun w hw => firstCells_run (P := P) ho w hw
      have hnz : ¬ bytesT P e = 0 := by omega
      have hns : ¬ Builtin.nextslicecap (len + lenV x) cap * bytesT P e > 2 ^ 48 := by omega
      have hforced : (Question.appendCap (len + lenV x) cap e).forced = false := rfl
      simp only [hc, if_false, Sem.run_bind, run_typeInfo' hi, Result.andThen_ok, hb, hnz, or_self, and_false, Sem.run_ite, hns, run_choose, hforced, Bool.false_eq_true, run_askRoom]
      rw [hor _ (by exact hw)]
      simp only [Result.andThen_ok]
      rw [hnr _ (by exact hw)]
      simp only [Result.andThen_ok, run_zeroValue' o2, newRow, Sem.run_bind, run_newObj, Sem.run_pure, EOk, zeroCells_eq, hw, List.append_toArray]
      exact ⟨hk _ (by simp [Question.cut]), rfl, rfl⟩
  · exact h.elim

theorem appendZ_sound {t u e : TypeId} {ty : TypeId} {s x : Value} (he : elemT P t = some e) (ok : okElem P e = true) (ok1 : 1 ≤ sizeT P e) (hu : ∃ k, P.underlying u = some (.int k))
    (h : AppendZP P e s x H K) (w : World) (hw : w.heap = H) :
    EOk P w K ((do pure (Next.value (← Builtin.append_ #[t, u] ty #[s, x])) : Sem Next).run P w) := by
  obtain ⟨o1, o2, o3⟩ := okElem_spec ok
  obtain ⟨i, hi, hb⟩ := info_of_ok o1
  obtain ⟨kk, hd⟩ := hu
  simp only [AppendZP] at h
  split at h
  · rename_i base len cap k n
    obtain ⟨⟨h0, h1, h2⟩, hin, hout⟩ := h
    have hwr : IntKind.i64.wrap n = n := wrap_i64 h0 h1
    have hif : ∀ w1 : World, (if n.toNat * sizeT P e = 0 then Result.ok #[] w1 else Result.ok (zerosN (zeroT P e).cells n.toNat).toArray w1 : Result (Array Value)) = .ok (zerosN (zeroT P e).cells n.toNat).toArray w1 := by
      intro w1
      by_cases hz : n.toNat * sizeT P e = 0
      · have hn0 : n.toNat = 0 := by
          rcases Nat.mul_eq_zero.1 hz with h | h
          · exact h
          · omega
        rw [if_pos hz, hn0]; rfl
      · rw [if_neg hz]
    have happ : ∀ w : World, (if n.toNat * sizeT P e = 0 then pure #[] else do pure (Builtin.zeroCells (← zeroValue e).cells n.toNat) : Sem (Array Value)).run P w =
        .ok (zerosN (zeroT P e).cells n.toNat).toArray w := by
      intro w
      rw [Sem.run_ite]
      by_cases hz : n.toNat * sizeT P e = 0
      · have hn0 : n.toNat = 0 := by
          rcases Nat.mul_eq_zero.1 hz with h | h
          · exact h
          · omega
        rw [if_pos hz, hn0]; rfl
      · rw [if_neg hz]; simp [run_zeroValue' o2, zeroCells_eq]
    simp only [Sem.run_bind, Builtin.append_, run_underlying (elemT_spec he), Result.andThen_ok, run_sizeOf' o1]
    simp only [List.getElem?_toArray, List.getElem?_cons_zero, List.getElem?_cons_succ, Sem.run_bind, run_underlying (elemT_spec he), Result.andThen_ok, run_sizeOf' o1, run_underlying hd, Sem.run_pure]
    simp only [if_true, Sem.run_bind, asInt, asIntOf, Sem.run_pure, Result.andThen_ok, hwr, Sem.run_ite, show (n < 0) = False by simp; omega, if_false, run_typeInfo' hi, hb,
      show (n * (bytesT P e : Int) > 2 ^ 48) = False by simp; omega, Bool.not_true, Bool.false_eq_true]
    by_cases hc : len + n.toNat ≤ cap
    · obtain ⟨w', hr, hk⟩ := storeRow_run (P := P) (hin hc) w hw
      have ha := happ w
      simp only [Sem.run_ite, Sem.run_pure, Sem.run_bind] at ha
      simp only [hc, if_true, Sem.run_bind, Sem.run_ite, Sem.run_pure, ha, Result.andThen_ok]
      cases base with
      | none =>
        simp only at hr
        simp only [Sem.run_pure, Result.ok.injEq] at hr
        simp only [Sem.run_pure, Result.andThen_ok, EOk]
        exact ⟨by rw [hr.2]; exact hk.1, SameIO.refl _⟩
      | some a =>
        simp only at hr
        simp only [Sem.run_bind, hr, Result.andThen_ok, Sem.run_pure, EOk]
        exact hk
    · obtain ⟨old, ho, hb1, hb3, hk⟩ := hout (by omega)
      have hor := fun w hw => firstCells_run (P := P) ho w hw
      have hns : ¬ Builtin.nextslicecap (len + n.toNat) cap * bytesT P e > 2 ^ 48 := by omega
      have hmx : ¬ (((len + n.toNat : Nat) : Int) > IntKind.i64.max) := by omega
      have hforced : (Question.appendCap (len + n.toNat) cap e).forced = false := rfl
      simp only [hc, if_false, Sem.run_bind, run_typeInfo' hi, Result.andThen_ok, hb, hmx, false_and, Sem.run_ite, hns, run_choose, hforced, Bool.false_eq_true, run_askRoom]
      rw [hor _ (by exact hw)]
      simp only [Result.andThen_ok, run_zeroValue' o2, hif, newRow, Sem.run_pure, Sem.run_bind, run_newObj, EOk, zeroCells_eq, hw, List.append_toArray]
      refine ⟨hk _ ?_, rfl, rfl⟩
      exact Nat.le_add_right _ _
  · exact h.elim

theorem copy_sound {t u e : TypeId} {ty : TypeId} {s x : Value} (he : elemT P t = some e) (ok : okT P e = true) (h : CopyP P e s x H K) (w : World) (hw : w.heap = H) :
    EOk P w K ((do pure (Next.value (← Builtin.copy_ #[t, u] ty #[s, x])) : Sem Next).run P w) := by
  simp only [CopyP] at h
  split at h
  · rename_i base len cap
    obtain ⟨new, hn, hst⟩ := h
    have hnr := firstCells_run (P := P) hn w hw
    have hlen := lenOf_run (P := P) hn w
    obtain ⟨w', hr, hk⟩ := storeRow_run (P := P) hst w hw
    simp only [Sem.run_bind, Builtin.copy_, run_underlying (elemT_spec he), Result.andThen_ok, run_sizeOf' ok]
    simp only [List.getElem?_toArray, List.getElem?_cons_zero, List.getElem?_cons_succ, Sem.run_bind, run_underlying (elemT_spec he), Result.andThen_ok, run_sizeOf' ok, hlen, Sem.run_pure]
    simp only [hnr, Result.andThen_ok]
    cases base with
    | none =>
      simp only at hr
      simp only [Sem.run_pure, Result.ok.injEq] at hr
      simp only [Sem.run_pure, Result.andThen_ok, EOk, goInt]
      exact ⟨by rw [hr.2]; exact hk.1, SameIO.refl _⟩
    | some a =>
      simp only [add_zero] at hr
      simp only [Sem.run_bind, hr, Result.andThen_ok, Sem.run_pure, EOk, goInt]
      exact hk
  · exact h.elim

theorem push_modify {α : Type} (H : Array α) (o : α) (f : α → α) : (H.push o).modify H.size f = H.push (f o) := by
  apply Array.ext_getElem?
  intro i
  simp only [Array.getElem?_modify, Array.getElem?_push]
  by_cases h : i = H.size
  · subst h; simp
  · by_cases h2 : H.size = i
    · omega
    · simp [h, h2]

theorem strBytes_sound {e : TypeId} {x : Value} (h : StrBytesP e x H K) (s : ByteArray) (hx : x = .string s) (w : World) (hw : w.heap = H) :
    EOk P w K ((do pure (Next.value (← Conv.stringToBytes e s)) : Sem Next).run P w) := by
  subst hx; subst hw
  simp only [StrBytesP] at h
  have hforced : (Question.appendCap s.size 0 e).forced = false := rfl
  simp only [Sem.run_bind, Conv.stringToBytes, run_choose, hforced, Bool.false_eq_true, if_false, Result.andThen_ok, newRow, run_newObj, Sem.run_pure, markStringish, run_shape]
  generalize hcap : (Question.appendCap s.size 0 e).cut (w.tape w.drawn (Question.appendCap s.size 0 e)) = c
  have hc : s.size ≤ c := by rw [← hcap]; simp [Question.cut]
  have hd : s.data.size = s.size := rfl
  have hsz : ((s.data.map fun b => Value.int .u8 b.toNat) ++ Array.replicate (c - s.size) (Value.int .u8 0)).size = c := by
    simp only [Array.size_append, Array.size_map, Array.size_replicate]; omega
  have hk := h c hc
  generalize (s.data.map fun b => Value.int .u8 b.toNat) ++ Array.replicate (c - s.size) (Value.int .u8 0) = cells at *
  simp only [World.shape?, Array.getElem?_push_size, run_freeze, Result.andThen_ok, EOk, World.freeze, push_modify, hsz]
  exact ⟨by simpa using hk, rfl, rfl⟩

theorem bytes_loop : ∀ (cs : List Value) (bs : List UInt8) (acc : ByteArray) (w : World), cs.map byteOfV = bs.map some →
    (forIn cs acc (fun c (r : ByteArray) => (match c with
      | .int .u8 n => pure (ForInStep.yield (r.push (UInt8.ofNat n.toNat)))
      | _ => do stuck (α := PUnit) "bytesToString: byte expected"; pure (ForInStep.yield r) : Sem (ForInStep ByteArray)))).run P w = .ok ⟨acc.data ++ bs.toArray⟩ w := by
  intro cs
  induction cs with
  | nil => intro bs acc w h; cases bs <;> simp at h; simp
  | cons c cs ih =>
    intro bs acc w h
    cases bs with
    | nil => simp at h
    | cons b bs =>
      simp only [List.map_cons, List.cons.injEq] at h
      obtain ⟨h1, h2⟩ := h
      unfold byteOfV at h1
      split at h1
      · rename_i n
        simp only [Option.some.injEq] at h1
        subst h1
        rw [List.forIn_cons]
        simp only [Sem.run_bind, Sem.run_pure, Result.andThen_ok]
        rw [ih bs _ w h2]
        congr 2
        simp [ByteArray.push]
      · cases h1

theorem bytesStr_sound {x : Value} {K' : Value → Prop} (h : BytesStrP x H K') (w : World) (hw : w.heap = H) : ∃ v, K' v ∧ (Conv.bytesToString x).run P w = .ok v w := by
  simp only [BytesStrP] at h
  split at h
  · exact ⟨_, h, by simp [Conv.bytesToString]⟩
  · rename_i a len cap
    obtain ⟨cs, bs, hr, hm, hk⟩ := h
    refine ⟨_, hk, ?_⟩
    have := bytes_loop (P := P) cs bs ByteArray.empty w hm
    simp only [Conv.bytesToString, loadCells, Sem.run_bind, run_loadCells' H a _ 0 #[] cs w hw hr, Result.andThen_ok, Array.empty_append, List.forIn_toArray]
    erw [this]
    simp
  · exact h.elim

theorem opE_sound (o : Oper) (ok : okOp P o.op = true) (h : opE P ρ o.op H K) (w : World) (hw : w.heap = H) : EOk P w K ((execOp ρ o).run P w) := by
  obtain ⟨dst, op, ty, pos, after, guard⟩ := o
  simp only at ok h
  cases op with
  | alloc t => exact alloc_sound ok h w hw
  | box t x => exact box_sound h w hw
  | buildSlice t len parts => exact buildSlice_sound ok h w hw
  | store t a x =>
    simp only [opE] at h
    obtain ⟨w', hr, hk⟩ := store_run (P := P) ok h w hw
    simp only [execOp, Sem.run_bind, hr, Result.andThen_ok, Sem.run_pure, EOk]
    exact hk
  | makeSlice t l c =>
    simp only [opE] at h
    simp only [okOp] at ok
    cases he : elemT P t with
    | none => rw [he] at h; exact h.elim
    | some e =>
      rw [he] at h ok
      simp only [Bool.and_eq_true, Nat.ble_eq] at ok
      exact makeSlice_sound he ok.1 ok.2 h w hw
  | convert s d x =>
    simp only [opE] at h
    split at h
    · rename_i e hs hd
      split at h
      · rename_i he
        cases hx : ρ x with
        | string str =>
          have := strBytes_sound (P := P) h str hx w hw
          simpa [execOp, convert, run_underlying hs, run_underlying hd, run_underlying he, hx] using this
        | _ => rw [hx] at h; exact h.elim
      · exact h.elim
    · rename_i e hs hd
      split at h
      · rename_i he
        obtain ⟨v, hk, hv⟩ := bytesStr_sound (P := P) h w hw
        have hxs : ∃ a l c, ρ x = .slice a l c := by
          simp only [BytesStrP] at h
          split at h
          · exact ⟨_, _, _, by assumption⟩
          · exact ⟨_, _, _, by assumption⟩
          · exact h.elim
        obtain ⟨a, l, c, hx⟩ := hxs
        rw [hx] at hv
        have : (execOp ρ ⟨dst, .convert s d x, ty, pos, after, guard⟩).run P w = .ok (.value v) w := by
          simp only [execOp, convert, Sem.run_bind, run_underlying hs, run_underlying hd, run_underlying he, hx, Result.andThen_ok]
          cases a <;> simp [run_underlying he, hv]
        rw [this]
        simp only [EOk, hw]; exact ⟨hk, SameIO.refl w⟩
      · exact h.elim
    · exact h.elim
  | call c =>
    obtain ⟨callee, args, argTypes⟩ := c
    simp only [opE] at h
    have hargs : args.map ρ = (args.toList.map ρ).toArray := by rw [← Array.toList_map]
    cases callee with
    | value f =>
      have := callV_sound (P := P) h w hw
      simp only [execOp, resolve, hargs]
      simpa using this
    | invoke r m =>
      have := invoke_sound (P := P) h w hw
      simp only [execOp, resolve, hargs, Sem.run_bind, Sem.run_pure, Result.andThen_ok]
      exact this
    | builtin b =>
      cases b with
      | append =>
        simp only at h
        split at h
        · rename_i s x t u ha ht
          obtain rfl : args = #[s, x] := by cases args; simpa using ha
          obtain rfl : argTypes = #[t, u] := by cases argTypes; simpa using ht
          simp only [okOp] at ok
          split at h
          · rename_i e e2 he hu
            rw [he] at ok
            simp only [Bool.and_eq_true] at ok
            have := append_sound (P := P) (u := u) (ty := ty) he ok.1 ⟨_, hu, by simp⟩ h w hw
            simp only [execOp, resolve, Sem.run_bind, Sem.run_pure, Result.andThen_ok, invoke, builtin]
            simpa using this
          · rename_i e he hu
            rw [he] at ok
            simp only [Bool.and_eq_true] at ok
            have := append_sound (P := P) (u := u) (ty := ty) he ok.1 ⟨_, hu, by simp⟩ h w hw
            simp only [execOp, resolve, Sem.run_bind, Sem.run_pure, Result.andThen_ok, invoke, builtin]
            simpa using this
          · rename_i e k he hu
            rw [he] at ok
            simp only [Bool.and_eq_true, Nat.ble_eq] at ok
            have := appendZ_sound (P := P) (u := u) (ty := ty) he ok.1 ok.2 ⟨_, hu⟩ h w hw
            simp only [execOp, resolve, Sem.run_bind, Sem.run_pure, Result.andThen_ok, invoke, builtin]
            simpa using this
          · exact h.elim
        · exact h.elim
      | copy =>
        simp only at h
        split at h
        · rename_i s x t u ha ht
          obtain rfl : args = #[s, x] := by cases args; simpa using ha
          obtain rfl : argTypes = #[t, u] := by cases argTypes; simpa using ht
          simp only [okOp] at ok
          split at h
          · rename_i e e2 he hu
            rw [he] at ok
            have := copy_sound (P := P) (u := u) (ty := ty) he ok h w hw
            simp only [execOp, resolve, Sem.run_bind, Sem.run_pure, Result.andThen_ok, invoke, builtin]
            simpa using this
          · rename_i e he hu
            rw [he] at ok
            have := copy_sound (P := P) (u := u) (ty := ty) he ok h w hw
            simp only [execOp, resolve, Sem.run_bind, Sem.run_pure, Result.andThen_ok, invoke, builtin]
            simpa using this
          · exact h.elim
        · exact h.elim
      | _ => exact h.elim
  | _ => exact h.elim
end
end Go.X
set_option linter.unusedVariables false
set_option linter.unusedSimpArgs false
namespace Go.X
open Go
variable {P : Program}

def getA (a : Act) (t : Nat) : Value := a.tmps.getD t undef

structure Agree (n : Nat) (a : Act) (e : Env) : Prop where
  size : a.tmps.size = n
  get : ∀ t, t < n → getA a t = e.get t
  ds : a.defers = e.ds

theorem getA_put {a : Act} {d t : Nat} {v : Value} (hd : d < a.tmps.size) : getA (a.put (some d) v) t = if t = d then v else getA a t := by
  simp only [getA, Act.put, Array.getD_eq_getD_getElem?, Array.getElem?_setIfInBounds]
  by_cases h : d = t
  · subst h; simp [hd]
  · simp [h, Ne.symm h]

theorem look_put (s : List (Nat × Value)) (d t : Nat) (v : Value) : look ((d, v) :: s) t = if t = d then v else look s t := by
  simp only [look]
  cases h : Nat.beq d t with
  | true => have := Nat.eq_of_beq_eq_true h; simp [this]
  | false => have := Nat.ne_of_beq_eq_false h; simp [Ne.symm this]

theorem Agree.put {n : Nat} {a : Act} {e : Env} (h : Agree n a e) {d : Option Nat} (hd : ∀ x, d = some x → x < n) (v : Value) : Agree n (a.put d v) (e.put d v) := by
  cases d with
  | none => exact h
  | some d =>
    have hd' := hd d rfl
    refine ⟨by simp [Act.put, h.size], fun t ht => ?_, h.ds⟩
    rw [getA_put (by rw [h.size]; exact hd')]
    show _ = look ((d, v) :: e.s) t
    rw [look_put, h.get t ht]
    rfl

theorem Agree.know {n : Nat} {a : Act} {e : Env} (h : Agree n a e) {d : Nat} {v : Value} (hv : e.get d = v) : Agree n a (e.put (some d) v) := by
  refine ⟨h.size, fun t ht => ?_, h.ds⟩
  show _ = look ((d, v) :: e.s) t
  rw [look_put, h.get t ht]
  split
  · rename_i ht; subst ht; exact hv
  · rfl

def slotX (n : Nat) : Operand → Bool
  | .tmp t => Nat.blt t n
  | _ => true
def isSel : Op → Bool
  | .select .. => true
  | _ => false
def slotsO (n : Nat) (all : List Oper) (o : Oper) : Bool :=
  o.op.operands.toList.all (slotX n) && !isSel o.op && (match o.dst with | some d => Nat.blt d n | none => true) &&
  (match o.guard with | some (j, _) => (match dstOf all j with | some d => Nat.blt d n | none => true) | none => true)

theorem eval_agree {n : Nat} {a : Act} {e : Env} (h : Agree n a e) {x : Operand} (hx : slotX n x = true) : a.eval x = e.ev x := by
  cases x with
  | tmp t => exact h.get t (by simpa [slotX, Nat.blt_eq] using hx)
  | _ => rfl

theorem exec_agree {n : Nat} {a : Act} {e : Env} {all : List Oper} {o : Oper} (h : Agree n a e) (ho : slotsO n all o = true) : execOp a.eval o = execOp e.ev o := by
  simp only [slotsO, Bool.and_eq_true, Bool.not_eq_true'] at ho
  refine execOp_congr o (fun cs b hs => ?_) fun x hx => eval_agree h (List.all_eq_true.1 ho.1.1.1 x (by simpa using hx))
  have := ho.1.1.2
  rw [hs] at this; cases this

theorem dst_lt {n : Nat} {all : List Oper} {o : Oper} (ho : slotsO n all o = true) : ∀ x, o.dst = some x → x < n := by
  intro x hx
  simp only [slotsO, Bool.and_eq_true] at ho
  have := ho.1.2
  rw [hx] at this
  simpa [Nat.blt_eq] using this

theorem dstOf_eq (ops : Array Oper) (j : Nat) : (ops[j]?).bind (·.dst) = dstOf ops.toList j := by
  simp only [dstOf, Array.getElem?_toList]
  cases ops[j]? <;> rfl

theorem guard_sound {n : Nat} {a : Act} {e : Env} {ops : Array Oper} {sk : List Nat} {o : Oper} {F : Bool → Env → Prop} (h : Agree n a e) (ho : slotsO n ops.toList o = true)
    (hg : guardX ops.toList sk o e F) : ∃ e', Agree n a e' ∧ F (Region.wanted o (yielded ops a.tmps)) e' := by
  unfold guardX at hg
  unfold Region.wanted
  cases hgo : o.guard with
  | none => rw [hgo] at hg; exact ⟨e, h, hg⟩
  | some jw =>
    obtain ⟨j, want⟩ := jw
    rw [hgo] at hg
    simp only at hg ⊢
    cases hd : dstOf ops.toList j with
    | none => rw [hd] at hg; exact hg.elim
    | some d =>
      rw [hd] at hg
      simp only at hg
      have hdn : d < n := by
        simp only [slotsO, Bool.and_eq_true, hgo, hd] at ho
        simpa [Nat.blt_eq] using ho.2
      have hval : a.tmps[d]? = some (e.get d) := by
        have := h.get d hdn
        rw [← this]
        simp [getA, Array.getD_eq_getD_getElem?, h.size, hdn]
      have hy : yielded ops a.tmps j = (match e.get d with | .bool b => some b | _ => none) := by
        unfold yielded
        rw [dstOf_eq, hd]
        simp only [Option.bind_some, hval]
        cases e.get d <;> rfl
      rw [hy]
      cases hsk : sk.contains j with
      | true =>
        rw [hsk] at hg
        simp only [cond_true, SkipP] at hg
        split at hg
        · rename_i vs hv
          rw [hv]
          exact ⟨e, h, by simpa using hg⟩
        · exact hg.elim
      | false =>
        rw [hsk] at hg
        simp only [cond_false, SplitP] at hg
        split at hg
        · rename_i hv
          rw [hv]
          exact ⟨_, h.know hv, by cases want <;> simpa using hg⟩
        · rename_i hv
          rw [hv]
          exact ⟨_, h.know hv, by cases want <;> simpa using hg⟩
        · exact hg.elim

theorem opX_sound {H : Heap} {K : Value → Heap → Prop} {ρ : Operand → Value} (o : Oper) (ok : okOp P o.op = true) (h : opX P ρ o.op H K) (w : World) (hw : w.heap = H) : EOk P w K ((execOp ρ o).run P w) := by
  unfold opX at h
  cases hq : quiet P o.op with
  | true =>
    rw [hq] at h
    have h : opQ P ρ o.op H (fun v _ => K v H) := h
    obtain ⟨v, S, hk, hS, hy⟩ := opQ_sound (P := P) o ok h
    obtain ⟨w', hw', hr⟩ := hy H hS w hw
    rw [hr]
    simp only [EOk, hw'.1]; exact ⟨hk, hw'.2⟩
  | false =>
    rw [hq] at h
    exact opE_sound o ok h w hw

theorem opX_defer {H : Heap} {K : Value → Heap → Prop} {ρ : Operand → Value} {op : Op} (h : opX P ρ op H K) : ∀ c, op ≠ .defer c := by
  intro c hc
  subst hc
  exact h

theorem semAt_eq {o : Oper} (h : ∀ c, o.op ≠ .defer c) (r : Option Nat) (ρ : Operand → Value) : o.semAt r ρ = execOp ρ o := by
  unfold Oper.semAt
  cases r with
  | none => rfl
  | some l =>
    cases ho : o.op <;> first | rfl | exact absurd ho (h _)

/-- Slots outside W are as they were. -/
def Same (W : Nat → Prop) (a a' : Act) : Prop := ∀ t, ¬ W t → getA a' t = getA a t
theorem Same.refl (W : Nat → Prop) (a : Act) : Same W a a := fun _ _ => rfl
theorem Same.trans {W : Nat → Prop} {a b c : Act} (h : Same W a b) (h' : Same W b c) : Same W a c := fun t ht => (h' t ht).trans (h t ht)
theorem Same.mono {W W' : Nat → Prop} {a b : Act} (h : Same W a b) (hw : ∀ t, W t → W' t) : Same W' a b := fun t ht => h t fun x => ht (hw t x)
theorem Same.put {W : Nat → Prop} {n : Nat} {a : Act} (hs : a.tmps.size = n) {d : Option Nat} (hd : ∀ x, d = some x → x < n ∧ W x) (v : Value) : Same W a (a.put d v) := by
  intro t ht
  cases d with
  | none => rfl
  | some d =>
    rw [getA_put (by rw [hs]; exact (hd d rfl).1)]
    rw [if_neg (fun e : t = d => ht (by rw [e]; exact (hd d rfl).2))]

theorem about_wide {r : Option Nat} {x : Option FuncId} : ∀ f, x = some f → (FW r).fn f := fun _ _ => trivial

/-- Slots outside W, and the streams, as they were. -/
def SameW (W : Nat → Prop) (a : Act) (w : World) (a' : Act) (w' : World) : Prop := Same W a a' ∧ SameIO w w'
theorem SameW.refl (W : Nat → Prop) (a : Act) (w : World) : SameW W a w a w := ⟨Same.refl _ _, SameIO.refl _⟩
theorem SameW.trans {W : Nat → Prop} {a b c : Act} {u v w : World} (h : SameW W a u b v) (h' : SameW W b v c w) : SameW W a u c w := ⟨h.1.trans h'.1, h.2.trans h'.2⟩
theorem SameW.mono {W W' : Nat → Prop} {a b : Act} {u v : World} (h : SameW W a u b v) (hw : ∀ t, W t → W' t) : SameW W' a u b v := ⟨h.1.mono hw, h.2⟩

/-- What lies behind code: slots outside W as they were; a frame that agrees. -/
def Post (n : Nat) (W : Nat → Prop) (a0 : Act) (w0 : World) (Q : Exit → Env → Heap → Prop) : Exit → Act → World → Prop :=
  fun ex a w => SameW W a0 w0 a w ∧ ∃ e, Agree n a e ∧ Q ex e w.heap

theorem opsX_sound {n : Nat} {W : Nat → Prop} {a0 : Act} {w0 : World} {r : Option Nat} {ops : Array Oper} {K : Env → Heap → Prop} {Q : Exit → Act → World → Prop}
    (hok : ∀ o ∈ ops.toList, okOp P o.op = true ∧ slotsO n ops.toList o = true ∧ ∀ d, o.dst = some d → W d)
    (hQ : ∀ a w, SameW W a0 w0 a w → (∃ e, Agree n a e ∧ K e w.heap) → Q .normal a w) :
    ∀ (l : List Oper) (i : Nat) (sk : List Nat) (e : Env) (H : Heap) (a : Act) (w : World), (∀ j, l[j]? = ops[i + j]?) → SameW W a0 w0 a w → Agree n a e → w.heap = H →
      opsX P ops.toList i sk l e H K → wpOpsIn (FW r) 0 P ops Q (List.range' i l.length) a w := by
  intro l
  induction l with
  | nil => intro i sk e H a w _ hs ha hw h; subst hw; exact hQ a w hs ⟨e, ha, h⟩
  | cons o l ih =>
    intro i sk e H a w hl hs ha hw h
    have h0 : ops[i]? = some o := by simpa using (hl 0).symm
    have hmem : o ∈ ops.toList := by
      have := Array.mem_of_getElem? h0
      simpa using this
    obtain ⟨ok, hsl, hW⟩ := hok o hmem
    have hl' : ∀ j, l[j]? = ops[i + 1 + j]? := fun j => by have := hl (j + 1); simpa [Nat.add_assoc, Nat.add_comm 1 j] using this
    simp only [List.length_cons, List.range'_succ, wpOpsIn, h0]
    simp only [opsX] at h
    obtain ⟨e', ha', hF⟩ := guard_sound ha hsl h
    have hdl := dst_lt hsl
    have hdw : ∀ x, o.dst = some x → x < n ∧ W x := fun x hx => ⟨hdl x hx, hW x hx⟩
    cases hwt : Region.wanted o (yielded ops a.tmps) with
    | true =>
      rw [hwt] at hF
      simp only [cond_true] at hF
      simp only [if_true]
      refine ⟨about_wide, ?_⟩
      rw [semAt_eq (opX_defer hF), exec_agree ha' hsl]
      refine (opX_sound o ok hF w hw).upon (fun v w' hk hio => ?_)
      exact ih (i + 1) sk _ _ _ _ hl' (hs.trans ⟨Same.put ha.size hdw v, hio⟩) (ha'.put hdl v) rfl hk
    | false =>
      rw [hwt] at hF
      simp only [cond_false] at hF
      simp only [Bool.false_eq_true, if_false]
      refine ⟨about_wide, ?_⟩
      exact ih (i + 1) _ _ _ _ _ hl' (hs.trans ⟨Same.put ha.size hdw _, SameIO.refl _⟩) (ha'.put hdl _) hw hF
end Go.X
set_option linter.unusedVariables false
set_option linter.unusedSimpArgs false
namespace Go.X
open Go
variable {P : Program}

/-! ### Who must have come ahead -/
theorem maskOf_spec (acc : List Nat) (i : Nat) : ∀ es : List Edge, (maskOf acc es).testBit i = true → ∃ e ∈ es, Region.binds .any e = true ∧ (e.on = i ∨ (acc.getD e.on 0).testBit i = true) := by
  intro es
  induction es with
  | nil => intro h; simp [maskOf] at h
  | cons e es ih =>
    intro h
    simp only [maskOf] at h
    cases hb : Region.binds .any e with
    | true =>
      rw [hb] at h
      simp only [cond_true, Nat.testBit_or, Bool.or_eq_true] at h
      rcases h with (h | h) | h
      · rw [Nat.testBit_two_pow] at h
        exact ⟨e, by simp, hb, .inl (by simpa using h)⟩
      · exact ⟨e, by simp, hb, .inr h⟩
      · obtain ⟨e', he, h⟩ := ih h
        exact ⟨e', by simp [he], h⟩
    | false =>
      rw [hb] at h
      obtain ⟨e', he, h⟩ := ih h
      exact ⟨e', by simp [he], h⟩

theorem masksX_length : ∀ (l : List Oper) (acc : List Nat), (masksX acc l).length = acc.length + l.length := by
  intro l
  induction l with
  | nil => intro acc; simp [masksX]
  | cons o l ih => intro acc; simp only [masksX, ih]; simp; omega

theorem masksX_pre : ∀ (l : List Oper) (acc : List Nat) (k : Nat), k < acc.length → (masksX acc l).getD k 0 = acc.getD k 0 := by
  intro l
  induction l with
  | nil => intro acc k _; rfl
  | cons o l ih =>
    intro acc k hk
    simp only [masksX]
    rw [ih _ k (by simp; omega)]
    simp [List.getD_eq_getElem?_getD, List.getElem?_append_left hk]

theorem masksX_at : ∀ (l : List Oper) (acc : List Nat) (m : Nat) (o : Oper), l[m]? = some o →
    ∃ pre : List Nat, pre.length = acc.length + m ∧ (∀ k, k < pre.length → pre.getD k 0 = (masksX acc l).getD k 0) ∧ (masksX acc l).getD (acc.length + m) 0 = maskOf pre o.after.toList := by
  intro l
  induction l with
  | nil => intro acc m o h; simp at h
  | cons o' l ih =>
    intro acc m o h
    cases m with
    | zero =>
      simp only [List.getElem?_cons_zero, Option.some.injEq] at h
      subst h
      refine ⟨acc, rfl, fun k hk => ?_, ?_⟩
      · simp only [masksX]
        rw [masksX_pre l _ k (by simp; omega)]
        simp [List.getD_eq_getElem?_getD, List.getElem?_append_left hk]
      · simp only [masksX, Nat.add_zero]
        rw [masksX_pre l _ _ (by simp)]
        simp [List.getD_eq_getElem?_getD]
    | succ m =>
      simp only [List.getElem?_cons_succ] at h
      obtain ⟨pre, h1, h2, h3⟩ := ih (acc ++ [maskOf acc o'.after.toList]) m o h
      refine ⟨pre, by rw [h1]; simp; omega, h2, ?_⟩
      simp only [masksX]
      rw [← h3]
      congr 1; simp; omega

/-- Operation i must have come ahead of j, by the masks. -/
def bef (ops : Array Oper) (i j : Nat) : Bool := ((masksX [] ops.toList).getD j 0).testBit i

theorem bef_spec {ops : Array Oper} {i j : Nat} {oj : Oper} (hj : ops[j]? = some oj) (h : bef ops i j = true) :
    ∃ e ∈ oj.after, Region.binds .any e = true ∧ (e.on = i ∨ (e.on < j ∧ bef ops i e.on = true)) := by
  unfold bef at h
  obtain ⟨pre, h1, h2, h3⟩ := masksX_at ops.toList [] j oj (by simpa using hj)
  simp only [List.length_nil, Nat.zero_add] at h1 h3
  rw [h3] at h
  obtain ⟨e, he, hb, hx⟩ := maskOf_spec pre i _ h
  refine ⟨e, by simpa using he, hb, ?_⟩
  rcases hx with hx | hx
  · exact .inl hx
  · right
    by_cases hlt : e.on < pre.length
    · rw [h2 _ hlt] at hx
      exact ⟨by omega, hx⟩
    · simp [List.getD_eq_getElem?_getD, List.getElem?_eq_none (Nat.le_of_not_lt hlt)] at hx

def Down (ops : Array Oper) (listed : Array Bool) : Prop :=
  ∀ j o, ops[j]? = some o → listed.getD j true = true → ∀ e ∈ o.after, Region.binds .any e = true → listed.getD e.on false = true

theorem getD_bool {listed : Array Bool} {k : Nat} (h : listed.getD k false = true) : listed.getD k true = true := by
  rcases Nat.lt_or_ge k listed.size with h' | h'
  · simp [h'] at h ⊢; exact h
  · simp [Array.getElem?_eq_none h'] at h

theorem bef_listed {ops : Array Oper} {listed : Array Bool} (hd : Down ops listed) (i : Nat) : ∀ (j : Nat) (oj : Oper), ops[j]? = some oj →
    (∀ e ∈ oj.after, Region.binds .any e = true → listed.getD e.on false = true) → bef ops i j = true → listed.getD i false = true := by
  intro j
  induction j using Nat.strongRecOn with
  | _ j ih =>
    intro oj hj hpre hb
    obtain ⟨e, he, hbe, hx⟩ := bef_spec hj hb
    rcases hx with rfl | ⟨hlt, hx⟩
    · exact hpre e he hbe
    · have hl := hpre e he hbe
      have hjl : j < ops.size := (Array.getElem?_eq_some_iff.1 hj).1
      have hk : ops[e.on]? = some ops[e.on] := Array.getElem?_eq_getElem (by omega)
      exact ih e.on hlt _ hk (hd _ _ hk (getD_bool hl)) hx

theorem Down.set {ops : Array Oper} {listed : Array Bool} (h : Down ops listed) {i : Nat} (hi : i ∈ Region.ready .any ops listed) : Down ops (listed.setIfInBounds i true) := by
  intro j o hj hl e he hb
  obtain ⟨_, oi, hoi, hall⟩ := mem_ready.1 hi
  by_cases hij : i = j
  · subst hij
    rw [hoi] at hj
    simp only [Option.some.injEq] at hj
    subst hj
    exact getD_set_true (hall e he hb)
  · rw [getD_set_ne true hij] at hl
    exact getD_set_true (h j o hj hl e he hb)

/-! ### All orders, with what must be kept -/
abbrev Pend := List (Nat × (Heap → Prop))

def AnyP (r : Option Nat) (P : Program) (ops : Array Oper) (Q : Exit → Act → World → Prop) : Nat → Array Bool → Pend → Act → World → Prop
  | 0, listed, _, a, w => Region.ready .any ops listed = [] ∧ Q .normal a w
  | fuel + 1, listed, pend, a, w =>
    (Region.ready .any ops listed = [] → Q .normal a w) ∧
    ∀ j ∈ Region.ready .any ops listed, wpOpIn (FW r) 0 P ops Q j (fun a' w' => (∀ x ∈ pend, bef ops x.1 j = false → x.2 w'.heap) ∧
      ∀ w'' : World, (w''.heap = w'.heap ∧ SameIO w' w'') → AnyP r P ops Q fuel (listed.setIfInBounds j true) (pend.filter fun x => !bef ops x.1 j) a' w'') a w

section
variable {r : Option Nat} {ops : Array Oper} {Q : Exit → Act → World → Prop}

theorem AnyP.any : ∀ (fuel : Nat) (listed : Array Bool) (pend : Pend) (a : Act) (w : World), AnyP r P ops Q fuel listed pend a w → wpAnyIn (FW r) 0 P .any ops Q fuel listed a w
  | 0, _, _, _, _, h => h
  | fuel + 1, _, _, _, _, h => ⟨h.1, fun j hj => wpOpIn_mono (fun a' w' h' => AnyP.any fuel _ _ a' w' (h'.2 w' ⟨rfl, SameIO.refl _⟩)) (h.2 j hj)⟩

theorem AnyP.sub : ∀ (fuel : Nat) (listed : Array Bool) (pend pend' : Pend) (a : Act) (w : World), (∀ x ∈ pend', x ∈ pend) → AnyP r P ops Q fuel listed pend a w → AnyP r P ops Q fuel listed pend' a w
  | 0, _, _, _, _, _, _, h => h
  | fuel + 1, _, _, _, _, _, hs, h => ⟨h.1, fun j hj => wpOpIn_mono (fun a' w' h' => ⟨fun x hx => h'.1 x (hs x hx), fun w'' hw'' => AnyP.sub fuel _ _ _ a' w'' (fun x hx => by
      rw [List.mem_filter] at hx ⊢; exact ⟨hs x hx.1, hx.2⟩) (h'.2 w'' hw'')⟩) (h.2 j hj)⟩

/-- In state a operation o leaves v in its slot, in every heap that keeps S, and nothing else. -/
def StabY (P : Program) (ops : Array Oper) (o : Oper) (v : Value) (S : Keep) (a : Act) : Prop :=
  (Region.wanted o (yielded ops a.tmps) = true ∧ ∀ H', keepS S H' → Yld P (execOp a.eval o) H' v) ∨ (Region.wanted o (yielded ops a.tmps) = false ∧ v = undef)

theorem StabY.of_same {o : Oper} {v : Value} {S : Keep} {a a' : Act} (hy : StabY P ops o v S a) (he : execOp a'.eval o = execOp a.eval o)
    (hw : Region.wanted o (yielded ops a'.tmps) = Region.wanted o (yielded ops a.tmps)) : StabY P ops o v S a' := by
  unfold StabY at *
  rw [he, hw]; exact hy

def noBad (o : Oper) : Bool := match o.op with | .select .. => false | .defer _ => false | _ => true
theorem noBad_sel {o : Oper} (h : noBad o = true) : ∀ cs b, o.op ≠ .select cs b := by
  intro cs b e; simp [noBad, e] at h
theorem noBad_defer {o : Oper} (h : noBad o = true) : ∀ c, o.op ≠ .defer c := by
  intro c e; simp [noBad, e] at h

theorem StabY.wpOpIn {i : Nat} {o : Oper} {v : Value} {S : Keep} {a : Act} (hi : ops[i]? = some o) (hn : noBad o = true) (hy : StabY P ops o v S a) {K : Act → World → Prop} {w : World}
    (hS : keepS S w.heap) (h : ∀ w', (w'.heap = w.heap ∧ SameIO w w') → K (a.put o.dst v) w') : wpOpIn (FW r) 0 P ops Q i K a w := by
  unfold Go.wpOpIn
  simp only [hi]
  rcases hy with ⟨hw, hv⟩ | ⟨hw, rfl⟩
  · obtain ⟨w', hw', hr⟩ := hv _ hS w rfl
    simp only [hw, if_true, Oper.wpIn, semAt_eq (noBad_defer hn), hr, Oper.uponIn]
    exact ⟨about_wide, h w' hw'⟩
  · simp only [hw, Bool.false_eq_true, if_false]; exact ⟨about_wide, h w ⟨rfl, SameIO.refl _⟩⟩

theorem wpOpIn_putS {j : Nat} {oi oj : Oper} {v : Value} {S : Keep} (hj : ops[j]? = some oj) (hap : oi.apart ops oj = true) (hsi : noBad oi = true) (hsj : noBad oj = true)
    (hQ : ∀ c a w, Q (.panic c) a w → False) {K : Act → World → Prop} {a : Act} {w : World} (hy : StabY P ops oi v S a) (h : wpOpIn (FW r) 0 P ops Q j K (a.put oi.dst v) w) :
    wpOpIn (FW r) 0 P ops Q j (fun a' w' => StabY P ops oi v S a' ∧ K (a'.put oi.dst v) w') a w := by
  obtain ⟨h1, h2, h3⟩ := Oper.apart_spec hap
  have keep : ∀ (a : Act), StabY P ops oi v S a → ∀ u, StabY P ops oi v S (a.put oj.dst u) := fun a hy u =>
    hy.of_same (execOp_put oi (noBad_sel hsi) a oj.dst u h3) (wanted_put oi a oj.dst u h3)
  have keepD : ∀ d, StabY P ops oi v S { a with defers := d :: a.defers } := fun d => hy.of_same rfl rfl
  unfold Go.wpOpIn at *
  simp only [hj] at *
  rw [wanted_put oj a oi.dst v h1] at h
  split
  · rename_i hw
    simp only [hw, if_true] at h
    unfold Oper.wpIn at *
    refine ⟨about_wide, ?_⟩
    have h := h.2
    rw [semAt_eq (noBad_defer hsj), execOp_put oj (noBad_sel hsj) a oi.dst v h1] at h
    rw [semAt_eq (noBad_defer hsj)]
    generalize (execOp a.eval oj).run P w = res at *
    cases res with
    | ok x w' =>
      cases x <;> simp only [Oper.uponIn] at h ⊢
      case value u => exact ⟨keep a hy u, by rw [← Act.put_comm a v u h2]; exact h⟩
      case skip => exact ⟨keep a hy _, by rw [← Act.put_comm a v undef h2]; exact h⟩
      case defer d =>
        refine ⟨keep _ (keepD d) _, ?_⟩
        rw [← Act.put_comm _ v undef h2, ← Act.put_defers]
        exact h
      case enter f args =>
        refine ⟨h.1, CallsIn.mono h.2 fun e w'' he => ?_⟩
        cases e with
        | returned u => exact ⟨keep a hy u, by rw [← Act.put_comm a v u h2]; exact he⟩
        | panicked c => exact (hQ _ _ _ he).elim
        | outgrown => exact he
      case row row args => exact ⟨h.1, RowsIn.mono h.2 fun u w'' he => ⟨keep a hy u, by rw [← Act.put_comm a v u h2]; exact he⟩⟩
      case round l f tmps assign body =>
        refine ⟨h.1, RoundIn.mono h.2 fun e w'' he => ?_⟩
        cases e with
        | returned u => exact ⟨keep a hy u, by rw [← Act.put_comm a v u h2]; exact he⟩
        | panicked c => exact (hQ _ _ _ he).elim
        | outgrown => exact he
    | halt x w' =>
      cases x <;> simp only [Oper.uponIn] at h ⊢
      case panic u => exact (hQ _ _ _ h).elim
  · rename_i hw
    simp only [hw] at h
    exact ⟨about_wide, keep a hy _, by rw [← Act.put_comm a v undef h2]; exact h.2⟩

theorem mem_pendX {i : Nat} {S : Keep} {pend : Pend} {x : Nat × (Heap → Prop)} (h : x ∈ pendX i S pend) : (∃ S', S = some S' ∧ x = (i, S')) ∨ x ∈ pend := by
  unfold pendX at h
  cases S with
  | none => exact .inr h
  | some S' =>
    simp only [List.mem_cons] at h
    rcases h with h | h
    · exact .inl ⟨S', rfl, h⟩
    · exact .inr h

theorem AnyP.first {i : Nat} {oi : Oper} {v : Value} {S : Keep} (hi : ops[i]? = some oi) (hbad : ∀ (j : Nat) (o : Oper), ops[j]? = some o → noBad o = true)
    (hap : ∀ (j : Nat) (oj : Oper), ops[j]? = some oj → j ≠ i → bef ops i j = false → bef ops j i = false → oi.apart ops oj = true) (hQ : ∀ c a w, Q (.panic c) a w → False) :
    ∀ (fuel : Nat) (listed : Array Bool) (pend : Pend) (a : Act) (w : World), Down ops listed → i ∈ Region.ready .any ops listed → StabY P ops oi v S a → keepS S w.heap →
      (∀ x ∈ pend, x.2 w.heap) → (∀ w' : World, (w'.heap = w.heap ∧ SameIO w w') → AnyP r P ops Q fuel (listed.setIfInBounds i true) (pendX i S pend) (a.put oi.dst v) w') →
      AnyP r P ops Q (fuel + 1) listed pend a w := by
  intro fuel
  induction fuel with
  | zero =>
    intro listed pend a w hd hr hy hS hp H
    refine ⟨fun h => (by rw [h] at hr; cases hr), fun j hj => ?_⟩
    by_cases hji : j = i
    · subst hji
      exact hy.wpOpIn hi (hbad _ _ hi) hS fun w' hw' => ⟨fun x hx _ => by rw [hw'.1]; exact hp x hx, fun w'' hw'' => ⟨(H w ⟨rfl, SameIO.refl _⟩).1, (H w'' ⟨by rw [hw''.1, hw'.1], hw'.2.trans hw''.2⟩).2⟩⟩
    · have := ready_mono hj hji
      rw [(H w ⟨rfl, SameIO.refl _⟩).1] at this
      cases this
  | succ fuel ih =>
    intro listed pend a w hd hr hy hS hp H
    refine ⟨fun h => (by rw [h] at hr; cases hr), fun j hj => ?_⟩
    by_cases hji : j = i
    · subst hji
      refine hy.wpOpIn hi (hbad _ _ hi) hS fun w' hw' => ⟨fun x hx _ => by rw [hw'.1]; exact hp x hx, fun w'' hw'' => ?_⟩
      refine AnyP.sub _ _ _ _ _ _ (fun x hx => ?_) (H w'' ⟨by rw [hw''.1, hw'.1], hw'.2.trans hw''.2⟩)
      rw [List.mem_filter] at hx
      unfold pendX
      cases S with
      | none => exact hx.1
      | some S' => exact List.mem_cons_of_mem _ hx.1
    · obtain ⟨hjun, oj, hoj, hall⟩ := mem_ready.1 hj
      obtain ⟨hiun, oi', hoi', halli⟩ := mem_ready.1 hr
      have hiun' : listed.getD i false = false := by
        cases h : listed.getD i false with
        | false => rfl
        | true => have := getD_bool h; rw [this] at hiun; cases hiun
      have hjun' : listed.getD j false = false := by
        cases h : listed.getD j false with
        | false => rfl
        | true => have := getD_bool h; rw [this] at hjun; cases hjun
      have hnb : bef ops i j = false := by
        cases h : bef ops i j with
        | false => rfl
        | true => have := bef_listed hd i j oj hoj hall h; rw [this] at hiun'; cases hiun'
      have hnb' : bef ops j i = false := by
        cases h : bef ops j i with
        | false => rfl
        | true => have := bef_listed hd j i oi' hoi' halli h; rw [this] at hjun'; cases hjun'
      have h1 := (H w ⟨rfl, SameIO.refl _⟩).2 j (ready_mono hj hji)
      have h2 := wpOpIn_putS (r := r) hoj (hap j oj hoj hji hnb hnb') (hbad _ _ hi) (hbad _ _ hoj) hQ hy h1
      refine wpOpIn_mono (fun a' w' h3 => ?_) h2
      obtain ⟨hy', hk, hrest⟩ := h3
      have hSw : keepS S w'.heap := by
        cases S with
        | none => trivial
        | some S' => exact hk (i, S') (by simp [pendX]) hnb
      refine ⟨fun x hx hb => hk x (by unfold pendX; cases S with | none => exact hx | some S' => exact List.mem_cons_of_mem _ hx) hb, fun w'' hw'' => ?_⟩
      refine ih (listed.setIfInBounds j true) _ a' w'' (hd.set hj) (ready_mono hr (Ne.symm hji)) hy' (by rw [hw''.1]; exact hSw) (fun x hx => ?_) fun w3 hw3 => ?_
      · rw [List.mem_filter] at hx
        rw [hw''.1]
        exact hk x (by unfold pendX; cases S with | none => exact hx.1 | some S' => exact List.mem_cons_of_mem _ hx.1) (by simpa using hx.2)
      · rw [Array.setIfInBounds_comm _ _ hji]
        refine AnyP.sub _ _ _ _ _ _ (fun x hx => ?_) (hrest w3 ⟨by rw [hw3.1, hw''.1], hw''.2.trans hw3.2⟩)
        rw [List.mem_filter]
        rcases mem_pendX hx with ⟨S', hS', hx'⟩ | hx'
        · subst hS'; subst hx'
          exact ⟨by simp [pendX], by simp [hnb]⟩
        · rw [List.mem_filter] at hx'
          exact ⟨by unfold pendX; cases S with | none => exact hx'.1 | some S' => exact List.mem_cons_of_mem _ hx'.1, hx'.2⟩

theorem edgesDone_spec {done : List Nat} : ∀ {es : List Edge}, edgesDone done es = true ↔ ∀ e ∈ es, Region.binds .any e = true → e.on ∈ done := by
  intro es
  induction es with
  | nil => simp [edgesDone]
  | cons e es ih =>
    simp only [edgesDone, Bool.and_eq_true, ih, List.mem_cons, Bool.or_eq_true, Bool.not_eq_true', List.contains_iff_mem]
    constructor
    · rintro ⟨h1, h2⟩ e' (rfl | he) hb
      · rcases h1 with h1 | h1
        · rw [hb] at h1; cases h1
        · exact h1
      · exact h2 e' he hb
    · intro h
      refine ⟨?_, fun e' he hb => h e' (.inr he) hb⟩
      cases hb : Region.binds .any e with
      | false => exact .inl rfl
      | true => exact .inr (h e (.inl rfl) hb)

theorem readyX_mem {done : List Nat} {i : Nat} {o : Oper} : ∀ {l : List Oper} {k : Nat}, (i, o) ∈ readyX done k l ↔ ∃ m, l[m]? = some o ∧ i = k + m ∧ i ∉ done ∧ edgesDone done o.after.toList = true := by
  intro l
  induction l with
  | nil => intro k; simp [readyX]
  | cons o' l ih =>
    intro k
    simp only [readyX]
    have key : (∃ m, (o' :: l)[m]? = some o ∧ i = k + m ∧ i ∉ done ∧ edgesDone done o.after.toList = true) ↔
        ((o' = o ∧ i = k ∧ i ∉ done ∧ edgesDone done o.after.toList = true) ∨ (i, o) ∈ readyX done (k + 1) l) := by
      rw [ih]
      constructor
      · rintro ⟨m, h1, h2, h3⟩
        cases m with
        | zero => simp at h1; exact .inl ⟨h1, by simpa using h2, h3⟩
        | succ m => exact .inr ⟨m, by simpa using h1, by omega, h3⟩
      · rintro (⟨h1, h2, h3⟩ | ⟨m, h1, h2, h3⟩)
        · exact ⟨0, by simp [h1], by simpa using h2, h3⟩
        · exact ⟨m + 1, by simpa using h1, by omega, h3⟩
    rw [key]
    cases hc : (!done.contains k && edgesDone done o'.after.toList) with
    | true =>
      simp only [cond_true, List.mem_cons, Prod.mk.injEq]
      simp only [Bool.and_eq_true, Bool.not_eq_true'] at hc
      constructor
      · rintro (⟨rfl, rfl⟩ | h)
        · exact .inl ⟨rfl, rfl, by simpa using hc.1, hc.2⟩
        · exact .inr h
      · rintro (⟨rfl, rfl, _, _⟩ | h)
        · exact .inl ⟨rfl, rfl⟩
        · exact .inr h
    | false =>
      simp only [cond_false]
      constructor
      · exact .inr
      · rintro (⟨rfl, rfl, h1, h2⟩ | h)
        · rw [h2] at hc; simp [h1] at hc
        · exact h

theorem firstQuiet_some {rs : List (Nat × Oper)} {x : Nat × Oper} (h : firstQuiet P rs = some x) : x ∈ rs ∧ quiet P x.2.op = true := by
  induction rs with
  | nil => simp [firstQuiet] at h
  | cons y rs ih =>
    obtain ⟨i, o⟩ := y
    simp only [firstQuiet] at h
    cases hq : quiet P o.op with
    | true => rw [hq] at h; simp only [cond_true, Option.some.injEq] at h; subst h; exact ⟨by simp, hq⟩
    | false => rw [hq] at h; obtain ⟨h1, h2⟩ := ih h; exact ⟨by simp [h1], h2⟩

theorem firstQuiet_none {rs : List (Nat × Oper)} (h : firstQuiet P rs = none) : ∀ x ∈ rs, quiet P x.2.op = false := by
  induction rs with
  | nil => intro x hx; cases hx
  | cons y rs ih =>
    obtain ⟨i, o⟩ := y
    simp only [firstQuiet] at h
    cases hq : quiet P o.op with
    | true => rw [hq] at h; cases h
    | false =>
      rw [hq] at h
      intro x hx
      rcases List.mem_cons.1 hx with rfl | hx
      · exact hq
      · exact ih h x hx

theorem allX_mem : ∀ {rs : List (Nat × Oper)} {F : Nat × Oper → Prop}, allX rs F → ∀ x ∈ rs, F x := by
  intro rs
  induction rs with
  | nil => intro F _ x hx; cases hx
  | cons y rs ih =>
    intro F h x hx
    cases rs with
    | nil =>
      simp only [List.mem_singleton] at hx
      subst hx; exact h
    | cons z rs =>
      rcases List.mem_cons.1 hx with rfl | hx
      · exact h.1
      · exact ih h.2 x hx

theorem keepX_spec {ops : Array Oper} {j : Nat} : ∀ {pend : Pend} {H : Heap} {A : Prop}, keepX ((masksX [] ops.toList).getD j 0) pend H A → (∀ x ∈ pend, bef ops x.1 j = false → x.2 H) ∧ A := by
  intro pend
  induction pend with
  | nil => intro H A h; exact ⟨fun x hx => (by cases hx), h⟩
  | cons y pend ih =>
    obtain ⟨i, S⟩ := y
    intro H A h
    simp only [keepX] at h
    cases hb : ((masksX [] ops.toList).getD j 0).testBit i with
    | true =>
      rw [hb] at h
      obtain ⟨h1, h2⟩ := ih h
      refine ⟨fun x hx hbx => ?_, h2⟩
      rcases List.mem_cons.1 hx with rfl | hx
      · unfold bef at hbx; rw [hb] at hbx; cases hbx
      · exact h1 x hx hbx
    | false =>
      rw [hb] at h
      obtain ⟨h1, h2⟩ := ih h.2
      refine ⟨fun x hx hbx => ?_, h2⟩
      rcases List.mem_cons.1 hx with rfl | hx
      · exact h.1
      · exact h1 x hx hbx

theorem filterX_eq {ops : Array Oper} {j : Nat} : ∀ {pend : Pend}, filterX ((masksX [] ops.toList).getD j 0) pend = pend.filter fun x => !bef ops x.1 j := by
  intro pend
  induction pend with
  | nil => rfl
  | cons y pend ih =>
    obtain ⟨i, S⟩ := y
    simp only [filterX]
    cases hb : ((masksX [] ops.toList).getD j 0).testBit i with
    | true => have hb' : bef ops i j = true := hb; simp only [cond_true, ih, List.filter_cons, hb', Bool.not_true, Bool.false_eq_true, if_false]
    | false => have hb' : bef ops i j = false := hb; simp only [cond_false, ih, List.filter_cons, hb', Bool.not_false, if_true]

theorem drawX_sound {n : Nat} {W : Nat → Prop} {a0 : Act} {w0 : World} {K : Env → Heap → Prop}
    (hok : ∀ o ∈ ops.toList, okOp P o.op = true ∧ slotsO n ops.toList o = true ∧ ∀ d, o.dst = some d → W d)
    (hbad : ∀ (j : Nat) (o : Oper), ops[j]? = some o → noBad o = true)
    (hap : ∀ (i j : Nat) (oi oj : Oper), ops[i]? = some oi → ops[j]? = some oj → j ≠ i → bef ops i j = false → bef ops j i = false → oi.apart ops oj = true)
    (hQp : ∀ c a w, Q (.panic c) a w → False)
    (hQ : ∀ a w, SameW W a0 w0 a w → (∃ e, Agree n a e ∧ K e w.heap) → Q .normal a w) :
    ∀ (fuel : Nat) (done sk : List Nat) (pend : Pend) (e : Env) (H : Heap) (listed : Array Bool) (a : Act) (w : World) (rem : List Nat),
      listed.size = ops.size → (∀ j < ops.size, listed.getD j true = true ↔ j ∈ done) → (∀ j ∈ done, j < ops.size) → Down ops listed → (∀ j < ops.size, j ∉ done → j ∈ rem) → rem.length ≤ fuel →
      SameW W a0 w0 a w → Agree n a e → w.heap = H → (∀ x ∈ pend, x.2 H) → drawX P ops.toList (masksX [] ops.toList) fuel done sk pend e H K → AnyP r P ops Q fuel listed pend a w := by
  intro fuel
  induction fuel with
  | zero =>
    intro done sk pend e H listed a w rem hsz hld hdn hdown hrem hrl hs ha hw hp h
    have hr : Region.ready .any ops listed = [] := by
      cases hrd : Region.ready .any ops listed with
      | nil => rfl
      | cons i rs =>
        have hi : i ∈ Region.ready .any ops listed := by rw [hrd]; simp
        obtain ⟨h0, o, ho, _⟩ := mem_ready.1 hi
        have hlt : i < ops.size := (Array.getElem?_eq_some_iff.1 ho).1
        have : rem = [] := List.length_eq_zero_iff.1 (by omega)
        subst this
        by_cases hid : i ∈ done
        · rw [(hld i hlt).2 hid] at h0; cases h0
        · exact absurd (hrem i hlt hid) (by simp)
    exact ⟨hr, hQ a w hs ⟨e, ha, by rw [hw]; exact h⟩⟩
  | succ fuel ih =>
    intro done sk pend e H listed a w rem hsz hld hdn hdown hrem hrl hs ha hw hp h
    have hfalse : ∀ k, k < ops.size → (listed.getD k false = true ↔ k ∈ done) := fun k hk => by
      rw [← hld k hk]
      have : k < listed.size := by omega
      simp [this]
    have hready : ∀ i o, ops[i]? = some o → (i ∈ Region.ready .any ops listed ↔ (i, o) ∈ readyX done 0 ops.toList) := by
      intro i o ho
      have hlt : i < ops.size := (Array.getElem?_eq_some_iff.1 ho).1
      rw [mem_ready, readyX_mem]
      constructor
      · rintro ⟨h0, o', ho', hall⟩
        rw [ho] at ho'; simp only [Option.some.injEq] at ho'; subst ho'
        refine ⟨i, by simpa using ho, by simp, fun hd => ?_, edgesDone_spec.2 fun e he hb => ?_⟩
        · rw [(hld i hlt).2 hd] at h0; cases h0
        · have hl := hall e (by simpa using he) hb
          have hk : e.on < ops.size := by
            rcases Nat.lt_or_ge e.on ops.size with h | h
            · exact h
            · have : listed.size ≤ e.on := by omega
              simp [Array.getElem?_eq_none this] at hl
          exact (hfalse _ hk).1 hl
      · rintro ⟨m, hm, him, hd, he⟩
        refine ⟨?_, o, ho, fun e hem hb => ?_⟩
        · cases hl : listed.getD i true with
          | false => rfl
          | true => exact absurd ((hld i hlt).1 hl) hd
        · have := edgesDone_spec.1 he e (by simpa using hem) hb
          exact (hfalse _ (hdn _ this)).2 this
    have step : ∀ i o, ops[i]? = some o → i ∈ Region.ready .any ops listed →
        (listed.setIfInBounds i true).size = ops.size ∧ (∀ j < ops.size, (listed.setIfInBounds i true).getD j true = true ↔ j ∈ i :: done) ∧ (∀ j ∈ i :: done, j < ops.size) ∧
        Down ops (listed.setIfInBounds i true) ∧ (∀ j < ops.size, j ∉ i :: done → j ∈ rem.erase i) ∧ (rem.erase i).length ≤ fuel := by
      intro i o ho hi
      have hlt : i < ops.size := (Array.getElem?_eq_some_iff.1 ho).1
      have hid : i ∉ done := fun hd => by
        have := (mem_ready.1 hi).1
        rw [(hld i hlt).2 hd] at this; cases this
      refine ⟨by simp [hsz], fun j hj => ?_, fun j hj => ?_, hdown.set hi, fun j hj hnd => ?_, ?_⟩
      · by_cases hij : i = j
        · subst hij; simp [hsz, hlt]
        · rw [getD_set_ne true hij, hld j hj]
          simp [Ne.symm hij]
      · rcases List.mem_cons.1 hj with rfl | hj
        · exact hlt
        · exact hdn j hj
      · simp only [List.mem_cons, not_or] at hnd
        exact (List.mem_erase_of_ne hnd.1).2 (hrem j hj hnd.2)
      · rw [List.length_erase_of_mem (hrem i hlt hid)]; omega
    simp only [drawX] at h
    split at h
    · rename_i i o hfq
      obtain ⟨hmem, hq⟩ := firstQuiet_some hfq
      obtain ⟨m, hm, him, hnd, hed⟩ := readyX_mem.1 hmem
      have hio : ops[i]? = some o := by
        have : i = m := by omega
        subst this; simpa using hm
      have hir := (hready i o hio).2 hmem
      obtain ⟨s1, s2, s3, s4, s5, s6⟩ := step i o hio hir
      have homem : o ∈ ops.toList := by
        have := Array.mem_of_getElem? hio
        simpa using this
      obtain ⟨ok, hsl, hW⟩ := hok o homem
      have hdl := dst_lt hsl
      have hdw : ∀ x, o.dst = some x → x < n ∧ W x := fun x hx => ⟨hdl x hx, hW x hx⟩
      obtain ⟨e', ha', hF⟩ := guard_sound ha hsl h
      cases hwt : Region.wanted o (yielded ops a.tmps) with
      | true =>
        rw [hwt] at hF
        simp only [cond_true] at hF
        obtain ⟨v, S, hk, hS, hy⟩ := opQ_sound (P := P) o ok hF
        refine AnyP.first (v := v) (S := S) hio hbad (fun j oj hj hji => hap i j o oj hio hj hji) hQp fuel listed pend a w hdown hir (.inl ⟨hwt, fun H' hH' => ?_⟩) (by rw [hw]; exact hS) (by rw [hw]; exact hp) fun w' hw' => ?_
        · rw [exec_agree ha' hsl]; exact hy H' hH'
        · refine ih (i :: done) sk _ _ _ _ _ w' _ s1 s2 s3 s4 s5 s6 (hs.trans ⟨Same.put ha.size hdw v, hw'.2⟩) (ha'.put hdl v) (by rw [hw'.1, hw]) (fun x hx => ?_) hk
          rcases mem_pendX hx with ⟨S', hS', hx'⟩ | hx'
          · subst hS'; subst hx'; exact hS
          · exact hp x hx'
      | false =>
        rw [hwt] at hF
        simp only [cond_false] at hF
        refine AnyP.first (v := undef) (S := none) hio hbad (fun j oj hj hji => hap i j o oj hio hj hji) hQp fuel listed pend a w hdown hir (.inr ⟨hwt, rfl⟩) trivial (by rw [hw]; exact hp) fun w' hw' => ?_
        exact ih (i :: done) (i :: sk) pend _ _ _ _ w' _ s1 s2 s3 s4 s5 s6 (hs.trans ⟨Same.put ha.size hdw _, hw'.2⟩) (ha'.put hdl _) (by rw [hw'.1, hw]) hp hF
    · rename_i hfq
      have hnq := firstQuiet_none hfq
      split at h
      · exact h.elim
      · rename_i hrs
        refine ⟨fun hr => ?_, fun j hj => ?_⟩
        · exfalso
          cases hx : readyX done 0 ops.toList with
          | nil => exact hrs hx
          | cons y rs =>
            obtain ⟨i, o⟩ := y
            have hmem : (i, o) ∈ readyX done 0 ops.toList := by rw [hx]; simp
            obtain ⟨m, hm, him, _⟩ := readyX_mem.1 hmem
            have hio : ops[i]? = some o := by
              have : i = m := by omega
              subst this; simpa using hm
            have := (hready i o hio).2 hmem
            rw [hr] at this; cases this
        · obtain ⟨_, o, hio, _⟩ := mem_ready.1 hj
          have hmem := (hready j o hio).1 hj
          obtain ⟨s1, s2, s3, s4, s5, s6⟩ := step j o hio hj
          have homem : o ∈ ops.toList := by
            have := Array.mem_of_getElem? hio
            simpa using this
          obtain ⟨ok, hsl, hW⟩ := hok o homem
          have hdl := dst_lt hsl
          have hdw : ∀ x, o.dst = some x → x < n ∧ W x := fun x hx => ⟨hdl x hx, hW x hx⟩
          have hj' := allX_mem h (j, o) hmem
          obtain ⟨e', ha', hF⟩ := guard_sound ha hsl hj'
          unfold wpOpIn
          simp only [hio]
          cases hwt : Region.wanted o (yielded ops a.tmps) with
          | true =>
            rw [hwt] at hF
            simp only [cond_true] at hF
            simp only [if_true]
            refine ⟨about_wide, ?_⟩
            rw [semAt_eq (noBad_defer (hbad _ _ hio)), exec_agree ha' hsl]
            refine (opE_sound o ok hF w hw).upon fun v w' hk hio => ?_
            obtain ⟨hk1, hk2⟩ := keepX_spec hk
            rw [filterX_eq] at hk2
            refine ⟨hk1, fun w'' hw'' => ?_⟩
            refine ih (j :: done) sk _ _ _ _ _ w'' _ s1 s2 s3 s4 s5 s6 (hs.trans ⟨Same.put ha.size hdw v, hio.trans hw''.2⟩) (ha'.put hdl v) hw''.1 (fun x hx => ?_) hk2
            rw [List.mem_filter] at hx
            exact hk1 x hx.1 (by simpa using hx.2)
          | false =>
            rw [hwt] at hF
            simp only [cond_false] at hF
            simp only [Bool.false_eq_true, if_false]
            rw [filterX_eq] at hF
            refine ⟨about_wide, fun x hx _ => by rw [hw]; exact hp x hx, fun w'' hw'' => ?_⟩
            exact ih (j :: done) _ _ _ _ _ _ w'' _ s1 s2 s3 s4 s5 s6 (hs.trans ⟨Same.put ha.size hdw _, hw''.2⟩) (ha'.put hdl _) (by rw [hw''.1, hw]) (fun x hx => by rw [List.mem_filter] at hx; exact hp x hx.1) hF
end
end Go.X
