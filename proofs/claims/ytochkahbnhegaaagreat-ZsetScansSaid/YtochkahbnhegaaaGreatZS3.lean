/- A symbolic evaluator for Go code over heaps: code and functions are sound. Names of the functions and types of the program. Steps of the evaluator's words: equations and rules that proofs about Go functions use. Go's == on pointers, slices, structs of two fields: what the evaluator's EqP wants. -/
import Derived.Test.YtochkahbnhegaaaGreatZS2
import Derived.Test.YtochkahbnhegaaaGreatProg
set_option linter.unusedVariables false
set_option linter.unusedSimpArgs false
namespace Go.X
open Go
variable {P : Program}

/-! ### What is asked of code beforehand -/
def writesL : Code → List Nat
  | .region _ ops _ => ops.toList.filterMap (·.dst)
  | .seq a b => writesL a ++ writesL b
  | .cond _ a b => writesL a ++ writesL b
  | .block _ c => writesL c
  | .loop c => writesL c
  | .scope c => writesL c
  | _ => []
def WC (c : Code) : Nat → Prop := fun t => t ∈ writesL c

def covers : List Nat → List Nat → Bool
  | [], _ => true
  | x :: r, l => l.contains x && covers r l
theorem covers_spec : ∀ {a l : List Nat}, covers a l = true → ∀ x ∈ a, x ∈ l := by
  intro a
  induction a with
  | nil => intro l _ x hx; cases hx
  | cons y a ih =>
    intro l h x hx
    simp only [covers, Bool.and_eq_true, List.contains_iff_mem] at h
    rcases List.mem_cons.1 hx with rfl | hx
    · exact h.1
    · exact ih h.2 x hx

def allI : Nat → List Oper → (Nat → Oper → Bool) → Bool
  | _, [], _ => true
  | i, o :: r, f => f i o && allI (i + 1) r f
theorem allI_spec {f : Nat → Oper → Bool} : ∀ {l : List Oper} {k : Nat}, allI k l f = true → ∀ m o, l[m]? = some o → f (k + m) o = true := by
  intro l
  induction l with
  | nil => intro k _ m o h; simp at h
  | cons o' l ih =>
    intro k h m o hm
    simp only [allI, Bool.and_eq_true] at h
    cases m with
    | zero => simp at hm; subst hm; exact h.1
    | succ m =>
      have := ih h.2 m o (by simpa using hm)
      rwa [show k + (m + 1) = k + 1 + m from by omega]

def apartOk (ops : Array Oper) (all : List Oper) (masks : List Nat) : Bool :=
  allI 0 all fun i oi => allI 0 all fun j oj => Nat.beq j i || (masks.getD j 0).testBit i || (masks.getD i 0).testBit j || oi.apart ops oj
def drawOk (ops : Array Oper) : Bool := ops.toList.all noBad && apartOk ops ops.toList (masksX [] ops.toList)

def nodupB : List Nat → Bool
  | [] => true
  | x :: r => !r.contains x && nodupB r

def okC (P : Program) (n : Nat) (ann : Ann) : Code → Bool
  | .region _ ops draw => ops.toList.all (fun o => okOp P o.op && slotsO n ops.toList o) && (!draw || drawOk ops)
  | .seq a b => okC P n ann a && okC P n ann b && (match annOf ann (2 * keyOf b + 1) with
    | some (live, wr) => covers (writesL a) (live ++ wr) && live.all (fun t => Nat.blt t n)
    | none => true)
  | .cond c a b => slotX n c && okC P n ann a && okC P n ann b
  | .block _ c => okC P n ann c
  | .scope c => okC P n ann c
  | .loop c => okC P n ann c && (match annOf ann (2 * keyOf c) with
    | some (live, wr) => covers (writesL c) (live ++ wr) && live.all (fun t => Nat.blt t n)
    | none => true)
  | .rangeFunc f ps a b => slotX n f && ps.toList.all (fun t => Nat.blt t n) && nodupB ps.toList && okC P n ann a && okC P n ann b
  | _ => true

/-! ### States -/
def getF (f : Nat → Value) : (l : List Nat) → Tup l.length
  | [] => ()
  | [a] => f a
  | a :: b :: r => (f a, getF f (b :: r))
theorem getT_eq (e : Env) : ∀ l, getT e l = getF e.get l
  | [] => rfl
  | [_] => rfl
  | a :: b :: r => congrArg (Prod.mk (e.get a)) (getT_eq e (b :: r))
theorem getF_congr {f g : Nat → Value} : ∀ {l : List Nat}, (∀ t ∈ l, f t = g t) → getF f l = getF g l
  | [], _ => rfl
  | [a], h => h a (by simp)
  | a :: b :: r, h => by
    have h1 := h a (by simp)
    have h2 := getF_congr (l := b :: r) fun t ht => h t (by simp at ht ⊢; exact .inr ht)
    show (f a, getF f (b :: r)) = (g a, getF g (b :: r))
    rw [h1, h2]
theorem look_putF (f : Nat → Value) (s : List (Nat × Value)) (t : Nat) : ∀ l, look (putT s l (getF f l)) t = if t ∈ l then f t else look s t
  | [] => by simp [putT]
  | [a] => by
    simp only [putT, getF, look_put, List.mem_singleton]
    by_cases h : t = a
    · subst h; simp
    · simp [h]
  | a :: b :: r => by
    simp only [putT, getF, look_put]
    by_cases h : t = a
    · subst h; simp
    · rw [if_neg h, look_putF f s t (b :: r)]
      simp [h]

theorem Agree.mix {n : Nat} {a a' : Act} {e : Env} {live wr : List Nat} {c : Code} (h : Agree n a e) (hs : Same (WC c) a a') (hn : a'.tmps.size = n)
    (hc : covers (writesL c) (live ++ wr) = true) : Agree n a' (mixX e live wr (getF (getA a') live, a'.defers) (getF (getA a') wr)) := by
  refine ⟨hn, fun t ht => ?_, rfl⟩
  show getA a' t = look (putT (putT e.s wr (getF (getA a') wr)) live (getF (getA a') live)) t
  rw [look_putF, look_putF]
  by_cases h1 : t ∈ live
  · rw [if_pos h1]
  · rw [if_neg h1]
    by_cases h2 : t ∈ wr
    · rw [if_pos h2]
    · rw [if_neg h2, hs t fun hw => ?_, h.get t ht]
      · rfl
      · have := covers_spec hc t hw
        rw [List.mem_append] at this
        exact this.elim h1 h2

theorem stOf_eq {n : Nat} {a : Act} {e : Env} {live : List Nat} (h : Agree n a e) (hl : ∀ t ∈ live, t < n) : stOf e live = (getF (getA a) live, a.defers) := by
  unfold stOf
  rw [getT_eq, h.ds, getF_congr (g := getA a) fun t ht => (h.get t (hl t ht)).symm]

/-! ### A scope that nobody jumps in -/
section
variable {F : Fence} {n : Nat} {b : Frame} {a : Act} {k : List Item} {cs : List Frame} {w : World} {Q : Exit → Act → World → Prop}
theorem stepR_scope {c : Code} : step P (lone (b.atR a (.code (.scope c) :: k)) cs w) = .next (lone (b.atR a (.code c :: .inScope c :: k)) cs w) :=
  step_lone_go (by simp [stepG, stepG.exec, Frame.atR])
theorem stepR_inScope {c : Code} : step P (lone (b.atR a (.inScope c :: k)) cs w) = .next (lone (b.atR a k) cs w) :=
  step_lone_go (by simp [stepG, stepG.exec, Frame.atR])
def noGotoX (Q : Exit → Act → World → Prop) : Exit → Act → World → Prop
  | .goto _, _, _ => False
  | e, a, w => Q e a w
theorem wpIn_scope {c : Code} (h : c.wpIn F n P (noGotoX Q) a w) : (Code.scope c).wpIn F n P Q a w := by
  intro b k cs hro hb hr
  have h0 : (lone (b.atR a (.code (.scope c) :: k)) cs w).fenced P F := fenced_calm hb hr rfl
  obtain ⟨e, a₁, w₁, hq, harr⟩ := h b (.inScope c :: k) cs hro hb hr
  cases e with
  | normal => exact ⟨.normal, a₁, w₁, hq, .head h0 stepR_scope (StepsIn.trans harr (.one (fenced_calm hb hr rfl) stepR_inScope))⟩
  | exit id =>
    have hx : exitTo id (.inScope c :: k) = exitTo id k := by simp [exitTo]
    exact ⟨_, a₁, w₁, hq, fun k' hk => .head h0 stepR_scope (harr.1 k' (by rw [hx]; exact hk)),
      fun hr' hk => let ⟨k₁, h1, h2⟩ := harr.2 hr' (by rw [hx]; exact hk); ⟨k₁, h1, .head h0 stepR_scope h2⟩⟩
  | goto l => exact hq.elim
  | ret => exact ⟨_, a₁, w₁, hq, .of_steps (.one h0 stepR_scope) harr⟩
  | panic ch => exact ⟨_, a₁, w₁, hq, .of_steps (.one h0 stepR_scope) harr⟩
  | outgrown => exact ⟨_, a₁, w₁, hq, .of_steps (.one h0 stepR_scope) harr⟩
end

/-! ### Code -/
theorem Post.mono {n : Nat} {W W' : Nat → Prop} {a0 a1 : Act} {w0 w1 : World} {Q Q' : Exit → Env → Heap → Prop} {ex : Exit} {a : Act} {w : World} (h : Post n W a1 w1 Q ex a w) (h0 : SameW W' a0 w0 a1 w1)
    (hw : ∀ t, W t → W' t) (hq : ∀ e, Agree n a e → Q ex e w.heap → Q' ex e w.heap) : Post n W' a0 w0 Q' ex a w :=
  let ⟨hs, e, ha, q⟩ := h
  ⟨h0.trans (hs.mono hw), e, ha, hq e ha q⟩

theorem region_sound (hm : P.follows .mixedOrders = true) {n : Nat} {ann : Ann} {r : Option Nat} {id : Nat} {ops : Array Oper} {draw : Bool} {e : Env} {H : Heap} {Q : Exit → Env → Heap → Prop}
    {a : Act} {w : World} (ok : okC P n ann (.region id ops draw) = true) (ha : Agree n a e) (hw : w.heap = H) (h : codeX P ann r (.region id ops draw) e H Q) :
    (Code.region id ops draw).wpIn (FW r) 0 P (Post n (WC (.region id ops draw)) a w Q) a w := by
  simp only [okC, Bool.and_eq_true, Bool.or_eq_true, Bool.not_eq_true'] at ok
  have hok : ∀ o ∈ ops.toList, okOp P o.op = true ∧ slotsO n ops.toList o = true ∧ ∀ d, o.dst = some d → WC (.region id ops draw) d := by
    intro o ho
    have := List.all_eq_true.1 ok.1 o ho
    simp only [Bool.and_eq_true] at this
    refine ⟨this.1, this.2, fun d hd => ?_⟩
    simp only [WC, writesL, List.mem_filterMap]
    exact ⟨o, ho, hd⟩
  cases draw with
  | false =>
    have h : opsX P ops.toList 0 [] ops.toList e H fun e' H' => Q .normal e' H' := h
    refine wpIn_region ?_
    have := opsX_sound (P := P) (n := n) (W := WC (.region id ops false)) (a0 := a) (w0 := w) (r := r) (ops := ops) (Q := Post n (WC (.region id ops false)) a w Q) hok
      (fun a' w' hs he => ⟨hs, he⟩) ops.toList 0 [] e H a w (fun j => by simp) (SameW.refl _ _ _) ha hw h
    rw [List.range_eq_range', ← Array.length_toList]
    exact this
  | true =>
    have h : drawX P ops.toList (masksX [] ops.toList) ops.toList.length [] [] [] e H fun e' H' => Q .normal e' H' := h
    rcases ok.2 with h0 | hd
    · cases h0
    · simp only [drawOk, Bool.and_eq_true] at hd
      have hbad : ∀ (j : Nat) (o : Oper), ops[j]? = some o → noBad o = true := fun j o hj =>
        List.all_eq_true.1 hd.1 o (by simpa using Array.mem_of_getElem? hj)
      have hap : ∀ (i j : Nat) (oi oj : Oper), ops[i]? = some oi → ops[j]? = some oj → j ≠ i → bef ops i j = false → bef ops j i = false → oi.apart ops oj = true := by
        intro i j oi oj hi hj hji hb1 hb2
        have h1 := allI_spec hd.2 i oi (by simpa using hi)
        have h2 := allI_spec h1 j oj (by simpa using hj)
        simp only [Nat.zero_add, Bool.or_eq_true, Nat.beq_eq] at h2
        rcases h2 with ((h2 | h2) | h2) | h2
        · exact absurd h2 hji
        · unfold bef at hb1; rw [h2] at hb1; cases hb1
        · unfold bef at hb2; rw [h2] at hb2; cases hb2
        · exact h2
      let Q' : Exit → Act → World → Prop := fun ex a' w' => ex = .normal ∧ Post n (WC (.region id ops true)) a w Q .normal a' w'
      have key : AnyP r P ops Q' ops.size (Array.replicate ops.size false) [] a { w with drawn := w.drawn + 1 } := by
        have := drawX_sound (P := P) (r := r) (ops := ops) (Q := Q') (n := n) (W := WC (.region id ops true)) (a0 := a) (w0 := w) hok hbad hap (fun c a w h => by cases h.1)
          (fun a' w' hs he => ⟨rfl, hs, he⟩) ops.toList.length [] [] [] e H (Array.replicate ops.size false) a { w with drawn := w.drawn + 1 } (List.range ops.size)
          (by simp) (fun j hj => by simp [hj]) (fun j hj => by cases hj) (fun j o hj hl => by
            have : j < ops.size := (Array.getElem?_eq_some_iff.1 hj).1
            simp [this] at hl) (fun j hj _ => by simpa using hj) (by simp) ⟨Same.refl _ _, rfl, rfl⟩ ha hw (fun x hx => by cases hx) h
        simpa using this
      refine wpIn_mono (wpIn_region_any hm (AnyP.any _ _ _ _ _ key)) fun ex a' w' hq => ?_
      obtain ⟨rfl, hq⟩ := hq
      exact hq

theorem altP_mem {p : Option Code} : ∀ {l : List (Exit × Prop)}, AltP p l → ∃ x ∈ l, p = jumpOf x.1 ∧ x.2 := by
  intro l
  induction l with
  | nil => intro h; exact h.elim
  | cons x l ih =>
    intro h
    cases l with
    | nil => exact ⟨x, by simp, h⟩
    | cons y l =>
      rcases h with h | h
      · exact ⟨x, by simp, h⟩
      · obtain ⟨z, hz, h⟩ := ih h
        exact ⟨z, List.mem_cons_of_mem _ hz, h⟩

theorem altsX_mem {Q : Exit → Prop} {x : Exit × Prop} : ∀ {l : List (Nat × Nat)}, x ∈ altsX Q l → ∃ y ∈ l, x = (exitOf y, Q (exitOf y)) := by
  intro l
  induction l with
  | nil => intro h; cases h
  | cons z l ih =>
    intro h
    rcases List.mem_cons.1 h with h | h
    · exact ⟨z, by simp, h⟩
    · obtain ⟨y, hy, h⟩ := ih h
      exact ⟨y, by simp [hy], h⟩

theorem listT_length : ∀ (n : Nat) (t : Tup n), (listT n t).length = n
  | 0, _ => rfl
  | 1, _ => rfl
  | n + 2, t => by
    show (listT (n + 1) t.2).length + 1 = n + 2
    rw [listT_length (n + 1) t.2]

theorem one_param {n p : Nat} {t0 : Array Value} {s : List (Nat × Value)} (v : Value) (hpn : p < n) (h1 : t0.size = n) (h2 : ∀ t, t < n → t0.getD t undef = look s t) :
    (t0.setIfInBounds p v).size = n ∧ ∀ t, t < n → (t0.setIfInBounds p v).getD t undef = look ((p, v) :: s) t := by
  refine ⟨by simp [h1], fun t ht => ?_⟩
  rw [look_put]
  have := @getA_put { tmps := t0, defers := [] } p t v (by rw [h1]; exact hpn)
  simp only [getA, Act.put] at this
  rw [this]
  split
  · rfl
  · exact h2 t ht

theorem look_swap {p x t : Nat} {v u : Value} {s : List (Nat × Value)} (h : p ≠ x) : look ((x, u) :: (p, v) :: s) t = look ((p, v) :: (x, u) :: s) t := by
  simp only [look_put]
  by_cases h1 : t = x
  · by_cases h2 : t = p
    · exact absurd (h2.symm.trans h1) h
    · simp [h1, h2, Ne.symm h]
  · simp [h1]

theorem look_cons_congr {x t : Nat} {u : Value} {s s' : List (Nat × Value)} (h : look s t = look s' t) : look ((x, u) :: s) t = look ((x, u) :: s') t := by
  simp only [look_put, h]

theorem putT_comm (p t : Nat) (u : Value) : ∀ (l : List Nat) (v : Tup l.length) (s : List (Nat × Value)), p ∉ l → look (putT ((p, u) :: s) l v) t = look ((p, u) :: putT s l v) t
  | [], v, s, _ => rfl
  | [x], v, s, hx => by
    have hx' : p ≠ x := fun h => hx (by simp [h])
    exact look_swap (u := v) hx'
  | x :: y :: l, v, s, hx => by
    have hx' : p ≠ x := fun h => hx (by simp [h])
    have ih := putT_comm p t u (y :: l) v.2 s (fun h => hx (List.mem_cons_of_mem _ h))
    exact (look_cons_congr (x := x) (u := v.1) ih).trans (look_swap hx')

/-- The round's frame: the loop's, with what came in its parameters. -/
theorem params_agree {n : Nat} : ∀ (ps : List Nat) (vs : Tup ps.length) (t0 : Array Value) (s : List (Nat × Value)), nodupB ps = true → (∀ t ∈ ps, t < n) → t0.size = n → (∀ t, t < n → t0.getD t undef = look s t) →
    ((ps.zip (listT ps.length vs)).foldl (fun (tmps : Array Value) (x : Nat × Value) => tmps.setIfInBounds x.1 x.2) t0).size = n ∧
    ∀ t, t < n → ((ps.zip (listT ps.length vs)).foldl (fun (tmps : Array Value) (x : Nat × Value) => tmps.setIfInBounds x.1 x.2) t0).getD t undef = look (putT s ps vs) t
  | [], vs, t0, s, _, _, h1, h2 => ⟨h1, h2⟩
  | [p], vs, t0, s, _, hp, h1, h2 => one_param (v := vs) (hp p (by simp)) h1 h2
  | p :: q :: r, vs, t0, s, hnd, hp, h1, h2 => by
    simp only [nodupB, Bool.and_eq_true, Bool.not_eq_true'] at hnd
    obtain ⟨o1, o2⟩ := one_param (v := vs.1) (hp p (by simp)) h1 h2
    have step := params_agree (q :: r) vs.2 (t0.setIfInBounds p vs.1) ((p, vs.1) :: s) (by simp only [nodupB, Bool.and_eq_true, Bool.not_eq_true']; exact hnd.2)
      (fun t ht => hp t (by simp only [List.mem_cons] at ht ⊢; exact .inr ht)) o1 o2
    have hpq : p ∉ q :: r := fun hm => by
      have := hnd.1
      rw [List.contains_iff_mem.2 hm] at this; cases this
    exact ⟨step.1, fun t ht => (step.2 t ht).trans (putT_comm p t vs.1 (q :: r) vs.2 s hpq)⟩

theorem begin_run {l : Nat} {L : Loop} (w : World) (h : w.heap[l]? = some (.loop L)) (hs : L.state = .ready) :
    (Instr.beginRound l).run P w = .ok () { w with heap := w.heap.setIfInBounds l (.loop { L with state := .busy }) } := by
  simp [Instr.beginRound, Instr.getLoop, getObj, setObj, Sem.run, h, hs]

theorem end_run {l : Nat} {L : Loop} (w : World) (h : w.heap[l]? = some (.loop L)) (j : Option Code) :
    (Instr.endRound l j).run P w = .ok (.bool j.isNone) { w with heap := w.heap.setIfInBounds l (.loop { L with state := if j.isNone then .ready else .done, pending := j }) } := by
  simp [Instr.endRound, Instr.getLoop, getObj, setObj, Sem.run, h]

theorem endLoop_run {l : Nat} {L : Loop} (w : World) (h : w.heap[l]? = some (.loop L)) (hb : L.state ≠ .busy) :
    (Instr.endLoop l).run P w = .ok L.pending { w with heap := w.heap.setIfInBounds l (.loop { L with state := .exhausted }) } := by
  simp [Instr.endLoop, Instr.getLoop, getObj, setObj, Sem.run, h, hb]

/-- One round of a range over a function. -/
theorem round_sound {n : Nat} {ann : Ann} {l : Nat} {assign body : Code} {e : Env} {ps : Array Nat} {L : Loop} {vs : Tup ps.toList.length} {H : Heap} {K : Value → Heap → Prop}
    (iha : ∀ (r : Option Nat) (e : Env) (H : Heap) (Q : Exit → Env → Heap → Prop) (a : Act) (w : World), Agree n a e → w.heap = H → codeX P ann r assign e H Q → assign.wpIn (FW r) 0 P (Post n (WC assign) a w Q) a w)
    (ihb : ∀ (r : Option Nat) (e : Env) (H : Heap) (Q : Exit → Env → Heap → Prop) (a : Act) (w : World), Agree n a e → w.heap = H → codeX P ann r body e H Q → body.wpIn (FW r) 0 P (Post n (WC body) a w Q) a w)
    (hnd : nodupB ps.toList = true) (hpn : ∀ t ∈ ps.toList, t < n) (hL : L.params = ps) (hLa : L.assign = assign) (hLb : L.body = body) (hsz : L.tmps.size = n) (hag : ∀ t, t < n → L.tmps.getD t undef = look e.s t)
    (hl : H[l]? = some (.loop L))
    (h : codeX P ann (some l) assign { s := putT e.s ps.toList vs, ds := [] } H fun ex e1 H1 => match ex with
        | .normal => BeginP l H1 fun H2 => codeX P ann (some l) body e1 H2 fun ex _ H3 => EndP l ex H3 K
        | _ => False) : YieldH P l (listT ps.toList.length vs) H K := by
  refine ⟨L, hl, by rw [listT_length, hL]; simp, fun w hw => ?_⟩
  subst hLa; subst hLb; subst hL
  have hfold : (L.params.zip (listT L.params.toList.length vs).toArray).foldl (fun tmps (t, a) => tmps.setIfInBounds t a) L.tmps =
      (L.params.toList.zip (listT L.params.toList.length vs)).foldl (fun (tmps : Array Value) (x : Nat × Value) => tmps.setIfInBounds x.1 x.2) L.tmps := by
    rw [← Array.foldl_toList, Array.toList_zip]
  rw [hfold]
  obtain ⟨p1, p2⟩ := params_agree L.params.toList vs L.tmps e.s hnd hpn hsz hag
  refine roundIn_of_wpIn (F := Fence.wide) trivial ?_
  have h1 := iha (some l) { s := putT e.s L.params.toList vs, ds := [] } H _ { tmps := (L.params.toList.zip (listT L.params.toList.length vs)).foldl (fun (tmps : Array Value) (x : Nat × Value) => tmps.setIfInBounds x.1 x.2) L.tmps, defers := [] } w
    ⟨p1, p2, rfl⟩ hw h
  refine wpIn_mono h1 fun ex a1 w1 hq => ?_
  obtain ⟨hs1, e1, ha1, hq⟩ := hq
  cases ex with
  | normal =>
    obtain ⟨L1, hL1, hst, hq⟩ := hq
    refine ⟨_, begin_run w1 hL1 hst, ?_⟩
    have h2 := ihb (some l) e1 _ _ a1 { w1 with heap := w1.heap.setIfInBounds l (.loop { L1 with state := .busy }) } ha1 rfl hq
    refine wpIn_mono h2 fun ex a2 w2 hq2 => ?_
    obtain ⟨hs2, e2, ha2, hpl, L2, hL2, hk⟩ := hq2
    have hio : SameIO w w2 := hs1.2.trans hs2.2
    cases ex with
    | normal => exact ⟨_, _, end_run w2 hL2 none, _, rfl, hk, hio⟩
    | ret => exact ⟨_, _, end_run w2 hL2 (some .ret), _, rfl, hk, hio⟩
    | exit id => exact ⟨_, _, end_run w2 hL2 (some (.exit id)), _, rfl, hk, hio⟩
    | goto t => exact ⟨_, _, end_run w2 hL2 (some (.goto t)), _, rfl, hk, hio⟩
    | panic c => cases hpl
    | outgrown => cases hpl
  | exit id => exact hq.elim
  | goto t => exact hq.elim
  | ret => exact hq.elim
  | panic c => exact hq.elim
  | outgrown => exact hq.elim

theorem jump_sound {r : Option Nat} {n : Nat} {Q : Exit → Act → World → Prop} {a : Act} {w : World} {ex : Exit} (hex : ex = .normal ∨ ex = .ret ∨ (∃ id, ex = .exit id) ∨ ∃ l, ex = .goto l) (h : Q ex a w) {p : Option Code} (hp : p = jumpOf ex) :
    match (generalizing := false) p with
    | none => Q .normal a w
    | some c => c.wpIn (FW r) n P Q a w := by
  subst hp
  rcases hex with rfl | rfl | ⟨id, rfl⟩ | ⟨l, rfl⟩
  · exact h
  · exact wpIn_ret h
  · exact wpIn_exit h
  · exact wpIn_goto h

theorem exitOf_kind (y : Nat × Nat) : exitOf y = .normal ∨ exitOf y = .ret ∨ (∃ id, exitOf y = .exit id) ∨ ∃ l, exitOf y = .goto l := by
  unfold exitOf
  split
  · exact .inr (.inl rfl)
  · exact .inr (.inr (.inl ⟨_, rfl⟩))
  · exact .inr (.inr (.inr ⟨_, rfl⟩))

theorem resolve_range {a : Act} {f : Operand} {g : FuncId} {first cap : Array Value} (h : a.eval f = .func (.func g) first cap) (l : Nat) (w : World) :
    (resolve a.eval (rangeCall f l) 0).run P w = .ok { target := .fn (.func g) cap, args := first ++ #[.func (.yield l) #[] #[]] } w := by
  have e : resolve a.eval (rangeCall f l) 0 = Deferred.ofValue (a.eval f) (#[Operand.const (Value.func (.yield l) #[] #[])].map a.eval) := rfl
  rw [e, h]
  simp [Deferred.ofValue, Act.eval]

theorem codeX_sound (hm : P.follows .mixedOrders = true) {n : Nat} {ann : Ann} : ∀ (c : Code) (r : Option Nat) (e : Env) (H : Heap) (Q : Exit → Env → Heap → Prop) (a : Act) (w : World), okC P n ann c = true →
    Agree n a e → w.heap = H → codeX P ann r c e H Q → c.wpIn (FW r) 0 P (Post n (WC c) a w Q) a w := by
  intro c
  induction c with
  | skip => intro r e H Q a w ok ha hw h; subst hw; exact wpIn_skip ⟨SameW.refl _ _ _, e, ha, h⟩
  | label l => intro r e H Q a w ok ha hw h; subst hw; exact wpIn_label ⟨SameW.refl _ _ _, e, ha, h⟩
  | exit id => intro r e H Q a w ok ha hw h; subst hw; exact wpIn_exit ⟨SameW.refl _ _ _, e, ha, h⟩
  | goto l => intro r e H Q a w ok ha hw h; subst hw; exact wpIn_goto ⟨SameW.refl _ _ _, e, ha, h⟩
  | ret => intro r e H Q a w ok ha hw h; subst hw; exact wpIn_ret ⟨SameW.refl _ _ _, e, ha, h⟩
  | refuse s => intro r e H Q a w ok ha hw h; exact h.elim
  | region id ops draw => intro r e H Q a w ok ha hw h; exact region_sound hm ok ha hw h
  | seq x y ihx ihy =>
    intro r e H Q a w ok ha hw h
    simp only [okC, Bool.and_eq_true] at ok
    obtain ⟨⟨ok1, ok2⟩, ok3⟩ := ok
    have wx : ∀ t, WC x t → WC (.seq x y) t := fun t ht => by simp only [WC, writesL, List.mem_append] at ht ⊢; exact .inl ht
    have wy : ∀ t, WC y t → WC (.seq x y) t := fun t ht => by simp only [WC, writesL, List.mem_append] at ht ⊢; exact .inr ht
    refine wpIn_seq ?_
    simp only [codeX] at h
    cases han : annOf ann (2 * keyOf y + 1) with
    | none =>
      rw [han] at h
      have h1 := ihx r e H _ a w ok1 ha hw h
      refine wpIn_mono h1 fun ex a1 w1 hq => ?_
      obtain ⟨hs, e1, ha1, hq⟩ := hq
      cases ex with
      | normal =>
        have h2 := ihy r e1 _ _ a1 w1 ok2 ha1 rfl hq
        exact wpIn_mono h2 fun ex a2 w2 hq2 => hq2.mono (hs.mono wx) wy fun _ _ q => q
      | _ => exact ⟨hs.mono wx, e1, ha1, hq⟩
    | some lw =>
      obtain ⟨live, wr⟩ := lw
      rw [han] at h ok3
      simp only [Bool.and_eq_true] at ok3
      simp only [JoinP] at h
      have h1 := ihx r e H _ a w ok1 ha hw h
      refine wpIn_mono h1 fun ex a1 w1 hq => ?_
      obtain ⟨hs, e1, ha1, hq⟩ := hq
      cases ex with
      | normal =>
        have hst := stOf_eq ha1 (fun t ht => by simpa [Nat.blt_eq] using List.all_eq_true.1 ok3.2 t ht)
        have hq' := hq (getF (getA a1) wr)
        rw [hst] at hq'
        have h2 := ihy r _ _ _ a1 w1 ok2 (ha.mix hs.1 ha1.size ok3.1) rfl hq'
        exact wpIn_mono h2 fun ex a2 w2 hq2 => hq2.mono (hs.mono wx) wy fun _ _ q => q
      | _ => exact ⟨hs.mono wx, e1, ha1, hq⟩
  | cond c x y ihx ihy =>
    intro r e H Q a w ok ha hw h
    simp only [okC, Bool.and_eq_true] at ok
    obtain ⟨⟨ok0, ok1⟩, ok2⟩ := ok
    have wx : ∀ t, WC x t → WC (.cond c x y) t := fun t ht => by simp only [WC, writesL, List.mem_append] at ht ⊢; exact .inl ht
    have wy : ∀ t, WC y t → WC (.cond c x y) t := fun t ht => by simp only [WC, writesL, List.mem_append] at ht ⊢; exact .inr ht
    have hev := eval_agree ha ok0
    simp only [codeX, SplitP] at h
    split at h
    · rename_i hv
      exact wpIn_cond_true (by rw [hev, hv]) (wpIn_mono (ihx r e H Q a w ok1 ha hw h) fun ex a1 w1 hq => hq.mono (SameW.refl _ _ _) wx fun _ _ q => q)
    · rename_i hv
      exact wpIn_cond_false (by rw [hev, hv]) (wpIn_mono (ihy r e H Q a w ok2 ha hw h) fun ex a1 w1 hq => hq.mono (SameW.refl _ _ _) wy fun _ _ q => q)
    · exact h.elim
  | block id c ih =>
    intro r e H Q a w ok ha hw h
    simp only [codeX] at h
    refine wpIn_block (wpIn_mono (ih r e H _ a w ok ha hw h) fun ex a1 w1 hq => ?_)
    obtain ⟨hs, e1, ha1, hq⟩ := hq
    cases ex with
    | exit id' =>
      simp only [Exit.inBlock]
      simp only at hq
      cases hb : Nat.beq id' id with
      | true =>
        rw [hb] at hq
        rw [if_pos (Nat.eq_of_beq_eq_true hb)]
        exact ⟨hs, e1, ha1, hq⟩
      | false =>
        rw [hb] at hq
        rw [if_neg (Nat.ne_of_beq_eq_false hb)]
        exact ⟨hs, e1, ha1, hq⟩
    | _ => exact ⟨hs, e1, ha1, hq⟩
  | scope c ih =>
    intro r e H Q a w ok ha hw h
    simp only [codeX] at h
    refine wpIn_scope (wpIn_mono (ih r e H _ a w ok ha hw h) fun ex a1 w1 hq => ?_)
    obtain ⟨hs, e1, ha1, hq⟩ := hq
    cases ex with
    | goto l => exact hq.elim
    | _ => exact ⟨hs, e1, ha1, hq⟩
  | loop c ih =>
    intro r e H Q a w ok ha hw h
    simp only [okC, Bool.and_eq_true] at ok
    obtain ⟨ok1, ok2⟩ := ok
    simp only [codeX] at h
    cases han : annOf ann (2 * keyOf c) with
    | none => rw [han] at h; exact h.elim
    | some lw =>
      obtain ⟨live, wr⟩ := lw
      rw [han] at h ok2
      simp only [Bool.and_eq_true] at ok2
      have hlt : ∀ t ∈ live, t < n := fun t ht => by simpa [Nat.blt_eq] using List.all_eq_true.1 ok2.2 t ht
      obtain ⟨I, μ, h0, step⟩ := h
      refine wpIn_loop (fun a' w' => SameW (WC (.loop c)) a w a' w' ∧ a'.tmps.size = n ∧ I (getF (getA a') live, a'.defers) w'.heap) (fun a' w' => μ (getF (getA a') live, a'.defers) w'.heap) ?_ ?_
      · refine ⟨SameW.refl _ _ _, ha.size, ?_⟩
        rw [← stOf_eq ha hlt, hw]; exact h0
      · rintro a1 w1 ⟨hs, hn, hI⟩
        have h1 := step _ (getF (getA a1) wr) w1.heap hI
        have h2 := ih r _ _ _ a1 w1 ok1 (ha.mix (c := c) hs.1 hn ok2.1) rfl h1
        refine wpIn_mono h2 fun ex a2 w2 hq => ?_
        obtain ⟨hs2, e2, ha2, hq⟩ := hq
        cases ex with
        | normal =>
          simp only [Exit.then]
          rw [stOf_eq ha2 hlt] at hq
          exact ⟨⟨hs.trans hs2, ha2.size, hq.1⟩, hq.2⟩
        | _ => exact ⟨hs.trans hs2, e2, ha2, hq⟩
  | rangeFunc f ps assign body iha ihb =>
    intro r e H Q a w ok ha hw h
    simp only [okC, Bool.and_eq_true] at ok
    obtain ⟨⟨⟨⟨ok0, ok1⟩, ok2⟩, ok3⟩, ok4⟩ := ok
    have hev := eval_agree ha ok0
    have hpn : ∀ t ∈ ps.toList, t < n := fun t ht => by simpa [Nat.blt_eq] using List.all_eq_true.1 ok1 t ht
    refine wpIn_rangeFunc fun fn _ => ?_
    simp only [codeX, RangeP] at h
    have post : ∀ (mk : List Deferred) (l : Nat) (L' : Loop) (w3 : World), SameIO w w3 → w3.heap[l]? = some (.loop L') → L'.state ≠ .busy →
        AltP L'.pending ((.normal, Q .normal { s := e.s, ds := mk ++ e.ds } (w3.heap.setIfInBounds l (.loop { L' with state := .exhausted }))) ::
          altsX (fun ex => Q ex { s := e.s, ds := mk ++ e.ds } (w3.heap.setIfInBounds l (.loop { L' with state := .exhausted }))) (exitsOf body)) →
        ∃ jump w4, (Instr.endLoop l).run P w3 = .ok jump w4 ∧ (match jump with
          | none => Post n (WC (.rangeFunc f ps assign body)) a w Q .normal { a with defers := mk ++ a.defers } w4
          | some c => c.wpIn (FW r) 0 P (Post n (WC (.rangeFunc f ps assign body)) a w Q) { a with defers := mk ++ a.defers } w4) := by
      intro mk l L' w3 hio h3 hb halt
      refine ⟨_, _, endLoop_run w3 h3 hb, ?_⟩
      have hag : Agree n { a with defers := mk ++ a.defers } { s := e.s, ds := mk ++ e.ds } := ⟨ha.size, ha.get, by rw [ha.ds]⟩
      obtain ⟨x, hx, hp, hq⟩ := altP_mem halt
      rcases List.mem_cons.1 hx with rfl | hx
      · exact jump_sound (a := { a with defers := mk ++ a.defers }) (w := { w3 with heap := w3.heap.setIfInBounds l (.loop { L' with state := .exhausted }) }) (Q := Post n (WC (.rangeFunc f ps assign body)) a w Q) (ex := .normal) (.inl rfl) ⟨⟨Same.refl _ _, hio⟩, _, hag, hq⟩ hp
      · obtain ⟨y, hy, rfl⟩ := altsX_mem hx
        exact jump_sound (a := { a with defers := mk ++ a.defers }) (w := { w3 with heap := w3.heap.setIfInBounds l (.loop { L' with state := .exhausted }) }) (Q := Post n (WC (.rangeFunc f ps assign body)) a w Q) (ex := exitOf y) (exitOf_kind y) ⟨⟨Same.refl _ _, hio⟩, _, hag, hq⟩ hp
    cases r with
    | none =>
      simp only at h
      let D := w.heap.size
      let L : Loop := { state := .ready, pending := none, fn := fn, tmps := a.tmps, params := ps, assign := assign, body := body, defers := D }
      have hl := h L rfl rfl (fun vs H' K hH' hr => by
        rw [← hw] at hH' hr ⊢
        exact round_sound (e := e) (L := L) (fun r e H Q a w => iha r e H Q a w ok3) (fun r e H Q a w => ihb r e H Q a w ok4) ok2 hpn rfl rfl rfl ha.size ha.get hH' hr)
      cases hfv : e.ev f with
      | func fnv first cap =>
        rw [hfv] at hl hev
        cases fnv with
        | func g =>
          simp only [CallF] at hl
          obtain ⟨hc, hcall⟩ := hl
          have hcall' := hcall { w with heap := (w.heap.push (.deferred (some []))).push (.loop L) } (by rw [hw])
          refine ⟨D + 1, [{ target := .collected D, args := #[] }], { w with heap := (w.heap.push (.deferred (some []))).push (.loop L) },
            { target := .fn (.func g) cap, args := first ++ #[.func (.yield (D + 1)) #[] #[]] }, { w with heap := (w.heap.push (.deferred (some []))).push (.loop L) }, g,
            first ++ #[.func (.yield (D + 1)) #[] #[]] ++ cap, { w with heap := (w.heap.push (.deferred (some []))).push (.loop L) }, ?_, ?_, about_wide, ?_, ?_, ?_⟩
          · simp [Instr.enterLoop, FW, D, L]
            rfl
          · exact resolve_range hev _ _
          · simp only [invoke]; exact callFunc_run hc _ _
          · intro h; cases h
          · have e1 : first ++ #[Value.func (.yield (D + 1)) #[] #[]] ++ cap = (first.toList ++ ([Value.func (.yield (H.size + 1)) #[] #[]] ++ cap.toList)).toArray := by
              apply Array.toList_inj.1; simp [D, hw]
            rw [e1]
            have h2 : CallsIn Fence.wide 0 P _ _ _ _ := callsIn_wide.2 hcall'
            have h3 : CallsIn (FW none) (0 - 1) P _ _ _ _ := h2
            refine h3.mono fun e3 w3 hq => ?_
            obtain ⟨v, rfl, ⟨L', h4, hb, halt⟩, hio⟩ := hq
            exact post _ _ L' w3 hio (by simpa [D, hw] using h4) hb (by simpa [D, hw] using halt)
        | _ => exact hl.elim
      | _ => rw [hfv] at hl; exact hl.elim
    | some l0 =>
      simp only at h
      obtain ⟨L0, hL0, h⟩ := h
      let D := w.heap.size
      let L : Loop := { state := .ready, pending := none, fn := fn, tmps := a.tmps, params := ps, assign := assign, body := body, defers := L0.defers }
      have hl := h L rfl rfl (fun vs H' K hH' hr => by
        rw [← hw] at hH' hr ⊢
        exact round_sound (e := e) (L := L) (fun r e H Q a w => iha r e H Q a w ok3) (fun r e H Q a w => ihb r e H Q a w ok4) ok2 hpn rfl rfl rfl ha.size ha.get hH' hr)
      cases hfv : e.ev f with
      | func fnv first cap =>
        rw [hfv] at hl hev
        cases fnv with
        | func g =>
          simp only [CallF] at hl
          obtain ⟨hc, hcall⟩ := hl
          have hcall' := hcall { w with heap := w.heap.push (.loop L) } (by rw [hw])
          refine ⟨D, [], { w with heap := w.heap.push (.loop L) },
            { target := .fn (.func g) cap, args := first ++ #[.func (.yield D) #[] #[]] }, { w with heap := w.heap.push (.loop L) }, g,
            first ++ #[.func (.yield D) #[] #[]] ++ cap, { w with heap := w.heap.push (.loop L) }, ?_, ?_, about_wide, ?_, ?_, ?_⟩
          · rw [← hw] at hL0
            simp [Instr.enterLoop, FW, D, L, Instr.getLoop, getObj, Sem.run, hL0]
            try rfl
          · exact resolve_range hev _ _
          · simp only [invoke]; exact callFunc_run hc _ _
          · intro h; cases h
          · have e1 : first ++ #[Value.func (.yield D) #[] #[]] ++ cap = (first.toList ++ ([Value.func (.yield H.size) #[] #[]] ++ cap.toList)).toArray := by
              apply Array.toList_inj.1; simp [D, hw]
            rw [e1]
            have h2 : CallsIn Fence.wide 0 P _ _ _ _ := callsIn_wide.2 hcall'
            have h3 : CallsIn (FW (some l0)) (0 - 1) P _ _ _ _ := h2
            refine h3.mono fun e3 w3 hq => ?_
            obtain ⟨v, rfl, ⟨L', h4, hb, halt⟩, hio⟩ := hq
            exact post _ _ L' w3 hio (by simpa [D, hw] using h4) hb (by simpa [D, hw] using halt)
        | _ => exact hl.elim
      | _ => rw [hfv] at hl; exact hl.elim

/-! ### Functions -/
def okRes (P : Program) (n : Nat) : List ResultVar → Bool
  | [] => true
  | .tmp t :: r => Nat.blt t n && okRes P n r
  | .cell a t :: r => Nat.blt a n && okT P t && okRes P n r
def okFn (P : Program) (ann : Ann) (fn : Func) (nargs : Nat) : Bool :=
  okC P fn.ntmps ann (bodyOf fn) && fn.body.isSome && okRes P fn.ntmps fn.results.toList && Nat.ble nargs fn.ntmps && !(fn.name == "runtime.NumGoroutine") && P.follows .mixedOrders

theorem resL_run {n : Nat} {a : Act} {e : Env} (ha : Agree n a e) {H : Heap} (w : World) (hw : w.heap = H) : ∀ (res : List ResultVar) (K' : List Value → Prop), okRes P n res = true → ResL P e H res K' →
    ∃ vs, K' vs ∧ (res.mapM (fun | .tmp t => Pure.pure (a.tmps.getD t undef) | .cell x t => do loadVar t (← asAddr (a.tmps.getD x undef)) : ResultVar → Sem Value)).run P w = .ok vs w := by
  intro res
  induction res with
  | nil => intro K' _ h; exact ⟨[], h, by simp⟩
  | cons x res ih =>
    intro K' ok h
    cases x with
    | tmp t =>
      simp only [okRes, Bool.and_eq_true, Nat.blt_eq] at ok
      simp only [ResL] at h
      obtain ⟨vs, hk, hv⟩ := ih _ ok.2 h
      refine ⟨_, hk, ?_⟩
      have := ha.get t ok.1
      simp only [getA] at this
      simp only [List.mapM_cons, Sem.run_bind, Sem.run_pure, Result.andThen_ok, hv, this]
    | cell x t =>
      simp only [okRes, Bool.and_eq_true, Nat.blt_eq] at ok
      simp only [ResL, LoadP] at h
      obtain ⟨v, hl, h⟩ := h
      obtain ⟨vs, hk, hv⟩ := ih _ ok.2 h
      refine ⟨_, hk, ?_⟩
      obtain ⟨p, hp⟩ := hl.ptr
      have := ha.get x ok.1.1
      simp only [getA] at this
      rw [hp] at hl
      have hasa : (asAddr (a.tmps.getD x undef)).run P w = .ok p w := by rw [this, hp]; rfl
      simp only [List.mapM_cons, Sem.run_bind, Sem.run_pure, hasa, Result.andThen_ok, run_loadVar' ok.1.2 hl hw, hv]

theorem results_run {fn : Func} {a : Act} {e : Env} (ha : Agree fn.ntmps a e) {H : Heap} {K : Value → Prop} (w : World) (hw : w.heap = H) (ok : okRes P fn.ntmps fn.results.toList = true)
    (h : ResL P e H fn.results.toList fun vs => K (oneOf vs)) : ∃ v, K v ∧ (results fn a.tmps).run P w = .ok v w := by
  obtain ⟨vs, hk, hv⟩ := resL_run (P := P) ha w hw _ _ ok h
  refine ⟨_, hk, ?_⟩
  unfold results
  rw [Sem.run_bind, Array.mapM_eq_mapM_toList, Sem.run_map]
  erw [hv]
  simp only [Result.andThen_ok, Sem.run_pure]
  congr 1
  cases vs with
  | nil => simp [oneOf]
  | cons v vs => cases vs with
    | nil => simp [oneOf]
    | cons u vs => simp [oneOf]

theorem leaves_sound {fn : Func} {a : Act} {e : Env} (ha : Agree fn.ntmps a e) {K : Value → Heap → Prop} (ok : okRes P fn.ntmps fn.results.toList = true) :
    ∀ (ds : List Deferred) (H : Heap) (w : World), w.heap = H → RetP ds H (fun H' => ResL P e H' fn.results.toList fun vs => K (oneOf vs) H') →
      ∀ w0, SameIO w0 w → LeavesInM Fence.wide 0 P fn a.tmps (fun e w' => ∃ v, e = .returned v ∧ K v w'.heap ∧ SameIO w0 w') ds .returning w := by
  intro ds
  induction ds with
  | nil =>
    intro H w hw h w0 hio
    obtain ⟨v, hk, hv⟩ := results_run (P := P) (K := fun v => K v H) ha w hw ok h
    exact ⟨v, hv, v, rfl, by rw [hw]; exact hk, hio⟩
  | cons d ds ih =>
    intro H w hw h w0 hio
    obtain ⟨t, args⟩ := d
    simp only [RetP] at h
    cases t with
    | collected D =>
      obtain ⟨hD, h⟩ := h
      refine ⟨by simp, .inl ⟨D, { w with heap := w.heap.setIfInBounds D (.deferred none) }, rfl, ?_, ih _ _ (by rw [hw]) h w0 hio⟩⟩
      simp [Instr.takeDeferred, getObj, setObj, Sem.run, hw, hD]
    | _ => exact h.elim

theorem envOf_look : ∀ (args : List Value) (i t : Nat), look (envOf i args) t = if i ≤ t then args.getD (t - i) undef else undef := by
  intro args
  induction args with
  | nil => intro i t; simp [envOf, look]
  | cons v args ih =>
    intro i t
    simp only [envOf, look_put, ih]
    by_cases h : t = i
    · subst h; simp
    · by_cases h2 : i ≤ t
      · have h3 : i + 1 ≤ t := by omega
        obtain ⟨k, rfl⟩ : ∃ k, t = i + 1 + k := ⟨t - (i + 1), by omega⟩
        simp [h, show i ≤ i + 1 + k by omega, show i + 1 + k - i = k + 1 by omega]
      · simp [h, h2, show ¬ i + 1 ≤ t by omega]

/-- **A function's contract out of the evaluator.** -/
theorem call_of_bodyX {g : FuncId} {fn : Func} {ann : Ann} {args : List Value} {H : Heap} {K : Value → Heap → Prop} (hf : P.funcs[g]? = some fn) (ok : okFn P ann fn args.length = true)
    (h : bodyX P ann (bodyOf fn) fn.results.toList args H K) : CallH P g args H K := by
  simp only [okFn, Bool.and_eq_true, Nat.ble_eq, Bool.not_eq_true', Option.isSome_iff_exists] at ok
  obtain ⟨⟨⟨⟨⟨ok1, ⟨c, hc⟩⟩, ok2⟩, ok3⟩, ok4⟩, hm⟩ := ok
  refine ⟨by simp only [callable, hf, hc, ok4]; rfl, fun w hw => ?_⟩
  have hb : bodyOf fn = c := by simp [bodyOf, hc]
  rw [hb] at h ok1
  refine callsIn_wide.1 (callsIn_of_wp_marks (F := Fence.wide) (n := 0) hf hc trivial ?_)
  have hag : Agree fn.ntmps { tmps := args.toArray ++ Array.replicate (fn.ntmps - args.toArray.size) undef, defers := [] } { s := envOf 0 args, ds := [] } := by
    refine ⟨by simp; omega, fun t ht => ?_, rfl⟩
    show (args.toArray ++ Array.replicate (fn.ntmps - args.toArray.size) undef).getD t undef = look (envOf 0 args) t
    rw [envOf_look]
    simp only [Nat.zero_le, if_true, Nat.sub_zero, Array.getD_eq_getD_getElem?, List.getD_eq_getElem?_getD]
    by_cases hlt : t < args.length
    · rw [Array.getElem?_append_left (by simpa using hlt)]; simp
    · rw [Array.getElem?_append_right (by simpa using Nat.le_of_not_lt hlt)]
      rw [List.getElem?_eq_none (Nat.le_of_not_lt hlt)]
      simp only [Option.getD_none]
      by_cases h2 : t - args.toArray.size < fn.ntmps - args.toArray.size
      · simp [h2] at *
        simp [Array.getElem?_replicate, h2]
      · rw [Array.getElem?_eq_none (by simpa using Nat.le_of_not_lt h2)]; rfl
  have h1 := codeX_sound hm c none _ H _ _ w ok1 hag hw h
  refine wpIn_mono h1 fun ex a1 w1 hq => ?_
  obtain ⟨hs1, e1, ha1, hq⟩ := hq
  cases ex with
  | normal =>
    have := leaves_sound (P := P) ha1 ok2 e1.ds _ w1 rfl hq w hs1.2
    rw [← ha1.ds] at this
    exact this
  | ret =>
    have := leaves_sound (P := P) ha1 ok2 e1.ds _ w1 rfl hq w hs1.2
    rw [← ha1.ds] at this
    exact this
  | _ => exact hq.elim
end Go.X
namespace Go.X.W
open Go Go.X Go.Proofs
noncomputable abbrev P : Program := Tryz.prog
abbrev f_gosem_cut : Nat := 1
abbrev f_gosem_cut_init : Nat := 2
abbrev f_paliolaw11_ZsetWays : Nat := 3
abbrev f_paliolaw11_ZsetDoes : Nat := 4
abbrev f_paliolaw11_ZsetForms : Nat := 5
abbrev f_paliolaw11_ZsetTwice : Nat := 6
abbrev f_paliolaw11_ZsetFull : Nat := 7
abbrev f_paliolaw11_ZsetRanges : Nat := 8
abbrev f_paliolaw11_ZsetScans : Nat := 9
abbrev f_paliolaw11_shown : Nat := 10
abbrev f_zset_New : Nat := 11
abbrev f_paliolaw11_Name : Nat := 12
abbrev f_zset_Set_Add : Nat := 13
abbrev f_zset_Set_Remove : Nat := 14
abbrev f_zset_Set_Encoding : Nat := 15
abbrev f_zset_Set_Len : Nat := 16
abbrev f_palioref11_New : Nat := 17
abbrev f_paliolaw11_did : Nat := 18
abbrev f_palioref05_Same : Nat := 19
abbrev f_zset_Set_Range : Nat := 20
abbrev f_palioref11_Set_Range : Nat := 21
abbrev f_palioref11_Set_Encoding : Nat := 22
abbrev f_zset_Set_Bytes : Nat := 23
abbrev f_palioref11_Set_Bytes : Nat := 24
abbrev f_palioref05_Find : Nat := 25
abbrev f_zset_Set_Rank : Nat := 26
abbrev f_zset_Set_Score : Nat := 27
abbrev f_zset_Set_Cut : Nat := 28
abbrev f_paliolaw11_made : Nat := 29
abbrev f_zset_Set_Between : Nat := 30
abbrev f_palioref11_Set_Between : Nat := 31
abbrev f_zset_Set_Members : Nat := 32
abbrev f_palioref11_Set_Members : Nat := 33
abbrev f_zset_Set_Scan : Nat := 34
abbrev f_pack_New : Nat := 35
abbrev f_zset_Set_lists : Nat := 36
abbrev f_palioref11_Set_Add : Nat := 37
abbrev f_palioref11_Set_Remove : Nat := 38
abbrev f_palioref11_Set_Cut : Nat := 39
abbrev f_zset_Set_place : Nat := 40
abbrev f_zset_Set_Rank_1 : Nat := 41
abbrev f_bound_Less : Nat := 42
abbrev f_zset_Set_Between_1 : Nat := 43
abbrev f_bound_In : Nat := 44
abbrev f_zset_Set_Between_2 : Nat := 45
abbrev f_palioref09_In : Nat := 46
abbrev f_zset_Set_each : Nat := 47
abbrev f_bound_InEdge : Nat := 48
abbrev f_palioref09_InEdge : Nat := 49
abbrev f_scan_Scan_int64 : Nat := 50
abbrev f_zset_listed_score : Nat := 51
abbrev f_pack_head : Nat := 52
abbrev f_skip_New : Nat := 53
abbrev f_dict_New_int64 : Nat := 54
abbrev f_zset_listed_put : Nat := 55
abbrev f_palioref05_Delete : Nat := 56
abbrev f_palioref11_Sorted : Nat := 57
abbrev f_sort_Search : Nat := 58
abbrev f_zset_Set_place_1 : Nat := 59
abbrev f_cmp_Or_int : Nat := 60
abbrev f_cmp_Compare_int64 : Nat := 61
abbrev f_cmp_Compare_string : Nat := 62
abbrev f_bound_isBehind_int64 : Nat := 63
abbrev f_bound_of : Nat := 64
abbrev f_slices_Values_s_api_Entry_api_Entry : Nat := 65
abbrev f_bound_isBehind_string : Nat := 66
abbrev f_palioref07_Less : Nat := 67
abbrev f_dict_Dict_int64_Sizes : Nat := 68
abbrev f_scan_gathered_int64 : Nat := 69
abbrev f_scan_mask : Nat := 70
abbrev f_scan_next : Nat := 71
abbrev f_scan_slots : Nat := 72
abbrev f_dict_Dict_int64_Get : Nat := 73
abbrev f_pack_bytes : Nat := 74
abbrev f_skip_List_Insert : Nat := 75
abbrev f_dict_Dict_int64_Set : Nat := 76
abbrev f_palioref09_Less : Nat := 77
abbrev f_palioref05_Insert : Nat := 78
abbrev f_cmp_isNaN_int64 : Nat := 79
abbrev f_cmp_isNaN_string : Nat := 80
abbrev f_slices_Values_s_api_Entry_api_Entry_1 : Nat := 81
abbrev f_dict_Dict_int64_Bucket : Nat := 82
abbrev f_hash_Turn : Nat := 83
abbrev f_scan_slots_1 : Nat := 84
abbrev f_scan_within : Nat := 85
abbrev f_dict_Dict_int64_Step : Nat := 86
abbrev f_dict_Dict_int64_with : Nat := 87
abbrev f_dict_Dict_int64_Get_1 : Nat := 88
abbrev f_skip_List_Seek : Nat := 89
abbrev f_skip_List_to : Nat := 90
abbrev f_skip_highest : Nat := 91
abbrev f_dict_Dict_int64_Set_1 : Nat := 92
abbrev f_dict_Dict_int64_isMoving : Nat := 93
abbrev f_dict_Dict_int64_moves : Nat := 94
abbrev f_dict_put_int64 : Nat := 95
abbrev f_dict_Dict_int64_of : Nat := 96
abbrev f_dict_chain_int64 : Nat := 97
abbrev f_slices_Sort_s_string_string : Nat := 98
abbrev f_dict_slot_int64 : Nat := 99
abbrev f_skip_List_path : Nat := 100
abbrev f_skip_List_to_1 : Nat := 101
abbrev f_slices_Max_s_int_int : Nat := 102
abbrev f_hash_SizeFor : Nat := 103
abbrev f_hash_Sum : Nat := 104
abbrev f_dict_chain_int64_1 : Nat := 105
abbrev f_slices_pdqsortOrdered_string : Nat := 106
abbrev f_math_bits_Len : Nat := 107
abbrev f_slices_Backward_s_p_skip_node_p_skip_node : Nat := 108
abbrev f_hash_sizes : Nat := 109
abbrev f_hash_each : Nat := 110
abbrev f_hash_mixed : Nat := 111
abbrev f_slices_insertionSortOrdered_string : Nat := 112
abbrev f_slices_heapSortOrdered_string : Nat := 113
abbrev f_slices_breakPatternsOrdered_string : Nat := 114
abbrev f_slices_choosePivotOrdered_string : Nat := 115
abbrev f_slices_reverseRangeOrdered_string : Nat := 116
abbrev f_slices_partialInsertionSortOrdered_string : Nat := 117
abbrev f_cmp_Less_string : Nat := 118
abbrev f_slices_partitionEqualOrdered_string : Nat := 119
abbrev f_slices_partitionOrdered_string : Nat := 120
abbrev f_math_bits_Len32 : Nat := 121
abbrev f_math_bits_Len64 : Nat := 122
abbrev f_slices_Backward_s_p_skip_node_p_skip_node_1 : Nat := 123
abbrev f_hash_sizes_1 : Nat := 124
abbrev f_hash_each_1 : Nat := 125
abbrev f_slices_siftDownOrdered_string : Nat := 126
abbrev f_slices_nextPowerOfTwo : Nat := 127
abbrev f_slices_xorshift_Next : Nat := 128
abbrev f_slices_medianAdjacentOrdered_string : Nat := 129
abbrev f_slices_medianOrdered_string : Nat := 130
abbrev f_slices_order2Ordered_string : Nat := 131
abbrev f_zset_packed_Cut : Nat := 148
abbrev f_zset_packed_Len : Nat := 149
abbrev f_zset_packed_Range : Nat := 150
abbrev f_zset_packed_bytes : Nat := 151
abbrev f_zset_packed_drop : Nat := 152
abbrev f_zset_packed_put : Nat := 153
abbrev f_zset_packed_score : Nat := 154
abbrev f_zset_within : Nat := 155
abbrev f_pack_Delete : Nat := 156
abbrev f_zset_packed_entries : Nat := 157
abbrev f_slices_Clone_s_api_Entry_api_Entry : Nat := 158
abbrev f_pack_Find : Nat := 159
abbrev f_zset_packed_put_1 : Nat := 160
abbrev f_pack_Insert : Nat := 161
abbrev f_pack_Get : Nat := 162
abbrev f_pack_spotAt : Nat := 163
abbrev f_pack_changed : Nat := 164
abbrev f_pack_count : Nat := 165
abbrev f_pack_Entries : Nat := 166
abbrev f_pack_Right : Nat := 167
abbrev f_pack_spots : Nat := 168
abbrev f_pack_all : Nat := 169
abbrev f_pack_entry : Nat := 170
abbrev f_slices_Concat_s_byte_byte : Nat := 171
abbrev f_pack_spots_1 : Nat := 172
abbrev f_pack_read : Nat := 173
abbrev f_slices_Grow_s_byte_byte : Nat := 174
abbrev f_zset_listed_Cut : Nat := 175
abbrev f_skip_List_Len : Nat := 176
abbrev f_skip_List_Range : Nat := 177
abbrev f_zset_listed_bytes : Nat := 178
abbrev f_zset_listed_drop : Nat := 179
abbrev f_dict_Dict_int64_Delete : Nat := 180
abbrev f_skip_List_Cut : Nat := 181
abbrev f_skip_List_nodes : Nat := 182
abbrev f_zset_sizes : Nat := 183
abbrev f_skip_List_Delete : Nat := 184
abbrev f_dict_Dict_int64_Delete_1 : Nat := 185
abbrev f_skip_List_within : Nat := 186
abbrev f_skip_List_until : Nat := 187
abbrev f_skip_List_takes : Nat := 188
abbrev f_skip_List_nodes_1 : Nat := 189
abbrev f_skip_List_until_1 : Nat := 190
abbrev f_dict_Dict_int64_Len : Nat := 191
abbrev f_bound_value_sign : Nat := 192
abbrev f_bound_limit_sign : Nat := 193
abbrev f_cmp_Compare_int : Nat := 194
abbrev f_cmp_isNaN_int : Nat := 195
abbrev T_int64 : Nat := 2
abbrev T_int : Nat := 3
abbrev T_bool : Nat := 4
abbrev T_uint8 : Nat := 5
abbrev T_string : Nat := 9
abbrev T_api_Limits : Nat := 23
abbrev T_uint32 : Nat := 24
abbrev T_p_zset_Set : Nat := 27
abbrev T_paliolaw11_Act : Nat := 30
abbrev T_s_api_Entry : Nat := 43
abbrev T_palioref11_Set : Nat := 45
abbrev T_api_Entry : Nat := 54
abbrev T_s_uint8 : Nat := 61
abbrev T_api_Bound : Nat := 65
abbrev T_api_Edge : Nat := 68
abbrev T_p_zset_packed : Nat := 73
abbrev T_zset_packed : Nat := 75
abbrev T_zset_Set : Nat := 79
abbrev T_p_zset_listed : Nat := 82
abbrev T_func_api_Entry_bool : Nat := 86
abbrev T_s_string : Nat := 92
abbrev T_p_skip_List : Nat := 95
abbrev T_p_dict_Dict_int64 : Nat := 96
abbrev T_zset_listed : Nat := 98
abbrev T_p_skip_node : Nat := 126
abbrev T_skip_link : Nat := 128
abbrev T_skip_node : Nat := 132
abbrev T_skip_List : Nat := 134
abbrev T_s_p_dict_node_int64 : Nat := 135
abbrev T_dict_Dict_int64 : Nat := 138
abbrev T_bound_value : Nat := 144
abbrev T_bound_limit : Nat := 147
abbrev T_dict_id : Nat := 157
abbrev T_p_dict_node_int64 : Nat := 158
abbrev T_dict_node_int64 : Nat := 160
abbrev T_a32_p_skip_node : Nat := 163
abbrev T_a32_int : Nat := 164
abbrev T_func_p_skip_node_int_bool : Nat := 177
abbrev T_s_p_skip_node : Nat := 186
abbrev T_slices_xorshift : Nat := 207
abbrev T_pack_spot : Nat := 237
abbrev T_s_pack_spot : Nat := 247
end Go.X.W
set_option linter.unusedVariables false
set_option linter.unusedSimpArgs false
namespace Go.X
open Go
variable {P : Program}

/-! ### Equations -/
section
variable {K : Value → Prop} {KH : Value → Heap → Prop} {H : Heap}
theorem x_len (a : Option Addr) (n c : Nat) : LenP (.slice a n c) K = K (.int .i64 n) := rfl
theorem x_lens (s : ByteArray) : LenStrP (.string s) K = K (.int .i64 s.size) := rfl
theorem x_cap (a : Option Addr) (n c : Nat) : CapP (.slice a n c) K = K (.int .i64 c) := rfl
theorem x_add (k : IntKind) (a b : Int) : BinP .add (.int k a) (.int k b) K = K (.int k (k.wrap (a + b))) := by simp [BinP, arithV, OptP]
theorem x_sub (k : IntKind) (a b : Int) : BinP .sub (.int k a) (.int k b) K = K (.int k (k.wrap (a - b))) := by simp [BinP, arithV, OptP]
theorem x_mul (k : IntKind) (a b : Int) : BinP .mul (.int k a) (.int k b) K = K (.int k (k.wrap (a * b))) := by simp [BinP, arithV, OptP]
theorem x_and (k : IntKind) (a b : Int) : BinP .and (.int k a) (.int k b) K = K (.int k (k.wrap (BitVec.ofInt k.bits a &&& BitVec.ofInt k.bits b).toNat)) := by simp [BinP, arithV, OptP]
theorem x_or (k : IntKind) (a b : Int) : BinP .or (.int k a) (.int k b) K = K (.int k (k.wrap (BitVec.ofInt k.bits a ||| BitVec.ofInt k.bits b).toNat)) := by simp [BinP, arithV, OptP]
theorem x_xor (k : IntKind) (a b : Int) : BinP .xor (.int k a) (.int k b) K = K (.int k (k.wrap (BitVec.ofInt k.bits a ^^^ BitVec.ofInt k.bits b).toNat)) := by simp [BinP, arithV, OptP]
theorem x_andNot (k : IntKind) (a b : Int) : BinP .andNot (.int k a) (.int k b) K = K (.int k (k.wrap (BitVec.ofInt k.bits a &&& ~~~BitVec.ofInt k.bits b).toNat)) := by simp [BinP, arithV, OptP]
theorem x_eql (k : IntKind) (a b : Int) : BinP .eql (.int k a) (.int k b) K = K (.bool (decide (a = b))) := by simp [BinP, arithV, OptP]; rfl
theorem x_neq (k : IntKind) (a b : Int) : BinP .neq (.int k a) (.int k b) K = K (.bool (!decide (a = b))) := by simp [BinP, arithV, OptP]; rfl
theorem x_lss (k : IntKind) (a b : Int) : BinP .lss (.int k a) (.int k b) K = K (.bool (decide (a < b))) := by simp [BinP, arithV, OptP]
theorem x_leq (k : IntKind) (a b : Int) : BinP .leq (.int k a) (.int k b) K = K (.bool (decide (a ≤ b))) := by simp [BinP, arithV, OptP]
theorem x_gtr (k : IntKind) (a b : Int) : BinP .gtr (.int k a) (.int k b) K = K (.bool (decide (b < a))) := by simp [BinP, arithV, OptP]
theorem x_geq (k : IntKind) (a b : Int) : BinP .geq (.int k a) (.int k b) K = K (.bool (decide (b ≤ a))) := by simp [BinP, arithV, OptP]
theorem x_quo (k : IntKind) (a b : Int) : BinP .quo (.int k a) (.int k b) K = (b ≠ 0 ∧ K (.int k (k.wrap (a.tdiv b)))) := by simp [BinP]
theorem x_rem (k : IntKind) (a b : Int) : BinP .rem (.int k a) (.int k b) K = (b ≠ 0 ∧ K (.int k (a.tmod b))) := by simp [BinP]
theorem x_shl (k k' : IntKind) (a b : Int) : BinP .shl (.int k a) (.int k' b) K = (0 ≤ b ∧ K (.int k (k.wrap (a * 2 ^ (min b.toNat k.bits))))) := rfl
theorem x_shr (k k' : IntKind) (a b : Int) : BinP .shr (.int k a) (.int k' b) K = (0 ≤ b ∧ K (.int k (a.fdiv (2 ^ (min b.toNat k.bits))))) := rfl
theorem x_not (b : Bool) : UnP .not (.bool b) K = K (.bool (!b)) := rfl
theorem x_neg (k : IntKind) (n : Int) : UnP .neg (.int k n) K = K (.int k (k.wrap (0 - n))) := rfl
theorem x_conv (k k' : IntKind) (n : Int) : ConvIntP k (.int k' n) K = K (.int k (k.wrap n)) := rfl
theorem x_split (b : Bool) (A B : Prop) : SplitP (.bool b) A B = if b = true then A else B := by cases b <;> rfl
theorem x_splitD (p : Prop) [Decidable p] (A B : Prop) : SplitP (.bool (decide p)) A B = if p then A else B := by by_cases h : p <;> simp [h, SplitP]
theorem x_splitN (p : Prop) [Decidable p] (A B : Prop) : SplitP (.bool (!decide p)) A B = if p then B else A := by by_cases h : p <;> simp [h, SplitP]
theorem x_splitNb (b : Bool) (A B : Prop) : SplitP (.bool (!b)) A B = if b = true then B else A := by cases b <;> rfl
theorem x_splitT (A B : Prop) : SplitP (.bool true) A B = A := rfl
theorem x_splitF (A B : Prop) : SplitP (.bool false) A B = B := rfl
theorem x_pick (b : Bool) (x y : Value) : PickP (.bool b) x y K = K (if b = true then x else y) := by cases b <;> rfl
theorem x_nil (p : Addr) : NilP (.pointer (some p)) K = K (.pointer (some p)) := rfl
theorem x_nili (t : TypeId) (x : Value) : NilP (.iface t x) K = K (.iface t x) := rfl
theorem x_nilf (f : FuncId) (a b : Array Value) : NilP (.func (.func f) a b) K = K (.func (.func f) a b) := rfl
theorem x_nily (f : Nat) (a b : Array Value) : NilP (.func (.yield f) a b) K = K (.func (.yield f) a b) := rfl
theorem addr_add (b o n : Nat) : (⟨b, o, none⟩ : Addr).add n = ⟨b, o + n, none⟩ := by
  unfold Addr.add; split
  · rename_i h; subst h; rfl
  · rfl
theorem x_field (off b o : Nat) : FieldAddrP off (.pointer (some ⟨b, o, none⟩)) K = K (.pointer (some ⟨b, o + off, none⟩)) := by simp [FieldAddrP, addr_add]
theorem x_ext2a (a b : Value) : ExtractP (.tuple #[a, b]) 0 K = K a := rfl
theorem x_ext2b (a b : Value) : ExtractP (.tuple #[a, b]) 1 K = K b := rfl
theorem x_ext3a (a b c : Value) : ExtractP (.tuple #[a, b, c]) 0 K = K a := rfl
theorem x_ext3b (a b c : Value) : ExtractP (.tuple #[a, b, c]) 1 K = K b := rfl
theorem x_ext3c (a b c : Value) : ExtractP (.tuple #[a, b, c]) 2 K = K c := rfl
theorem x_idx (size b o len cap : Nat) (k : IntKind) (i : Int) : IdxSliceP size (.slice (some ⟨b, o, none⟩) len cap) (.int k i) K = ((0 ≤ i ∧ i < len) ∧ K (.pointer (some ⟨b, o + i.toNat * size, none⟩))) := by simp [IdxSliceP, addr_add]
theorem x_idxA (n size b o : Nat) (k : IntKind) (i : Int) : IdxArrP n size (.pointer (some ⟨b, o, none⟩)) (.int k i) K = ((0 ≤ i ∧ i < n) ∧ K (.pointer (some ⟨b, o + i.toNat * size, none⟩))) := by simp [IdxArrP, addr_add]
theorem x_idxS (s : ByteArray) (k : IntKind) (i : Int) : IndexStrP (.string s) (.int k i) K = (0 ≤ i ∧ ∃ b, s[i.toNat]? = some b ∧ K (.int .u8 b.toNat)) := rfl
theorem x_idxV (n size : Nat) (cs : Array Value) (k : IntKind) (i : Int) : IndexArrP n size none (.agg cs) (.int k i) K = ((0 ≤ i ∧ i < n) ∧ PartP none cs (i.toNat * size) K) := rfl
theorem x_callV (f : FuncId) (a c : Array Value) (args : List Value) : CallV P (.func (.func f) a c) args H KH = CallH P f (a.toList ++ (args ++ c.toList)) H KH := rfl
theorem x_callF (f : FuncId) (a c : Array Value) (args : List Value) : CallF P (.func (.func f) a c) args H KH = CallH P f (a.toList ++ (args ++ c.toList)) H KH := rfl
theorem x_callY (l : Nat) (args : List Value) : CallV P (.func (.yield l) #[] #[]) args H KH = YieldH P l args H KH := rfl
theorem x_ret0 {A : Heap → Prop} : RetP [] H A = A H := rfl
theorem x_ret1 {A : Heap → Prop} (D : Nat) (args : Array Value) (ds : List Deferred) : RetP ({ target := .collected D, args := args } :: ds) H A = (H[D]? = some (.deferred (some [])) ∧ RetP ds (H.setIfInBounds D (.deferred none)) A) := rfl
theorem x_box (t : TypeId) (v : Value) : BoxP none t v H KH = (v.oneCell = true ∧ AllocP #[v] t H KH) := rfl
theorem x_boxN (n : Nat) (t : TypeId) (cs : Array Value) : BoxP (some n) t (.agg cs) H KH = AllocP cs t H KH := rfl
theorem x_build0 (cells : List Value) {A : List Value → Prop} : BuildP cells [] A = A cells := rfl
theorem x_build1 (cells : List Value) (off : Nat) (v : Value) (r : List (Nat × Option Nat × Value)) {A : List Value → Prop} : BuildP cells ((off, none, v) :: r) A = (v.oneCell = true ∧ BuildP (cells.set off v) r A) := rfl
theorem x_buildN (cells : List Value) (off n : Nat) (cs : Array Value) (r : List (Nat × Option Nat × Value)) {A : List Value → Prop} : BuildP cells ((off, some n, .agg cs) :: r) A = (cs.size = n ∧ BuildP (spliceL cells off cs.toList) r A) := rfl
theorem x_oc1 (k : IntKind) (n : Int) : (Value.int k n).oneCell = true := rfl
theorem x_oc2 (b : Bool) : (Value.bool b).oneCell = true := rfl
theorem x_oc3 (s : ByteArray) : (Value.string s).oneCell = true := rfl
theorem x_oc4 (a : Option Addr) : (Value.pointer a).oneCell = true := rfl
theorem x_oc5 (a : Option Addr) (n c : Nat) : (Value.slice a n c).oneCell = true := rfl
theorem x_oc6 (f : Fn) (a c : Array Value) : (Value.func f a c).oneCell = true := rfl
theorem x_oc7 (t : TypeId) (x : Value) : (Value.iface t x).oneCell = true := rfl
theorem x_oc8 : Value.nilIface.oneCell = true := rfl
theorem x_oc9 : Value.nilFunc.oneCell = true := rfl
theorem x_zeros1 (z : Value) : zerosN #[z] 1 = [z] := rfl
theorem x_zeros2 (z : Value) : zerosN #[z] 2 = [z, z] := rfl
theorem x_max1 (k : IntKind) (a b : Int) (r : List Value) : MaxP (.int k a) (.int k b :: r) K = MaxP (.int k (max a b)) r K := by
  simp only [MaxP]; congr 2; rw [Int.max_def]; split <;> split <;> omega
theorem x_max0 (v : Value) : MaxP v [] K = K v := rfl
theorem x_min1 (k : IntKind) (a b : Int) (r : List Value) : MinP (.int k a) (.int k b :: r) K = MinP (.int k (min a b)) r K := by
  simp only [MinP]; congr 2; rw [Int.min_def]; split <;> split <;> omega
theorem x_min0 (v : Value) : MinP v [] K = K v := rfl
end

/-! ### Whole numbers -/
theorem w64 {n : Int} (h : -9223372036854775808 ≤ n ∧ n ≤ 9223372036854775807) : IntKind.i64.wrap n = n := by
  simp [IntKind.wrap, IntKind.signed, IntKind.bits]; omega
theorem wu32 {n : Int} (h : 0 ≤ n ∧ n < 4294967296) : IntKind.u32.wrap n = n := by
  simp [IntKind.wrap, IntKind.signed, IntKind.bits]; omega
theorem wu8 {n : Int} (h : 0 ≤ n ∧ n < 256) : IntKind.u8.wrap n = n := by
  simp [IntKind.wrap, IntKind.signed, IntKind.bits]; omega
theorem wu64 {n : Int} (h : 0 ≤ n ∧ n < 18446744073709551616) : IntKind.u64.wrap n = n := by
  simp [IntKind.wrap, IntKind.signed, IntKind.bits]; omega
theorem wu32_bd (n : Int) : 0 ≤ IntKind.u32.wrap n ∧ IntKind.u32.wrap n < 4294967296 := by
  simp [IntKind.wrap, IntKind.signed, IntKind.bits]; omega

/-! ### Blocks -/
/-- A block of cells that may be written. -/
def Blk (H : Heap) (b : Nat) (cs : List Value) : Prop := ∃ t, H[b]? = some (.cells cs.toArray t (0, 0))

theorem Blk.lt {H : Heap} {b : Nat} {cs : List Value} (h : Blk H b cs) : b < H.size := by
  obtain ⟨t, h⟩ := h
  exact (Array.getElem?_eq_some_iff.1 h).1
theorem Blk.cell {H : Heap} {b o : Nat} {cs : List Value} (h : Blk H b cs) : hcell H ⟨b, o, none⟩ = cs[o]? := by
  obtain ⟨t, h⟩ := h
  simp [hcell, h]
theorem Blk.frozen {H : Heap} {b o : Nat} {cs : List Value} (h : Blk H b cs) : hfrozen H ⟨b, o, none⟩ = false := by
  obtain ⟨t, h⟩ := h
  simp [hfrozen, h]
theorem Blk.of_eq {H H' : Heap} {b : Nat} {cs : List Value} (h : Blk H b cs) (e : H'[b]? = H[b]?) : Blk H' b cs := by
  obtain ⟨t, h⟩ := h
  exact ⟨t, e.trans h⟩
theorem Blk.inj {H : Heap} {b : Nat} {cs cs' : List Value} (h : Blk H b cs) (h' : Blk H b cs') : cs = cs' := by
  obtain ⟨t, h⟩ := h; obtain ⟨t', h'⟩ := h'
  rw [h] at h'; simp at h'; exact h'.1

theorem Blk.load {H : Heap} {b o : Nat} {cs : List Value} {K : Value → Prop} {x : Value} (h : Blk H b cs) (hx : cs[o]? = some x) (hk : K x) : LoadP none H (.pointer (some ⟨b, o, none⟩)) K :=
  ⟨x, by simp only [LoadIs, h.cell, hx], hk⟩
theorem Blk.loadIs {H : Heap} {b o : Nat} {cs : List Value} {x : Value} (h : Blk H b cs) (hx : cs[o]? = some x) : LoadIs none H (.pointer (some ⟨b, o, none⟩)) x := by
  simp only [LoadIs, h.cell, hx]

theorem Blk.readN {H : Heap} {b : Nat} {cs : List Value} (h : Blk H b cs) (o : Nat) : ∀ (n i : Nat), o + i + n ≤ cs.length → readN H ⟨b, o, none⟩ i n = some ((cs.drop (o + i)).take n) := by
  intro n
  induction n with
  | zero => intro i _; simp [X.readN]
  | succ n ih =>
    intro i hi
    have h1 : o + i < cs.length := by omega
    simp only [X.readN, addr_add, h.cell, List.getElem?_eq_getElem h1]
    rw [ih (i + 1) (by omega)]
    simp only [Option.some.injEq]
    rw [List.drop_eq_getElem_cons h1, List.take_succ_cons]
    rfl

theorem Blk.loadN {H : Heap} {b o n : Nat} {cs : List Value} {K : Value → Prop} (h : Blk H b cs) (hn : o + n ≤ cs.length) (hk : K (.agg ((cs.drop o).take n).toArray)) : LoadP (some n) H (.pointer (some ⟨b, o, none⟩)) K :=
  ⟨_, ⟨_, h.readN o n 0 (by omega), rfl⟩, by simpa using hk⟩
theorem Blk.loadNIs {H : Heap} {b o n : Nat} {cs : List Value} (h : Blk H b cs) (hn : o + n ≤ cs.length) : LoadIs (some n) H (.pointer (some ⟨b, o, none⟩)) (.agg ((cs.drop o).take n).toArray) :=
  ⟨_, h.readN o n 0 (by omega), by simp⟩

/-- H' is H, but for what lies in the blocks of S, and what is new. -/
structure Frm (S : Nat → Prop) (H H' : Heap) : Prop where
  le : H.size ≤ H'.size
  eq : ∀ b, b < H.size → ¬ S b → H'[b]? = H[b]?

theorem Frm.refl (S : Nat → Prop) (H : Heap) : Frm S H H := ⟨Nat.le_refl _, fun _ _ _ => rfl⟩
theorem Frm.trans {S : Nat → Prop} {H1 H2 H3 : Heap} (h : Frm S H1 H2) (h' : Frm S H2 H3) : Frm S H1 H3 :=
  ⟨Nat.le_trans h.le h'.le, fun b hb hs => (h'.eq b (Nat.lt_of_lt_of_le hb h.le) hs).trans (h.eq b hb hs)⟩
theorem Frm.mono {S S' : Nat → Prop} {H H' : Heap} (h : Frm S H H') (hs : ∀ b, S b → S' b) : Frm S' H H' := ⟨h.le, fun b hb hn => h.eq b hb fun x => hn (hs b x)⟩
/-- The second step may touch what is new since the first. -/
theorem Frm.trans' {S S' : Nat → Prop} {H1 H2 H3 : Heap} (h : Frm S H1 H2) (h' : Frm S' H2 H3) (hs : ∀ b, b < H1.size → S' b → S b) : Frm S H1 H3 :=
  ⟨Nat.le_trans h.le h'.le, fun b hb hn => (h'.eq b (Nat.lt_of_lt_of_le hb h.le) fun x => hn (hs b hb x)).trans (h.eq b hb hn)⟩
theorem Frm.blk {S : Nat → Prop} {H H' : Heap} {b : Nat} {cs : List Value} (h : Frm S H H') (hb : Blk H b cs) (hn : ¬ S b) : Blk H' b cs := hb.of_eq (h.eq b hb.lt hn)
theorem Frm.obj {S : Nat → Prop} {H H' : Heap} {b : Nat} {o : Obj} (h : Frm S H H') (hb : H[b]? = some o) (hn : ¬ S b) : H'[b]? = some o :=
  (h.eq b (Array.getElem?_eq_some_iff.1 hb).1 hn).trans hb

abbrev E0 : Nat → Prop := fun _ => False

theorem push_frm (H : Heap) (o : Obj) (S : Nat → Prop) : Frm S H (H.push o) :=
  ⟨by simp, fun b hb _ => by rw [Array.getElem?_push]; simp [Nat.ne_of_lt hb]⟩
theorem set_frm (H : Heap) (b : Nat) (o : Obj) {S : Nat → Prop} (hs : S b) : Frm S H (H.setIfInBounds b o) :=
  ⟨by simp, fun x hx hn => by rw [Array.getElem?_setIfInBounds_ne]; intro e; subst e; exact hn hs⟩

theorem alloc_i {cells : List Value} {t : TypeId} {H : Heap} {K : Value → Heap → Prop}
    (h : ∀ H', Frm E0 H H' → H'.size = H.size + 1 → Blk H' H.size cells → K (.pointer (some ⟨H.size, 0, none⟩)) H') : AllocP cells.toArray t H K :=
  h _ (push_frm _ _ _) (by simp) ⟨t, by simp⟩

theorem allocA_i {cells : Array Value} {t : TypeId} {H : Heap} {K : Value → Heap → Prop}
    (h : ∀ H', Frm E0 H H' → H'.size = H.size + 1 → Blk H' H.size cells.toList → K (.pointer (some ⟨H.size, 0, none⟩)) H') : AllocP cells t H K :=
  h _ (push_frm _ _ _) (by simp) ⟨t, by simp⟩

theorem buildSl_i {elem : TypeId} {len : Nat} {cells : List Value} {H : Heap} {K : Value → Heap → Prop}
    (h : ∀ H', Frm E0 H H' → H'.size = H.size + 1 → Blk H' H.size cells → K (.slice (some ⟨H.size, 0, none⟩) len len) H') : BuildSliceP elem len cells H K :=
  h _ (push_frm _ _ _) (by simp) ⟨elem, by simp⟩

theorem hset_eq {H : Heap} {b o : Nat} {cs : List Value} {t : TypeId} {v : Value} (h : H[b]? = some (.cells cs.toArray t (0, 0))) : hset H ⟨b, o, none⟩ v = H.setIfInBounds b (.cells (cs.set o v).toArray t (0, 0)) := by
  have hlt := (Array.getElem?_eq_some_iff.1 h).1
  apply Array.ext_getElem?
  intro i
  simp only [hset, Array.getElem?_modify, Array.getElem?_setIfInBounds]
  by_cases hi : b = i
  · subst hi
    rw [h]
    simp [hlt]
  · simp [hi]

theorem Blk.store {H : Heap} {b o : Nat} {cs : List Value} {v : Value} {K : Heap → Prop} (h : Blk H b cs) (hv : v.oneCell = true) (ho : o < cs.length)
    (hk : ∀ H', Frm (fun x => x = b) H H' → H'.size = H.size → Blk H' b (cs.set o v) → K H') : StoreP none H (.pointer (some ⟨b, o, none⟩)) v K := by
  have h' := h
  obtain ⟨t, ht⟩ := h
  refine ⟨hv, by rw [h'.cell, List.getElem?_eq_getElem ho]; rfl, h'.frozen, ?_⟩
  rw [hset_eq ht]
  refine hk _ (set_frm H b _ rfl) (by simp) ⟨t, ?_⟩
  have := h'.lt
  simp [this]

theorem storeAll_blk {b o : Nat} {K : Heap → Prop} : ∀ (vs : List Value) (i : Nat) (H : Heap) (cs : List Value), Blk H b cs → (∀ v ∈ vs, v.oneCell = true) → o + i + vs.length ≤ cs.length →
    (∀ H', Frm (fun x => x = b) H H' → H'.size = H.size → Blk H' b (spliceL cs (o + i) vs) → K H') → storeAll ⟨b, o, none⟩ vs i H K := by
  intro vs
  induction vs with
  | nil => intro i H cs h _ _ hk; exact hk H (Frm.refl _ _) rfl h
  | cons v vs ih =>
    intro i H cs h hv hl hk
    simp only [List.length_cons] at hl
    have h' := h
    obtain ⟨t, ht⟩ := h
    have ho : o + i < cs.length := by omega
    refine ⟨hv v (by simp), by rw [addr_add, h'.cell, List.getElem?_eq_getElem ho]; rfl, by rw [addr_add]; exact h'.frozen, ?_⟩
    rw [addr_add, hset_eq ht]
    have hb' : Blk (H.setIfInBounds b (.cells (cs.set (o + i) v).toArray t (0, 0))) b (cs.set (o + i) v) := ⟨t, by have := h'.lt; simp [this]⟩
    refine ih (i + 1) _ _ hb' (fun v hv' => hv v (by simp [hv'])) (by simp; omega) fun H' hf hs hb => ?_
    refine hk H' ((set_frm (S := fun x => x = b) H b _ rfl).trans hf) (by rw [hs]; simp) ?_
    exact hb

theorem Blk.storeN {H : Heap} {b o n : Nat} {cs : List Value} {vs : Array Value} {K : Heap → Prop} (h : Blk H b cs) (hn : vs.size = n) (hv : ∀ v ∈ vs.toList, v.oneCell = true) (ho : o + n ≤ cs.length)
    (hk : ∀ H', Frm (fun x => x = b) H H' → H'.size = H.size → Blk H' b (spliceL cs o vs.toList) → K H') : StoreP (some n) H (.pointer (some ⟨b, o, none⟩)) (.agg vs) K :=
  ⟨hn, storeAll_blk vs.toList 0 H cs h hv (by simp; omega) (by simpa using hk)⟩

/-! ### Loops -/
theorem least_ex {p : Nat → Prop} (h : ∃ k, p k) : ∃ k, p k ∧ ∀ m, p m → k ≤ m := by
  obtain ⟨k, hk⟩ := h
  induction k using Nat.strongRecOn with
  | _ k ih =>
    by_cases hm : ∃ m, m < k ∧ p m
    · obtain ⟨m, hlt, hpm⟩ := hm
      exact ih m hlt hpm
    · exact ⟨k, hk, fun m hpm => Nat.le_of_not_lt fun hlt => hm ⟨m, hlt, hpm⟩⟩

open Classical in
theorem loop_i {S G : Type} {F : S → G → (S → Heap → Prop) → Heap → Prop} {s : S} {H : Heap} (I : Nat → S → Heap → Prop) (k0 : Nat) (h0 : I k0 s H)
    (step : ∀ (k : Nat) (s : S) (g : G) (H : Heap), I k s H → F s g (fun s' H' => ∃ k', k' < k ∧ I k' s' H') H) : LoopP F s H := by
  let lst : (S → Heap → Nat) := fun s H => if h : ∃ k, I k s H then Classical.choose (least_ex h) else 0
  have hl : ∀ s H (h : ∃ k, I k s H), I (lst s H) s H ∧ ∀ m, I m s H → lst s H ≤ m := by
    intro s H h
    have : lst s H = Classical.choose (least_ex h) := by simp only [lst, dif_pos h]
    rw [this]
    exact Classical.choose_spec (least_ex h)
  refine ⟨fun s H => ∃ k, I k s H, lst, ⟨k0, h0⟩, fun s g H h => ?_⟩
  have h1 := step (lst s H) s g H (hl s H h).1
  have e : (fun s' H' => (∃ k, I k s' H') ∧ lst s' H' < lst s H) = (fun s' H' => ∃ k', k' < lst s H ∧ I k' s' H') := by
    funext s' H'
    apply propext
    constructor
    · rintro ⟨h2, h3⟩
      exact ⟨_, h3, (hl s' H' h2).1⟩
    · rintro ⟨k', hlt, hI⟩
      exact ⟨⟨k', hI⟩, Nat.lt_of_le_of_lt ((hl s' H' ⟨k', hI⟩).2 _ hI) hlt⟩
  rw [e]
  exact h1

/-! ### Calls -/
theorem CallH.mono {g : FuncId} {args : List Value} {H : Heap} {K K' : Value → Heap → Prop} (h : CallH P g args H K) (hk : ∀ v H', K v H' → K' v H') : CallH P g args H K' :=
  ⟨h.1, fun w hw => (h.2 w hw).mono fun e w' ⟨v, he, hv, hio⟩ => ⟨v, he, hk _ _ hv, hio⟩⟩
theorem YieldH.mono {l : Nat} {args : List Value} {H : Heap} {K K' : Value → Heap → Prop} (h : YieldH P l args H K) (hk : ∀ v H', K v H' → K' v H') : YieldH P l args H K' :=
  let ⟨r, h1, h2, h3⟩ := h
  ⟨r, h1, h2, fun w hw => (h3 w hw).mono fun e w' ⟨v, he, hv, hio⟩ => ⟨v, he, hk _ _ hv, hio⟩⟩

theorem CallF.mono {f : Value} {args : List Value} {H : Heap} {K K' : Value → Heap → Prop} (h : CallF P f args H K) (hk : ∀ v H', K v H' → K' v H') : CallF P f args H K' := by
  cases f with
  | func f a c =>
    cases f with
    | func g => exact CallH.mono (P := P) h hk
    | _ => exact h.elim
  | _ => exact h.elim

/-! ### Ranges over functions -/
theorem range_none {fv : Value} {np : Nat} {Rd : Nat → Tup np → Heap → (Value → Heap → Prop) → Prop} {After : Option Code → List Deferred → Heap → Prop} {H : Heap}
    (h : ∀ (L : Loop) (H2 : Heap), Frm E0 H H2 → H2.size = H.size + 2 → H2[H.size]? = some (.deferred (some [])) → H2[H.size + 1]? = some (.loop L) → L.state = .ready → L.pending = none →
      (∀ vs H' K, H'[H.size + 1]? = some (.loop L) → Rd (H.size + 1) vs H' K → YieldH P (H.size + 1) (listT np vs) H' K) →
      CallF P fv [.func (.yield (H.size + 1)) #[] #[]] H2 fun _ H3 =>
        ∃ L', H3[H.size + 1]? = some (.loop L') ∧ L'.state ≠ .busy ∧
          ∀ H4, Frm (fun x => x = H.size + 1) H3 H4 → H4.size = H3.size → After L'.pending [{ target := .collected H.size, args := #[] }] H4) : RangeP P none fv np Rd After H := by
  intro L h1 h2 h3
  have := h L ((H.push (.deferred (some []))).push (.loop L)) ((push_frm _ _ _).trans (push_frm _ _ _)) (by simp) (by rw [Array.getElem?_push]; simp) (by
    have := Array.getElem?_push_size (xs := H.push (.deferred (some []))) (x := Obj.loop L)
    rwa [Array.size_push] at this) h1 h2 h3
  refine CallF.mono this ?_
  rintro v H' ⟨L', hl, hb, ha⟩
  exact ⟨L', hl, hb, ha _ (set_frm _ _ _ rfl) (by simp)⟩

theorem range_some {fv : Value} {np l0 : Nat} {Rd : Nat → Tup np → Heap → (Value → Heap → Prop) → Prop} {After : Option Code → List Deferred → Heap → Prop} {H : Heap} {L0 : Loop} (hL0 : H[l0]? = some (.loop L0))
    (h : ∀ (L : Loop) (H2 : Heap), Frm E0 H H2 → H2.size = H.size + 1 → H2[H.size]? = some (.loop L) → L.state = .ready → L.pending = none →
      (∀ vs H' K, H'[H.size]? = some (.loop L) → Rd H.size vs H' K → YieldH P H.size (listT np vs) H' K) →
      CallF P fv [.func (.yield H.size) #[] #[]] H2 fun _ H3 =>
        ∃ L', H3[H.size]? = some (.loop L') ∧ L'.state ≠ .busy ∧
          ∀ H4, Frm (fun x => x = H.size) H3 H4 → H4.size = H3.size → After L'.pending [] H4) : RangeP P (some l0) fv np Rd After H := by
  refine ⟨L0, hL0, fun L h1 h2 h3 => ?_⟩
  have := h L (H.push (.loop L)) (push_frm _ _ _) (by simp) (by simp) h1 h2 h3
  refine CallF.mono this ?_
  rintro v H' ⟨L', hl, hb, ha⟩
  exact ⟨L', hl, hb, ha _ (set_frm _ _ _ rfl) (by simp)⟩

theorem set_get {H : Heap} {b : Nat} {o : Obj} (h : b < H.size) : (H.setIfInBounds b o)[b]? = some o := by simp [h]

theorem begin_i {l : Nat} {L : Loop} {H : Heap} {K : Heap → Prop} (hl : H[l]? = some (.loop L)) (hs : L.state = .ready)
    (h : ∀ H2, Frm (fun x => x = l) H H2 → H2.size = H.size → H2[l]? = some (.loop { L with state := .busy }) → K H2) : BeginP l H K :=
  ⟨L, hl, hs, h _ (set_frm _ _ _ rfl) (by simp) (set_get (Array.getElem?_eq_some_iff.1 hl).1)⟩

theorem end_i {l : Nat} {L : Loop} {H : Heap} {K : Value → Heap → Prop} (hl : H[l]? = some (.loop { L with state := .busy })) (hs : L.state = .ready) (hp : L.pending = none)
    (h : ∀ H2, Frm (fun x => x = l) H H2 → H2.size = H.size → H2[l]? = some (.loop L) → K (.bool true) H2) : EndP l .normal H K := by
  refine ⟨rfl, _, hl, h _ (set_frm _ _ _ rfl) (by simp) ?_⟩
  rw [set_get (Array.getElem?_eq_some_iff.1 hl).1]
  simp only [jumpOf, Option.isNone_none, if_true]
  rw [← hs, ← hp]

theorem end_jump {l : Nat} {ex : Exit} {L : Loop} {H : Heap} {K : Value → Heap → Prop} (hl : H[l]? = some (.loop { L with state := .busy })) (hx : plainExit ex = true) {c : Code} (hj : jumpOf ex = some c)
    (h : ∀ H2, Frm (fun x => x = l) H H2 → H2.size = H.size → H2[l]? = some (.loop { L with state := .done, pending := some c }) → K (.bool false) H2) : EndP l ex H K := by
  have hn : isN ex = false := by cases ex <;> first | rfl | (simp [jumpOf] at hj)
  refine ⟨hx, _, hl, ?_⟩
  rw [hn]
  refine h _ (set_frm _ _ _ rfl) (by simp) ?_
  rw [set_get (Array.getElem?_eq_some_iff.1 hl).1, hj]
  simp

theorem x_alt1 (p : Option Code) (e : Exit) (A : Prop) : AltP p [(e, A)] = (p = jumpOf e ∧ A) := rfl
theorem x_alt2 (p : Option Code) (x y : Exit × Prop) (r : List (Exit × Prop)) : AltP p (x :: y :: r) = ((p = jumpOf x.1 ∧ x.2) ∨ AltP p (y :: r)) := rfl
theorem x_j0 : jumpOf .normal = none := rfl
theorem x_j1 : jumpOf .ret = some .ret := rfl
theorem x_j2 (i : Nat) : jumpOf (.exit i) = some (.exit i) := rfl

theorem Frm.size_lt {S : Nat → Prop} {H H' : Heap} (h : Frm S H H') {b : Nat} (hb : b < H.size) : b < H'.size := Nat.lt_of_lt_of_le hb h.le

/-- The step equations, together. -/
theorem xl : type_of% @x_len ∧ type_of% @x_lens ∧ type_of% @x_cap ∧ type_of% @x_add ∧ type_of% @x_sub ∧ type_of% @x_mul ∧ type_of% @x_and ∧ type_of% @x_or ∧ type_of% @x_xor ∧ type_of% @x_andNot ∧ type_of% @x_eql ∧ type_of% @x_neq ∧ type_of% @x_lss ∧ type_of% @x_leq ∧ type_of% @x_gtr ∧ type_of% @x_geq ∧ type_of% @x_quo ∧ type_of% @x_rem ∧ type_of% @x_shl ∧ type_of% @x_shr ∧ type_of% @x_not ∧ type_of% @x_neg ∧ type_of% @x_conv ∧ type_of% @x_split ∧ type_of% @x_splitNb ∧ type_of% @x_splitT ∧ type_of% @x_splitF ∧ type_of% @x_pick ∧ type_of% @x_nil ∧ type_of% @x_nili ∧ type_of% @x_nilf ∧ type_of% @x_nily ∧ type_of% @x_field ∧ type_of% @x_ext2a ∧ type_of% @x_ext2b ∧ type_of% @x_ext3a ∧ type_of% @x_ext3b ∧ type_of% @x_ext3c ∧ type_of% @x_idx ∧ type_of% @x_idxA ∧ type_of% @x_idxS ∧ type_of% @x_idxV ∧ type_of% @x_callV ∧ type_of% @x_callF ∧ type_of% @x_callY ∧ type_of% @x_ret0 ∧ type_of% @x_ret1 ∧ type_of% @x_box ∧ type_of% @x_boxN ∧ type_of% @x_build0 ∧ type_of% @x_build1 ∧ type_of% @x_buildN ∧ type_of% @x_oc1 ∧ type_of% @x_oc2 ∧ type_of% @x_oc3 ∧ type_of% @x_oc4 ∧ type_of% @x_oc5 ∧ type_of% @x_oc6 ∧ type_of% @x_oc7 ∧ type_of% @x_oc8 ∧ type_of% @x_oc9 ∧ type_of% @x_zeros1 ∧ type_of% @x_zeros2 ∧ type_of% @x_max1 ∧ type_of% @x_max0 ∧ type_of% @x_min1 ∧ type_of% @x_min0 ∧ type_of% @x_alt1 ∧ type_of% @x_alt2 ∧ type_of% @x_j0 ∧ type_of% @x_j1 ∧ type_of% @x_j2 :=
  ⟨@x_len, @x_lens, @x_cap, @x_add, @x_sub, @x_mul, @x_and, @x_or, @x_xor, @x_andNot, @x_eql, @x_neq, @x_lss, @x_leq, @x_gtr, @x_geq, @x_quo, @x_rem, @x_shl, @x_shr, @x_not, @x_neg, @x_conv, @x_split, @x_splitNb, @x_splitT, @x_splitF, @x_pick, @x_nil, @x_nili, @x_nilf, @x_nily, @x_field, @x_ext2a, @x_ext2b, @x_ext3a, @x_ext3b, @x_ext3c, @x_idx, @x_idxA, @x_idxS, @x_idxV, @x_callV, @x_callF, @x_callY, @x_ret0, @x_ret1, @x_box, @x_boxN, @x_build0, @x_build1, @x_buildN, @x_oc1, @x_oc2, @x_oc3, @x_oc4, @x_oc5, @x_oc6, @x_oc7, @x_oc8, @x_oc9, @x_zeros1, @x_zeros2, @x_max1, @x_max0, @x_min1, @x_min0, @x_alt1, @x_alt2, @x_j0, @x_j1, @x_j2⟩
end Go.X
set_option linter.unusedVariables false
set_option linter.unusedSimpArgs false
namespace Go.X
open Go
variable {P : Program}

theorem eqIs_run {t : TypeId} {c : Bool} {H : Heap} {x y : Value} {b : Bool} (hg : ∀ op xo yo (w : World), w.heap = H → (isC xo || isC yo) = c → (eqGuard op t xo yo x y).run P w = .ok () w)
    (he : ∀ w : World, w.heap = H → ∃ w' : World, (w'.heap = H ∧ SameIO w w') ∧ (Op.equalIn (9999 + 1) t x y).run P w = .ok b w') : EqIs P t c H x y b := by
  intro op w xo yo hop hc hw
  obtain ⟨w', hw', hr⟩ := he w hw
  refine ⟨w', hw', ?_⟩
  rw [Sem.run_bind, hg op xo yo w hw hc]
  exact hr

theorem guard_plain {t : TypeId} {x y : Value} (hx : ∀ cs, x ≠ .agg cs) (hn : x ≠ .nilIface) (op : BinOp) (xo yo : Operand) (w : World) : (eqGuard op t xo yo x y).run P w = .ok () w := by
  unfold eqGuard
  cases op <;> first
    | rfl
    | (cases x <;> cases y <;> first | rfl | exact absurd rfl (hx _) | exact absurd rfl hn)

theorem eq_ptr_nil {t e : TypeId} {c : Bool} {H : Heap} (hu : P.underlying t = some (.pointer e)) (p : Option Addr) : EqIs P t c H (.pointer p) (.pointer none) p.isNone := by
  refine eqIs_run (fun op xo yo w _ _ => guard_plain (by simp) (by simp) op xo yo w) fun w hw => ⟨w, ⟨hw, SameIO.refl w⟩, ?_⟩
  generalize 9999 = d
  cases p <;> simp [Op.equalIn, run_underlying hu]

theorem eq_slice_nil {t e : TypeId} {c : Bool} {H : Heap} (hu : P.underlying t = some (.slice e)) (a : Option Addr) (n m k l : Nat) : EqIs P t c H (.slice a n m) (.slice none k l) a.isNone := by
  refine eqIs_run (fun op xo yo w _ _ => guard_plain (by simp) (by simp) op xo yo w) fun w hw => ⟨w, ⟨hw, SameIO.refl w⟩, ?_⟩
  generalize 9999 = d
  cases a <;> simp [Op.equalIn, run_underlying hu]

theorem eq_bool {t : TypeId} {c : Bool} {H : Heap} (hu : P.underlying t = some .bool) (a b : Bool) : EqIs P t c H (.bool a) (.bool b) (a == b) := by
  refine eqIs_run (fun op xo yo w _ _ => guard_plain (by simp) (by simp) op xo yo w) fun w hw => ⟨w, ⟨hw, SameIO.refl w⟩, ?_⟩
  generalize 9999 = d
  simp [Op.equalIn, run_underlying hu]

/-- Two pointers to objects of more than no size, in blocks of cells. -/
theorem eq_ptr {t e : TypeId} {c : Bool} {H : Heap} (hu : P.underlying t = some (.pointer e)) (ho : okT P e = true) (hs : 1 ≤ sizeT P e) {b o b' o' : Nat} {cs cs' : List Value} (h : Blk H b cs) (h' : Blk H b' cs') :
    EqIs P t c H (.pointer (some ⟨b, o, none⟩)) (.pointer (some ⟨b', o', none⟩)) (decide (b = b' ∧ o = o')) := by
  refine eqIs_run (fun op xo yo w _ _ => guard_plain (by simp) (by simp) op xo yo w) fun w hw => ⟨w, ⟨hw, SameIO.refl w⟩, ?_⟩
  generalize 9999 = d
  have hz : ¬ sizeT P e = 0 := by omega
  simp only [Op.equalIn, Sem.run_bind, run_underlying hu, Result.andThen_ok, run_sizeOf' ho, Sem.run_ite, ne_eq, hz, not_false_eq_true, if_true]
  obtain ⟨t1, h1⟩ := h; obtain ⟨t2, h2⟩ := h'
  subst hw
  by_cases hb : b = b'
  · subst hb
    have hq : (({block := b, off := o} : Addr) == {block := b, off := o'}) = decide (o = o') := by
      by_cases h : o = o'
      · simp [h]
      · simp [h]
    simp [sameAddr]
    exact hq
  · have f1 : ∀ o, w.frozen? ⟨b, o, none⟩ = false := fun o => by simp [World.frozen?, h1]
    have f2 : ∀ o, w.frozen? ⟨b', o, none⟩ = false := fun o => by simp [World.frozen?, h2]
    have s1 : w.shape? b = some (t1, cs.length) := by simp [World.shape?, h1]
    have s2 : w.shape? b' = some (t2, cs'.length) := by simp [World.shape?, h2]
    simp [sameAddr, hb, noView, viewAt, mayBeOne, stringish, f1, f2, s1, s2]

theorem guard_agg {t : TypeId} {xs ys : Array Value} (hg : P.eqGuardType P.depth t = false) (op : BinOp) (xo yo : Operand) (w : World) : (eqGuard op t xo yo (.agg xs) (.agg ys)).run P w = .ok () w := by
  unfold eqGuard
  cases op <;> first
    | rfl
    | simp [hg]

def scalEq (x y : Value) : Option Bool :=
  match x, y with
  | .int k a, .int k' b => if k = k' then some (decide (a = b)) else none
  | .string a, .string b => some (decide (a = b))
  | .bool a, .bool b => some (decide (a = b))
  | _, _ => none

def isScal (P : Program) (t : TypeId) (x : Value) : Bool :=
  match P.underlying t, x with
  | some (.int _), .int _ _ => true
  | some .string, .string _ => true
  | some .bool, .bool _ => true
  | _, _ => false

theorem ba_beq (a b : ByteArray) : (a == b) = decide (a = b) := by
  cases a with | mk a => cases b with | mk b =>
  show (a == b) = _
  by_cases h : a = b
  · simp [h]
  · simp [h]
theorem tl_beq (a b : ByteArray) : (a.toList == b.toList) = decide (a = b) := by
  rw [ByteArray.toList_eq, ByteArray.toList_eq]
  cases a with | mk a => cases b with | mk b =>
  by_cases h : a = b
  · simp [h]
  · simp [h]

theorem scal_run {t : TypeId} {x y : Value} {b : Bool} (d : Nat) (ht : isScal P t x = true) (h : scalEq x y = some b) (w : World) : (Op.equalIn (d + 1) t x y).run P w = .ok b w := by
  unfold isScal at ht
  cases hu : P.underlying t with
  | none => rw [hu] at ht; cases ht
  | some u =>
    rw [hu] at ht
    cases x <;> cases y <;> simp only [scalEq] at h <;> try cases h
    · cases u <;> simp at ht
      simp [Op.equalIn, run_underlying hu]
      rename_i a b
      cases a <;> cases b <;> rfl
    · rename_i k a k' b'
      split at h
      · rename_i hk
        subst hk
        simp only [Option.some.injEq] at h
        subst h
        cases u <;> simp at ht
        simp [Op.equalIn, run_underlying hu]
        rfl
      · cases h
    · cases u <;> simp at ht
      simp [Op.equalIn, run_underlying hu, ba_beq]

theorem eq_struct2 {t : TypeId} {c : Bool} {H : Heap} {f1 f2 : Field} {x1 x2 y1 y2 : Value} {b1 b2 : Bool} (hu : P.underlying t = some (.struct #[f1, f2])) (hg : P.eqGuardType P.depth t = false) (hst : P.stoodInHeld t = false)
    (hn1 : f1.name ≠ "_") (hn2 : f2.name ≠ "_") (ho1 : f1.offset = 0) (ho2 : f2.offset = 1) (hok1 : okT P f1.type = true) (hok2 : okT P f2.type = true) (ha1 : isAggT P f1.type = false) (ha2 : isAggT P f2.type = false)
    (hs1 : isScal P f1.type x1 = true) (hs2 : isScal P f2.type x2 = true) (he1 : scalEq x1 y1 = some b1) (he2 : scalEq x2 y2 = some b2) : EqIs P t c H (.agg #[x1, x2]) (.agg #[y1, y2]) (b1 && b2) := by
  refine eqIs_run (fun op xo yo w _ _ => guard_agg hg op xo yo w) fun w hw => ⟨w, ⟨hw, SameIO.refl w⟩, ?_⟩
  have e : (9999 : Nat) = 9998 + 1 := rfl
  rw [e]
  generalize 9998 = d
  have p1 : ∀ (u v : Value) (w : World), (part f1.type #[u, v] f1.offset).run P w = .ok u w := fun u v w => by simp [part, run_isAgg' hok1, ha1, ho1]
  have p2 : ∀ (u v : Value) (w : World), (part f2.type #[u, v] f2.offset).run P w = .ok v w := fun u v w => by simp [part, run_isAgg' hok2, ha2, ho2]
  have r1 := fun w => scal_run (P := P) d hs1 he1 w
  have r2 := fun w => scal_run (P := P) d hs2 he2 w
  rw [Op.equalIn]
  simp only [Sem.run_bind, run_underlying hu, Result.andThen_ok, run_program, hst, Bool.false_eq_true, if_false]
  cases b1 <;> cases b2 <;> simp [hn1, hn2, p1, p2, r1, r2]

theorem EqIs.det {t : TypeId} {c : Bool} {H : Heap} {x y : Value} {b b' : Bool} (h : EqIs P t c H x y b) (h' : EqIs P t c H x y b') : b = b' := by
  have key : ∀ (xo yo : Operand), (isC xo || isC yo) = c → b = b' := by
    intro xo yo hc
    obtain ⟨w1, _, e1⟩ := h .eql { (default : World) with heap := H } xo yo (.inl rfl) hc rfl
    obtain ⟨w2, _, e2⟩ := h' .eql { (default : World) with heap := H } xo yo (.inl rfl) hc rfl
    rw [e1] at e2
    injection e2
  cases c
  · exact key (.tmp 0) (.tmp 0) rfl
  · exact key (.const .nilIface) (.tmp 0) rfl

theorem EqP.eq {t : TypeId} {c : Bool} {H : Heap} {x y : Value} {b : Bool} {K : Bool → Prop} (h : EqIs P t c H x y b) : EqP P t c H x y K = K b :=
  propext ⟨fun ⟨b', h', k⟩ => EqIs.det h' h ▸ k, fun k => ⟨b, h, k⟩⟩

def scalU : TypeDesc → Value → Bool
  | .int _, .int _ _ => true
  | .string, .string _ => true
  | .bool, .bool _ => true
  | _, _ => false
theorem isScal_of {t : TypeId} {u : TypeDesc} {x : Value} (hu : P.underlying t = some u) (h : scalU u x = true) : isScal P t x = true := by
  unfold isScal
  rw [hu]
  cases u <;> cases x <;> first | rfl | exact (Bool.noConfusion h)
theorem le_sz {t : TypeId} (n : Nat) (h : sizeT P t = n + 1) : 1 ≤ sizeT P t := by omega
end Go.X
