/- The statement ZsetWays holds: for every limits, seed and acts the Go function returns true, and what it was given is as it was. Conditions: none. -/
import Derived.Test.YtochkahbnhegaaaGreatZW17
import Derived.Test.YtochkahbnhegaaaGreatRows
set_option linter.unusedVariables false
set_option linter.unusedSimpArgs false
namespace Go.Proofs.YtochkahbnhegaaaGreat
open Go Go.X Go.X.W Go.ChangeShapes Go.WideShapes Go.ChangeAt Go.RowKit

theorem own_ways : ownKnob Tryz.prog.godebug = none := by kernel_rfl
theorem laidOut_ways : laidOutB Tryz.prog = true := by kernel_rfl
abbrev actK : List CK := [.int .i64, .str, .int .i64, .int .i64, .int .i64, .int .i64]
abbrev limK : List CK := [.int .i64, .int .i64]

theorem list2 {α : Type} {l : List α} {p : Nat → α → Prop} (h : l.length = 2) (hp : ∀ i x, l[i]? = some x → p i x) : ∃ a b, l = [a, b] ∧ p 0 a ∧ p 1 b := by
  match l, h with
  | [a, b], _ => exact ⟨a, b, rfl, hp 0 a rfl, hp 1 b rfl⟩
theorem act_row {r : List Value} (hl : r.length = 6) (h : ∀ (i : Nat) ck, actK[i]? = some ck → ∃ u, r[i]? = some u ∧ ck.ok u) : ∃ x, r = actC x ∧ ActOk x := by
  match r, hl with
  | [a, b, c, d, e, f], _ =>
    obtain ⟨_, e0, h0⟩ := h 0 _ rfl; simp only [List.getElem?_cons_zero, Option.some.injEq] at e0; subst e0
    obtain ⟨_, e1, h1⟩ := h 1 _ rfl; simp only [List.getElem?_cons_zero, List.getElem?_cons_succ, Option.some.injEq] at e1; subst e1
    obtain ⟨_, e2, h2⟩ := h 2 _ rfl; simp only [List.getElem?_cons_zero, List.getElem?_cons_succ, Option.some.injEq] at e2; subst e2
    obtain ⟨_, e3, h3⟩ := h 3 _ rfl; simp only [List.getElem?_cons_zero, List.getElem?_cons_succ, Option.some.injEq] at e3; subst e3
    obtain ⟨_, e4, h4⟩ := h 4 _ rfl; simp only [List.getElem?_cons_zero, List.getElem?_cons_succ, Option.some.injEq] at e4; subst e4
    obtain ⟨_, e5, h5⟩ := h 5 _ rfl; simp only [List.getElem?_cons_zero, List.getElem?_cons_succ, Option.some.injEq] at e5; subst e5
    obtain ⟨n0, rfl, _⟩ := ck_i64 h0
    obtain ⟨s, rfl, _⟩ := h1
    obtain ⟨n2, rfl, r2⟩ := ck_i64 h2
    obtain ⟨n3, rfl, _⟩ := ck_i64 h3
    obtain ⟨n4, rfl, _⟩ := ck_i64 h4
    obtain ⟨n5, rfl, _⟩ := ck_i64 h5
    exact ⟨⟨n0, s, n2, n3, n4, n5⟩, rfl, r2⟩
theorem lim_row {cs : List Value} (hl : cs.length = 2) (h : ∀ (i : Nat) ck, limK[i]? = some ck → ∃ u, cs[i]? = some u ∧ ck.ok u) : ∃ le lm, cs = [.int .i64 le, .int .i64 lm] := by
  match cs, hl with
  | [a, b], _ =>
    obtain ⟨_, e0, h0⟩ := h 0 _ rfl; simp only [List.getElem?_cons_zero, Option.some.injEq] at e0; subst e0
    obtain ⟨_, e1, h1⟩ := h 1 _ rfl; simp only [List.getElem?_cons_zero, List.getElem?_cons_succ, Option.some.injEq] at e1; subst e1
    obtain ⟨n0, rfl, _⟩ := ck_i64 h0
    obtain ⟨n1, rfl, _⟩ := ck_i64 h1
    exact ⟨n0, n1, rfl⟩

set_option maxRecDepth 100000 in
theorem zsetWays_lifted (os : Os) (started : os.Started) (H : Type) (enc : TypeId × Value → H) :
    ReturnsInHanded {} Tryz.checked os 3 .any (Rows.zsetWaysSpec.pre6 enc Tryz.prog Tryz.f3 Rows.zsetWaysRow.domain false) (Rows.zsetWaysSpec.post enc Tryz.prog Tryz.f3 false true false false) := by
  refine returnsInHanded_of_change (C := Tryz.checked) own_ways started (by kernel_rfl) Tryz.func3
    (ChangeSpec.witness6 (enc := enc) (C := Tryz.checked) false ⟨#[], #[.agg #[.int .i64 0, .int .i64 0], .int .u32 0, .slice none 0 0], []⟩ 8 (by kernel_rfl) (by kernel_rfl) (by kernel_rfl) (by kernel_rfl)) ?_
  intro W base args ds gs before hval0 hW hcnd _
  have hval : ∀ (j : Nat) t v, Tryz.f3.params[j]? = some t → args[j]? = some v → Value.okWide Tryz.prog W .any base t v := hval0
  have hW' := hW
  obtain ⟨p, q, hA0, hV, rfl, hfz, hnd⟩ := hW
  have hA : DataW.TrodAll enc Tryz.prog W 0 (fun _ => true) true Tryz.f3.params.toList args.toList ds p := hA0
  rw [Tryz.params3] at hA hval
  obtain ⟨v0, v1, v2, d0, d1, d2, p0, p1, p2, rfl, rfl, rfl, h0, h1, h2⟩ := trodAll_three hA
  obtain ⟨rfl, rfl⟩ := trodVars_none hV
  obtain ⟨c0, rfl, l0, k0⟩ := open_cks (cks := limK) Tryz.underlying23 (by kernel_rfl) (by kernel_rfl) (hval 0 23 v0 rfl rfl) h0
  obtain ⟨le, lm, rfl⟩ := lim_row l0 k0
  obtain ⟨seed, rfl, _, _, _⟩ := open_int Tryz.underlying24 (hval 1 24 v1 rfl rfl) h1
  obtain ⟨rows, hr, _, hk⟩ := open_rowsV (cks := actK) Tryz.underlying25 Tryz.underlying30 (by kernel_rfl) (by kernel_rfl) (hval 2 25 v2 rfl rfl) h2
  have hc : CallH Tryz.prog 3 [.agg #[.int .i64 le, .int .i64 lm], .int .u32 seed, v2] W.heap fun v H' => v = .bool true ∧ Frm E0 W.heap H' :=
    zsetWays_h (fr := allM W.heap) (rows := rows) (has_all _) (fun H' h => hr.keep (all_frm h)) (fun r hr => act_row (hk r hr).1 (hk r hr).2) fun H' h => ⟨rfl, all_frm h⟩
  refine (hc.2 W rfl).mono fun e W' ⟨v, he, ⟨hv, hf⟩, hio⟩ => ?_
  subst he; subst hv
  refine ⟨_, rfl, post_law (t := 4) laidOut_ways hW' rfl rfl (by kernel_rfl) Tryz.underlying4 ?_ (fun b hb => hf.eq b hb id) hio⟩
  intro t ht
  rw [Tryz.params3] at ht
  simp only [List.mem_cons, List.not_mem_nil, or_false] at ht
  rcases ht with rfl | rfl | rfl <;> exact ⟨by kernel_rfl, of_decide_eq_true (by kernel_rfl)⟩

theorem zsetWays_holds : Rows.ZsetWaysSaid :=
  OpenClaim.holds_of_wide 3 Tryz.f3 rfl rfl rfl rfl rfl rfl rfl ⟨rfl, rfl, rfl, rfl, rfl⟩ rfl rfl rfl rfl rfl (by kernel_rfl) Tryz.func3 (by kernel_rfl)
    (of_decide_eq_true (by kernel_rfl)) (by unfold Func.isWrapper; first | (rw [if_pos (by decide +kernel)]; kernel_rfl) | (rw [if_neg (by decide +kernel)]; exact ⟨rfl, rfl⟩))
    (fun os started H enc _ => zsetWays_lifted os started H enc)
end Go.Proofs.YtochkahbnhegaaaGreat
