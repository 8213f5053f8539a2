/- The statement ZsetScans holds: for every input the Go function returns true, and what it was given is as it was. Conditions: none. -/
import Derived.Test.YtochkahbnhegaaaGreatZS17
import Derived.Test.YtochkahbnhegaaaGreatZS20
set_option linter.unusedVariables false
set_option linter.unusedSimpArgs false
namespace Go.Proofs.YtochkahbnhegaaaGreat
open Go Go.X Go.X.W Go.ChangeShapes Go.WideShapes Go.ChangeAt Go.RowKit

set_option maxRecDepth 100000 in
theorem zsetScans_lifted (os : Os) (started : os.Started) (H : Type) (enc : TypeId × Value → H) :
    ReturnsInHanded {} Tryz.checked os 9 .any (Rows.zsetScansSpec.pre6 enc Tryz.prog Tryz.f9 Rows.zsetScansRow.domain false) (Rows.zsetScansSpec.post enc Tryz.prog Tryz.f9 false true false false) := by
  refine returnsInHanded_of_change (C := Tryz.checked) own_law started (by kernel_rfl) Tryz.func9
    (ChangeSpec.witness6 (enc := enc) (C := Tryz.checked) false ⟨#[], #[.agg #[.int .i64 0, .int .i64 0], .int .u32 0, .slice none 0 0], []⟩ 8 (by kernel_rfl) (by kernel_rfl) (by kernel_rfl) (by kernel_rfl)) ?_
  intro W base args ds gs before hval0 hW hcnd _
  have hval : ∀ (j : Nat) t v, Tryz.f9.params[j]? = some t → args[j]? = some v → Value.okWide Tryz.prog W .any base t v := hval0
  have hW' := hW
  obtain ⟨p, q, hA0, hV, rfl, hfz, hnd⟩ := hW
  have hA : DataW.TrodAll enc Tryz.prog W 0 (fun _ => true) true Tryz.f9.params.toList args.toList ds p := hA0
  rw [Tryz.params9] at hA hval
  obtain ⟨v0, vs0, d0, ds0, p0, q0, hargs, rfl, rfl, h0, r0⟩ := trodAll_cons hA
  obtain ⟨v1, vs1, d1, ds1, p1, q1, rfl, rfl, rfl, h1, r1⟩ := trodAll_cons r0
  obtain ⟨v2, vs2, d2, ds2, p2, q2, rfl, rfl, rfl, h2, r2⟩ := trodAll_cons r1
  obtain ⟨rfl, rfl, rfl⟩ := trodAll_nil r2
  obtain rfl : args = #[v0, v1, v2] := by cases args; simp_all
  obtain ⟨rfl, rfl⟩ := trodVars_none hV
  obtain ⟨c0, rfl, l0, k0⟩ := open_cks (cks := limK) Tryz.underlying23 (by kernel_rfl) (by kernel_rfl) (hval 0 23 v0 rfl rfl) h0
  obtain ⟨le0, lm0, rfl⟩ := lim_row l0 k0
  obtain ⟨n1, rfl, _, _, _⟩ := open_int Tryz.underlying24 (hval 1 24 v1 rfl rfl) h1
  obtain ⟨rows2, a2, _, k2⟩ := open_rowsV (cks := actK) Tryz.underlying25 Tryz.underlying30 (by kernel_rfl) (by kernel_rfl) (hval 2 25 v2 rfl rfl) h2
  obtain ⟨acts2, rfl, y2⟩ := acts_of k2
  have hc : CallH Tryz.prog 9 [.agg #[.int .i64 le0, .int .i64 lm0], .int .u32 n1, v2] W.heap fun v H' => v = .bool true ∧ Frm E0 W.heap H' :=
    zsetScans_h (fr := allM W.heap) (has_all _) (fun H' h => a2.keep (all_frm h)) y2 fun H' h => ⟨rfl, all_frm h⟩
  refine (hc.2 W rfl).mono fun e W' ⟨v, he, ⟨hv, hf⟩, hio⟩ => ?_
  subst he; subst hv
  refine ⟨_, rfl, post_law (t := 4) laidOut_law hW' rfl rfl (by kernel_rfl) Tryz.underlying4 ?_ (fun b hb => hf.eq b hb id) hio⟩
  intro t ht
  rw [Tryz.params9] at ht
  simp only [List.mem_cons, List.not_mem_nil, or_false] at ht
  rcases ht with rfl | rfl | rfl <;> exact ⟨by kernel_rfl, of_decide_eq_true (by kernel_rfl)⟩

theorem zsetScans_holds : Rows.ZsetScansSaid :=
  OpenClaim.holds_of_wide 9 Tryz.f9 rfl rfl rfl rfl rfl rfl rfl ⟨rfl, rfl, rfl, rfl, rfl⟩ rfl rfl rfl rfl rfl (by kernel_rfl) Tryz.func9 (by kernel_rfl)
    (of_decide_eq_true (by kernel_rfl)) (by unfold Func.isWrapper; first | (rw [if_pos (by decide +kernel)]; kernel_rfl) | (rw [if_neg (by decide +kernel)]; exact ⟨rfl, rfl⟩))
    (fun os started H enc _ => zsetScans_lifted os started H enc)
end Go.Proofs.YtochkahbnhegaaaGreat
