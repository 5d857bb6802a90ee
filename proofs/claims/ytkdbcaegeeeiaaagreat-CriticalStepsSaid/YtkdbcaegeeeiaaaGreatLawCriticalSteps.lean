/- The statement of this text's name, out of its plain law and its contract; no condition is added. -/
import Derived.Test.YtkdbcaegeeeiaaaGreatRows
import Derived.Test.YtkdbcaegeeeiaaaGreatPx12
import Derived.Test.YtkdbcaegeeeiaaaGreatPureCriticalSteps
import Derived.Test.YtkdbcaegeeeiaaaGreatKs
import Derived.WalkKit
import Derived.ProofKit
import Derived.OpenShut
import Derived.ShutString
import Derived.ChangeOld
import Derived.Below
import Derived.SizedLaws
namespace Go.Proofs.YtkdbcaegeeeiaaaGreat.criticalSteps
open Go.ChangeShapes Go.WideShapes Go.ChangeAt Go.RowKit Go.Proofs.YtkdbcaegeeeiaaaGreatW.PrintWords Go.Proofs.YtkdbcaegeeeiaaaGreat.P Go.Proofs.YtkdbcaegeeeiaaaGreat.Open Go.Proofs.YtkdbcaegeeeiaaaGreat.Ks
set_option linter.unusedVariables false
theorem own : ownKnob Tryz.prog.godebug = none := by kernel_rfl
theorem laidOut : laidOutB Tryz.prog = true := by kernel_rfl
set_option maxRecDepth 100000 in
theorem lifted (os : Os) (started : os.Started) (H : Type) (enc : TypeId × Value → H) :
    ReturnsInHanded {} Tryz.checked os 10 .any (Rows.criticalStepsSpec.pre6 enc Tryz.prog Tryz.f10 Rows.criticalStepsRow.domain false) (Rows.criticalStepsSpec.post enc Tryz.prog Tryz.f10 false true false false) := by
  refine returnsInHanded_of_change_sized (C := Tryz.checked) own started (by kernel_rfl) Tryz.func10
    (ChangeSpec.witness6 (enc := enc) (C := Tryz.checked) false ⟨#[], #[.agg #[.string ByteArray.empty, .slice none 0 0, .int .i64 0, .int .i64 0, .int .i64 0]], []⟩ 8 (by kernel_rfl) (by kernel_rfl) (by kernel_rfl) (by kernel_rfl)) ?_
  intro W base args ds gs before hval0 hW hcnd hsz0 _
  have hval : ∀ (j : Nat) t v, Tryz.f10.params[j]? = some t → args[j]? = some v → Value.okWide Tryz.prog W .any base t v := hval0
  have hW' := hW
  obtain ⟨p, q, hA0, hV, rfl, hfz, hnd⟩ := hW
  have hA : DataW.TrodAll enc Tryz.prog W 0 (fun _ => true) true Tryz.f10.params.toList args.toList ds p := hA0
  rw [Tryz.params10] at hA hval
  obtain ⟨v0, vs0, d0, ds0, p0, q0, hargs, rfl, rfl, h0, r0⟩ := trodAll_cons hA
  obtain ⟨rfl, rfl, rfl⟩ := trodAll_nil r0
  obtain rfl : args = #[v0] := by cases args; simp_all
  obtain ⟨rfl, rfl⟩ := trodVars_none hV
  have k0 := h0
  obtain ⟨x0, cs0, rfl, hK0, g0⟩ := open_agg Tryz.underlying38 opens38 (hval 0 38 v0 rfl rfl) h0
  obtain ⟨A0_1, c0_1, rfl, hc0_1, hr0_1⟩ := k38_open hK0
  obtain ⟨k, hk⟩ := Pure.CriticalSteps x0 g0
  clear hA0 hval0 hsz0
  refine (gangsawlaw52_CriticalSteps.calls (k := k) (a0_0 := x0.f0) (A0_1 := A0_1) (c0_1 := c0_1) (l0_1 := x0.f1) (hr0_1 := hr0_1) (hc0_1 := hc0_1) (a0_2 := x0.f2) (a0_3 := x0.f3) (a0_4 := x0.f4) (r := true) (w := W) (h := hk) (hr := rfl)).mono fun e W' ⟨he, bel0⟩ => ?_
  have bel : Below W.heap.size W W' := bel0
  subst he
  exact ⟨_, rfl, _, _, _, [], _, [], hW', trodAll_mk1 (shut_bool Tryz.underlying4 _), (trodAll_cons_mk (Below.trod laidOut (by kernel_rfl) (of_decide_eq_true (by kernel_rfl)) k0 bel (trod_lt k0)) trodAll_mk0), rfl, bel.frame _, fun h => by cases h⟩
theorem over : Rows.criticalStepsRow.holds Tryz.pinned (OpenSpec.ofChange Rows.criticalStepsSpec) :=
  OpenClaim.holds_of_wide 10 Tryz.f10 rfl rfl rfl rfl rfl rfl rfl ⟨rfl, rfl, rfl, rfl, rfl⟩ rfl rfl rfl rfl rfl (by kernel_rfl) Tryz.func10 (by kernel_rfl)
    (of_decide_eq_true (by kernel_rfl)) (by unfold Func.isWrapper; first | (rw [if_pos (by decide +kernel)]; kernel_rfl) | (rw [if_neg (by decide +kernel)]; exact ⟨rfl, rfl⟩))
    (fun os started H enc _ => lifted os started H enc)
theorem proved : Rows.CriticalStepsSaid := over
end Go.Proofs.YtkdbcaegeeeiaaaGreat.criticalSteps
namespace Go.Proofs.YtkdbcaegeeeiaaaGreat
/-- The statement, proved. -/
theorem criticalSteps_holds : Rows.CriticalStepsSaid := criticalSteps.proved
end Go.Proofs.YtkdbcaegeeeiaaaGreat
