/- The statement of this text's name, out of its plain law and its contract; no condition is added. -/
import Derived.Test.YtfedmcehkpfciaaGreatRows
import Derived.Test.YtfedmcehkpfciaaGreatPx31
import Derived.Test.YtfedmcehkpfciaaGreatPureBoringChecks
import Derived.Test.YtfedmcehkpfciaaGreatKs
import Derived.WalkKit
import Derived.ProofKit
import Derived.OpenShut
import Derived.ShutString
import Derived.ChangeOld
import Derived.Below
import Derived.SizedLaws
namespace Go.Proofs.YtfedmcehkpfciaaGreat.boringChecks
open Go.ChangeShapes Go.WideShapes Go.ChangeAt Go.RowKit Go.Proofs.YtfedmcehkpfciaaGreatW.PrintWords Go.Proofs.YtfedmcehkpfciaaGreat.P Go.Proofs.YtfedmcehkpfciaaGreat.Open Go.Proofs.YtfedmcehkpfciaaGreat.Ks
set_option linter.unusedVariables false
theorem own : ownKnob Tryz.prog.godebug = none := by kernel_rfl
theorem laidOut : laidOutB Tryz.prog = true := by kernel_rfl
set_option maxRecDepth 100000 in
theorem lifted (os : Os) (started : os.Started) (H : Type) (enc : TypeId × Value → H) :
    ReturnsInHanded {} Tryz.checked os 3 .any (Rows.boringChecksSpec.pre6 enc Tryz.prog Tryz.f3 Rows.boringChecksRow.domain false) (Rows.boringChecksSpec.post enc Tryz.prog Tryz.f3 false true false false) := by
  refine returnsInHanded_of_change_sized (C := Tryz.checked) own started (by kernel_rfl) Tryz.func3
    (ChangeSpec.witness6 (enc := enc) (C := Tryz.checked) false ⟨#[], #[.slice none 0 0, .agg #[.int .i64 0, .int .i64 0, .int .i64 0, .int .i64 0, .int .i64 0, .int .i64 0]], []⟩ 8 (by kernel_rfl) (by kernel_rfl) (by kernel_rfl) (by kernel_rfl)) ?_
  intro W base args ds gs before hval0 hW hcnd hsz0 _
  have hval : ∀ (j : Nat) t v, Tryz.f3.params[j]? = some t → args[j]? = some v → Value.okWide Tryz.prog W .any base t v := hval0
  have hW' := hW
  obtain ⟨p, q, hA0, hV, rfl, hfz, hnd⟩ := hW
  have hA : DataW.TrodAll enc Tryz.prog W 0 (fun _ => true) true Tryz.f3.params.toList args.toList ds p := hA0
  rw [Tryz.params3] at hA hval
  obtain ⟨v0, vs0, d0, ds0, p0, q0, hargs, rfl, rfl, h0, r0⟩ := trodAll_cons hA
  obtain ⟨v1, vs1, d1, ds1, p1, q1, rfl, rfl, rfl, h1, r1⟩ := trodAll_cons r0
  obtain ⟨rfl, rfl, rfl⟩ := trodAll_nil r1
  obtain rfl : args = #[v0, v1] := by cases args; simp_all
  obtain ⟨rfl, rfl⟩ := trodVars_none hV
  have k0 := h0
  obtain ⟨A0, x0, c0, rfl, hc0, hr0, g0⟩ := open_row Tryz.underlying22 (opens_slice Tryz.underlying22 (by kernel_rfl) opens33) (hval 0 22 v0 rfl rfl) h0
  have k1 := h1
  obtain ⟨x1, cs1, rfl, hK1, g1⟩ := open_agg Tryz.underlying26 opens26 (hval 1 26 v1 rfl rfl) h1
  obtain rfl := k26_open hK1
  obtain ⟨k, hk⟩ := Pure.BoringChecks x0 x1 g0 g1
  clear hA0 hval0 hsz0
  refine (gangsawlaw14_BoringChecks.calls (k := k) (A0 := A0) (c0 := c0) (l0 := x0) (hr0 := hr0) (hc0 := hc0) (a1_0 := x1.f0.f0) (a1_1 := x1.f0.f1) (a1_2 := x1.f0.f2) (a1_3 := x1.f1.f0) (a1_4 := x1.f1.f1) (a1_5 := x1.f1.f2) (r := true) (w := W) (h := hk) (hr := rfl)).mono fun e W' ⟨he, bel0⟩ => ?_
  have bel : Below W.heap.size W W' := bel0
  subst he
  exact ⟨_, rfl, _, _, _, [], _, [], hW', trodAll_mk1 (shut_bool Tryz.underlying4 _), (trodAll_cons_mk (Below.trod laidOut (by kernel_rfl) (of_decide_eq_true (by kernel_rfl)) k0 bel (trod_lt k0)) (trodAll_cons_mk (Below.trod laidOut (by kernel_rfl) (of_decide_eq_true (by kernel_rfl)) k1 bel (trod_lt k1)) trodAll_mk0)), rfl, bel.frame _, fun h => by cases h⟩
theorem over : Rows.boringChecksRow.holds Tryz.pinned (OpenSpec.ofChange Rows.boringChecksSpec) :=
  OpenClaim.holds_of_wide 3 Tryz.f3 rfl rfl rfl rfl rfl rfl rfl ⟨rfl, rfl, rfl, rfl, rfl⟩ rfl rfl rfl rfl rfl (by kernel_rfl) Tryz.func3 (by kernel_rfl)
    (of_decide_eq_true (by kernel_rfl)) (by unfold Func.isWrapper; first | (rw [if_pos (by decide +kernel)]; kernel_rfl) | (rw [if_neg (by decide +kernel)]; exact ⟨rfl, rfl⟩))
    (fun os started H enc _ => lifted os started H enc)
theorem proved : Rows.BoringChecksSaid := over
end Go.Proofs.YtfedmcehkpfciaaGreat.boringChecks
namespace Go.Proofs.YtfedmcehkpfciaaGreat
/-- The statement, proved. -/
theorem boringChecks_holds : Rows.BoringChecksSaid := boringChecks.proved
end Go.Proofs.YtfedmcehkpfciaaGreat
