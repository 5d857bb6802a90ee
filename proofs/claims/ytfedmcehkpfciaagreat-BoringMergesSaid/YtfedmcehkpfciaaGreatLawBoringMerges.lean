/- The statement of this text's name, out of its plain law and its contract; no condition is added. -/
import Derived.Test.YtfedmcehkpfciaaGreatRows
import Derived.Test.YtfedmcehkpfciaaGreatPx29
import Derived.Test.YtfedmcehkpfciaaGreatPureBoringMerges
import Derived.Test.YtfedmcehkpfciaaGreatKs
import Derived.WalkKit
import Derived.ProofKit
import Derived.OpenShut
import Derived.ShutString
import Derived.ChangeOld
import Derived.Below
import Derived.SizedLaws
namespace Go.Proofs.YtfedmcehkpfciaaGreat.boringMerges
open Go.ChangeShapes Go.WideShapes Go.ChangeAt Go.RowKit Go.Proofs.YtfedmcehkpfciaaGreatW.PrintWords Go.Proofs.YtfedmcehkpfciaaGreat.P Go.Proofs.YtfedmcehkpfciaaGreat.Open Go.Proofs.YtfedmcehkpfciaaGreat.Ks
set_option linter.unusedVariables false
theorem own : ownKnob Tryz.prog.godebug = none := by kernel_rfl
theorem laidOut : laidOutB Tryz.prog = true := by kernel_rfl
set_option maxRecDepth 100000 in
theorem lifted (os : Os) (started : os.Started) (H : Type) (enc : TypeId × Value → H) :
    ReturnsInHanded {} Tryz.checked os 5 .any (Rows.boringMergesSpec.pre6 enc Tryz.prog Tryz.f5 Rows.boringMergesRow.domain false) (Rows.boringMergesSpec.post enc Tryz.prog Tryz.f5 false true false false) := by
  refine returnsInHanded_of_change_sized (C := Tryz.checked) own started (by kernel_rfl) Tryz.func5
    (ChangeSpec.witness6 (enc := enc) (C := Tryz.checked) false ⟨#[], #[.agg #[.string ByteArray.empty, .int .i64 0, .int .i64 0, .slice none 0 0], .agg #[.string ByteArray.empty, .int .i64 0, .int .i64 0, .slice none 0 0]], []⟩ 8 (by kernel_rfl) (by kernel_rfl) (by kernel_rfl) (by kernel_rfl)) ?_
  intro W base args ds gs before hval0 hW hcnd hsz0 _
  have hval : ∀ (j : Nat) t v, Tryz.f5.params[j]? = some t → args[j]? = some v → Value.okWide Tryz.prog W .any base t v := hval0
  have hW' := hW
  obtain ⟨p, q, hA0, hV, rfl, hfz, hnd⟩ := hW
  have hA : DataW.TrodAll enc Tryz.prog W 0 (fun _ => true) true Tryz.f5.params.toList args.toList ds p := hA0
  rw [Tryz.params5] at hA hval
  obtain ⟨v0, vs0, d0, ds0, p0, q0, hargs, rfl, rfl, h0, r0⟩ := trodAll_cons hA
  obtain ⟨v1, vs1, d1, ds1, p1, q1, rfl, rfl, rfl, h1, r1⟩ := trodAll_cons r0
  obtain ⟨rfl, rfl, rfl⟩ := trodAll_nil r1
  obtain rfl : args = #[v0, v1] := by cases args; simp_all
  obtain ⟨rfl, rfl⟩ := trodVars_none hV
  have k0 := h0
  obtain ⟨x0, cs0, rfl, hK0, g0⟩ := open_agg Tryz.underlying33 opens33 (hval 0 33 v0 rfl rfl) h0
  obtain ⟨A0_3, c0_3, rfl, hc0_3, hr0_3⟩ := k33_open hK0
  have k1 := h1
  obtain ⟨x1, cs1, rfl, hK1, g1⟩ := open_agg Tryz.underlying33 opens33 (hval 1 33 v1 rfl rfl) h1
  obtain ⟨A1_3, c1_3, rfl, hc1_3, hr1_3⟩ := k33_open hK1
  obtain ⟨k, hk⟩ := Pure.BoringMerges x0 x1 g0 g1
  clear hA0 hval0 hsz0
  refine (gangsawlaw14_BoringMerges.calls (k := k) (a0_0 := x0.f0) (a0_1 := x0.f1.f0) (a0_2 := x0.f1.f1) (A0_3 := A0_3) (c0_3 := c0_3) (l0_3 := x0.f2) (hr0_3 := hr0_3) (hc0_3 := hc0_3) (a1_0 := x1.f0) (a1_1 := x1.f1.f0) (a1_2 := x1.f1.f1) (A1_3 := A1_3) (c1_3 := c1_3) (l1_3 := x1.f2) (hr1_3 := hr1_3) (hc1_3 := hc1_3) (r := true) (w := W) (h := hk) (hr := rfl)).mono fun e W' ⟨he, bel0⟩ => ?_
  have bel : Below W.heap.size W W' := bel0
  subst he
  exact ⟨_, rfl, _, _, _, [], _, [], hW', trodAll_mk1 (shut_bool Tryz.underlying4 _), (trodAll_cons_mk (Below.trod laidOut (by kernel_rfl) (of_decide_eq_true (by kernel_rfl)) k0 bel (trod_lt k0)) (trodAll_cons_mk (Below.trod laidOut (by kernel_rfl) (of_decide_eq_true (by kernel_rfl)) k1 bel (trod_lt k1)) trodAll_mk0)), rfl, bel.frame _, fun h => by cases h⟩
theorem over : Rows.boringMergesRow.holds Tryz.pinned (OpenSpec.ofChange Rows.boringMergesSpec) :=
  OpenClaim.holds_of_wide 5 Tryz.f5 rfl rfl rfl rfl rfl rfl rfl ⟨rfl, rfl, rfl, rfl, rfl⟩ rfl rfl rfl rfl rfl (by kernel_rfl) Tryz.func5 (by kernel_rfl)
    (of_decide_eq_true (by kernel_rfl)) (by unfold Func.isWrapper; first | (rw [if_pos (by decide +kernel)]; kernel_rfl) | (rw [if_neg (by decide +kernel)]; exact ⟨rfl, rfl⟩))
    (fun os started H enc _ => lifted os started H enc)
theorem proved : Rows.BoringMergesSaid := over
end Go.Proofs.YtfedmcehkpfciaaGreat.boringMerges
namespace Go.Proofs.YtfedmcehkpfciaaGreat
/-- The statement, proved. -/
theorem boringMerges_holds : Rows.BoringMergesSaid := boringMerges.proved
end Go.Proofs.YtfedmcehkpfciaaGreat
