/- The statement of this text's name, out of its plain law and its contract; no condition is added. -/
import Derived.Test.YtlbpdhjdlnhciaaRows
import Derived.Test.YtlbpdhjdlnhciaaSymB
import Derived.Test.YtlbpdhjdlnhciaaPureSawSmaller
import Derived.Test.YtlbpdhjdlnhciaaKs
import Derived.WalkKit
import Derived.ProofKit
import Derived.OpenShut
import Derived.ShutString
import Derived.ChangeOld
import Derived.Below
import Derived.SizedLaws
namespace Go.Proofs.Ytlbpdhjdlnhciaa.sawSmaller
open Go.ChangeShapes Go.WideShapes Go.ChangeAt Go.RowKit Go.Proofs.YtlbpdhjdlnhciaaW.PrintWords Go.Proofs.Ytlbpdhjdlnhciaa.P Go.Proofs.Ytlbpdhjdlnhciaa.Open Go.Proofs.Ytlbpdhjdlnhciaa.Ks Go.Proofs.Ytlbpdhjdlnhciaa.SymB
set_option linter.unusedVariables false
theorem own : ownKnob Try.prog.godebug = none := by kernel_rfl
theorem laidOut : laidOutB Try.prog = true := by kernel_rfl
set_option maxRecDepth 100000 in
theorem lifted (os : Os) (started : os.Started) (H : Type) (enc : TypeId × Value → H) :
    ReturnsInHanded {} Try.checked os 6 .any (Rows.sawSmallerSpec.pre6 enc Try.prog Try.f6 Rows.sawSmallerRow.domain false) (Rows.sawSmallerSpec.post enc Try.prog Try.f6 false true false false) := by
  refine returnsInHanded_of_change_sized (C := Try.checked) own started (by kernel_rfl) Try.func6
    (ChangeSpec.witness6 (enc := enc) (C := Try.checked) false ⟨#[], #[.agg #[.string ByteArray.empty, .int .i64 0, .int .i64 0, .int .i64 0, .int .i64 0, .int .i64 0, .int .i64 0, .int .i64 0], .agg #[.int .i64 0, .int .i64 0, .int .i64 0, .int .i64 0, .int .i64 0, .int .i64 0], .int .i64 0, .int .i64 0, .agg #[.int .i64 0, .int .i64 0, .int .i64 0]], []⟩ 8 (by kernel_rfl) (by kernel_rfl) (by kernel_rfl) (by kernel_rfl)) ?_
  intro W base args ds gs before hval0 hW hcnd hsz0 _
  have hval : ∀ (j : Nat) t v, Try.f6.params[j]? = some t → args[j]? = some v → Value.okWide Try.prog W .any base t v := hval0
  have hW' := hW
  obtain ⟨p, q, hA0, hV, rfl, hfz, hnd⟩ := hW
  have hA : DataW.TrodAll enc Try.prog W 0 (fun _ => true) true Try.f6.params.toList args.toList ds p := hA0
  rw [Try.params6] at hA hval
  obtain ⟨v0, vs0, d0, ds0, p0, q0, hargs, rfl, rfl, h0, r0⟩ := trodAll_cons hA
  obtain ⟨v1, vs1, d1, ds1, p1, q1, rfl, rfl, rfl, h1, r1⟩ := trodAll_cons r0
  obtain ⟨v2, vs2, d2, ds2, p2, q2, rfl, rfl, rfl, h2, r2⟩ := trodAll_cons r1
  obtain ⟨v3, vs3, d3, ds3, p3, q3, rfl, rfl, rfl, h3, r3⟩ := trodAll_cons r2
  obtain ⟨v4, vs4, d4, ds4, p4, q4, rfl, rfl, rfl, h4, r4⟩ := trodAll_cons r3
  obtain ⟨rfl, rfl, rfl⟩ := trodAll_nil r4
  obtain rfl : args = #[v0, v1, v2, v3, v4] := by cases args; simp_all
  obtain ⟨rfl, rfl⟩ := trodVars_none hV
  have k0 := h0
  obtain ⟨x0, cs0, rfl, hK0, g0⟩ := open_agg Try.underlying37 opens37 (hval 0 37 v0 rfl rfl) h0
  obtain rfl := k37_open hK0
  have k1 := h1
  obtain ⟨x1, cs1, rfl, hK1, g1⟩ := open_agg Try.underlying30 opens30 (hval 1 30 v1 rfl rfl) h1
  obtain rfl := k30_open hK1
  have k2 := h2
  obtain ⟨x2, rfl, g2⟩ := open_int1 Try.underlying3 (hval 2 3 v2 rfl rfl) h2
  have k3 := h3
  obtain ⟨x3, rfl, g3⟩ := open_int1 Try.underlying3 (hval 3 3 v3 rfl rfl) h3
  have k4 := h4
  obtain ⟨x4, cs4, rfl, hK4, g4⟩ := open_agg Try.underlying28 opens28 (hval 4 28 v4 rfl rfl) h4
  obtain rfl := k28_open hK4
  have hk := Pure.SawSmaller x0 x1 x2 x3 x4 g0 g1 g2 g3 g4
  clear hA0 hval0 hsz0
  refine (gangsawlaw29_SawSmaller.calls (a0_0 := x0.f0) (a0_1 := x0.f1) (a0_2 := x0.f2.f0) (a0_3 := x0.f2.f1) (a0_4 := x0.f2.f2) (a0_5 := x0.f3) (a0_6 := x0.f4) (a0_7 := x0.f5) (a1_0 := x1.f0.f0) (a1_1 := x1.f0.f1) (a1_2 := x1.f0.f2) (a1_3 := x1.f1.f0) (a1_4 := x1.f1.f1) (a1_5 := x1.f1.f2) (a2 := x2) (a3 := x3) (a4_0 := x4.f0) (a4_1 := x4.f1) (a4_2 := x4.f2) (r := true) (w := W) (h := hk)).mono fun e W' ⟨he, bel0⟩ => ?_
  have bel : Below W.heap.size W W' := bel0
  subst he
  exact ⟨_, rfl, _, _, _, [], _, [], hW', trodAll_mk1 (shut_bool Try.underlying4 _), (trodAll_cons_mk (Below.trod laidOut (by kernel_rfl) (of_decide_eq_true (by kernel_rfl)) k0 bel (trod_lt k0)) (trodAll_cons_mk (Below.trod laidOut (by kernel_rfl) (of_decide_eq_true (by kernel_rfl)) k1 bel (trod_lt k1)) (trodAll_cons_mk (Below.trod laidOut (by kernel_rfl) (of_decide_eq_true (by kernel_rfl)) k2 bel (trod_lt k2)) (trodAll_cons_mk (Below.trod laidOut (by kernel_rfl) (of_decide_eq_true (by kernel_rfl)) k3 bel (trod_lt k3)) (trodAll_cons_mk (Below.trod laidOut (by kernel_rfl) (of_decide_eq_true (by kernel_rfl)) k4 bel (trod_lt k4)) trodAll_mk0))))), rfl, bel.frame _, fun h => by cases h⟩
theorem over : Rows.sawSmallerRow.holds Try.pinned (OpenSpec.ofChange Rows.sawSmallerSpec) :=
  OpenClaim.holds_of_wide 6 Try.f6 rfl rfl rfl rfl rfl rfl rfl ⟨rfl, rfl, rfl, rfl, rfl⟩ rfl rfl rfl rfl rfl (by kernel_rfl) Try.func6 (by kernel_rfl)
    (of_decide_eq_true (by kernel_rfl)) (by unfold Func.isWrapper; first | (rw [if_pos (by decide +kernel)]; kernel_rfl) | (rw [if_neg (by decide +kernel)]; exact ⟨rfl, rfl⟩))
    (fun os started H enc _ => lifted os started H enc)
theorem proved : Rows.SawSmallerSaid := over
end Go.Proofs.Ytlbpdhjdlnhciaa.sawSmaller
namespace Go.Proofs.Ytlbpdhjdlnhciaa
/-- The statement, proved. -/
theorem sawSmaller_holds : Rows.SawSmallerSaid := sawSmaller.proved
end Go.Proofs.Ytlbpdhjdlnhciaa
