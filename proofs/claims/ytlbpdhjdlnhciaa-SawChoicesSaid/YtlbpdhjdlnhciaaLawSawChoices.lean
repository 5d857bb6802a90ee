/- The statement of this text's name, out of its plain law and its contract; no condition is added. -/
import Derived.Test.YtlbpdhjdlnhciaaRows
import Derived.Test.YtlbpdhjdlnhciaaPx11
import Derived.Test.YtlbpdhjdlnhciaaPureSawChoices
import Derived.Test.YtlbpdhjdlnhciaaKs
import Derived.WalkKit
import Derived.ProofKit
import Derived.OpenShut
import Derived.ShutString
import Derived.ChangeOld
import Derived.Below
import Derived.SizedLaws
namespace Go.Proofs.Ytlbpdhjdlnhciaa.sawChoices
open Go.ChangeShapes Go.WideShapes Go.ChangeAt Go.RowKit Go.Proofs.YtlbpdhjdlnhciaaW.PrintWords Go.Proofs.Ytlbpdhjdlnhciaa.P Go.Proofs.Ytlbpdhjdlnhciaa.Open Go.Proofs.Ytlbpdhjdlnhciaa.Ks
set_option linter.unusedVariables false
theorem own : ownKnob Try.prog.godebug = none := by kernel_rfl
theorem laidOut : laidOutB Try.prog = true := by kernel_rfl
set_option maxRecDepth 100000 in
theorem lifted (os : Os) (started : os.Started) (H : Type) (enc : TypeId × Value → H) :
    ReturnsInHanded {} Try.checked os 4 .any (Rows.sawChoicesSpec.pre6 enc Try.prog Try.f4 Rows.sawChoicesRow.domain false) (Rows.sawChoicesSpec.post enc Try.prog Try.f4 false true false false) := by
  refine returnsInHanded_of_change_sized (C := Try.checked) own started (by kernel_rfl) Try.func4
    (ChangeSpec.witness6 (enc := enc) (C := Try.checked) false ⟨#[], #[.slice none 0 0, .agg #[.int .i64 0, .int .i64 0, .int .i64 0, .int .i64 0, .int .i64 0, .int .i64 0], .int .i64 0, .int .i64 0], []⟩ 8 (by kernel_rfl) (by kernel_rfl) (by kernel_rfl) (by kernel_rfl)) ?_
  intro W base args ds gs before hval0 hW hcnd hsz0 _
  have hval : ∀ (j : Nat) t v, Try.f4.params[j]? = some t → args[j]? = some v → Value.okWide Try.prog W .any base t v := hval0
  have hW' := hW
  obtain ⟨p, q, hA0, hV, rfl, hfz, hnd⟩ := hW
  have hA : DataW.TrodAll enc Try.prog W 0 (fun _ => true) true Try.f4.params.toList args.toList ds p := hA0
  rw [Try.params4] at hA hval
  obtain ⟨v0, vs0, d0, ds0, p0, q0, hargs, rfl, rfl, h0, r0⟩ := trodAll_cons hA
  obtain ⟨v1, vs1, d1, ds1, p1, q1, rfl, rfl, rfl, h1, r1⟩ := trodAll_cons r0
  obtain ⟨v2, vs2, d2, ds2, p2, q2, rfl, rfl, rfl, h2, r2⟩ := trodAll_cons r1
  obtain ⟨v3, vs3, d3, ds3, p3, q3, rfl, rfl, rfl, h3, r3⟩ := trodAll_cons r2
  obtain ⟨rfl, rfl, rfl⟩ := trodAll_nil r3
  obtain rfl : args = #[v0, v1, v2, v3] := by cases args; simp_all
  obtain ⟨rfl, rfl⟩ := trodVars_none hV
  have k0 := h0
  obtain ⟨A0, x0, c0, rfl, hc0, hr0, g0⟩ := open_row Try.underlying22 (opens_slice Try.underlying22 (by kernel_rfl) opens37) (hval 0 22 v0 rfl rfl) h0
  have k1 := h1
  obtain ⟨x1, cs1, rfl, hK1, g1⟩ := open_agg Try.underlying30 opens30 (hval 1 30 v1 rfl rfl) h1
  obtain rfl := k30_open hK1
  have k2 := h2
  obtain ⟨x2, rfl, g2⟩ := open_int1 Try.underlying3 (hval 2 3 v2 rfl rfl) h2
  have k3 := h3
  obtain ⟨x3, rfl, g3⟩ := open_int1 Try.underlying3 (hval 3 3 v3 rfl rfl) h3
  obtain ⟨k, hk⟩ := Pure.SawChoices x0 x1 x2 x3 g0 g1 g2 g3
  clear hA0 hval0 hsz0
  refine (gangsawlaw29_SawChoices.calls (k := k) (A0 := A0) (c0 := c0) (l0 := x0) (hr0 := hr0) (hc0 := hc0) (a1_0 := x1.f0.f0) (a1_1 := x1.f0.f1) (a1_2 := x1.f0.f2) (a1_3 := x1.f1.f0) (a1_4 := x1.f1.f1) (a1_5 := x1.f1.f2) (a2 := x2) (a3 := x3) (r := true) (w := W) (h := hk) (hr := rfl)).mono fun e W' ⟨he, bel0⟩ => ?_
  have bel : Below W.heap.size W W' := bel0
  subst he
  exact ⟨_, rfl, _, _, _, [], _, [], hW', trodAll_mk1 (shut_bool Try.underlying4 _), (trodAll_cons_mk (Below.trod laidOut (by kernel_rfl) (of_decide_eq_true (by kernel_rfl)) k0 bel (trod_lt k0)) (trodAll_cons_mk (Below.trod laidOut (by kernel_rfl) (of_decide_eq_true (by kernel_rfl)) k1 bel (trod_lt k1)) (trodAll_cons_mk (Below.trod laidOut (by kernel_rfl) (of_decide_eq_true (by kernel_rfl)) k2 bel (trod_lt k2)) (trodAll_cons_mk (Below.trod laidOut (by kernel_rfl) (of_decide_eq_true (by kernel_rfl)) k3 bel (trod_lt k3)) trodAll_mk0)))), rfl, bel.frame _, fun h => by cases h⟩
theorem over : Rows.sawChoicesRow.holds Try.pinned (OpenSpec.ofChange Rows.sawChoicesSpec) :=
  OpenClaim.holds_of_wide 4 Try.f4 rfl rfl rfl rfl rfl rfl rfl ⟨rfl, rfl, rfl, rfl, rfl⟩ rfl rfl rfl rfl rfl (by kernel_rfl) Try.func4 (by kernel_rfl)
    (of_decide_eq_true (by kernel_rfl)) (by unfold Func.isWrapper; first | (rw [if_pos (by decide +kernel)]; kernel_rfl) | (rw [if_neg (by decide +kernel)]; exact ⟨rfl, rfl⟩))
    (fun os started H enc _ => lifted os started H enc)
theorem proved : Rows.SawChoicesSaid := over
end Go.Proofs.Ytlbpdhjdlnhciaa.sawChoices
namespace Go.Proofs.Ytlbpdhjdlnhciaa
/-- The statement, proved. -/
theorem sawChoices_holds : Rows.SawChoicesSaid := sawChoices.proved
end Go.Proofs.Ytlbpdhjdlnhciaa
