/- The statement of this text's name, out of its plain law and its contract; no condition is added. -/
import Derived.Test.YtankffbfocaibaaDoorRows
import Derived.Test.YtankffbfocaibaaDoorPx10
import Derived.Test.YtankffbfocaibaaDoorPureGradeWitness
import Derived.Test.YtankffbfocaibaaDoorKs
import Derived.Test.YtankffbfocaibaaDoorLaid
import Derived.Test.YtankffbfocaibaaDoorCards
import Derived.Test.YtankffbfocaibaaDoorTie
import Derived.LaidMore
import Derived.Stop.Joined
import Derived.WalkKit
import Derived.ProofKit
import Derived.OpenShut
import Derived.ShutString
import Derived.ChangeOld
import Derived.Below
import Derived.SizedLaws
namespace Go.Proofs.YtankffbfocaibaaDoor.gradeWitness
open Go.ChangeShapes Go.WideShapes Go.ChangeAt Go.RowKit Go.Proofs.YtankffbfocaibaaDoorW.PrintWords Go.Proofs.YtankffbfocaibaaDoor.P Go.Proofs.YtankffbfocaibaaDoor.Open Go.Proofs.YtankffbfocaibaaDoor.Ks
set_option linter.unusedVariables false
theorem own : ownKnob Tryd.prog.godebug = none := by kernel_rfl
theorem laidOut : laidOutB Tryd.prog = true := by kernel_rfl
set_option maxRecDepth 100000 in
theorem lifted (os : Os) (started : os.Started) (H : Type) (enc : TypeId × Value → H) :
    ReturnsInHanded {} Tryd.checked os 6 .any (fun w args => (Rows.gradeWitnessSpec.pre enc Tryd.prog Tryd.f6 Rows.gradeWitnessRow.domain false w args ∧ laidMetH Tryd.prog Laid.list w) ∧ sizedMet enc Tryd.prog Tryd.f6 (OpenSpec.ofChange Rows.gradeWitnessSpec) false w args) (Rows.gradeWitnessSpec.post enc Tryd.prog Tryd.f6 false true false false) := by
  refine returnsInHanded_of_change_and (C := Tryd.checked) (X := fun w _ => laidMetH Tryd.prog Laid.list w) (fun _ _ _ hh h => h.of_heap hh) own started (by kernel_rfl) Tryd.func6
    (ChangeSpec.witness_shaped (enc := enc) (C := Tryd.checked) (os := os) (X := fun w _ => laidMetH Tryd.prog Laid.list w) false (World.doorLaid Tryd.prog 400 os) #[.agg #[.string ByteArray.empty, .int .i64 0, .int .i64 0, .int .i64 0], .agg #[.string ByteArray.empty, .int .i64 0, .int .i64 0, .int .i64 0], .int .i64 0] 8 rfl (World.shaped_of_RefB (by kernel_rfl) (by kernel_rfl)) (by kernel_rfl) (by kernel_rfl) (by kernel_rfl) (Laid.door_met os _)) ?_
  intro W base args ds gs before hval0 hW hcnd hsz0 hL _
  have hval : ∀ (j : Nat) t v, Tryd.f6.params[j]? = some t → args[j]? = some v → Value.okWide Tryd.prog W .any base t v := hval0
  have hW' := hW
  obtain ⟨p, q, hA0, hV, rfl, hfz, hnd⟩ := hW
  have hA : DataW.TrodAll enc Tryd.prog W 0 (fun _ => true) true Tryd.f6.params.toList args.toList ds p := hA0
  rw [Tryd.params6] at hA hval
  obtain ⟨v0, vs0, d0, ds0, p0, q0, hargs, rfl, rfl, h0, r0⟩ := trodAll_cons hA
  obtain ⟨v1, vs1, d1, ds1, p1, q1, rfl, rfl, rfl, h1, r1⟩ := trodAll_cons r0
  obtain ⟨v2, vs2, d2, ds2, p2, q2, rfl, rfl, rfl, h2, r2⟩ := trodAll_cons r1
  obtain ⟨rfl, rfl, rfl⟩ := trodAll_nil r2
  obtain rfl : args = #[v0, v1, v2] := by cases args; simp_all
  obtain ⟨rfl, rfl⟩ := trodVars_none hV
  have k0 := h0
  obtain ⟨x0, cs0, rfl, hK0, g0⟩ := Go.Proofs.YtankffbfocaibaaDoor.Open.open_agg Tryd.underlying32 opens32 (hval 0 32 v0 rfl rfl) h0
  obtain rfl := k32_open hK0
  have k1 := h1
  obtain ⟨x1, cs1, rfl, hK1, g1⟩ := Go.Proofs.YtankffbfocaibaaDoor.Open.open_agg Tryd.underlying32 opens32 (hval 1 32 v1 rfl rfl) h1
  obtain rfl := k32_open hK1
  have k2 := h2
  obtain ⟨x2, rfl, g2⟩ := Go.Proofs.YtankffbfocaibaaDoor.Open.open_int1 Tryd.underlying3 (hval 2 3 v2 rfl rfl) h2
  obtain ⟨k, hk⟩ := Pure.GradeWitness x0 x1 x2 g0 g1 g2
  clear hA0 hval0 hsz0
  refine (gangsawlaw34_GradeWitness.calls (k := k) (a0_0 := x0.f0) (a0_1 := x0.f1) (a0_2 := x0.f2) (a0_3 := x0.f3) (a1_0 := x1.f0) (a1_1 := x1.f1) (a1_2 := x1.f2) (a1_3 := x1.f3) (a2 := x2) (r := true) (w := W) (h := hk) (hr := rfl) (hf0 := Laid.of_laid hL) (hb0 := Below.refl _ _)).mono fun e W' ⟨he, bel0⟩ => ?_
  have bel : Below W.heap.size W W' := bel0
  subst he
  exact ⟨_, rfl, _, _, _, [], _, [], hW', trodAll_mk1 (shut_bool Tryd.underlying4 _), (trodAll_cons_mk (Below.trod laidOut (by kernel_rfl) (of_decide_eq_true (by kernel_rfl)) k0 bel (Go.Proofs.YtankffbfocaibaaDoor.Open.trod_lt k0)) (trodAll_cons_mk (Below.trod laidOut (by kernel_rfl) (of_decide_eq_true (by kernel_rfl)) k1 bel (Go.Proofs.YtankffbfocaibaaDoor.Open.trod_lt k1)) (trodAll_cons_mk (Below.trod laidOut (by kernel_rfl) (of_decide_eq_true (by kernel_rfl)) k2 bel (Go.Proofs.YtankffbfocaibaaDoor.Open.trod_lt k2)) trodAll_mk0))), rfl, bel.frame _, fun h => by cases h⟩
theorem over : Rows.gradeWitnessRow.holds Tryd.pinned (OpenSpec.ofChange Rows.gradeWitnessSpec) :=
  OpenClaim.holds_of_wide 6 Tryd.f6 rfl rfl rfl rfl rfl rfl rfl ⟨rfl, rfl, rfl, rfl, rfl⟩ rfl rfl rfl rfl rfl (by kernel_rfl) Tryd.func6 (by kernel_rfl)
    (of_decide_eq_true (by kernel_rfl)) (by unfold Func.isWrapper; first | (rw [if_pos (by decide +kernel)]; kernel_rfl) | (rw [if_neg (by decide +kernel)]; exact ⟨rfl, rfl⟩))
    (fun os started H enc _ => lifted os started H enc)
theorem tiedCard : Rows.GradeWitnessCardSaid :=
  Claim7.holds_tied_plain_at .later [] [.data, .data, .data, .widerDeep] true (true, "86a8491efdc908c4af7f2bf03822af197147a7e38b826828663a96b2175c3b8d") false
    over (fun _ h => by cases h) (by kernel_rfl) (fun _ h => by cases h) gradeWitness_row_tie rfl ⟨rfl, rfl⟩ (by kernel_rfl) rfl
    (fun f fn hf hfn => by
      obtain rfl : f = 6 := Option.some.inj ((show Tryd.prog.funcNamed "gangsaw/gangsawlaw34.GradeWitness" = some 6 by kernel_rfl).symm.trans hf) |>.symm
      obtain rfl : fn = Tryd.f6 := (Option.some.inj (Tryd.func6.symm.trans hfn)).symm
      exact ⟨by kernel_rfl, fun j t ht => by
        have h0 : (Tryd.f6.params.toList.all fun t => !Tryd.prog.wantsStandIn t) = true := by kernel_rfl
        rw [List.all_eq_true] at h0
        have h1 := h0 t (Array.mem_toList_iff.2 (Array.mem_of_getElem? ht))
        exact (show Tryd.prog.wantsStandIn t = false by simpa using h1)⟩)
    (by kernel_rfl)
end Go.Proofs.YtankffbfocaibaaDoor.gradeWitness
namespace Go.Proofs.YtankffbfocaibaaDoor
/-- The statement, proved. -/
theorem gradeWitness_holds : Rows.GradeWitnessCardSaid := gradeWitness.tiedCard
end Go.Proofs.YtankffbfocaibaaDoor
