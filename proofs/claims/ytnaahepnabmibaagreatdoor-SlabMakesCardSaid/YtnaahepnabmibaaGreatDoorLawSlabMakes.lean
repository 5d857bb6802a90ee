/- The statement of this text's name, out of its plain law and its contract; no condition is added. -/
import Derived.Test.YtnaahepnabmibaaGreatDoorRows
import Derived.Test.YtnaahepnabmibaaGreatDoorPx12
import Derived.Test.YtnaahepnabmibaaGreatDoorPureSlabMakes
import Derived.Test.YtnaahepnabmibaaGreatDoorKs
import Derived.Test.YtnaahepnabmibaaGreatDoorLaid
import Derived.Test.YtnaahepnabmibaaGreatDoorCards
import Derived.Test.YtnaahepnabmibaaGreatDoorTie
import Derived.LaidMore
import Derived.Stop.Joined
import Derived.WalkKit
import Derived.ProofKit
import Derived.OpenShut
import Derived.ShutString
import Derived.ChangeOld
import Derived.Below
import Derived.SizedLaws
namespace Go.Proofs.YtnaahepnabmibaaGreatDoor.slabMakes
open Go.ChangeShapes Go.WideShapes Go.ChangeAt Go.RowKit Go.Proofs.YtnaahepnabmibaaGreatDoorW.PrintWords Go.Proofs.YtnaahepnabmibaaGreatDoor.P Go.Proofs.YtnaahepnabmibaaGreatDoor.Open Go.Proofs.YtnaahepnabmibaaGreatDoor.Ks
set_option linter.unusedVariables false
theorem own : ownKnob Tryz.prog.godebug = none := by kernel_rfl
theorem laidOut : laidOutB Tryz.prog = true := by kernel_rfl
set_option maxRecDepth 100000 in
theorem lifted (os : Os) (started : os.Started) (H : Type) (enc : TypeId × Value → H) :
    ReturnsInHanded {} Tryz.checked os 5 .any (fun w args => (Rows.slabMakesSpec.pre enc Tryz.prog Tryz.f5 Rows.slabMakesRow.domain false w args ∧ laidMetH Tryz.prog Laid.list w) ∧ sizedMet enc Tryz.prog Tryz.f5 (OpenSpec.ofChange Rows.slabMakesSpec) false w args) (Rows.slabMakesSpec.post enc Tryz.prog Tryz.f5 false true false false) := by
  refine returnsInHanded_of_change_and (C := Tryz.checked) (X := fun w _ => laidMetH Tryz.prog Laid.list w) (fun _ _ _ hh h => h.of_heap hh) own started (by kernel_rfl) Tryz.func5
    (ChangeSpec.witness_shaped (enc := enc) (C := Tryz.checked) (os := os) (X := fun w _ => laidMetH Tryz.prog Laid.list w) false (World.doorLaid Tryz.prog 400 os) #[.agg #[.string ByteArray.empty, .int .i64 0, .int .i64 0, .int .i64 0, .int .i64 0, .int .i64 0, .int .i64 0], .agg #[.int .i64 0, .int .i64 0, .int .i64 0, .int .i64 0], .int .i64 0] 8 rfl (World.shaped_of_RefB (by kernel_rfl) (by kernel_rfl)) (by kernel_rfl) (by kernel_rfl) (by kernel_rfl) (Laid.door_met os _)) ?_
  intro W base args ds gs before hval0 hW hcnd hsz0 hL _
  have hval : ∀ (j : Nat) t v, Tryz.f5.params[j]? = some t → args[j]? = some v → Value.okWide Tryz.prog W .any base t v := hval0
  have hW' := hW
  obtain ⟨p, q, hA0, hV, rfl, hfz, hnd⟩ := hW
  have hA : DataW.TrodAll enc Tryz.prog W 0 (fun _ => true) true Tryz.f5.params.toList args.toList ds p := hA0
  rw [Tryz.params5] at hA hval
  obtain ⟨v0, vs0, d0, ds0, p0, q0, hargs, rfl, rfl, h0, r0⟩ := trodAll_cons hA
  obtain ⟨v1, vs1, d1, ds1, p1, q1, rfl, rfl, rfl, h1, r1⟩ := trodAll_cons r0
  obtain ⟨v2, vs2, d2, ds2, p2, q2, rfl, rfl, rfl, h2, r2⟩ := trodAll_cons r1
  obtain ⟨rfl, rfl, rfl⟩ := trodAll_nil r2
  obtain rfl : args = #[v0, v1, v2] := by cases args; simp_all
  obtain ⟨rfl, rfl⟩ := trodVars_none hV
  have k0 := h0
  obtain ⟨x0, cs0, rfl, hK0, g0⟩ := Go.Proofs.YtnaahepnabmibaaGreatDoor.Open.open_agg Tryz.underlying45 opens45 (hval 0 45 v0 rfl rfl) h0
  obtain rfl := k45_open hK0
  have k1 := h1
  obtain ⟨x1, cs1, rfl, hK1, g1⟩ := Go.Proofs.YtnaahepnabmibaaGreatDoor.Open.open_agg Tryz.underlying47 opens47 (hval 1 47 v1 rfl rfl) h1
  obtain rfl := k47_open hK1
  have k2 := h2
  obtain ⟨x2, rfl, g2⟩ := Go.Proofs.YtnaahepnabmibaaGreatDoor.Open.open_int1 Tryz.underlying3 (hval 2 3 v2 rfl rfl) h2
  obtain ⟨k, hk⟩ := Pure.SlabMakes x0 x1 x2 g0 g1 g2
  clear hA0 hval0 hsz0
  refine (gangsawlaw30_SlabMakes.calls (k := k) (a0_0 := x0.f0) (a0_1 := x0.f1.f0.f0) (a0_2 := x0.f1.f0.f1) (a0_3 := x0.f1.f0.f2) (a0_4 := x0.f1.f1.f0) (a0_5 := x0.f1.f1.f1) (a0_6 := x0.f1.f1.f2) (a1_0 := x1.f0) (a1_1 := x1.f1) (a1_2 := x1.f2) (a1_3 := x1.f3) (a2 := x2) (r := true) (w := W) (h := hk) (hr := rfl) (hf0 := Laid.of_laid hL) (hb0 := Below.refl _ _)).mono fun e W' ⟨he, bel0⟩ => ?_
  have bel : Below W.heap.size W W' := bel0
  subst he
  exact ⟨_, rfl, _, _, _, [], _, [], hW', trodAll_mk1 (shut_bool Tryz.underlying4 _), (trodAll_cons_mk (Below.trod laidOut (by kernel_rfl) (of_decide_eq_true (by kernel_rfl)) k0 bel (Go.Proofs.YtnaahepnabmibaaGreatDoor.Open.trod_lt k0)) (trodAll_cons_mk (Below.trod laidOut (by kernel_rfl) (of_decide_eq_true (by kernel_rfl)) k1 bel (Go.Proofs.YtnaahepnabmibaaGreatDoor.Open.trod_lt k1)) (trodAll_cons_mk (Below.trod laidOut (by kernel_rfl) (of_decide_eq_true (by kernel_rfl)) k2 bel (Go.Proofs.YtnaahepnabmibaaGreatDoor.Open.trod_lt k2)) trodAll_mk0))), rfl, bel.frame _, fun h => by cases h⟩
theorem over : Rows.slabMakesRow.holds Tryz.pinned (OpenSpec.ofChange Rows.slabMakesSpec) :=
  OpenClaim.holds_of_wide 5 Tryz.f5 rfl rfl rfl rfl rfl rfl rfl ⟨rfl, rfl, rfl, rfl, rfl⟩ rfl rfl rfl rfl rfl (by kernel_rfl) Tryz.func5 (by kernel_rfl)
    (of_decide_eq_true (by kernel_rfl)) (by unfold Func.isWrapper; first | (rw [if_pos (by decide +kernel)]; kernel_rfl) | (rw [if_neg (by decide +kernel)]; exact ⟨rfl, rfl⟩))
    (fun os started H enc _ => lifted os started H enc)
theorem tiedCard : Rows.SlabMakesCardSaid :=
  Claim7.holds_tied_plain_at .later [] [.data, .data, .data, .data] true (true, "7b83f0fe048740f8542a99dbed83f76ede5c1cca200d08a6834e958cac9493c7") false
    over (fun _ h => by cases h) (by kernel_rfl) (fun _ h => by cases h) slabMakes_row_tie rfl ⟨rfl, rfl⟩ (by kernel_rfl) rfl
    (fun f fn hf hfn => by
      obtain rfl : f = 5 := Option.some.inj ((show Tryz.prog.funcNamed "gangsaw/gangsawlaw30.SlabMakes" = some 5 by kernel_rfl).symm.trans hf) |>.symm
      obtain rfl : fn = Tryz.f5 := (Option.some.inj (Tryz.func5.symm.trans hfn)).symm
      exact ⟨by kernel_rfl, fun j t ht => by
        have h0 : (Tryz.f5.params.toList.all fun t => !Tryz.prog.wantsStandIn t) = true := by kernel_rfl
        rw [List.all_eq_true] at h0
        have h1 := h0 t (Array.mem_toList_iff.2 (Array.mem_of_getElem? ht))
        exact (show Tryz.prog.wantsStandIn t = false by simpa using h1)⟩)
    (by kernel_rfl)
end Go.Proofs.YtnaahepnabmibaaGreatDoor.slabMakes
namespace Go.Proofs.YtnaahepnabmibaaGreatDoor
/-- The statement, proved. -/
theorem slabMakes_holds : Rows.SlabMakesCardSaid := slabMakes.tiedCard
end Go.Proofs.YtnaahepnabmibaaGreatDoor
