/- What functions of the program return: each contract says so of one function, for every input at which its pure function yields. -/
import Derived.Test.YtpfggghpkdnppaaPx0
import Derived.Test.YtpfggghpkdnppaaPx1
import Derived.Test.YtpfggghpkdnppaaPx6
import Derived.Test.YtpfggghpkdnppaaPx9
import Derived.Test.YtpfggghpkdnppaaPx10
import Derived.Test.YtpfggghpkdnppaaPx12
import Derived.Test.YtpfggghpkdnppaaPx16
import Derived.Test.YtpfggghpkdnppaaPx19
import Derived.Test.YtpfggghpkdnppaaPx24
namespace Go.Proofs.Ytpfggghpkdnppaa.P
open Go.RowKit Go.Proofs.YtpfggghpkdnppaaW.PrintWords Go.Proofs.YtpfggghpkdnppaaW.PrintLast Go.Proofs.YtpfggghpkdnppaaW.PrintMore
attribute [local go_sem] max2_int min2_int max_two min_two max_three min_three max_four min_four   -- for this text's walks alone
set_option linter.unusedVariables false
set_option linter.unusedSimpArgs false

def gangsawlaw49_MachineChecks.f (k : Nat) (l0 : List (S34)) (l1 : List (S47)) : Option (Bool) := (gangsawlaw49_awake_N.f).bind fun t480 => (if t480 = true then ((gangsawref49_Small.f k l0 l1).bind fun t481 => (if t481 = true then ((machine_Check.f k l0).bind fun t482 => ((gangsawref49_Check.f k l0).bind fun t483 => (if t482 = t483 then ((machine_CheckJobs.f k l0 l1).bind fun t484 => ((gangsawref49_CheckJobs.f k l0 l1).bind fun t485 => (if t484 = t485 then ((machine_Works.f k l0 l1).bind fun t486 => ((gangsawref49_Works.f k l0 l1).bind fun t489 => ((gangsawref49_SameNames.f k t486 t489).bind fun t492 => (some t492)))) else (some false)))) else (some false)))) else (some true))) else (some false))
set_option maxHeartbeats 8000000 in
set_option maxRecDepth 100000 in
theorem gangsawlaw49_MachineChecks.calls (k : Nat) (A0 : Option Addr) (c0 : Nat) (l0 : List (S34)) (A1 : Option Addr) (c1 : Nat) (l1 : List (S47)) (r : Bool) (w : World) (hr0 : Kd.C k34 w A0 l0.length l0) (hc0 : l0.length ≤ c0) (hr1 : Kd.C k47 w A1 l1.length l1) (hc1 : l1.length ≤ c1) (h : gangsawlaw49_MachineChecks.f k l0 l1 = some r) (hr : r = true) :
  Calls Try.prog 7 #[.slice A0 l0.length c0, .slice A1 l1.length c1] w fun e w' => e = .returned (.bool r) ∧ Below w.heap.size w w' := by
 have HR0 := Aside0.mk hr0
 have HC0 := Aside0.mk hc0
 clear hr0 hc0
 have HR1 := Aside0.mk hr1
 have HC1 := Aside0.mk hc1
 clear hr1 hc1
 have HB := Aside0.mk (Below.refl w.heap.size w)
 have H : ((gangsawlaw49_awake_N.f).bind fun t480 => (if t480 = true then ((gangsawref49_Small.f k l0 l1).bind fun t481 => (if t481 = true then ((machine_Check.f k l0).bind fun t482 => ((gangsawref49_Check.f k l0).bind fun t483 => (if t482 = t483 then ((machine_CheckJobs.f k l0 l1).bind fun t484 => ((gangsawref49_CheckJobs.f k l0 l1).bind fun t485 => (if t484 = t485 then ((machine_Works.f k l0 l1).bind fun t486 => ((gangsawref49_Works.f k l0 l1).bind fun t489 => ((gangsawref49_SameNames.f k t486 t489).bind fun t492 => (some t492)))) else (some false)))) else (some false)))) else (some true))) else (some false))) = some r := h
 clear h
 replace H := Option.bind_eq_some_iff.mp H
 obtain ⟨t480, A30, H⟩ := H
 replace H : (if t480 = true then ((gangsawref49_Small.f k l0 l1).bind fun t481 => (if t481 = true then ((machine_Check.f k l0).bind fun t482 => ((gangsawref49_Check.f k l0).bind fun t483 => (if t482 = t483 then ((machine_CheckJobs.f k l0 l1).bind fun t484 => ((gangsawref49_CheckJobs.f k l0 l1).bind fun t485 => (if t484 = t485 then ((machine_Works.f k l0 l1).bind fun t486 => ((gangsawref49_Works.f k l0 l1).bind fun t489 => ((gangsawref49_SameNames.f k t486 t489).bind fun t492 => (some t492)))) else (some false)))) else (some false)))) else (some true))) else (some false)) = some r := H
 have A3 := Aside0.mk A30
 clear A30
 by_cases c4 : t480 = true
 ·subst c4
  have H1 : ((gangsawref49_Small.f k l0 l1).bind fun t481 => (if t481 = true then ((machine_Check.f k l0).bind fun t482 => ((gangsawref49_Check.f k l0).bind fun t483 => (if t482 = t483 then ((machine_CheckJobs.f k l0 l1).bind fun t484 => ((gangsawref49_CheckJobs.f k l0 l1).bind fun t485 => (if t484 = t485 then ((machine_Works.f k l0 l1).bind fun t486 => ((gangsawref49_Works.f k l0 l1).bind fun t489 => ((gangsawref49_SameNames.f k t486 t489).bind fun t492 => (some t492)))) else (some false)))) else (some false)))) else (some true))) = some r := by rw [if_pos rfl] at H; exact H
  clear H
  have H := H1
  clear H1
  replace H := Option.bind_eq_some_iff.mp H
  obtain ⟨t481, A50, H⟩ := H
  replace H : (if t481 = true then ((machine_Check.f k l0).bind fun t482 => ((gangsawref49_Check.f k l0).bind fun t483 => (if t482 = t483 then ((machine_CheckJobs.f k l0 l1).bind fun t484 => ((gangsawref49_CheckJobs.f k l0 l1).bind fun t485 => (if t484 = t485 then ((machine_Works.f k l0 l1).bind fun t486 => ((gangsawref49_Works.f k l0 l1).bind fun t489 => ((gangsawref49_SameNames.f k t486 t489).bind fun t492 => (some t492)))) else (some false)))) else (some false)))) else (some true)) = some r := H
  have A5 := Aside0.mk A50
  clear A50
  by_cases c6 : t481 = true
  ·subst c6
   have H1 : ((machine_Check.f k l0).bind fun t482 => ((gangsawref49_Check.f k l0).bind fun t483 => (if t482 = t483 then ((machine_CheckJobs.f k l0 l1).bind fun t484 => ((gangsawref49_CheckJobs.f k l0 l1).bind fun t485 => (if t484 = t485 then ((machine_Works.f k l0 l1).bind fun t486 => ((gangsawref49_Works.f k l0 l1).bind fun t489 => ((gangsawref49_SameNames.f k t486 t489).bind fun t492 => (some t492)))) else (some false)))) else (some false)))) = some r := by rw [if_pos rfl] at H; exact H
   clear H
   have H := H1
   clear H1
   replace H := Option.bind_eq_some_iff.mp H
   obtain ⟨t482, A70, H⟩ := H
   replace H : ((gangsawref49_Check.f k l0).bind fun t483 => (if t482 = t483 then ((machine_CheckJobs.f k l0 l1).bind fun t484 => ((gangsawref49_CheckJobs.f k l0 l1).bind fun t485 => (if t484 = t485 then ((machine_Works.f k l0 l1).bind fun t486 => ((gangsawref49_Works.f k l0 l1).bind fun t489 => ((gangsawref49_SameNames.f k t486 t489).bind fun t492 => (some t492)))) else (some false)))) else (some false))) = some r := H
   have A7 := Aside0.mk A70
   clear A70
   replace H := Option.bind_eq_some_iff.mp H
   obtain ⟨t483, A80, H⟩ := H
   replace H : (if t482 = t483 then ((machine_CheckJobs.f k l0 l1).bind fun t484 => ((gangsawref49_CheckJobs.f k l0 l1).bind fun t485 => (if t484 = t485 then ((machine_Works.f k l0 l1).bind fun t486 => ((gangsawref49_Works.f k l0 l1).bind fun t489 => ((gangsawref49_SameNames.f k t486 t489).bind fun t492 => (some t492)))) else (some false)))) else (some false)) = some r := H
   have A8 := Aside0.mk A80
   clear A80
   by_cases c9 : t482 = t483
   ·rw [if_pos c9] at H
    have c9b0 : (t482 == t483) = true := beq_iff_eq.mpr c9
    have c9b1 : (t482 != t483) = false := bne_eq_false_iff_eq.mpr c9
    clear c9
    replace H := Option.bind_eq_some_iff.mp H
    obtain ⟨t484, A100, H⟩ := H
    replace H : ((gangsawref49_CheckJobs.f k l0 l1).bind fun t485 => (if t484 = t485 then ((machine_Works.f k l0 l1).bind fun t486 => ((gangsawref49_Works.f k l0 l1).bind fun t489 => ((gangsawref49_SameNames.f k t486 t489).bind fun t492 => (some t492)))) else (some false))) = some r := H
    have A10 := Aside0.mk A100
    clear A100
    replace H := Option.bind_eq_some_iff.mp H
    obtain ⟨t485, A110, H⟩ := H
    replace H : (if t484 = t485 then ((machine_Works.f k l0 l1).bind fun t486 => ((gangsawref49_Works.f k l0 l1).bind fun t489 => ((gangsawref49_SameNames.f k t486 t489).bind fun t492 => (some t492)))) else (some false)) = some r := H
    have A11 := Aside0.mk A110
    clear A110
    by_cases c12 : t484 = t485
    ·rw [if_pos c12] at H
     have c12b0 : (t484 == t485) = true := beq_iff_eq.mpr c12
     have c12b1 : (t484 != t485) = false := bne_eq_false_iff_eq.mpr c12
     clear c12
     replace H := Option.bind_eq_some_iff.mp H
     obtain ⟨t486, A130, H⟩ := H
     replace H : ((gangsawref49_Works.f k l0 l1).bind fun t489 => ((gangsawref49_SameNames.f k t486 t489).bind fun t492 => (some t492))) = some r := H
     have A13 := Aside0.mk A130
     clear A130
     replace H := Option.bind_eq_some_iff.mp H
     obtain ⟨t489, A140, H⟩ := H
     replace H : ((gangsawref49_SameNames.f k t486 t489).bind fun t492 => (some t492)) = some r := H
     have A14 := Aside0.mk A140
     clear A140
     replace H := Option.bind_eq_some_iff.mp H
     obtain ⟨t492, A150, H⟩ := H
     replace H : (some t492) = some r := H
     have A15 := Aside0.mk A150
     clear A150
     obtain rfl := Option.some.inj H
     simp only [Option.some.injEq, Prod.mk.injEq] at H
     obtain ⟨rfl⟩ := H
     go_enter Try.func7, Try.ntmps7
     go_wp2_with (first | ((with_reducible refine gate_callee (f := 9) rfl ?_); refine goesL_ (some 5) rfl rfl Try.func9 (by kernel_rfl) rfl #[] rfl (by (try simp only [List.map_toArray, List.map_cons, List.map_nil]); first | done | rfl | (simp only [List.length_drop, List.length_take]; rfl)) ?_; (with_reducible refine (gangsawlaw49_awake_N.calls  true _ A3.out).mono ?_); rintro e w16 ⟨rfl, hb⟩; refine ⟨_, rfl, ?_⟩; have n0_ := Aside0.mk (below_step (by repeat (first | (with_reducible first | exact HB.out | apply below_alloc | apply pw_below_drewN | apply below_drew1) | exact HB.out)) hb); clear HB; have HB := n0_; clear n0_; (try clear hb); (try clear hb2); (try clear hk); (try clear hi)) | ((with_reducible refine gate_callee (f := 10) rfl ?_); refine goesL_ (some 9) rfl rfl Try.func10 (by kernel_rfl) rfl #[.slice A0 l0.length c0, .slice A1 l1.length c1] rfl (by (try simp only [List.map_toArray, List.map_cons, List.map_nil]); first | done | rfl | (simp only [List.length_drop, List.length_take]; rfl)) ?_; (with_reducible refine (gangsawref49_Small.calls k _ _ l0 _ _ l1 true _ ?side1 ?side2 ?side3 ?side4 A5.out).mono ?_); (case side1 => repeat (first | exact (Kd.C_below HR0.out HB.out) | (with_reducible refine Kd.C_alloc ?_ _) | (with_reducible refine Kd.C_drewN ?_ _) | (with_reducible refine Kd.C_drew ?_))); (case side2 => exact HC0.out); (case side3 => repeat (first | exact (Kd.C_below HR1.out HB.out) | (with_reducible refine Kd.C_alloc ?_ _) | (with_reducible refine Kd.C_drewN ?_ _) | (with_reducible refine Kd.C_drew ?_))); (case side4 => exact HC1.out); rintro e w' ⟨rfl, ⟨nd, rfl⟩⟩; refine ⟨_, rfl, ?_⟩) | ((with_reducible refine gate_callee (f := 23) rfl ?_); refine goesL_ (some 12) rfl rfl Try.func23 (by kernel_rfl) rfl #[.slice A0 l0.length c0] rfl (by (try simp only [List.map_toArray, List.map_cons, List.map_nil]); first | done | rfl | (simp only [List.length_drop, List.length_take]; rfl)) ?_; (with_reducible refine (machine_Check.calls k _ _ l0 t482 _ ?side1 ?side2 A7.out).mono ?_); (case side1 => repeat (first | exact (Kd.C_below HR0.out (by repeat (first | (with_reducible first | exact HB.out | apply below_alloc | apply pw_below_drewN | apply below_drew1) | exact HB.out))) | (with_reducible refine Kd.C_alloc ?_ _) | (with_reducible refine Kd.C_drewN ?_ _) | (with_reducible refine Kd.C_drew ?_))); (case side2 => exact HC0.out); rintro e w17 ⟨rfl, hb⟩; refine ⟨_, rfl, ?_⟩; have n0_ := Aside0.mk (below_step (by repeat (first | (with_reducible first | exact HB.out | apply below_alloc | apply pw_below_drewN | apply below_drew1) | exact HB.out)) hb); clear HB; have HB := n0_; clear n0_; (try clear hb); (try clear hb2); (try clear hk); (try clear hi)) | ((with_reducible refine gate_callee (f := 12) rfl ?_); refine goesL_ (some 14) rfl rfl Try.func12 (by kernel_rfl) rfl #[.slice A0 l0.length c0] rfl (by (try simp only [List.map_toArray, List.map_cons, List.map_nil]); first | done | rfl | (simp only [List.length_drop, List.length_take]; rfl)) ?_; (with_reducible refine (gangsawref49_Check.calls k _ _ l0 t483 _ ?side1 ?side2 A8.out).mono ?_); (case side1 => repeat (first | exact (Kd.C_below HR0.out HB.out) | (with_reducible refine Kd.C_alloc ?_ _) | (with_reducible refine Kd.C_drewN ?_ _) | (with_reducible refine Kd.C_drew ?_))); (case side2 => exact HC0.out); rintro e w18 ⟨rfl, hb⟩; refine ⟨_, rfl, ?_⟩; have n0_ := Aside0.mk (below_step (by repeat (first | (with_reducible first | exact HB.out | apply below_alloc | apply pw_below_drewN | apply below_drew1) | exact HB.out)) hb); clear HB; have HB := n0_; clear n0_; (try clear hb); (try clear hb2); (try clear hk); (try clear hi)) | (go_at_call 24; (with_reducible refine (machine_CheckJobs.calls k _ _ l0 _ _ l1 t484 _ ?side1 ?side2 ?side3 ?side4 A10.out).mono ?_); (case side1 => repeat (first | exact (Kd.C_below HR0.out HB.out) | (with_reducible refine Kd.C_alloc ?_ _) | (with_reducible refine Kd.C_drewN ?_ _) | (with_reducible refine Kd.C_drew ?_))); (case side2 => exact HC0.out); (case side3 => repeat (first | exact (Kd.C_below HR1.out HB.out) | (with_reducible refine Kd.C_alloc ?_ _) | (with_reducible refine Kd.C_drewN ?_ _) | (with_reducible refine Kd.C_drew ?_))); (case side4 => exact HC1.out); rintro e w19 ⟨rfl, hb⟩; have n0_ := Aside0.mk (below_step (by repeat (first | (with_reducible first | exact HB.out | apply below_alloc | apply pw_below_drewN | apply below_drew1) | exact HB.out)) hb); clear HB; have HB := n0_; clear n0_; (try clear hb); (try clear hb2); (try clear hk); (try clear hi)) | (go_at_call 18; (with_reducible refine (gangsawref49_CheckJobs.calls k _ _ l0 _ _ l1 t485 _ ?side1 ?side2 ?side3 ?side4 A11.out).mono ?_); (case side1 => repeat (first | exact (Kd.C_below HR0.out HB.out) | (with_reducible refine Kd.C_alloc ?_ _) | (with_reducible refine Kd.C_drewN ?_ _) | (with_reducible refine Kd.C_drew ?_))); (case side2 => exact HC0.out); (case side3 => repeat (first | exact (Kd.C_below HR1.out HB.out) | (with_reducible refine Kd.C_alloc ?_ _) | (with_reducible refine Kd.C_drewN ?_ _) | (with_reducible refine Kd.C_drew ?_))); (case side4 => exact HC1.out); rintro e w20 ⟨rfl, hb⟩; have n0_ := Aside0.mk (below_step (by repeat (first | (with_reducible first | exact HB.out | apply below_alloc | apply pw_below_drewN | apply below_drew1) | exact HB.out)) hb); clear HB; have HB := n0_; clear n0_; (try clear hb); (try clear hb2); (try clear hk); (try clear hi)) | (go_at_call 26; (with_reducible refine (machine_Works.calls k _ _ l0 _ _ l1 t486 _ ?side1 ?side2 ?side3 ?side4 A13.out).mono ?_); (case side1 => repeat (first | exact (Kd.C_below HR0.out HB.out) | (with_reducible refine Kd.C_alloc ?_ _) | (with_reducible refine Kd.C_drewN ?_ _) | (with_reducible refine Kd.C_drew ?_))); (case side2 => exact HC0.out); (case side3 => repeat (first | exact (Kd.C_below HR1.out HB.out) | (with_reducible refine Kd.C_alloc ?_ _) | (with_reducible refine Kd.C_drewN ?_ _) | (with_reducible refine Kd.C_drew ?_))); (case side4 => exact HC1.out); rintro e w21 ⟨v487, rfl, ho0, hb⟩; have n0_ := Aside0.mk (Kd.R_lower ho0 (below_size (by repeat (first | (with_reducible first | exact HB.out | apply below_alloc | apply pw_below_drewN | apply below_drew1) | exact HB.out)))); have n1_ := Aside0.mk (below_step (by repeat (first | (with_reducible first | exact HB.out | apply below_alloc | apply pw_below_drewN | apply below_drew1) | exact HB.out)) hb); clear HB; have HO488 := n0_; have HB := n1_; clear n0_ n1_; (try clear hb); (try clear hb2); (try clear hk); (try clear hi); (try clear ho0)) | (go_at_call 27; (with_reducible refine (gangsawref49_Works.calls k _ _ l0 _ _ l1 t489 _ ?side1 ?side2 ?side3 ?side4 A14.out).mono ?_); (case side1 => repeat (first | exact (Kd.C_below HR0.out HB.out) | (with_reducible refine Kd.C_alloc ?_ _) | (with_reducible refine Kd.C_drewN ?_ _) | (with_reducible refine Kd.C_drew ?_))); (case side2 => exact HC0.out); (case side3 => repeat (first | exact (Kd.C_below HR1.out HB.out) | (with_reducible refine Kd.C_alloc ?_ _) | (with_reducible refine Kd.C_drewN ?_ _) | (with_reducible refine Kd.C_drew ?_))); (case side4 => exact HC1.out); rintro e w22 ⟨v490, rfl, ho0, hb⟩; have n0_ := Aside0.mk (Kd.R_elder' (by (with_reducible repeat (first | apply Kd.R_alloc | apply Kd.R_drewN | apply Kd.R_drew)); exact HO488.out) (Kd.R_base ho0) hb); have n1_ := Aside0.mk (Kd.R_lower (Kd.R_new' ho0 (Kd.R_lt (by (with_reducible repeat (first | apply Kd.R_alloc | apply Kd.R_drewN | apply Kd.R_drew)); exact HO488.out))) (below_size (by repeat (first | (with_reducible first | exact HB.out | apply below_alloc | apply pw_below_drewN | apply below_drew1) | exact HB.out)))); have n2_ := Aside0.mk (below_step (by repeat (first | (with_reducible first | exact HB.out | apply below_alloc | apply pw_below_drewN | apply below_drew1) | exact HB.out)) hb); clear HO488; clear HB; have HO488 := n0_; have HO491 := n1_; have HB := n2_; clear n0_ n1_ n2_; (try clear hb); (try clear hb2); (try clear hk); (try clear hi); (try clear ho0); obtain ⟨Ao23, co23, eo23⟩ := Kd.R_slice HO488.out; subst eo23; obtain ⟨Ao24, co24, eo24⟩ := Kd.R_slice HO491.out; subst eo24) | (go_at_call 25; (with_reducible refine (gangsawref49_SameNames.calls k _ _ t486 _ _ t489 t492 _ ?side1 ?side2 ?side3 ?side4 A15.out).mono ?_); (case side1 => repeat (first | exact (Kd.R_reads' HO488.out).2.2 | (with_reducible refine Kd.C_alloc ?_ _) | (with_reducible refine Kd.C_drewN ?_ _) | (with_reducible refine Kd.C_drew ?_))); (case side2 => exact (Kd.R_reads' HO488.out).2.1); (case side3 => repeat (first | exact (Kd.R_reads' HO491.out).2.2 | (with_reducible refine Kd.C_alloc ?_ _) | (with_reducible refine Kd.C_drewN ?_ _) | (with_reducible refine Kd.C_drew ?_))); (case side4 => exact (Kd.R_reads' HO491.out).2.1); rintro e w' ⟨rfl, ⟨nd, rfl⟩⟩))
     go_ret
     exact ⟨by first | rfl | (simp [errW_none, errW_some] <;> rfl) | (simp [*, errW_none, errW_some] <;> rfl), by repeat (first | (with_reducible first | exact HB.out | apply below_alloc | apply pw_below_drewN | apply below_drew1) | exact HB.out)⟩
    ·rw [if_neg c12] at H
     have c12b0 : (t484 == t485) = false := beq_eq_false_iff_ne.mpr c12
     have c12b1 : (t484 != t485) = true := bne_iff_ne.mpr c12
     obtain rfl := Option.some.inj H
     exact absurd hr (by decide)
   ·rw [if_neg c9] at H
    have c9b0 : (t482 == t483) = false := beq_eq_false_iff_ne.mpr c9
    have c9b1 : (t482 != t483) = true := bne_iff_ne.mpr c9
    obtain rfl := Option.some.inj H
    exact absurd hr (by decide)
  ·replace c6 := Bool.eq_false_iff.mpr c6
   subst c6
   have H1 : (some true) = some r := by rw [if_neg (show ¬ (false = true) by decide)] at H; exact H
   clear H
   have H := H1
   clear H1
   obtain rfl := Option.some.inj H
   simp only [Option.some.injEq, Prod.mk.injEq] at H
   obtain ⟨rfl⟩ := H
   go_enter Try.func7, Try.ntmps7
   go_wp2_with (first | ((with_reducible refine gate_callee (f := 9) rfl ?_); refine goesL_ (some 5) rfl rfl Try.func9 (by kernel_rfl) rfl #[] rfl (by (try simp only [List.map_toArray, List.map_cons, List.map_nil]); first | done | rfl | (simp only [List.length_drop, List.length_take]; rfl)) ?_; (with_reducible refine (gangsawlaw49_awake_N.calls  true _ A3.out).mono ?_); rintro e w25 ⟨rfl, hb⟩; refine ⟨_, rfl, ?_⟩; have n0_ := Aside0.mk (below_step (by repeat (first | (with_reducible first | exact HB.out | apply below_alloc | apply pw_below_drewN | apply below_drew1) | exact HB.out)) hb); clear HB; have HB := n0_; clear n0_; (try clear hb); (try clear hb2); (try clear hk); (try clear hi)) | ((with_reducible refine gate_callee (f := 10) rfl ?_); refine goesL_ (some 9) rfl rfl Try.func10 (by kernel_rfl) rfl #[.slice A0 l0.length c0, .slice A1 l1.length c1] rfl (by (try simp only [List.map_toArray, List.map_cons, List.map_nil]); first | done | rfl | (simp only [List.length_drop, List.length_take]; rfl)) ?_; (with_reducible refine (gangsawref49_Small.calls k _ _ l0 _ _ l1 false _ ?side1 ?side2 ?side3 ?side4 A5.out).mono ?_); (case side1 => repeat (first | exact (Kd.C_below HR0.out HB.out) | (with_reducible refine Kd.C_alloc ?_ _) | (with_reducible refine Kd.C_drewN ?_ _) | (with_reducible refine Kd.C_drew ?_))); (case side2 => exact HC0.out); (case side3 => repeat (first | exact (Kd.C_below HR1.out HB.out) | (with_reducible refine Kd.C_alloc ?_ _) | (with_reducible refine Kd.C_drewN ?_ _) | (with_reducible refine Kd.C_drew ?_))); (case side4 => exact HC1.out); rintro e w' ⟨rfl, ⟨nd, rfl⟩⟩; refine ⟨_, rfl, ?_⟩))
   go_ret
   exact ⟨by first | rfl | (simp [errW_none, errW_some] <;> rfl) | (simp [*, errW_none, errW_some] <;> rfl), by repeat (first | (with_reducible first | exact HB.out | apply below_alloc | apply pw_below_drewN | apply below_drew1) | exact HB.out)⟩
 ·replace c4 := Bool.eq_false_iff.mpr c4
  subst c4
  have H1 : (some false) = some r := by rw [if_neg (show ¬ (false = true) by decide)] at H; exact H
  clear H
  have H := H1
  clear H1
  obtain rfl := Option.some.inj H
  exact absurd hr (by decide)

end Go.Proofs.Ytpfggghpkdnppaa.P
