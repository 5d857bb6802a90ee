/- What functions of the program return: each contract says so of one function, for every input at which its pure function yields. -/
import Derived.Test.YtpfggghpkdnppaaPx0
import Derived.Test.YtpfggghpkdnppaaPx2
import Derived.Test.YtpfggghpkdnppaaPx7
import Derived.Test.YtpfggghpkdnppaaPx8
import Derived.Test.YtpfggghpkdnppaaPx9
import Derived.Test.YtpfggghpkdnppaaPx10
import Derived.Test.YtpfggghpkdnppaaPx19
import Derived.Test.YtpfggghpkdnppaaPx20
import Derived.Test.YtpfggghpkdnppaaPx21
namespace Go.Proofs.Ytpfggghpkdnppaa.P
open Go.RowKit Go.Proofs.YtpfggghpkdnppaaW.PrintWords Go.Proofs.YtpfggghpkdnppaaW.PrintLast Go.Proofs.YtpfggghpkdnppaaW.PrintMore
attribute [local go_sem] max2_int min2_int max_two min_two max_three min_three max_four min_four   -- for this text's walks alone
set_option linter.unusedVariables false
set_option linter.unusedSimpArgs false

mutual
def gangsawlaw49_MachineLoads.j0 : Nat → List (S34) → List (S47) → Bool → Option (Bool)
 | 0, _, _, _ => none
 | k + 1, x0, x1, x50 => if x50 = true then (some false) else (gangsawlaw49_MachineLoads.l0 k x0 x1 0)
def gangsawlaw49_MachineLoads.l0 : Nat → List (S34) → List (S47) → Int → Option (Bool)
 | 0, _, _, _ => none
 | k + 1, x0, x1, x8 => if x8 < (x1.length : Int) then (if 0 ≤ x8 then ((machine_Chain.f k x0 ((rd_T47 x1 x8).f0) ((rd_T47 x1 x8).f1) ((rd_T47 x1 x8).f2) ((rd_T47 x1 x8).f3) ((rd_T47 x1 x8).f4)).bind fun bt436 => ((gangsawref49_CheckJob.f k x0 ((rd_T47 x1 x8).f0) ((rd_T47 x1 x8).f1) ((rd_T47 x1 x8).f2) ((rd_T47 x1 x8).f3) ((rd_T47 x1 x8).f4)).bind fun t439 => (if bt436.2 = t439 then (if t439 = 0 then ((gangsawref49_Chain.f k ((rd_T47 x1 x8).f0) ((rd_T47 x1 x8).f1) ((rd_T47 x1 x8).f2) ((rd_T47 x1 x8).f3) ((rd_T47 x1 x8).f4)).bind fun t441 => (if bt436.1 = t441 then (gangsawlaw49_MachineLoads.l0 k x0 x1 (wrap64 (x8 + 1))) else (some false))) else (if bt436.1 = 0 then (gangsawlaw49_MachineLoads.l0 k x0 x1 (wrap64 (x8 + 1))) else (some false))) else (some false)))) else (none)) else (some true)
end
def gangsawlaw49_MachineLoads.f (k : Nat) (l0 : List (S34)) (l1 : List (S47)) : Option (Bool) := (gangsawlaw49_awake_N.f).bind fun t424 => (if t424 = true then ((gangsawref49_Small.f k l0 l1).bind fun t425 => (if t425 = true then ((machine_Load.f k l0 l1).bind fun bt426 => ((gangsawref49_CheckJobs.f k l0 l1).bind fun t430 => (if bt426.2 = t430 then (if t430 = 0 then ((gangsawref49_Load.f k l0 l1).bind fun t431 => ((gangsawref49_Same.f k bt426.1 t431).bind fun t434 => (gangsawlaw49_MachineLoads.j0 k l0 l1 (!t434)))) else (if (bt426.1.length : Int) = 0 then (gangsawlaw49_MachineLoads.j0 k l0 l1 false) else (gangsawlaw49_MachineLoads.j0 k l0 l1 true))) else (gangsawlaw49_MachineLoads.j0 k l0 l1 true)))) else (some true))) else (some false))
set_option maxHeartbeats 8000000 in
set_option maxRecDepth 100000 in
theorem gangsawlaw49_MachineLoads.calls (k : Nat) (A0 : Option Addr) (c0 : Nat) (l0 : List (S34)) (A1 : Option Addr) (c1 : Nat) (l1 : List (S47)) (r : Bool) (w : World) (hr0 : Kd.C k34 w A0 l0.length l0) (hc0 : l0.length ≤ c0) (hr1 : Kd.C k47 w A1 l1.length l1) (hc1 : l1.length ≤ c1) (h : gangsawlaw49_MachineLoads.f k l0 l1 = some r) (hr : r = true) :
  Calls Try.prog 5 #[.slice A0 l0.length c0, .slice A1 l1.length c1] w fun e w' => e = .returned (.bool r) ∧ Below w.heap.size w w' := by
 have hu47 := Try.underlying47
 have HR0 := Aside0.mk hr0
 have HC0 := Aside0.mk hc0
 clear hr0 hc0
 have HR1 := Aside0.mk hr1
 have HC1 := Aside0.mk hc1
 clear hr1 hc1
 have HB := Aside0.mk (Below.refl w.heap.size w)
 have H : ((gangsawlaw49_awake_N.f).bind fun t424 => (if t424 = true then ((gangsawref49_Small.f k l0 l1).bind fun t425 => (if t425 = true then ((machine_Load.f k l0 l1).bind fun bt426 => ((gangsawref49_CheckJobs.f k l0 l1).bind fun t430 => (if bt426.2 = t430 then (if t430 = 0 then ((gangsawref49_Load.f k l0 l1).bind fun t431 => ((gangsawref49_Same.f k bt426.1 t431).bind fun t434 => (gangsawlaw49_MachineLoads.j0 k l0 l1 (!t434)))) else (if (bt426.1.length : Int) = 0 then (gangsawlaw49_MachineLoads.j0 k l0 l1 false) else (gangsawlaw49_MachineLoads.j0 k l0 l1 true))) else (gangsawlaw49_MachineLoads.j0 k l0 l1 true)))) else (some true))) else (some false))) = some r := h
 clear h
 replace H := Option.bind_eq_some_iff.mp H
 obtain ⟨t424, A30, H⟩ := H
 replace H : (if t424 = true then ((gangsawref49_Small.f k l0 l1).bind fun t425 => (if t425 = true then ((machine_Load.f k l0 l1).bind fun bt426 => ((gangsawref49_CheckJobs.f k l0 l1).bind fun t430 => (if bt426.2 = t430 then (if t430 = 0 then ((gangsawref49_Load.f k l0 l1).bind fun t431 => ((gangsawref49_Same.f k bt426.1 t431).bind fun t434 => (gangsawlaw49_MachineLoads.j0 k l0 l1 (!t434)))) else (if (bt426.1.length : Int) = 0 then (gangsawlaw49_MachineLoads.j0 k l0 l1 false) else (gangsawlaw49_MachineLoads.j0 k l0 l1 true))) else (gangsawlaw49_MachineLoads.j0 k l0 l1 true)))) else (some true))) else (some false)) = some r := H
 have A3 := Aside0.mk A30
 clear A30
 by_cases c4 : t424 = true
 ·subst c4
  have H1 : ((gangsawref49_Small.f k l0 l1).bind fun t425 => (if t425 = true then ((machine_Load.f k l0 l1).bind fun bt426 => ((gangsawref49_CheckJobs.f k l0 l1).bind fun t430 => (if bt426.2 = t430 then (if t430 = 0 then ((gangsawref49_Load.f k l0 l1).bind fun t431 => ((gangsawref49_Same.f k bt426.1 t431).bind fun t434 => (gangsawlaw49_MachineLoads.j0 k l0 l1 (!t434)))) else (if (bt426.1.length : Int) = 0 then (gangsawlaw49_MachineLoads.j0 k l0 l1 false) else (gangsawlaw49_MachineLoads.j0 k l0 l1 true))) else (gangsawlaw49_MachineLoads.j0 k l0 l1 true)))) else (some true))) = some r := by rw [if_pos rfl] at H; exact H
  clear H
  have H := H1
  clear H1
  replace H := Option.bind_eq_some_iff.mp H
  obtain ⟨t425, A50, H⟩ := H
  replace H : (if t425 = true then ((machine_Load.f k l0 l1).bind fun bt426 => ((gangsawref49_CheckJobs.f k l0 l1).bind fun t430 => (if bt426.2 = t430 then (if t430 = 0 then ((gangsawref49_Load.f k l0 l1).bind fun t431 => ((gangsawref49_Same.f k bt426.1 t431).bind fun t434 => (gangsawlaw49_MachineLoads.j0 k l0 l1 (!t434)))) else (if (bt426.1.length : Int) = 0 then (gangsawlaw49_MachineLoads.j0 k l0 l1 false) else (gangsawlaw49_MachineLoads.j0 k l0 l1 true))) else (gangsawlaw49_MachineLoads.j0 k l0 l1 true)))) else (some true)) = some r := H
  have A5 := Aside0.mk A50
  clear A50
  by_cases c6 : t425 = true
  ·subst c6
   have H1 : ((machine_Load.f k l0 l1).bind fun bt426 => ((gangsawref49_CheckJobs.f k l0 l1).bind fun t430 => (if bt426.2 = t430 then (if t430 = 0 then ((gangsawref49_Load.f k l0 l1).bind fun t431 => ((gangsawref49_Same.f k bt426.1 t431).bind fun t434 => (gangsawlaw49_MachineLoads.j0 k l0 l1 (!t434)))) else (if (bt426.1.length : Int) = 0 then (gangsawlaw49_MachineLoads.j0 k l0 l1 false) else (gangsawlaw49_MachineLoads.j0 k l0 l1 true))) else (gangsawlaw49_MachineLoads.j0 k l0 l1 true)))) = some r := by rw [if_pos rfl] at H; exact H
   clear H
   have H := H1
   clear H1
   replace H := Option.bind_eq_some_iff.mp H
   obtain ⟨⟨t426, t427⟩, A70, H⟩ := H
   replace H : ((gangsawref49_CheckJobs.f k l0 l1).bind fun t430 => (if t427 = t430 then (if t430 = 0 then ((gangsawref49_Load.f k l0 l1).bind fun t431 => ((gangsawref49_Same.f k t426 t431).bind fun t434 => (gangsawlaw49_MachineLoads.j0 k l0 l1 (!t434)))) else (if (t426.length : Int) = 0 then (gangsawlaw49_MachineLoads.j0 k l0 l1 false) else (gangsawlaw49_MachineLoads.j0 k l0 l1 true))) else (gangsawlaw49_MachineLoads.j0 k l0 l1 true))) = some r := H
   have A7 := Aside0.mk A70
   clear A70
   replace H := Option.bind_eq_some_iff.mp H
   obtain ⟨t430, A80, H⟩ := H
   replace H : (if t427 = t430 then (if t430 = 0 then ((gangsawref49_Load.f k l0 l1).bind fun t431 => ((gangsawref49_Same.f k t426 t431).bind fun t434 => (gangsawlaw49_MachineLoads.j0 k l0 l1 (!t434)))) else (if (t426.length : Int) = 0 then (gangsawlaw49_MachineLoads.j0 k l0 l1 false) else (gangsawlaw49_MachineLoads.j0 k l0 l1 true))) else (gangsawlaw49_MachineLoads.j0 k l0 l1 true)) = some r := H
   have A8 := Aside0.mk A80
   clear A80
   have HC9 := Aside0.mk H
   clear H
   go_enter Try.func5, Try.ntmps5
   go_upto_region 7 with (first | ((with_reducible refine gate_callee (f := 9) rfl ?_); refine goesL_ (some 12) rfl rfl Try.func9 (by kernel_rfl) rfl #[] rfl (by (try simp only [List.map_toArray, List.map_cons, List.map_nil]); first | done | rfl | (simp only [List.length_drop, List.length_take]; rfl)) ?_; (with_reducible refine (gangsawlaw49_awake_N.calls  true _ A3.out).mono ?_); rintro e w10 ⟨rfl, hb⟩; refine ⟨_, rfl, ?_⟩; have n0_ := Aside0.mk (below_step (by repeat (first | (with_reducible first | exact HB.out | apply below_alloc | apply pw_below_drewN | apply below_drew1) | exact HB.out)) hb); clear HB; have HB := n0_; clear n0_; (try clear hb); (try clear hb2); (try clear hk); (try clear hi)) | ((with_reducible refine gate_callee (f := 10) rfl ?_); refine goesL_ (some 16) rfl rfl Try.func10 (by kernel_rfl) rfl #[.slice A0 l0.length c0, .slice A1 l1.length c1] rfl (by (try simp only [List.map_toArray, List.map_cons, List.map_nil]); first | done | rfl | (simp only [List.length_drop, List.length_take]; rfl)) ?_; (with_reducible refine (gangsawref49_Small.calls k _ _ l0 _ _ l1 true _ ?side1 ?side2 ?side3 ?side4 A5.out).mono ?_); (case side1 => repeat (first | exact (Kd.C_below HR0.out HB.out) | (with_reducible refine Kd.C_alloc ?_ _) | (with_reducible refine Kd.C_drewN ?_ _) | (with_reducible refine Kd.C_drew ?_))); (case side2 => exact HC0.out); (case side3 => repeat (first | exact (Kd.C_below HR1.out HB.out) | (with_reducible refine Kd.C_alloc ?_ _) | (with_reducible refine Kd.C_drewN ?_ _) | (with_reducible refine Kd.C_drew ?_))); (case side4 => exact HC1.out); rintro e w' ⟨rfl, ⟨nd, rfl⟩⟩; refine ⟨_, rfl, ?_⟩) | ((with_reducible refine gate_callee (f := 17) rfl ?_); refine goesL_ (some 21) rfl rfl Try.func17 (by kernel_rfl) rfl #[.slice A0 l0.length c0, .slice A1 l1.length c1] rfl (by (try simp only [List.map_toArray, List.map_cons, List.map_nil]); first | done | rfl | (simp only [List.length_drop, List.length_take]; rfl)) ?_; (with_reducible refine (machine_Load.calls k _ _ l0 _ _ l1 t426 t427 _ ?side1 ?side2 ?side3 ?side4 A7.out).mono ?_); (case side1 => repeat (first | exact (Kd.C_below HR0.out (by repeat (first | (with_reducible first | exact HB.out | apply below_alloc | apply pw_below_drewN | apply below_drew1) | exact HB.out))) | (with_reducible refine Kd.C_alloc ?_ _) | (with_reducible refine Kd.C_drewN ?_ _) | (with_reducible refine Kd.C_drew ?_))); (case side2 => exact HC0.out); (case side3 => repeat (first | exact (Kd.C_below HR1.out (by repeat (first | (with_reducible first | exact HB.out | apply below_alloc | apply pw_below_drewN | apply below_drew1) | exact HB.out))) | (with_reducible refine Kd.C_alloc ?_ _) | (with_reducible refine Kd.C_drewN ?_ _) | (with_reducible refine Kd.C_drew ?_))); (case side4 => exact HC1.out); rintro e w11 ⟨v428, rfl, ho0, hb⟩; refine ⟨_, rfl, ?_⟩; have n0_ := Aside0.mk (Kd.R_lower ho0 (below_size (by repeat (first | (with_reducible first | exact HB.out | apply below_alloc | apply pw_below_drewN | apply below_drew1) | exact HB.out)))); have n1_ := Aside0.mk (below_step (by repeat (first | (with_reducible first | exact HB.out | apply below_alloc | apply pw_below_drewN | apply below_drew1) | exact HB.out)) hb); clear HB; have HO429 := n0_; have HB := n1_; clear n0_ n1_; (try clear hb); (try clear hb2); (try clear hk); (try clear hi); (try clear ho0)) | ((with_reducible refine gate_callee (f := 18) rfl ?_); refine goesL_ (some 26) rfl rfl Try.func18 (by kernel_rfl) rfl #[.slice A0 l0.length c0, .slice A1 l1.length c1] rfl (by (try simp only [List.map_toArray, List.map_cons, List.map_nil]); first | done | rfl | (simp only [List.length_drop, List.length_take]; rfl)) ?_; (with_reducible refine (gangsawref49_CheckJobs.calls k _ _ l0 _ _ l1 t430 _ ?side1 ?side2 ?side3 ?side4 A8.out).mono ?_); (case side1 => repeat (first | exact (Kd.C_below HR0.out HB.out) | (with_reducible refine Kd.C_alloc ?_ _) | (with_reducible refine Kd.C_drewN ?_ _) | (with_reducible refine Kd.C_drew ?_))); (case side2 => exact HC0.out); (case side3 => repeat (first | exact (Kd.C_below HR1.out HB.out) | (with_reducible refine Kd.C_alloc ?_ _) | (with_reducible refine Kd.C_drewN ?_ _) | (with_reducible refine Kd.C_drew ?_))); (case side4 => exact HC1.out); rintro e w12 ⟨rfl, hb⟩; refine ⟨_, rfl, ?_⟩; have n0_ := Aside0.mk (Kd.R_below (by (with_reducible repeat (first | apply Kd.R_alloc | apply Kd.R_drewN | apply Kd.R_drew)); exact HO429.out) hb); have n1_ := Aside0.mk (below_step (by repeat (first | (with_reducible first | exact HB.out | apply below_alloc | apply pw_below_drewN | apply below_drew1) | exact HB.out)) hb); clear HO429; clear HB; have HO429 := n0_; have HB := n1_; clear n0_ n1_; (try clear hb); (try clear hb2); (try clear hk); (try clear hi)))
   (try simp only [Act.put, List.setIfInBounds_toArray, List.set_cons_zero, List.set_cons_succ])
   go_cut [50] (fun v50 wc => ∃ (kq : Nat) (x50_8 : Bool), v50 = .bool x50_8 ∧ Aside0 (gangsawlaw49_MachineLoads.j0 kq l0 l1 x50_8 = some r) ∧ Aside0 (kq ≤ k) ∧ Aside0 (Below w.heap.size w wc))
   case first =>
    have H := HC9.out
    clear HC9
    by_cases c13 : t427 = t430
    ·rw [if_pos c13] at H
     have c13b0 : (t427 == t430) = true := beq_iff_eq.mpr c13
     have c13b1 : (t427 != t430) = false := bne_eq_false_iff_eq.mpr c13
     clear c13
     (first | rw [c13b0] | (simp only [i64_w, i32_w]; rw [c13b0]) | skip)
     by_cases c14 : t430 = 0
     ·rw [if_pos c14] at H
      have c14b0 : (t430 == 0) = true := beq_iff_eq.mpr c14
      have c14b1 : (t430 != 0) = false := bne_eq_false_iff_eq.mpr c14
      clear c14
      replace H := Option.bind_eq_some_iff.mp H
      obtain ⟨t431, A150, H⟩ := H
      replace H : ((gangsawref49_Same.f k t426 t431).bind fun t434 => (gangsawlaw49_MachineLoads.j0 k l0 l1 (!t434))) = some r := H
      have A15 := Aside0.mk A150
      clear A150
      replace H := Option.bind_eq_some_iff.mp H
      obtain ⟨t434, A160, H⟩ := H
      replace H : (gangsawlaw49_MachineLoads.j0 k l0 l1 (!t434)) = some r := H
      have A16 := Aside0.mk A160
      clear A160
      have H' := Aside0.mk H
      clear H
      go_wp2_with (first | (go_at_call 19; (with_reducible refine (gangsawref49_Load.calls k _ _ l0 _ _ l1 t431 _ ?side1 ?side2 ?side3 ?side4 A15.out).mono ?_); (case side1 => repeat (first | exact (Kd.C_below HR0.out HB.out) | (with_reducible refine Kd.C_alloc ?_ _) | (with_reducible refine Kd.C_drewN ?_ _) | (with_reducible refine Kd.C_drew ?_))); (case side2 => exact HC0.out); (case side3 => repeat (first | exact (Kd.C_below HR1.out HB.out) | (with_reducible refine Kd.C_alloc ?_ _) | (with_reducible refine Kd.C_drewN ?_ _) | (with_reducible refine Kd.C_drew ?_))); (case side4 => exact HC1.out); rintro e w17 ⟨v432, rfl, ho0, hb⟩; have n0_ := Aside0.mk (Kd.R_elder' (by (with_reducible repeat (first | apply Kd.R_alloc | apply Kd.R_drewN | apply Kd.R_drew)); exact HO429.out) (Kd.R_base ho0) hb); have n1_ := Aside0.mk (Kd.R_lower (Kd.R_new' ho0 (Kd.R_lt (by (with_reducible repeat (first | apply Kd.R_alloc | apply Kd.R_drewN | apply Kd.R_drew)); exact HO429.out))) (below_size (by repeat (first | (with_reducible first | exact HB.out | apply below_alloc | apply pw_below_drewN | apply below_drew1) | exact HB.out)))); have n2_ := Aside0.mk (below_step (by repeat (first | (with_reducible first | exact HB.out | apply below_alloc | apply pw_below_drewN | apply below_drew1) | exact HB.out)) hb); clear HO429; clear HB; have HO429 := n0_; have HO433 := n1_; have HB := n2_; clear n0_ n1_ n2_; (try clear hb); (try clear hb2); (try clear hk); (try clear hi); (try clear ho0); obtain ⟨Ao18, co18, eo18⟩ := Kd.R_slice HO429.out; subst eo18; obtain ⟨Ao19, co19, eo19⟩ := Kd.R_slice HO433.out; subst eo19) | (go_at_call 14; (with_reducible refine (gangsawref49_Same.calls k _ _ t426 _ _ t431 t434 _ ?side1 ?side2 ?side3 ?side4 A16.out).mono ?_); (case side1 => repeat (first | exact (Kd.R_reads' HO429.out).2.2 | (with_reducible refine Kd.C_alloc ?_ _) | (with_reducible refine Kd.C_drewN ?_ _) | (with_reducible refine Kd.C_drew ?_))); (case side2 => exact (Kd.R_reads' HO429.out).2.1); (case side3 => repeat (first | exact (Kd.R_reads' HO433.out).2.2 | (with_reducible refine Kd.C_alloc ?_ _) | (with_reducible refine Kd.C_drewN ?_ _) | (with_reducible refine Kd.C_drew ?_))); (case side4 => exact (Kd.R_reads' HO433.out).2.1); rintro e w' ⟨rfl, ⟨nd, rfl⟩⟩))
      go_meet
      case rel => exact ⟨_, (!t434), (by first | rfl | (simp; done) | (simp [*]; done)), H', ⟨by first | omega | exact Nat.le_refl _⟩, ⟨by repeat (first | (with_reducible first | exact HB.out | apply below_alloc | apply pw_below_drewN | apply below_drew1) | exact HB.out)⟩⟩
     ·rw [if_neg c14] at H
      have c14b0 : (t430 == 0) = false := beq_eq_false_iff_ne.mpr c14
      have c14b1 : (t430 != 0) = true := bne_iff_ne.mpr c14
      by_cases c20 : (t426.length : Int) = 0
      ·rw [if_pos c20] at H
       have c20b0 : ((t426.length : Int) == 0) = true := beq_iff_eq.mpr c20
       have c20b1 : ((t426.length : Int) != 0) = false := bne_eq_false_iff_eq.mpr c20
       clear c20
       have H' := Aside0.mk H
       clear H
       obtain ⟨Ao21, co21, eo21⟩ := Kd.R_slice HO429.out
       subst eo21
       go_wp2
       go_meet
       case rel => exact ⟨_, (false), (by first | rfl | (simp; done) | (simp [*]; done)), H', ⟨by first | omega | exact Nat.le_refl _⟩, ⟨by repeat (first | (with_reducible first | exact HB.out | apply below_alloc | apply pw_below_drewN | apply below_drew1) | exact HB.out)⟩⟩
      ·rw [if_neg c20] at H
       have c20b0 : ((t426.length : Int) == 0) = false := beq_eq_false_iff_ne.mpr c20
       have c20b1 : ((t426.length : Int) != 0) = true := bne_iff_ne.mpr c20
       have c20b2 : ¬ (t426 = []) := fun h_ => c20 (by rw [h_]; rfl)
       have H' := Aside0.mk H
       clear H
       obtain ⟨Ao22, co22, eo22⟩ := Kd.R_slice HO429.out
       subst eo22
       go_wp2
       go_meet
       case rel => exact ⟨_, (true), (by first | rfl | (simp; done) | (simp [*]; done)), H', ⟨by first | omega | exact Nat.le_refl _⟩, ⟨by repeat (first | (with_reducible first | exact HB.out | apply below_alloc | apply pw_below_drewN | apply below_drew1) | exact HB.out)⟩⟩
    ·rw [if_neg c13] at H
     have c13b0 : (t427 == t430) = false := beq_eq_false_iff_ne.mpr c13
     have c13b1 : (t427 != t430) = true := bne_iff_ne.mpr c13
     (first | rw [c13b0] | (simp only [i64_w, i32_w]; rw [c13b0]) | skip)
     have H' := Aside0.mk H
     clear H
     go_wp2
     go_meet
     case rel => exact ⟨_, (true), (by first | rfl | (simp; done) | (simp [*]; done)), H', ⟨by first | omega | exact Nat.le_refl _⟩, ⟨by repeat (first | (with_reducible first | exact HB.out | apply below_alloc | apply pw_below_drewN | apply below_drew1) | exact HB.out)⟩⟩
   case rest =>
    clear HC9
    try clear c1
    try clear c2
    try clear p2
    try clear c4
    try clear c5
    try clear c6
    try clear c9
    try clear c10
    try clear c13
    try clear c13b0
    try clear c13b1
    try clear c14
    try clear c14b0
    try clear c14b1
    try clear c17
    try clear c18
    try clear c20
    try clear c20b0
    try clear c20b1
    try clear c20b2
    obtain ⟨kq, x50_8, rfl, HA, HJ8, HB⟩ := hcut
    cases kq with
    | zero => exact absurd HA.out (by simp [gangsawlaw49_MachineLoads.j0])
    | succ kj8 =>
     have H := HA.out
     clear HA
     simp only [gangsawlaw49_MachineLoads.j0] at H
     by_cases c23 : x50_8 = true
     ·subst c23
      have H1 : (some false) = some r := by rw [if_pos rfl] at H; exact H
      clear H
      have H := H1
      clear H1
      obtain rfl := Option.some.inj H
      exact absurd hr (by decide)
     ·replace c23 := Bool.eq_false_iff.mpr c23
      subst c23
      have H1 : (gangsawlaw49_MachineLoads.l0 kj8 l0 l1 0) = some r := by rw [if_neg (show ¬ (false = true) by decide)] at H; exact H
      clear H
      have H := H1
      clear H1
      have H' := Aside0.mk H
      clear H
      go_wp2
      go_loopg [8] kj8 (fun kq v8 w' => ∃ (x8_2 : Int), v8 = .int .i64 x8_2 ∧ Aside0 (gangsawlaw49_MachineLoads.l0 kq l0 l1 x8_2 = some r) ∧ Aside0 (kq ≤ kj8) ∧ Aside0 (Below w.heap.size w w'))
      case atStart => exact ⟨(0), (by first | rfl | (simp; done) | (simp [*]; done)), H', ⟨Nat.le_refl _⟩, ⟨by repeat (first | (with_reducible first | exact HB.out | apply below_alloc | apply pw_below_drewN | apply below_drew1) | exact HB.out)⟩⟩
      case round =>
       clear H'
       try clear c1
       try clear c2
       try clear p2
       try clear c4
       try clear c5
       try clear c6
       try clear c9
       try clear c10
       try clear c13
       try clear c13b0
       try clear c13b1
       try clear c14
       try clear c14b0
       try clear c14b1
       try clear c17
       try clear c18
       try clear c20
       try clear c20b0
       try clear c20b1
       try clear c20b2
       try clear c23
       try clear p2
       obtain ⟨x8_2, rfl, HA, HK2, HB⟩ := hrel
       cases gk with
       | zero => exact absurd HA.out (by simp [gangsawlaw49_MachineLoads.l0])
       | succ k2 =>
        have H := HA.out
        clear HA
        simp only [gangsawlaw49_MachineLoads.l0] at H
        by_cases c24 : x8_2 < (l1.length : Int)
        ·rw [if_pos c24] at H
         have c24b0 : decide (x8_2 < (l1.length : Int)) = true := decide_eq_true c24
         clear c24
         by_cases c25 : 0 ≤ x8_2
         ·rw [if_pos c25] at H
          have c25b0 : decide (0 ≤ x8_2) = true := decide_eq_true c25
          clear c25
          replace H := Option.bind_eq_some_iff.mp H
          obtain ⟨⟨t436, t437⟩, A260, H⟩ := H
          replace H : ((gangsawref49_CheckJob.f k2 l0 ((rd_T47 l1 x8_2).f0) ((rd_T47 l1 x8_2).f1) ((rd_T47 l1 x8_2).f2) ((rd_T47 l1 x8_2).f3) ((rd_T47 l1 x8_2).f4)).bind fun t439 => (if t437 = t439 then (if t439 = 0 then ((gangsawref49_Chain.f k2 ((rd_T47 l1 x8_2).f0) ((rd_T47 l1 x8_2).f1) ((rd_T47 l1 x8_2).f2) ((rd_T47 l1 x8_2).f3) ((rd_T47 l1 x8_2).f4)).bind fun t441 => (if t436 = t441 then (gangsawlaw49_MachineLoads.l0 k2 l0 l1 (wrap64 (x8_2 + 1))) else (some false))) else (if t436 = 0 then (gangsawlaw49_MachineLoads.l0 k2 l0 l1 (wrap64 (x8_2 + 1))) else (some false))) else (some false))) = some r := H
          have A26 := Aside0.mk A260
          clear A260
          replace H := Option.bind_eq_some_iff.mp H
          obtain ⟨t439, A270, H⟩ := H
          replace H : (if t437 = t439 then (if t439 = 0 then ((gangsawref49_Chain.f k2 ((rd_T47 l1 x8_2).f0) ((rd_T47 l1 x8_2).f1) ((rd_T47 l1 x8_2).f2) ((rd_T47 l1 x8_2).f3) ((rd_T47 l1 x8_2).f4)).bind fun t441 => (if t436 = t441 then (gangsawlaw49_MachineLoads.l0 k2 l0 l1 (wrap64 (x8_2 + 1))) else (some false))) else (if t436 = 0 then (gangsawlaw49_MachineLoads.l0 k2 l0 l1 (wrap64 (x8_2 + 1))) else (some false))) else (some false)) = some r := H
          have A27 := Aside0.mk A270
          clear A270
          by_cases c28 : t437 = t439
          ·rw [if_pos c28] at H
           have c28b0 : (t437 == t439) = true := beq_iff_eq.mpr c28
           have c28b1 : (t437 != t439) = false := bne_eq_false_iff_eq.mpr c28
           clear c28
           by_cases c29 : t439 = 0
           ·rw [if_pos c29] at H
            have c29b0 : (t439 == 0) = true := beq_iff_eq.mpr c29
            have c29b1 : (t439 != 0) = false := bne_eq_false_iff_eq.mpr c29
            clear c29
            replace H := Option.bind_eq_some_iff.mp H
            obtain ⟨t441, A300, H⟩ := H
            replace H : (if t436 = t441 then (gangsawlaw49_MachineLoads.l0 k2 l0 l1 (wrap64 (x8_2 + 1))) else (some false)) = some r := H
            have A30 := Aside0.mk A300
            clear A300
            by_cases c31 : t436 = t441
            ·rw [if_pos c31] at H
             have c31b0 : (t436 == t441) = true := beq_iff_eq.mpr c31
             have c31b1 : (t436 != t441) = false := bne_eq_false_iff_eq.mpr c31
             clear c31
             have H' := Aside0.mk H
             clear H
             have p435 : 0 ≤ (x8_2 : Int) := of_decide_eq_true (by first | (with_reducible assumption) | assumption)
             have q435 : x8_2 < (l1.length : Int) := of_decide_eq_true (by first | (with_reducible assumption) | assumption)
             obtain ⟨ad435, A435_1, c435_1, e435, hx435_0, hx435_1, hx435_2, hx435_3, hx435_4, hl435_1, hi435_1⟩ := at_T47 HR1.out x8_2 p435 q435
             cases e435
             replace hx435_0 := (HB.out.cell (World.block_lt_of_cell? w _ hx435_0)).trans hx435_0
             replace hx435_1 := (HB.out.cell (World.block_lt_of_cell? w _ hx435_1)).trans hx435_1
             replace hx435_2 := (HB.out.cell (World.block_lt_of_cell? w _ hx435_2)).trans hx435_2
             replace hx435_3 := (HB.out.cell (World.block_lt_of_cell? w _ hx435_3)).trans hx435_3
             replace hx435_4 := (HB.out.cell (World.block_lt_of_cell? w _ hx435_4)).trans hx435_4
             have HR435_1 := Aside0.mk hi435_1
             have HC435_1 := Aside0.mk hl435_1
             clear hi435_1 hl435_1
             replace p435 := eq_true p435
             replace q435 := eq_true q435
             go_wp2_with (first | ((with_reducible refine gate_callee (f := 20) rfl ?_); refine goesL_ (some 63) rfl rfl Try.func20 (by kernel_rfl) rfl #[.slice A0 l0.length c0, .agg #[.string ((rd_T47 l1 x8_2).f0), .slice A435_1 ((rd_T47 l1 x8_2).f1).length c435_1, .int .i64 ((rd_T47 l1 x8_2).f2), .int .i64 ((rd_T47 l1 x8_2).f3), .int .i64 ((rd_T47 l1 x8_2).f4)]] rfl (by (try simp only [List.map_toArray, List.map_cons, List.map_nil]); first | done | rfl | (simp only [List.length_drop, List.length_take]; rfl)) ?_; (with_reducible refine (machine_Chain.calls k2 _ _ l0 ((rd_T47 l1 x8_2).f0) (fun k_ => k_ < w.heap.size) _ _ ((rd_T47 l1 x8_2).f1) ((rd_T47 l1 x8_2).f2) ((rd_T47 l1 x8_2).f3) ((rd_T47 l1 x8_2).f4) t436 t437 _ ?side1 ?side2 ?side3 A26.out).mono ?_); (case side1 => repeat (first | exact (Kd.C_below HR0.out HB.out) | (with_reducible refine Kd.C_alloc ?_ _) | (with_reducible refine Kd.C_drewN ?_ _) | (with_reducible refine Kd.C_drew ?_))); (case side2 => exact HC0.out); (case side3 => exact Kd.V_mk HC435_1.out (Kd.F_below (Kd.C_F k36_heap HR435_1.out) (by repeat (first | (with_reducible first | exact HB.out | apply below_alloc | apply pw_below_drewN | apply below_drew1) | exact HB.out)))); rintro e w32 ⟨rfl, hb⟩; refine ⟨_, rfl, ?_⟩; have n0_ := Aside0.mk (below_step (by repeat (first | (with_reducible first | exact HB.out | apply below_alloc | apply pw_below_drewN | apply below_drew1) | exact HB.out)) hb); clear HB; have HB := n0_; clear n0_; (try clear hb); (try clear hb2); (try clear hk); (try clear hi); have p438 : 0 ≤ (x8_2 : Int) := of_decide_eq_true (by first | (with_reducible assumption) | assumption); have q438 : x8_2 < (l1.length : Int) := of_decide_eq_true (by first | (with_reducible assumption) | assumption); obtain ⟨ad438, A438_1, c438_1, e438, hx438_0, hx438_1, hx438_2, hx438_3, hx438_4, hl438_1, hi438_1⟩ := at_T47 HR1.out x8_2 p438 q438; obtain rfl : ad435 = ad438 := (by injection e438); replace hx438_0 := (HB.out.cell (World.block_lt_of_cell? w _ hx438_0)).trans hx438_0; replace hx438_1 := (HB.out.cell (World.block_lt_of_cell? w _ hx438_1)).trans hx438_1; replace hx438_2 := (HB.out.cell (World.block_lt_of_cell? w _ hx438_2)).trans hx438_2; replace hx438_3 := (HB.out.cell (World.block_lt_of_cell? w _ hx438_3)).trans hx438_3; replace hx438_4 := (HB.out.cell (World.block_lt_of_cell? w _ hx438_4)).trans hx438_4; have HR438_1 := Aside0.mk hi438_1; have HC438_1 := Aside0.mk hl438_1; clear hi438_1 hl438_1; replace p438 := eq_true p438; replace q438 := eq_true q438) | ((with_reducible refine gate_callee (f := 21) rfl ?_); refine goesL_ (some 71) rfl rfl Try.func21 (by kernel_rfl) rfl #[.slice A0 l0.length c0, .agg #[.string ((rd_T47 l1 x8_2).f0), .slice A438_1 ((rd_T47 l1 x8_2).f1).length c438_1, .int .i64 ((rd_T47 l1 x8_2).f2), .int .i64 ((rd_T47 l1 x8_2).f3), .int .i64 ((rd_T47 l1 x8_2).f4)]] rfl (by (try simp only [List.map_toArray, List.map_cons, List.map_nil]); first | done | rfl | (simp only [List.length_drop, List.length_take]; rfl)) ?_; (with_reducible refine (gangsawref49_CheckJob.calls k2 _ _ l0 ((rd_T47 l1 x8_2).f0) (fun k_ => k_ < w.heap.size) _ _ ((rd_T47 l1 x8_2).f1) ((rd_T47 l1 x8_2).f2) ((rd_T47 l1 x8_2).f3) ((rd_T47 l1 x8_2).f4) t439 _ ?side1 ?side2 ?side3 A27.out).mono ?_); (case side1 => repeat (first | exact (Kd.C_below HR0.out HB.out) | (with_reducible refine Kd.C_alloc ?_ _) | (with_reducible refine Kd.C_drewN ?_ _) | (with_reducible refine Kd.C_drew ?_))); (case side2 => exact HC0.out); (case side3 => exact Kd.V_mk HC438_1.out (Kd.F_below (Kd.C_F k36_heap HR438_1.out) (by repeat (first | (with_reducible first | exact HB.out | apply below_alloc | apply pw_below_drewN | apply below_drew1) | exact HB.out)))); rintro e w33 ⟨rfl, hb⟩; refine ⟨_, rfl, ?_⟩; have n0_ := Aside0.mk (below_step (by repeat (first | (with_reducible first | exact HB.out | apply below_alloc | apply pw_below_drewN | apply below_drew1) | exact HB.out)) hb); clear HB; have HB := n0_; clear n0_; (try clear hb); (try clear hb2); (try clear hk); (try clear hi); have p440 : 0 ≤ (x8_2 : Int) := of_decide_eq_true (by first | (with_reducible assumption) | assumption); have q440 : x8_2 < (l1.length : Int) := of_decide_eq_true (by first | (with_reducible assumption) | assumption); obtain ⟨ad440, A440_1, c440_1, e440, hx440_0, hx440_1, hx440_2, hx440_3, hx440_4, hl440_1, hi440_1⟩ := at_T47 HR1.out x8_2 p440 q440; obtain rfl : ad435 = ad440 := (by injection e440); replace hx440_0 := (HB.out.cell (World.block_lt_of_cell? w _ hx440_0)).trans hx440_0; replace hx440_1 := (HB.out.cell (World.block_lt_of_cell? w _ hx440_1)).trans hx440_1; replace hx440_2 := (HB.out.cell (World.block_lt_of_cell? w _ hx440_2)).trans hx440_2; replace hx440_3 := (HB.out.cell (World.block_lt_of_cell? w _ hx440_3)).trans hx440_3; replace hx440_4 := (HB.out.cell (World.block_lt_of_cell? w _ hx440_4)).trans hx440_4; have HR440_1 := Aside0.mk hi440_1; have HC440_1 := Aside0.mk hl440_1; clear hi440_1 hl440_1; replace p440 := eq_true p440; replace q440 := eq_true q440) | (go_at_call 22; (with_reducible refine (gangsawref49_Chain.calls k2 ((rd_T47 l1 x8_2).f0) _ _ ((rd_T47 l1 x8_2).f1) ((rd_T47 l1 x8_2).f2) ((rd_T47 l1 x8_2).f3) ((rd_T47 l1 x8_2).f4) t441 _ ?side1 ?side2 A30.out).mono ?_); (case side1 => repeat (first | exact (Kd.C_below HR440_1.out HB.out) | (with_reducible refine Kd.C_alloc ?_ _) | (with_reducible refine Kd.C_drewN ?_ _) | (with_reducible refine Kd.C_drew ?_))); (case side2 => exact HC440_1.out); rintro e w34 ⟨rfl, hb⟩; have n0_ := Aside0.mk (below_step (by repeat (first | (with_reducible first | exact HB.out | apply below_alloc | apply pw_below_drewN | apply below_drew1) | exact HB.out)) hb); clear HB; have HB := n0_; clear n0_; (try clear hb); (try clear hb2); (try clear hk); (try clear hi)))
             go_roundg k2
             case measure => have := HJ8.out; have := HK2.out; omega
             case rel => exact ⟨(wrap64 (x8_2 + 1)), (by first | rfl | (simp; done) | (simp [*]; done)), H', ⟨by have := HJ8.out; have := HK2.out; omega⟩, ⟨by repeat (first | (with_reducible first | exact HB.out | apply below_alloc | apply pw_below_drewN | apply below_drew1) | exact HB.out)⟩⟩
            ·rw [if_neg c31] at H
             have c31b0 : (t436 == t441) = false := beq_eq_false_iff_ne.mpr c31
             have c31b1 : (t436 != t441) = true := bne_iff_ne.mpr c31
             obtain rfl := Option.some.inj H
             exact absurd hr (by decide)
           ·rw [if_neg c29] at H
            have c29b0 : (t439 == 0) = false := beq_eq_false_iff_ne.mpr c29
            have c29b1 : (t439 != 0) = true := bne_iff_ne.mpr c29
            by_cases c35 : t436 = 0
            ·rw [if_pos c35] at H
             have c35b0 : (t436 == 0) = true := beq_iff_eq.mpr c35
             have c35b1 : (t436 != 0) = false := bne_eq_false_iff_eq.mpr c35
             clear c35
             have H' := Aside0.mk H
             clear H
             have p435 : 0 ≤ (x8_2 : Int) := of_decide_eq_true (by first | (with_reducible assumption) | assumption)
             have q435 : x8_2 < (l1.length : Int) := of_decide_eq_true (by first | (with_reducible assumption) | assumption)
             obtain ⟨ad435, A435_1, c435_1, e435, hx435_0, hx435_1, hx435_2, hx435_3, hx435_4, hl435_1, hi435_1⟩ := at_T47 HR1.out x8_2 p435 q435
             cases e435
             replace hx435_0 := (HB.out.cell (World.block_lt_of_cell? w _ hx435_0)).trans hx435_0
             replace hx435_1 := (HB.out.cell (World.block_lt_of_cell? w _ hx435_1)).trans hx435_1
             replace hx435_2 := (HB.out.cell (World.block_lt_of_cell? w _ hx435_2)).trans hx435_2
             replace hx435_3 := (HB.out.cell (World.block_lt_of_cell? w _ hx435_3)).trans hx435_3
             replace hx435_4 := (HB.out.cell (World.block_lt_of_cell? w _ hx435_4)).trans hx435_4
             have HR435_1 := Aside0.mk hi435_1
             have HC435_1 := Aside0.mk hl435_1
             clear hi435_1 hl435_1
             replace p435 := eq_true p435
             replace q435 := eq_true q435
             go_wp2_with (first | ((with_reducible refine gate_callee (f := 20) rfl ?_); refine goesL_ (some 63) rfl rfl Try.func20 (by kernel_rfl) rfl #[.slice A0 l0.length c0, .agg #[.string ((rd_T47 l1 x8_2).f0), .slice A435_1 ((rd_T47 l1 x8_2).f1).length c435_1, .int .i64 ((rd_T47 l1 x8_2).f2), .int .i64 ((rd_T47 l1 x8_2).f3), .int .i64 ((rd_T47 l1 x8_2).f4)]] rfl (by (try simp only [List.map_toArray, List.map_cons, List.map_nil]); first | done | rfl | (simp only [List.length_drop, List.length_take]; rfl)) ?_; (with_reducible refine (machine_Chain.calls k2 _ _ l0 ((rd_T47 l1 x8_2).f0) (fun k_ => k_ < w.heap.size) _ _ ((rd_T47 l1 x8_2).f1) ((rd_T47 l1 x8_2).f2) ((rd_T47 l1 x8_2).f3) ((rd_T47 l1 x8_2).f4) t436 t437 _ ?side1 ?side2 ?side3 A26.out).mono ?_); (case side1 => repeat (first | exact (Kd.C_below HR0.out HB.out) | (with_reducible refine Kd.C_alloc ?_ _) | (with_reducible refine Kd.C_drewN ?_ _) | (with_reducible refine Kd.C_drew ?_))); (case side2 => exact HC0.out); (case side3 => exact Kd.V_mk HC435_1.out (Kd.F_below (Kd.C_F k36_heap HR435_1.out) (by repeat (first | (with_reducible first | exact HB.out | apply below_alloc | apply pw_below_drewN | apply below_drew1) | exact HB.out)))); rintro e w36 ⟨rfl, hb⟩; refine ⟨_, rfl, ?_⟩; have n0_ := Aside0.mk (below_step (by repeat (first | (with_reducible first | exact HB.out | apply below_alloc | apply pw_below_drewN | apply below_drew1) | exact HB.out)) hb); clear HB; have HB := n0_; clear n0_; (try clear hb); (try clear hb2); (try clear hk); (try clear hi); have p438 : 0 ≤ (x8_2 : Int) := of_decide_eq_true (by first | (with_reducible assumption) | assumption); have q438 : x8_2 < (l1.length : Int) := of_decide_eq_true (by first | (with_reducible assumption) | assumption); obtain ⟨ad438, A438_1, c438_1, e438, hx438_0, hx438_1, hx438_2, hx438_3, hx438_4, hl438_1, hi438_1⟩ := at_T47 HR1.out x8_2 p438 q438; obtain rfl : ad435 = ad438 := (by injection e438); replace hx438_0 := (HB.out.cell (World.block_lt_of_cell? w _ hx438_0)).trans hx438_0; replace hx438_1 := (HB.out.cell (World.block_lt_of_cell? w _ hx438_1)).trans hx438_1; replace hx438_2 := (HB.out.cell (World.block_lt_of_cell? w _ hx438_2)).trans hx438_2; replace hx438_3 := (HB.out.cell (World.block_lt_of_cell? w _ hx438_3)).trans hx438_3; replace hx438_4 := (HB.out.cell (World.block_lt_of_cell? w _ hx438_4)).trans hx438_4; have HR438_1 := Aside0.mk hi438_1; have HC438_1 := Aside0.mk hl438_1; clear hi438_1 hl438_1; replace p438 := eq_true p438; replace q438 := eq_true q438) | ((with_reducible refine gate_callee (f := 21) rfl ?_); refine goesL_ (some 71) rfl rfl Try.func21 (by kernel_rfl) rfl #[.slice A0 l0.length c0, .agg #[.string ((rd_T47 l1 x8_2).f0), .slice A438_1 ((rd_T47 l1 x8_2).f1).length c438_1, .int .i64 ((rd_T47 l1 x8_2).f2), .int .i64 ((rd_T47 l1 x8_2).f3), .int .i64 ((rd_T47 l1 x8_2).f4)]] rfl (by (try simp only [List.map_toArray, List.map_cons, List.map_nil]); first | done | rfl | (simp only [List.length_drop, List.length_take]; rfl)) ?_; (with_reducible refine (gangsawref49_CheckJob.calls k2 _ _ l0 ((rd_T47 l1 x8_2).f0) (fun k_ => k_ < w.heap.size) _ _ ((rd_T47 l1 x8_2).f1) ((rd_T47 l1 x8_2).f2) ((rd_T47 l1 x8_2).f3) ((rd_T47 l1 x8_2).f4) t439 _ ?side1 ?side2 ?side3 A27.out).mono ?_); (case side1 => repeat (first | exact (Kd.C_below HR0.out HB.out) | (with_reducible refine Kd.C_alloc ?_ _) | (with_reducible refine Kd.C_drewN ?_ _) | (with_reducible refine Kd.C_drew ?_))); (case side2 => exact HC0.out); (case side3 => exact Kd.V_mk HC438_1.out (Kd.F_below (Kd.C_F k36_heap HR438_1.out) (by repeat (first | (with_reducible first | exact HB.out | apply below_alloc | apply pw_below_drewN | apply below_drew1) | exact HB.out)))); rintro e w37 ⟨rfl, hb⟩; refine ⟨_, rfl, ?_⟩; have n0_ := Aside0.mk (below_step (by repeat (first | (with_reducible first | exact HB.out | apply below_alloc | apply pw_below_drewN | apply below_drew1) | exact HB.out)) hb); clear HB; have HB := n0_; clear n0_; (try clear hb); (try clear hb2); (try clear hk); (try clear hi)))
             go_roundg k2
             case measure => have := HJ8.out; have := HK2.out; omega
             case rel => exact ⟨(wrap64 (x8_2 + 1)), (by first | rfl | (simp; done) | (simp [*]; done)), H', ⟨by have := HJ8.out; have := HK2.out; omega⟩, ⟨by repeat (first | (with_reducible first | exact HB.out | apply below_alloc | apply pw_below_drewN | apply below_drew1) | exact HB.out)⟩⟩
            ·rw [if_neg c35] at H
             have c35b0 : (t436 == 0) = false := beq_eq_false_iff_ne.mpr c35
             have c35b1 : (t436 != 0) = true := bne_iff_ne.mpr c35
             obtain rfl := Option.some.inj H
             exact absurd hr (by decide)
          ·rw [if_neg c28] at H
           have c28b0 : (t437 == t439) = false := beq_eq_false_iff_ne.mpr c28
           have c28b1 : (t437 != t439) = true := bne_iff_ne.mpr c28
           obtain rfl := Option.some.inj H
           exact absurd hr (by decide)
         ·rw [if_neg c25] at H
          exact absurd H (by simp)
        ·rw [if_neg c24] at H
         have c24b0 : decide (x8_2 < (l1.length : Int)) = false := decide_eq_false c24
         clear c24
         obtain rfl := Option.some.inj H
         simp only [Option.some.injEq, Prod.mk.injEq] at H
         obtain ⟨rfl⟩ := H
         go_wp2
         go_ret
         exact ⟨by first | rfl | (simp [errW_none, errW_some] <;> rfl) | (simp [*, errW_none, errW_some] <;> rfl), by repeat (first | (with_reducible first | exact HB.out | apply below_alloc | apply pw_below_drewN | apply below_drew1) | exact HB.out)⟩
  ·replace c6 := Bool.eq_false_iff.mpr c6
   subst c6
   have H1 : (some true) = some r := by rw [if_neg (show ¬ (false = true) by decide)] at H; exact H
   clear H
   have H := H1
   clear H1
   obtain rfl := Option.some.inj H
   simp only [Option.some.injEq, Prod.mk.injEq] at H
   obtain ⟨rfl⟩ := H
   go_enter Try.func5, Try.ntmps5
   go_wp2_with (first | ((with_reducible refine gate_callee (f := 9) rfl ?_); refine goesL_ (some 12) rfl rfl Try.func9 (by kernel_rfl) rfl #[] rfl (by (try simp only [List.map_toArray, List.map_cons, List.map_nil]); first | done | rfl | (simp only [List.length_drop, List.length_take]; rfl)) ?_; (with_reducible refine (gangsawlaw49_awake_N.calls  true _ A3.out).mono ?_); rintro e w38 ⟨rfl, hb⟩; refine ⟨_, rfl, ?_⟩; have n0_ := Aside0.mk (below_step (by repeat (first | (with_reducible first | exact HB.out | apply below_alloc | apply pw_below_drewN | apply below_drew1) | exact HB.out)) hb); clear HB; have HB := n0_; clear n0_; (try clear hb); (try clear hb2); (try clear hk); (try clear hi)) | ((with_reducible refine gate_callee (f := 10) rfl ?_); refine goesL_ (some 16) rfl rfl Try.func10 (by kernel_rfl) rfl #[.slice A0 l0.length c0, .slice A1 l1.length c1] rfl (by (try simp only [List.map_toArray, List.map_cons, List.map_nil]); first | done | rfl | (simp only [List.length_drop, List.length_take]; rfl)) ?_; (with_reducible refine (gangsawref49_Small.calls k _ _ l0 _ _ l1 false _ ?side1 ?side2 ?side3 ?side4 A5.out).mono ?_); (case side1 => repeat (first | exact (Kd.C_below HR0.out HB.out) | (with_reducible refine Kd.C_alloc ?_ _) | (with_reducible refine Kd.C_drewN ?_ _) | (with_reducible refine Kd.C_drew ?_))); (case side2 => exact HC0.out); (case side3 => repeat (first | exact (Kd.C_below HR1.out HB.out) | (with_reducible refine Kd.C_alloc ?_ _) | (with_reducible refine Kd.C_drewN ?_ _) | (with_reducible refine Kd.C_drew ?_))); (case side4 => exact HC1.out); rintro e w' ⟨rfl, ⟨nd, rfl⟩⟩; refine ⟨_, rfl, ?_⟩))
   go_ret
   exact ⟨by first | rfl | (simp [errW_none, errW_some] <;> rfl) | (simp [*, errW_none, errW_some] <;> rfl), by repeat (first | (with_reducible first | exact HB.out | apply below_alloc | apply pw_below_drewN | apply below_drew1) | exact HB.out)⟩
 ·replace c4 := Bool.eq_false_iff.mpr c4
  subst c4
  have H1 : (some false) = some r := by rw [if_neg (show ¬ (false = true) by decide)] at H; exact H
  clear H
  have H := H1
  clear H1
  obtain rfl := Option.some.inj H
  exact absurd hr (by decide)

end Go.Proofs.Ytpfggghpkdnppaa.P
