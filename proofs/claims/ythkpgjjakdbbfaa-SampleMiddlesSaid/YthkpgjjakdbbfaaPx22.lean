/- What functions of the program return: each contract says so of one function, for every input at which its pure function yields. -/
import Derived.Test.YthkpgjjakdbbfaaPx0
import Derived.Test.YthkpgjjakdbbfaaPx12
import Derived.Test.YthkpgjjakdbbfaaPx19
import Derived.Test.YthkpgjjakdbbfaaPx20
import Derived.Test.YthkpgjjakdbbfaaPx21
namespace Go.Proofs.Ythkpgjjakdbbfaa.P
open Go.RowKit Go.Proofs.YthkpgjjakdbbfaaW.PrintWords Go.Proofs.YthkpgjjakdbbfaaW.PrintLast Go.Proofs.YthkpgjjakdbbfaaW.PrintMore
attribute [local go_sem] max2_int min2_int max_two min_two max_three min_three max_four min_four   -- for this text's walks alone
set_option linter.unusedVariables false
set_option linter.unusedSimpArgs false

def gangsawlaw33_SampleMiddles.f (k : Nat) (l0 : List (S51)) : Option (Bool) := (gangsawlaw33_awake_N.f).bind fun t434 => (if t434 = true then ((gangsawref33_Few.f k l0).bind fun t435 => (if t435 = true then ((sample_Median.f k l0).bind fun bt436 => ((sample_Outliers.f k l0).bind fun bt439 => ((gangsawref33_Median.f k l0).bind fun bt443 => ((gangsawref33_Outliers.f k l0).bind fun bt446 => (if bt436.1 = bt443.1 then (if bt436.2.1 = bt443.2.1 then (if bt436.2.2 = bt443.2.2 then ((gangsawref33_Same.f k bt439.1 bt446.1).bind fun t450 => (if t450 = true then (some (bt439.2 == bt446.2)) else (some false))) else (some false)) else (some false)) else (some false)))))) else (some true))) else (some false))
set_option maxHeartbeats 8000000 in
set_option maxRecDepth 100000 in
theorem gangsawlaw33_SampleMiddles.calls (k : Nat) (A0 : Option Addr) (c0 : Nat) (l0 : List (S51)) (r : Bool) (w : World) (hr0 : Kd.C k51 w A0 l0.length l0) (hc0 : l0.length ≤ c0) (h : gangsawlaw33_SampleMiddles.f k l0 = some r) (hr : r = true) :
  Calls Try.prog 8 #[.slice A0 l0.length c0] w fun e w' => e = .returned (.bool r) ∧ Below w.heap.size w w' := by
 have HR0 := Aside0.mk hr0
 have HC0 := Aside0.mk hc0
 clear hr0 hc0
 have HB := Aside0.mk (Below.refl w.heap.size w)
 have H : ((gangsawlaw33_awake_N.f).bind fun t434 => (if t434 = true then ((gangsawref33_Few.f k l0).bind fun t435 => (if t435 = true then ((sample_Median.f k l0).bind fun bt436 => ((sample_Outliers.f k l0).bind fun bt439 => ((gangsawref33_Median.f k l0).bind fun bt443 => ((gangsawref33_Outliers.f k l0).bind fun bt446 => (if bt436.1 = bt443.1 then (if bt436.2.1 = bt443.2.1 then (if bt436.2.2 = bt443.2.2 then ((gangsawref33_Same.f k bt439.1 bt446.1).bind fun t450 => (if t450 = true then (some (bt439.2 == bt446.2)) else (some false))) else (some false)) else (some false)) else (some false)))))) else (some true))) else (some false))) = some r := h
 clear h
 replace H := Option.bind_eq_some_iff.mp H
 obtain ⟨t434, A20, H⟩ := H
 replace H : (if t434 = true then ((gangsawref33_Few.f k l0).bind fun t435 => (if t435 = true then ((sample_Median.f k l0).bind fun bt436 => ((sample_Outliers.f k l0).bind fun bt439 => ((gangsawref33_Median.f k l0).bind fun bt443 => ((gangsawref33_Outliers.f k l0).bind fun bt446 => (if bt436.1 = bt443.1 then (if bt436.2.1 = bt443.2.1 then (if bt436.2.2 = bt443.2.2 then ((gangsawref33_Same.f k bt439.1 bt446.1).bind fun t450 => (if t450 = true then (some (bt439.2 == bt446.2)) else (some false))) else (some false)) else (some false)) else (some false)))))) else (some true))) else (some false)) = some r := H
 have A2 := Aside0.mk A20
 clear A20
 by_cases c3 : t434 = true
 ·subst c3
  have H1 : ((gangsawref33_Few.f k l0).bind fun t435 => (if t435 = true then ((sample_Median.f k l0).bind fun bt436 => ((sample_Outliers.f k l0).bind fun bt439 => ((gangsawref33_Median.f k l0).bind fun bt443 => ((gangsawref33_Outliers.f k l0).bind fun bt446 => (if bt436.1 = bt443.1 then (if bt436.2.1 = bt443.2.1 then (if bt436.2.2 = bt443.2.2 then ((gangsawref33_Same.f k bt439.1 bt446.1).bind fun t450 => (if t450 = true then (some (bt439.2 == bt446.2)) else (some false))) else (some false)) else (some false)) else (some false)))))) else (some true))) = some r := by rw [if_pos rfl] at H; exact H
  clear H
  have H := H1
  clear H1
  replace H := Option.bind_eq_some_iff.mp H
  obtain ⟨t435, A40, H⟩ := H
  replace H : (if t435 = true then ((sample_Median.f k l0).bind fun bt436 => ((sample_Outliers.f k l0).bind fun bt439 => ((gangsawref33_Median.f k l0).bind fun bt443 => ((gangsawref33_Outliers.f k l0).bind fun bt446 => (if bt436.1 = bt443.1 then (if bt436.2.1 = bt443.2.1 then (if bt436.2.2 = bt443.2.2 then ((gangsawref33_Same.f k bt439.1 bt446.1).bind fun t450 => (if t450 = true then (some (bt439.2 == bt446.2)) else (some false))) else (some false)) else (some false)) else (some false)))))) else (some true)) = some r := H
  have A4 := Aside0.mk A40
  clear A40
  by_cases c5 : t435 = true
  ·subst c5
   have H1 : ((sample_Median.f k l0).bind fun bt436 => ((sample_Outliers.f k l0).bind fun bt439 => ((gangsawref33_Median.f k l0).bind fun bt443 => ((gangsawref33_Outliers.f k l0).bind fun bt446 => (if bt436.1 = bt443.1 then (if bt436.2.1 = bt443.2.1 then (if bt436.2.2 = bt443.2.2 then ((gangsawref33_Same.f k bt439.1 bt446.1).bind fun t450 => (if t450 = true then (some (bt439.2 == bt446.2)) else (some false))) else (some false)) else (some false)) else (some false)))))) = some r := by rw [if_pos rfl] at H; exact H
   clear H
   have H := H1
   clear H1
   replace H := Option.bind_eq_some_iff.mp H
   obtain ⟨⟨t436, t437, t438⟩, A60, H⟩ := H
   replace H : ((sample_Outliers.f k l0).bind fun bt439 => ((gangsawref33_Median.f k l0).bind fun bt443 => ((gangsawref33_Outliers.f k l0).bind fun bt446 => (if t436 = bt443.1 then (if t437 = bt443.2.1 then (if t438 = bt443.2.2 then ((gangsawref33_Same.f k bt439.1 bt446.1).bind fun t450 => (if t450 = true then (some (bt439.2 == bt446.2)) else (some false))) else (some false)) else (some false)) else (some false))))) = some r := H
   have A6 := Aside0.mk A60
   clear A60
   replace H := Option.bind_eq_some_iff.mp H
   obtain ⟨⟨t439, t440⟩, A70, H⟩ := H
   replace H : ((gangsawref33_Median.f k l0).bind fun bt443 => ((gangsawref33_Outliers.f k l0).bind fun bt446 => (if t436 = bt443.1 then (if t437 = bt443.2.1 then (if t438 = bt443.2.2 then ((gangsawref33_Same.f k t439 bt446.1).bind fun t450 => (if t450 = true then (some (t440 == bt446.2)) else (some false))) else (some false)) else (some false)) else (some false)))) = some r := H
   have A7 := Aside0.mk A70
   clear A70
   replace H := Option.bind_eq_some_iff.mp H
   obtain ⟨⟨t443, t444, t445⟩, A80, H⟩ := H
   replace H : ((gangsawref33_Outliers.f k l0).bind fun bt446 => (if t436 = t443 then (if t437 = t444 then (if t438 = t445 then ((gangsawref33_Same.f k t439 bt446.1).bind fun t450 => (if t450 = true then (some (t440 == bt446.2)) else (some false))) else (some false)) else (some false)) else (some false))) = some r := H
   have A8 := Aside0.mk A80
   clear A80
   replace H := Option.bind_eq_some_iff.mp H
   obtain ⟨⟨t446, t447⟩, A90, H⟩ := H
   replace H : (if t436 = t443 then (if t437 = t444 then (if t438 = t445 then ((gangsawref33_Same.f k t439 t446).bind fun t450 => (if t450 = true then (some (t440 == t447)) else (some false))) else (some false)) else (some false)) else (some false)) = some r := H
   have A9 := Aside0.mk A90
   clear A90
   by_cases c10 : t436 = t443
   ·rw [if_pos c10] at H
    have c10b0 : (t436 == t443) = true := beq_iff_eq.mpr c10
    have c10b1 : (t436 != t443) = false := bne_eq_false_iff_eq.mpr c10
    clear c10
    by_cases c11 : t437 = t444
    ·rw [if_pos c11] at H
     have c11b0 : (t437 == t444) = true := beq_iff_eq.mpr c11
     have c11b1 : (t437 != t444) = false := bne_eq_false_iff_eq.mpr c11
     clear c11
     by_cases c12 : t438 = t445
     ·rw [if_pos c12] at H
      have c12b0 : (t438 == t445) = true := beq_iff_eq.mpr c12
      have c12b1 : (t438 != t445) = false := bne_eq_false_iff_eq.mpr c12
      clear c12
      replace H := Option.bind_eq_some_iff.mp H
      obtain ⟨t450, A130, H⟩ := H
      replace H : (if t450 = true then (some (t440 == t447)) else (some false)) = some r := H
      have A13 := Aside0.mk A130
      clear A130
      by_cases c14 : t450 = true
      ·subst c14
       have H1 : (some (t440 == t447)) = some r := by rw [if_pos rfl] at H; exact H
       clear H
       have H := H1
       clear H1
       obtain rfl := Option.some.inj H
       simp only [Option.some.injEq, Prod.mk.injEq] at H
       obtain ⟨rfl⟩ := H
       go_enter Try.func8, Try.ntmps8
       go_wp2_with (first | ((with_reducible refine gate_callee (f := 10) rfl ?_); refine goesL_ (some 13) rfl rfl Try.func10 (by kernel_rfl) rfl #[] rfl (by (try simp only [List.map_toArray, List.map_cons, List.map_nil]); first | done | rfl | (simp only [List.length_drop, List.length_take]; rfl)) ?_; (with_reducible refine (gangsawlaw33_awake_N.calls  true _ A2.out).mono ?_); rintro e w15 ⟨rfl, hb⟩; refine ⟨_, rfl, ?_⟩; have n0_ := Aside0.mk (below_step (by repeat (first | (with_reducible first | exact HB.out | apply below_alloc | apply pw_below_drewN | apply below_drew1) | exact HB.out)) hb); clear HB; have HB := n0_; clear n0_; (try clear hb); (try clear hb2); (try clear hk); (try clear hi)) | ((with_reducible refine gate_callee (f := 11) rfl ?_); refine goesL_ (some 16) rfl rfl Try.func11 (by kernel_rfl) rfl #[.slice A0 l0.length c0] rfl (by (try simp only [List.map_toArray, List.map_cons, List.map_nil]); first | done | rfl | (simp only [List.length_drop, List.length_take]; rfl)) ?_; (with_reducible refine (gangsawref33_Few.calls k _ _ l0 true _ ?side1 ?side2 A4.out).mono ?_); (case side1 => repeat (first | exact (Kd.C_below HR0.out HB.out) | (with_reducible refine Kd.C_alloc ?_ _) | (with_reducible refine Kd.C_drewN ?_ _) | (with_reducible refine Kd.C_drew ?_))); (case side2 => exact HC0.out); rintro e w' ⟨rfl, ⟨nd, rfl⟩⟩; refine ⟨_, rfl, ?_⟩) | ((with_reducible refine gate_callee (f := 26) rfl ?_); refine goesL_ (some 20) rfl rfl Try.func26 (by kernel_rfl) rfl #[.slice A0 l0.length c0] rfl (by (try simp only [List.map_toArray, List.map_cons, List.map_nil]); first | done | rfl | (simp only [List.length_drop, List.length_take]; rfl)) ?_; (with_reducible refine (sample_Median.calls k _ _ l0 t436 t437 t438 _ ?side1 ?side2 A6.out).mono ?_); (case side1 => repeat (first | exact (Kd.C_below HR0.out (by repeat (first | (with_reducible first | exact HB.out | apply below_alloc | apply pw_below_drewN | apply below_drew1) | exact HB.out))) | (with_reducible refine Kd.C_alloc ?_ _) | (with_reducible refine Kd.C_drewN ?_ _) | (with_reducible refine Kd.C_drew ?_))); (case side2 => exact HC0.out); rintro e w16 ⟨rfl, hb⟩; refine ⟨_, rfl, ?_⟩; have n0_ := Aside0.mk (below_step (by repeat (first | (with_reducible first | exact HB.out | apply below_alloc | apply pw_below_drewN | apply below_drew1) | exact HB.out)) hb); clear HB; have HB := n0_; clear n0_; (try clear hb); (try clear hb2); (try clear hk); (try clear hi)) | ((with_reducible refine gate_callee (f := 24) rfl ?_); refine goesL_ (some 26) rfl rfl Try.func24 (by kernel_rfl) rfl #[.slice A0 l0.length c0] rfl (by (try simp only [List.map_toArray, List.map_cons, List.map_nil]); first | done | rfl | (simp only [List.length_drop, List.length_take]; rfl)) ?_; (with_reducible refine (sample_Outliers.calls k _ _ l0 t439 t440 _ ?side1 ?side2 A7.out).mono ?_); (case side1 => repeat (first | exact (Kd.C_below HR0.out HB.out) | (with_reducible refine Kd.C_alloc ?_ _) | (with_reducible refine Kd.C_drewN ?_ _) | (with_reducible refine Kd.C_drew ?_))); (case side2 => exact HC0.out); rintro e w17 ⟨v441, rfl, ho0, hb⟩; refine ⟨_, rfl, ?_⟩; have n0_ := Aside0.mk (Kd.R_lower ho0 (below_size (by repeat (first | (with_reducible first | exact HB.out | apply below_alloc | apply pw_below_drewN | apply below_drew1) | exact HB.out)))); have n1_ := Aside0.mk (below_step (by repeat (first | (with_reducible first | exact HB.out | apply below_alloc | apply pw_below_drewN | apply below_drew1) | exact HB.out)) hb); clear HB; have HO442 := n0_; have HB := n1_; clear n0_ n1_; (try clear hb); (try clear hb2); (try clear hk); (try clear hi); (try clear ho0)) | ((with_reducible refine gate_callee (f := 27) rfl ?_); refine goesL_ (some 31) rfl rfl Try.func27 (by kernel_rfl) rfl #[.slice A0 l0.length c0] rfl (by (try simp only [List.map_toArray, List.map_cons, List.map_nil]); first | done | rfl | (simp only [List.length_drop, List.length_take]; rfl)) ?_; (with_reducible refine (gangsawref33_Median.calls k _ _ l0 t443 t444 t445 _ ?side1 ?side2 A8.out).mono ?_); (case side1 => repeat (first | exact (Kd.C_below HR0.out HB.out) | (with_reducible refine Kd.C_alloc ?_ _) | (with_reducible refine Kd.C_drewN ?_ _) | (with_reducible refine Kd.C_drew ?_))); (case side2 => exact HC0.out); rintro e w18 ⟨rfl, hb⟩; refine ⟨_, rfl, ?_⟩; have n0_ := Aside0.mk (Kd.R_below (by (with_reducible repeat (first | apply Kd.R_alloc | apply Kd.R_drewN | apply Kd.R_drew)); exact HO442.out) hb); have n1_ := Aside0.mk (below_step (by repeat (first | (with_reducible first | exact HB.out | apply below_alloc | apply pw_below_drewN | apply below_drew1) | exact HB.out)) hb); clear HO442; clear HB; have HO442 := n0_; have HB := n1_; clear n0_ n1_; (try clear hb); (try clear hb2); (try clear hk); (try clear hi)) | ((with_reducible refine gate_callee (f := 28) rfl ?_); refine goesL_ (some 37) rfl rfl Try.func28 (by kernel_rfl) rfl #[.slice A0 l0.length c0] rfl (by (try simp only [List.map_toArray, List.map_cons, List.map_nil]); first | done | rfl | (simp only [List.length_drop, List.length_take]; rfl)) ?_; (with_reducible refine (gangsawref33_Outliers.calls k _ _ l0 t446 t447 _ ?side1 ?side2 A9.out).mono ?_); (case side1 => repeat (first | exact (Kd.C_below HR0.out HB.out) | (with_reducible refine Kd.C_alloc ?_ _) | (with_reducible refine Kd.C_drewN ?_ _) | (with_reducible refine Kd.C_drew ?_))); (case side2 => exact HC0.out); rintro e w19 ⟨v448, rfl, ho0, hb⟩; refine ⟨_, rfl, ?_⟩; have n0_ := Aside0.mk (Kd.R_elder' (by (with_reducible repeat (first | apply Kd.R_alloc | apply Kd.R_drewN | apply Kd.R_drew)); exact HO442.out) (Kd.R_base ho0) hb); have n1_ := Aside0.mk (Kd.R_lower (Kd.R_new' ho0 (Kd.R_lt (by (with_reducible repeat (first | apply Kd.R_alloc | apply Kd.R_drewN | apply Kd.R_drew)); exact HO442.out))) (below_size (by repeat (first | (with_reducible first | exact HB.out | apply below_alloc | apply pw_below_drewN | apply below_drew1) | exact HB.out)))); have n2_ := Aside0.mk (below_step (by repeat (first | (with_reducible first | exact HB.out | apply below_alloc | apply pw_below_drewN | apply below_drew1) | exact HB.out)) hb); clear HO442; clear HB; have HO442 := n0_; have HO449 := n1_; have HB := n2_; clear n0_ n1_ n2_; (try clear hb); (try clear hb2); (try clear hk); (try clear hi); (try clear ho0); obtain ⟨Ao20, co20, eo20⟩ := Kd.R_slice HO442.out; subst eo20; obtain ⟨Ao21, co21, eo21⟩ := Kd.R_slice HO449.out; subst eo21) | (go_at_call 25; (with_reducible refine (gangsawref33_Same.calls k _ _ t439 _ _ t446 true _ ?side1 ?side2 ?side3 ?side4 A13.out).mono ?_); (case side1 => repeat (first | exact (Kd.R_reads' HO442.out).2.2 | (with_reducible refine Kd.C_alloc ?_ _) | (with_reducible refine Kd.C_drewN ?_ _) | (with_reducible refine Kd.C_drew ?_))); (case side2 => exact (Kd.R_reads' HO442.out).2.1); (case side3 => repeat (first | exact (Kd.R_reads' HO449.out).2.2 | (with_reducible refine Kd.C_alloc ?_ _) | (with_reducible refine Kd.C_drewN ?_ _) | (with_reducible refine Kd.C_drew ?_))); (case side4 => exact (Kd.R_reads' HO449.out).2.1); rintro e w' ⟨rfl, ⟨nd, rfl⟩⟩))
       go_ret
       exact ⟨by first | rfl | (simp [errW_none, errW_some] <;> rfl) | (simp [*, errW_none, errW_some] <;> rfl), by repeat (first | (with_reducible first | exact HB.out | apply below_alloc | apply pw_below_drewN | apply below_drew1) | exact HB.out)⟩
      ·replace c14 := Bool.eq_false_iff.mpr c14
       subst c14
       have H1 : (some false) = some r := by rw [if_neg (show ¬ (false = true) by decide)] at H; exact H
       clear H
       have H := H1
       clear H1
       obtain rfl := Option.some.inj H
       exact absurd hr (by decide)
     ·rw [if_neg c12] at H
      have c12b0 : (t438 == t445) = false := beq_eq_false_iff_ne.mpr c12
      have c12b1 : (t438 != t445) = true := bne_iff_ne.mpr c12
      obtain rfl := Option.some.inj H
      exact absurd hr (by decide)
    ·rw [if_neg c11] at H
     have c11b0 : (t437 == t444) = false := beq_eq_false_iff_ne.mpr c11
     have c11b1 : (t437 != t444) = true := bne_iff_ne.mpr c11
     obtain rfl := Option.some.inj H
     exact absurd hr (by decide)
   ·rw [if_neg c10] at H
    have c10b0 : (t436 == t443) = false := beq_eq_false_iff_ne.mpr c10
    have c10b1 : (t436 != t443) = true := bne_iff_ne.mpr c10
    obtain rfl := Option.some.inj H
    exact absurd hr (by decide)
  ·replace c5 := Bool.eq_false_iff.mpr c5
   subst c5
   have H1 : (some true) = some r := by rw [if_neg (show ¬ (false = true) by decide)] at H; exact H
   clear H
   have H := H1
   clear H1
   obtain rfl := Option.some.inj H
   simp only [Option.some.injEq, Prod.mk.injEq] at H
   obtain ⟨rfl⟩ := H
   go_enter Try.func8, Try.ntmps8
   go_wp2_with (first | ((with_reducible refine gate_callee (f := 10) rfl ?_); refine goesL_ (some 13) rfl rfl Try.func10 (by kernel_rfl) rfl #[] rfl (by (try simp only [List.map_toArray, List.map_cons, List.map_nil]); first | done | rfl | (simp only [List.length_drop, List.length_take]; rfl)) ?_; (with_reducible refine (gangsawlaw33_awake_N.calls  true _ A2.out).mono ?_); rintro e w22 ⟨rfl, hb⟩; refine ⟨_, rfl, ?_⟩; have n0_ := Aside0.mk (below_step (by repeat (first | (with_reducible first | exact HB.out | apply below_alloc | apply pw_below_drewN | apply below_drew1) | exact HB.out)) hb); clear HB; have HB := n0_; clear n0_; (try clear hb); (try clear hb2); (try clear hk); (try clear hi)) | ((with_reducible refine gate_callee (f := 11) rfl ?_); refine goesL_ (some 16) rfl rfl Try.func11 (by kernel_rfl) rfl #[.slice A0 l0.length c0] rfl (by (try simp only [List.map_toArray, List.map_cons, List.map_nil]); first | done | rfl | (simp only [List.length_drop, List.length_take]; rfl)) ?_; (with_reducible refine (gangsawref33_Few.calls k _ _ l0 false _ ?side1 ?side2 A4.out).mono ?_); (case side1 => repeat (first | exact (Kd.C_below HR0.out HB.out) | (with_reducible refine Kd.C_alloc ?_ _) | (with_reducible refine Kd.C_drewN ?_ _) | (with_reducible refine Kd.C_drew ?_))); (case side2 => exact HC0.out); rintro e w' ⟨rfl, ⟨nd, rfl⟩⟩; refine ⟨_, rfl, ?_⟩))
   go_ret
   exact ⟨by first | rfl | (simp [errW_none, errW_some] <;> rfl) | (simp [*, errW_none, errW_some] <;> rfl), by repeat (first | (with_reducible first | exact HB.out | apply below_alloc | apply pw_below_drewN | apply below_drew1) | exact HB.out)⟩
 ·replace c3 := Bool.eq_false_iff.mpr c3
  subst c3
  have H1 : (some false) = some r := by rw [if_neg (show ¬ (false = true) by decide)] at H; exact H
  clear H
  have H := H1
  clear H1
  obtain rfl := Option.some.inj H
  exact absurd hr (by decide)

def gangsawref04_gcd.l0 : Nat → Int → Int → Option (Int)
 | 0, _, _ => none
 | k + 1, x0, x1 => if x1 = 0 then (some x0) else (gangsawref04_gcd.l0 k x1 (Int.tmod x0 x1))
end Go.Proofs.Ythkpgjjakdbbfaa.P
