/- What functions of the program return: each contract says so of one function, for every input at which its pure function yields. -/
import Derived.Test.YthkpgjjakdbbfaaPx0
import Derived.Test.YthkpgjjakdbbfaaPx3
import Derived.Test.YthkpgjjakdbbfaaPx12
import Derived.Test.YthkpgjjakdbbfaaPx15
namespace Go.Proofs.Ythkpgjjakdbbfaa.P
open Go.RowKit Go.Proofs.YthkpgjjakdbbfaaW.PrintWords Go.Proofs.YthkpgjjakdbbfaaW.PrintLast Go.Proofs.YthkpgjjakdbbfaaW.PrintMore
attribute [local go_sem] max2_int min2_int max_two min_two max_three min_three max_four min_four   -- for this text's walks alone
set_option linter.unusedVariables false
set_option linter.unusedSimpArgs false

def gangsawlaw33_SampleRanks.j0 : Nat → List (S51) → Int → Bool → Option (Bool)
 | 0, _, _, _ => none
 | k + 1, x0, x1, x27 => if x27 = true then (some true) else ((sample_Strength.f k x0 x1).bind fun bt543 => (if bt543.2 = 0 then ((sample_Rank.f k x0 bt543.1).bind fun bt545 => ((sample_Rank.f k x0 (wrap64 (bt543.1 + 1))).bind fun bt547 => ((sample_Strength.f k x0 (wrap64 (x1 + 1))).bind fun bt549 => ((sample_Absorption.f k x0 x1).bind fun bt551 => ((sample_Absorption.f k x0 (wrap64 (x1 + 1))).bind fun bt553 => (if bt545.2 = 0 then (if bt547.2 = 0 then (if bt549.2 = 0 then (if bt551.2 = 0 then (if bt553.2 = 0 then (if bt545.1 < x1 then (if bt547.1 ≥ x1 then (if bt543.1 ≤ bt549.1 then (some (decide (bt551.1 ≥ bt553.1))) else (some false)) else (some false)) else (some false)) else (some false)) else (some false)) else (some false)) else (some false)) else (some false))))))) else (some (bt543.1 == 0))))
def gangsawlaw33_SampleRanks.f (k : Nat) (l0 : List (S51)) (a1 : Int) : Option (Bool) := (gangsawlaw33_awake_N.f).bind fun t541 => (if t541 = true then ((gangsawref33_Few.f k l0).bind fun t542 => (if t542 = true then (gangsawlaw33_SampleRanks.j0 k l0 a1 (decide (a1 ≥ (l0.length : Int)))) else (gangsawlaw33_SampleRanks.j0 k l0 a1 true))) else (some false))
set_option maxHeartbeats 8000000 in
set_option maxRecDepth 100000 in
theorem gangsawlaw33_SampleRanks.calls (k : Nat) (A0 : Option Addr) (c0 : Nat) (l0 : List (S51)) (a1 : Int) (r : Bool) (w : World) (hr0 : Kd.C k51 w A0 l0.length l0) (hc0 : l0.length ≤ c0) (h : gangsawlaw33_SampleRanks.f k l0 a1 = some r) (hr : r = true) :
  Calls Try.prog 4 #[.slice A0 l0.length c0, .int .i64 a1] w fun e w' => e = .returned (.bool r) ∧ Below w.heap.size w w' := by
 have HR0 := Aside0.mk hr0
 have HC0 := Aside0.mk hc0
 clear hr0 hc0
 have HB := Aside0.mk (Below.refl w.heap.size w)
 have H : ((gangsawlaw33_awake_N.f).bind fun t541 => (if t541 = true then ((gangsawref33_Few.f k l0).bind fun t542 => (if t542 = true then (gangsawlaw33_SampleRanks.j0 k l0 a1 (decide (a1 ≥ (l0.length : Int)))) else (gangsawlaw33_SampleRanks.j0 k l0 a1 true))) else (some false))) = some r := h
 clear h
 replace H := Option.bind_eq_some_iff.mp H
 obtain ⟨t541, A30, H⟩ := H
 replace H : (if t541 = true then ((gangsawref33_Few.f k l0).bind fun t542 => (if t542 = true then (gangsawlaw33_SampleRanks.j0 k l0 a1 (decide (a1 ≥ (l0.length : Int)))) else (gangsawlaw33_SampleRanks.j0 k l0 a1 true))) else (some false)) = some r := H
 have A3 := Aside0.mk A30
 clear A30
 by_cases c4 : t541 = true
 ·subst c4
  have H1 : ((gangsawref33_Few.f k l0).bind fun t542 => (if t542 = true then (gangsawlaw33_SampleRanks.j0 k l0 a1 (decide (a1 ≥ (l0.length : Int)))) else (gangsawlaw33_SampleRanks.j0 k l0 a1 true))) = some r := by rw [if_pos rfl] at H; exact H
  clear H
  have H := H1
  clear H1
  have HC5 := Aside0.mk H
  clear H
  go_enter Try.func4, Try.ntmps4
  go_upto_region 3 with (first | ((with_reducible refine gate_callee (f := 10) rfl ?_); refine goesL_ (some 17) rfl rfl Try.func10 (by kernel_rfl) rfl #[] rfl (by (try simp only [List.map_toArray, List.map_cons, List.map_nil]); first | done | rfl | (simp only [List.length_drop, List.length_take]; rfl)) ?_; (with_reducible refine (gangsawlaw33_awake_N.calls  true _ A3.out).mono ?_); rintro e w6 ⟨rfl, hb⟩; refine ⟨_, rfl, ?_⟩; have n0_ := Aside0.mk (below_step (by repeat (first | (with_reducible first | exact HB.out | apply below_alloc | apply pw_below_drewN | apply below_drew1) | exact HB.out)) hb); clear HB; have HB := n0_; clear n0_; (try clear hb); (try clear hb2); (try clear hk); (try clear hi)))
  (try simp only [Act.put, List.setIfInBounds_toArray, List.set_cons_zero, List.set_cons_succ])
  go_cut [27] (fun v27 wc => ∃ (kq : Nat) (x27_4 : Bool), v27 = .bool x27_4 ∧ Aside0 (gangsawlaw33_SampleRanks.j0 kq l0 a1 x27_4 = some r) ∧ Aside0 (kq ≤ k) ∧ Aside0 (Below w.heap.size w wc))
  case first =>
   have H := HC5.out
   clear HC5
   replace H := Option.bind_eq_some_iff.mp H
   obtain ⟨t542, A70, H⟩ := H
   replace H : (if t542 = true then (gangsawlaw33_SampleRanks.j0 k l0 a1 (decide (a1 ≥ (l0.length : Int)))) else (gangsawlaw33_SampleRanks.j0 k l0 a1 true)) = some r := H
   have A7 := Aside0.mk A70
   clear A70
   by_cases c8 : t542 = true
   ·subst c8
    have H1 : (gangsawlaw33_SampleRanks.j0 k l0 a1 (decide (a1 ≥ (l0.length : Int)))) = some r := by rw [if_pos rfl] at H; exact H
    clear H
    have H := H1
    clear H1
    have H' := Aside0.mk H
    clear H
    go_wp2_with (first | ((with_reducible refine gate_callee (f := 11) rfl ?_); refine goesL_ (some 20) rfl rfl Try.func11 (by kernel_rfl) rfl #[.slice A0 l0.length c0] rfl (by (try simp only [List.map_toArray, List.map_cons, List.map_nil]); first | done | rfl | (simp only [List.length_drop, List.length_take]; rfl)) ?_; (with_reducible refine (gangsawref33_Few.calls k _ _ l0 true _ ?side1 ?side2 A7.out).mono ?_); (case side1 => repeat (first | exact (Kd.C_below HR0.out HB.out) | (with_reducible refine Kd.C_alloc ?_ _) | (with_reducible refine Kd.C_drewN ?_ _) | (with_reducible refine Kd.C_drew ?_))); (case side2 => exact HC0.out); rintro e w' ⟨rfl, ⟨nd, rfl⟩⟩; refine ⟨_, rfl, ?_⟩))
    go_meet
    case rel => exact ⟨_, (decide (a1 ≥ (l0.length : Int))), (by first | rfl | (simp; done) | (simp [*]; done)), H', ⟨by first | omega | exact Nat.le_refl _⟩, ⟨by repeat (first | (with_reducible first | exact HB.out | apply below_alloc | apply pw_below_drewN | apply below_drew1) | exact HB.out)⟩⟩
   ·replace c8 := Bool.eq_false_iff.mpr c8
    subst c8
    have H1 : (gangsawlaw33_SampleRanks.j0 k l0 a1 true) = some r := by rw [if_neg (show ¬ (false = true) by decide)] at H; exact H
    clear H
    have H := H1
    clear H1
    have H' := Aside0.mk H
    clear H
    go_wp2_with (first | ((with_reducible refine gate_callee (f := 11) rfl ?_); refine goesL_ (some 20) rfl rfl Try.func11 (by kernel_rfl) rfl #[.slice A0 l0.length c0] rfl (by (try simp only [List.map_toArray, List.map_cons, List.map_nil]); first | done | rfl | (simp only [List.length_drop, List.length_take]; rfl)) ?_; (with_reducible refine (gangsawref33_Few.calls k _ _ l0 false _ ?side1 ?side2 A7.out).mono ?_); (case side1 => repeat (first | exact (Kd.C_below HR0.out HB.out) | (with_reducible refine Kd.C_alloc ?_ _) | (with_reducible refine Kd.C_drewN ?_ _) | (with_reducible refine Kd.C_drew ?_))); (case side2 => exact HC0.out); rintro e w' ⟨rfl, ⟨nd, rfl⟩⟩; refine ⟨_, rfl, ?_⟩))
    go_meet
    case rel => exact ⟨_, (true), (by first | rfl | (simp; done) | (simp [*]; done)), H', ⟨by first | omega | exact Nat.le_refl _⟩, ⟨by repeat (first | (with_reducible first | exact HB.out | apply below_alloc | apply pw_below_drewN | apply below_drew1) | exact HB.out)⟩⟩
  case rest =>
   clear HC5
   try clear c1
   try clear p2
   try clear c4
   try clear c8
   obtain ⟨kq, x27_4, rfl, HA, HJ4, HB⟩ := hcut
   cases kq with
   | zero => exact absurd HA.out (by simp [gangsawlaw33_SampleRanks.j0])
   | succ kj4 =>
    have H := HA.out
    clear HA
    simp only [gangsawlaw33_SampleRanks.j0] at H
    by_cases c9 : x27_4 = true
    ·subst c9
     have H1 : (some true) = some r := by rw [if_pos rfl] at H; exact H
     clear H
     have H := H1
     clear H1
     obtain rfl := Option.some.inj H
     simp only [Option.some.injEq, Prod.mk.injEq] at H
     obtain ⟨rfl⟩ := H
     go_wp2
     go_ret
     exact ⟨by first | rfl | (simp [errW_none, errW_some] <;> rfl) | (simp [*, errW_none, errW_some] <;> rfl), by repeat (first | (with_reducible first | exact HB.out | apply below_alloc | apply pw_below_drewN | apply below_drew1) | exact HB.out)⟩
    ·replace c9 := Bool.eq_false_iff.mpr c9
     subst c9
     have H1 : ((sample_Strength.f kj4 l0 a1).bind fun bt543 => (if bt543.2 = 0 then ((sample_Rank.f kj4 l0 bt543.1).bind fun bt545 => ((sample_Rank.f kj4 l0 (wrap64 (bt543.1 + 1))).bind fun bt547 => ((sample_Strength.f kj4 l0 (wrap64 (a1 + 1))).bind fun bt549 => ((sample_Absorption.f kj4 l0 a1).bind fun bt551 => ((sample_Absorption.f kj4 l0 (wrap64 (a1 + 1))).bind fun bt553 => (if bt545.2 = 0 then (if bt547.2 = 0 then (if bt549.2 = 0 then (if bt551.2 = 0 then (if bt553.2 = 0 then (if bt545.1 < a1 then (if bt547.1 ≥ a1 then (if bt543.1 ≤ bt549.1 then (some (decide (bt551.1 ≥ bt553.1))) else (some false)) else (some false)) else (some false)) else (some false)) else (some false)) else (some false)) else (some false)) else (some false))))))) else (some (bt543.1 == 0)))) = some r := by rw [if_neg (show ¬ (false = true) by decide)] at H; exact H
     clear H
     have H := H1
     clear H1
     replace H := Option.bind_eq_some_iff.mp H
     obtain ⟨⟨t543, t544⟩, A100, H⟩ := H
     replace H : (if t544 = 0 then ((sample_Rank.f kj4 l0 t543).bind fun bt545 => ((sample_Rank.f kj4 l0 (wrap64 (t543 + 1))).bind fun bt547 => ((sample_Strength.f kj4 l0 (wrap64 (a1 + 1))).bind fun bt549 => ((sample_Absorption.f kj4 l0 a1).bind fun bt551 => ((sample_Absorption.f kj4 l0 (wrap64 (a1 + 1))).bind fun bt553 => (if bt545.2 = 0 then (if bt547.2 = 0 then (if bt549.2 = 0 then (if bt551.2 = 0 then (if bt553.2 = 0 then (if bt545.1 < a1 then (if bt547.1 ≥ a1 then (if t543 ≤ bt549.1 then (some (decide (bt551.1 ≥ bt553.1))) else (some false)) else (some false)) else (some false)) else (some false)) else (some false)) else (some false)) else (some false)) else (some false))))))) else (some (t543 == 0))) = some r := H
     have A10 := Aside0.mk A100
     clear A100
     by_cases c11 : t544 = 0
     ·rw [if_pos c11] at H
      have c11b0 : (t544 == 0) = true := beq_iff_eq.mpr c11
      have c11b1 : (t544 != 0) = false := bne_eq_false_iff_eq.mpr c11
      clear c11
      replace H := Option.bind_eq_some_iff.mp H
      obtain ⟨⟨t545, t546⟩, A120, H⟩ := H
      replace H : ((sample_Rank.f kj4 l0 (wrap64 (t543 + 1))).bind fun bt547 => ((sample_Strength.f kj4 l0 (wrap64 (a1 + 1))).bind fun bt549 => ((sample_Absorption.f kj4 l0 a1).bind fun bt551 => ((sample_Absorption.f kj4 l0 (wrap64 (a1 + 1))).bind fun bt553 => (if t546 = 0 then (if bt547.2 = 0 then (if bt549.2 = 0 then (if bt551.2 = 0 then (if bt553.2 = 0 then (if t545 < a1 then (if bt547.1 ≥ a1 then (if t543 ≤ bt549.1 then (some (decide (bt551.1 ≥ bt553.1))) else (some false)) else (some false)) else (some false)) else (some false)) else (some false)) else (some false)) else (some false)) else (some false)))))) = some r := H
      have A12 := Aside0.mk A120
      clear A120
      replace H := Option.bind_eq_some_iff.mp H
      obtain ⟨⟨t547, t548⟩, A130, H⟩ := H
      replace H : ((sample_Strength.f kj4 l0 (wrap64 (a1 + 1))).bind fun bt549 => ((sample_Absorption.f kj4 l0 a1).bind fun bt551 => ((sample_Absorption.f kj4 l0 (wrap64 (a1 + 1))).bind fun bt553 => (if t546 = 0 then (if t548 = 0 then (if bt549.2 = 0 then (if bt551.2 = 0 then (if bt553.2 = 0 then (if t545 < a1 then (if t547 ≥ a1 then (if t543 ≤ bt549.1 then (some (decide (bt551.1 ≥ bt553.1))) else (some false)) else (some false)) else (some false)) else (some false)) else (some false)) else (some false)) else (some false)) else (some false))))) = some r := H
      have A13 := Aside0.mk A130
      clear A130
      replace H := Option.bind_eq_some_iff.mp H
      obtain ⟨⟨t549, t550⟩, A140, H⟩ := H
      replace H : ((sample_Absorption.f kj4 l0 a1).bind fun bt551 => ((sample_Absorption.f kj4 l0 (wrap64 (a1 + 1))).bind fun bt553 => (if t546 = 0 then (if t548 = 0 then (if t550 = 0 then (if bt551.2 = 0 then (if bt553.2 = 0 then (if t545 < a1 then (if t547 ≥ a1 then (if t543 ≤ t549 then (some (decide (bt551.1 ≥ bt553.1))) else (some false)) else (some false)) else (some false)) else (some false)) else (some false)) else (some false)) else (some false)) else (some false)))) = some r := H
      have A14 := Aside0.mk A140
      clear A140
      replace H := Option.bind_eq_some_iff.mp H
      obtain ⟨⟨t551, t552⟩, A150, H⟩ := H
      replace H : ((sample_Absorption.f kj4 l0 (wrap64 (a1 + 1))).bind fun bt553 => (if t546 = 0 then (if t548 = 0 then (if t550 = 0 then (if t552 = 0 then (if bt553.2 = 0 then (if t545 < a1 then (if t547 ≥ a1 then (if t543 ≤ t549 then (some (decide (t551 ≥ bt553.1))) else (some false)) else (some false)) else (some false)) else (some false)) else (some false)) else (some false)) else (some false)) else (some false))) = some r := H
      have A15 := Aside0.mk A150
      clear A150
      replace H := Option.bind_eq_some_iff.mp H
      obtain ⟨⟨t553, t554⟩, A160, H⟩ := H
      replace H : (if t546 = 0 then (if t548 = 0 then (if t550 = 0 then (if t552 = 0 then (if t554 = 0 then (if t545 < a1 then (if t547 ≥ a1 then (if t543 ≤ t549 then (some (decide (t551 ≥ t553))) else (some false)) else (some false)) else (some false)) else (some false)) else (some false)) else (some false)) else (some false)) else (some false)) = some r := H
      have A16 := Aside0.mk A160
      clear A160
      by_cases c17 : t546 = 0
      ·rw [if_pos c17] at H
       have c17b0 : (t546 == 0) = true := beq_iff_eq.mpr c17
       have c17b1 : (t546 != 0) = false := bne_eq_false_iff_eq.mpr c17
       clear c17
       by_cases c18 : t548 = 0
       ·rw [if_pos c18] at H
        have c18b0 : (t548 == 0) = true := beq_iff_eq.mpr c18
        have c18b1 : (t548 != 0) = false := bne_eq_false_iff_eq.mpr c18
        clear c18
        by_cases c19 : t550 = 0
        ·rw [if_pos c19] at H
         have c19b0 : (t550 == 0) = true := beq_iff_eq.mpr c19
         have c19b1 : (t550 != 0) = false := bne_eq_false_iff_eq.mpr c19
         clear c19
         by_cases c20 : t552 = 0
         ·rw [if_pos c20] at H
          have c20b0 : (t552 == 0) = true := beq_iff_eq.mpr c20
          have c20b1 : (t552 != 0) = false := bne_eq_false_iff_eq.mpr c20
          clear c20
          by_cases c21 : t554 = 0
          ·rw [if_pos c21] at H
           have c21b0 : (t554 == 0) = true := beq_iff_eq.mpr c21
           have c21b1 : (t554 != 0) = false := bne_eq_false_iff_eq.mpr c21
           clear c21
           by_cases c22 : t545 < a1
           ·rw [if_pos c22] at H
            have c22b0 : decide (t545 < a1) = true := decide_eq_true c22
            clear c22
            by_cases c23 : t547 ≥ a1
            ·rw [if_pos c23] at H
             have c23b0 : decide (a1 ≤ t547) = true := decide_eq_true c23
             clear c23
             by_cases c24 : t543 ≤ t549
             ·rw [if_pos c24] at H
              have c24b0 : decide (t543 ≤ t549) = true := decide_eq_true c24
              clear c24
              obtain rfl := Option.some.inj H
              simp only [Option.some.injEq, Prod.mk.injEq] at H
              obtain ⟨rfl⟩ := H
              go_wp2_with (first | ((with_reducible refine gate_callee (f := 13) rfl ?_); refine goesL_ (some 31) rfl rfl Try.func13 (by kernel_rfl) rfl #[.slice A0 l0.length c0, .int .i64 a1] rfl (by (try simp only [List.map_toArray, List.map_cons, List.map_nil]); first | done | rfl | (simp only [List.length_drop, List.length_take]; rfl)) ?_; (with_reducible refine (sample_Strength.calls kj4 _ _ l0 a1 t543 t544 _ ?side1 ?side2 A10.out).mono ?_); (case side1 => repeat (first | exact (Kd.C_below HR0.out HB.out) | (with_reducible refine Kd.C_alloc ?_ _) | (with_reducible refine Kd.C_drewN ?_ _) | (with_reducible refine Kd.C_drew ?_))); (case side2 => exact HC0.out); rintro e w25 ⟨rfl, hb⟩; refine ⟨_, rfl, ?_⟩; have n0_ := Aside0.mk (below_step (by repeat (first | (with_reducible first | exact HB.out | apply below_alloc | apply pw_below_drewN | apply below_drew1) | exact HB.out)) hb); clear HB; have HB := n0_; clear n0_; (try clear hb); (try clear hb2); (try clear hk); (try clear hi)) | ((with_reducible refine gate_callee (f := 15) rfl ?_); refine goesL_ (some 41) rfl rfl Try.func15 (by kernel_rfl) rfl #[.slice A0 l0.length c0, .int .i64 t543] rfl (by (try simp only [List.map_toArray, List.map_cons, List.map_nil]); first | done | rfl | (simp only [List.length_drop, List.length_take]; rfl)) ?_; (with_reducible refine (sample_Rank.calls kj4 _ _ l0 t543 t545 t546 _ ?side1 ?side2 A12.out).mono ?_); (case side1 => repeat (first | exact (Kd.C_below HR0.out HB.out) | (with_reducible refine Kd.C_alloc ?_ _) | (with_reducible refine Kd.C_drewN ?_ _) | (with_reducible refine Kd.C_drew ?_))); (case side2 => exact HC0.out); rintro e w26 ⟨rfl, hb⟩; refine ⟨_, rfl, ?_⟩; have n0_ := Aside0.mk (below_step (by repeat (first | (with_reducible first | exact HB.out | apply below_alloc | apply pw_below_drewN | apply below_drew1) | exact HB.out)) hb); clear HB; have HB := n0_; clear n0_; (try clear hb); (try clear hb2); (try clear hk); (try clear hi)) | ((with_reducible refine gate_callee (f := 15) rfl ?_); refine goesL_ (some 48) rfl rfl Try.func15 (by kernel_rfl) rfl #[.slice A0 l0.length c0, .int .i64 (wrap64 (t543 + 1))] rfl (by (try simp only [List.map_toArray, List.map_cons, List.map_nil]); first | done | rfl | (simp only [List.length_drop, List.length_take]; rfl)) ?_; (with_reducible refine (sample_Rank.calls kj4 _ _ l0 (wrap64 (t543 + 1)) t547 t548 _ ?side1 ?side2 A13.out).mono ?_); (case side1 => repeat (first | exact (Kd.C_below HR0.out HB.out) | (with_reducible refine Kd.C_alloc ?_ _) | (with_reducible refine Kd.C_drewN ?_ _) | (with_reducible refine Kd.C_drew ?_))); (case side2 => exact HC0.out); rintro e w27 ⟨rfl, hb⟩; refine ⟨_, rfl, ?_⟩; have n0_ := Aside0.mk (below_step (by repeat (first | (with_reducible first | exact HB.out | apply below_alloc | apply pw_below_drewN | apply below_drew1) | exact HB.out)) hb); clear HB; have HB := n0_; clear n0_; (try clear hb); (try clear hb2); (try clear hk); (try clear hi)) | ((with_reducible refine gate_callee (f := 13) rfl ?_); refine goesL_ (some 55) rfl rfl Try.func13 (by kernel_rfl) rfl #[.slice A0 l0.length c0, .int .i64 (wrap64 (a1 + 1))] rfl (by (try simp only [List.map_toArray, List.map_cons, List.map_nil]); first | done | rfl | (simp only [List.length_drop, List.length_take]; rfl)) ?_; (with_reducible refine (sample_Strength.calls kj4 _ _ l0 (wrap64 (a1 + 1)) t549 t550 _ ?side1 ?side2 A14.out).mono ?_); (case side1 => repeat (first | exact (Kd.C_below HR0.out HB.out) | (with_reducible refine Kd.C_alloc ?_ _) | (with_reducible refine Kd.C_drewN ?_ _) | (with_reducible refine Kd.C_drew ?_))); (case side2 => exact HC0.out); rintro e w28 ⟨rfl, hb⟩; refine ⟨_, rfl, ?_⟩; have n0_ := Aside0.mk (below_step (by repeat (first | (with_reducible first | exact HB.out | apply below_alloc | apply pw_below_drewN | apply below_drew1) | exact HB.out)) hb); clear HB; have HB := n0_; clear n0_; (try clear hb); (try clear hb2); (try clear hk); (try clear hi)) | ((with_reducible refine gate_callee (f := 14) rfl ?_); refine goesL_ (some 61) rfl rfl Try.func14 (by kernel_rfl) rfl #[.slice A0 l0.length c0, .int .i64 a1] rfl (by (try simp only [List.map_toArray, List.map_cons, List.map_nil]); first | done | rfl | (simp only [List.length_drop, List.length_take]; rfl)) ?_; (with_reducible refine (sample_Absorption.calls kj4 _ _ l0 a1 t551 t552 _ ?side1 ?side2 A15.out).mono ?_); (case side1 => repeat (first | exact (Kd.C_below HR0.out HB.out) | (with_reducible refine Kd.C_alloc ?_ _) | (with_reducible refine Kd.C_drewN ?_ _) | (with_reducible refine Kd.C_drew ?_))); (case side2 => exact HC0.out); rintro e w29 ⟨rfl, hb⟩; refine ⟨_, rfl, ?_⟩; have n0_ := Aside0.mk (below_step (by repeat (first | (with_reducible first | exact HB.out | apply below_alloc | apply pw_below_drewN | apply below_drew1) | exact HB.out)) hb); clear HB; have HB := n0_; clear n0_; (try clear hb); (try clear hb2); (try clear hk); (try clear hi)) | ((with_reducible refine gate_callee (f := 14) rfl ?_); refine goesL_ (some 68) rfl rfl Try.func14 (by kernel_rfl) rfl #[.slice A0 l0.length c0, .int .i64 (wrap64 (a1 + 1))] rfl (by (try simp only [List.map_toArray, List.map_cons, List.map_nil]); first | done | rfl | (simp only [List.length_drop, List.length_take]; rfl)) ?_; (with_reducible refine (sample_Absorption.calls kj4 _ _ l0 (wrap64 (a1 + 1)) t553 t554 _ ?side1 ?side2 A16.out).mono ?_); (case side1 => repeat (first | exact (Kd.C_below HR0.out HB.out) | (with_reducible refine Kd.C_alloc ?_ _) | (with_reducible refine Kd.C_drewN ?_ _) | (with_reducible refine Kd.C_drew ?_))); (case side2 => exact HC0.out); rintro e w30 ⟨rfl, hb⟩; refine ⟨_, rfl, ?_⟩; have n0_ := Aside0.mk (below_step (by repeat (first | (with_reducible first | exact HB.out | apply below_alloc | apply pw_below_drewN | apply below_drew1) | exact HB.out)) hb); clear HB; have HB := n0_; clear n0_; (try clear hb); (try clear hb2); (try clear hk); (try clear hi)))
              go_ret
              exact ⟨by first | rfl | (simp [errW_none, errW_some] <;> rfl) | (simp [*, errW_none, errW_some] <;> rfl), by repeat (first | (with_reducible first | exact HB.out | apply below_alloc | apply pw_below_drewN | apply below_drew1) | exact HB.out)⟩
             ·rw [if_neg c24] at H
              have c24b0 : decide (t543 ≤ t549) = false := decide_eq_false c24
              clear c24
              obtain rfl := Option.some.inj H
              exact absurd hr (by decide)
            ·rw [if_neg c23] at H
             have c23b0 : decide (a1 ≤ t547) = false := decide_eq_false c23
             clear c23
             obtain rfl := Option.some.inj H
             exact absurd hr (by decide)
           ·rw [if_neg c22] at H
            have c22b0 : decide (t545 < a1) = false := decide_eq_false c22
            clear c22
            obtain rfl := Option.some.inj H
            exact absurd hr (by decide)
          ·rw [if_neg c21] at H
           have c21b0 : (t554 == 0) = false := beq_eq_false_iff_ne.mpr c21
           have c21b1 : (t554 != 0) = true := bne_iff_ne.mpr c21
           obtain rfl := Option.some.inj H
           exact absurd hr (by decide)
         ·rw [if_neg c20] at H
          have c20b0 : (t552 == 0) = false := beq_eq_false_iff_ne.mpr c20
          have c20b1 : (t552 != 0) = true := bne_iff_ne.mpr c20
          obtain rfl := Option.some.inj H
          exact absurd hr (by decide)
        ·rw [if_neg c19] at H
         have c19b0 : (t550 == 0) = false := beq_eq_false_iff_ne.mpr c19
         have c19b1 : (t550 != 0) = true := bne_iff_ne.mpr c19
         obtain rfl := Option.some.inj H
         exact absurd hr (by decide)
       ·rw [if_neg c18] at H
        have c18b0 : (t548 == 0) = false := beq_eq_false_iff_ne.mpr c18
        have c18b1 : (t548 != 0) = true := bne_iff_ne.mpr c18
        obtain rfl := Option.some.inj H
        exact absurd hr (by decide)
      ·rw [if_neg c17] at H
       have c17b0 : (t546 == 0) = false := beq_eq_false_iff_ne.mpr c17
       have c17b1 : (t546 != 0) = true := bne_iff_ne.mpr c17
       obtain rfl := Option.some.inj H
       exact absurd hr (by decide)
     ·rw [if_neg c11] at H
      have c11b0 : (t544 == 0) = false := beq_eq_false_iff_ne.mpr c11
      have c11b1 : (t544 != 0) = true := bne_iff_ne.mpr c11
      obtain rfl := Option.some.inj H
      simp only [Option.some.injEq, Prod.mk.injEq] at H
      obtain ⟨rfl⟩ := H
      go_wp2_with (first | ((with_reducible refine gate_callee (f := 13) rfl ?_); refine goesL_ (some 31) rfl rfl Try.func13 (by kernel_rfl) rfl #[.slice A0 l0.length c0, .int .i64 a1] rfl (by (try simp only [List.map_toArray, List.map_cons, List.map_nil]); first | done | rfl | (simp only [List.length_drop, List.length_take]; rfl)) ?_; (with_reducible refine (sample_Strength.calls kj4 _ _ l0 a1 t543 t544 _ ?side1 ?side2 A10.out).mono ?_); (case side1 => repeat (first | exact (Kd.C_below HR0.out HB.out) | (with_reducible refine Kd.C_alloc ?_ _) | (with_reducible refine Kd.C_drewN ?_ _) | (with_reducible refine Kd.C_drew ?_))); (case side2 => exact HC0.out); rintro e w31 ⟨rfl, hb⟩; refine ⟨_, rfl, ?_⟩; have n0_ := Aside0.mk (below_step (by repeat (first | (with_reducible first | exact HB.out | apply below_alloc | apply pw_below_drewN | apply below_drew1) | exact HB.out)) hb); clear HB; have HB := n0_; clear n0_; (try clear hb); (try clear hb2); (try clear hk); (try clear hi)))
      go_ret
      exact ⟨by first | rfl | (simp [errW_none, errW_some] <;> rfl) | (simp [*, errW_none, errW_some] <;> rfl), by repeat (first | (with_reducible first | exact HB.out | apply below_alloc | apply pw_below_drewN | apply below_drew1) | exact HB.out)⟩
 ·replace c4 := Bool.eq_false_iff.mpr c4
  subst c4
  have H1 : (some false) = some r := by rw [if_neg (show ¬ (false = true) by decide)] at H; exact H
  clear H
  have H := H1
  clear H1
  obtain rfl := Option.some.inj H
  exact absurd hr (by decide)

end Go.Proofs.Ythkpgjjakdbbfaa.P
