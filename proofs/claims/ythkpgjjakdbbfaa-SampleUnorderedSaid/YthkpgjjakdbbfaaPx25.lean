/- What functions of the program return: each contract says so of one function, for every input at which its pure function yields. -/
import Derived.Test.YthkpgjjakdbbfaaPx0
import Derived.Test.YthkpgjjakdbbfaaPx3
import Derived.Test.YthkpgjjakdbbfaaPx12
import Derived.Test.YthkpgjjakdbbfaaPx15
import Derived.Test.YthkpgjjakdbbfaaPx19
namespace Go.Proofs.Ythkpgjjakdbbfaa.P
open Go.RowKit Go.Proofs.YthkpgjjakdbbfaaW.PrintWords Go.Proofs.YthkpgjjakdbbfaaW.PrintLast Go.Proofs.YthkpgjjakdbbfaaW.PrintMore
attribute [local go_sem] max2_int min2_int max_two min_two max_three min_three max_four min_four   -- for this text's walks alone
set_option linter.unusedVariables false
set_option linter.unusedSimpArgs false

def gangsawlaw33_SampleUnordered.j0 : Nat → List (S51) → Int → Int → Bool → Option (Bool)
 | 0, _, _, _, _ => none
 | k + 1, x0, x1, x2, x30 => if x30 = true then (some true) else (if (IntKind.u64.wrap ((x0.length : Int))) = 0 then (none) else ((some (([] : List (S51)) : List (S51))).bind fun y557 => (if 0 ≤ (wrap64 (Int.tmod (IntKind.u64.wrap (x1)) (IntKind.u64.wrap ((x0.length : Int))))) then (if (wrap64 (Int.tmod (IntKind.u64.wrap (x1)) (IntKind.u64.wrap ((x0.length : Int))))) ≤ (x0.length : Int) then ((some (x0.drop ((wrap64 (Int.tmod (IntKind.u64.wrap (x1)) (IntKind.u64.wrap ((x0.length : Int))))) : Int).toNat : List (S51))).bind fun y560 => (if y557.length + y560.length < 4398046511104 then ((some (y557 ++ y560 : List (S51))).bind fun y564 => ((some (x0.take ((wrap64 (Int.tmod (IntKind.u64.wrap (x1)) (IntKind.u64.wrap ((x0.length : Int))))) : Int).toNat : List (S51))).bind fun y567 => (if y564.length + y567.length < 4398046511104 then ((some (y564 ++ y567 : List (S51))).bind fun y571 => ((sample_Strength.f k x0 x2).bind fun bt574 => ((sample_Strength.f k y571 x2).bind fun bt576 => ((sample_Absorption.f k x0 x2).bind fun bt578 => ((sample_Absorption.f k y571 x2).bind fun bt580 => ((sample_Outliers.f k x0).bind fun bt582 => ((sample_Outliers.f k y571).bind fun bt586 => (if bt574.1 = bt576.1 then (if bt574.2 = bt576.2 then (if bt578.1 = bt580.1 then (if bt578.2 = bt580.2 then ((gangsawref33_Same.f k bt582.1 bt586.1).bind fun t590 => (if t590 = true then (some (bt582.2 == bt586.2)) else (some false))) else (some false)) else (some false)) else (some false)) else (some false))))))))) else (none)))) else (none))) else (none)) else (none))))
def gangsawlaw33_SampleUnordered.f (k : Nat) (l0 : List (S51)) (a1 : Int) (a2 : Int) : Option (Bool) := (gangsawlaw33_awake_N.f).bind fun t555 => (if t555 = true then ((gangsawref33_Few.f k l0).bind fun t556 => (if t556 = true then (gangsawlaw33_SampleUnordered.j0 k l0 a1 a2 ((l0.length : Int) == 0)) else (gangsawlaw33_SampleUnordered.j0 k l0 a1 a2 true))) else (some false))
def gangsawlaw33_SampleUnordered.T6 : Bool × List (List Nat × List Nat) := (true, [([], []), ([], []), ([], []), ([1, 2], [1, 2]), ([0, 3], [0, 3]), ([], []), ([], []), ([5, 6], [5, 6]), ([4, 7, 4], [4, 7]), ([8, 8, 0, 1, 2, 3, 4, 5, 6, 7, 8], [8])])
def gangsawlaw33_SampleUnordered.B6 : List Nat := [0, 0, 0, 6, 15, 0, 0, 96, 255, 511]
theorem gangsawlaw33_SampleUnordered.tab6 : rtab .any (opsOf Try.f7 6) = gangsawlaw33_SampleUnordered.T6 := by kernel_rfl
theorem gangsawlaw33_SampleUnordered.bits6 : waitsOk gangsawlaw33_SampleUnordered.T6.2 gangsawlaw33_SampleUnordered.B6 = true := by kernel_rfl
set_option maxHeartbeats 8000000 in
set_option maxRecDepth 100000 in
theorem gangsawlaw33_SampleUnordered.calls (k : Nat) (A0 : Option Addr) (c0 : Nat) (l0 : List (S51)) (a1 : Int) (a2 : Int) (r : Bool) (w : World) (hr0 : Kd.C k51 w A0 l0.length l0) (hc0 : l0.length ≤ c0) (h : gangsawlaw33_SampleUnordered.f k l0 a1 a2 = some r) (hr : r = true) :
  Calls Try.prog 7 #[.slice A0 l0.length c0, .int .i64 a1, .int .i64 a2] w fun e w' => e = .returned (.bool r) ∧ Below w.heap.size w w' := by
 have HR0 := Aside0.mk hr0
 have HC0 := Aside0.mk hc0
 clear hr0 hc0
 have HB := Aside0.mk (Below.refl w.heap.size w)
 have H : ((gangsawlaw33_awake_N.f).bind fun t555 => (if t555 = true then ((gangsawref33_Few.f k l0).bind fun t556 => (if t556 = true then (gangsawlaw33_SampleUnordered.j0 k l0 a1 a2 ((l0.length : Int) == 0)) else (gangsawlaw33_SampleUnordered.j0 k l0 a1 a2 true))) else (some false))) = some r := h
 clear h
 replace H := Option.bind_eq_some_iff.mp H
 obtain ⟨t555, A40, H⟩ := H
 replace H : (if t555 = true then ((gangsawref33_Few.f k l0).bind fun t556 => (if t556 = true then (gangsawlaw33_SampleUnordered.j0 k l0 a1 a2 ((l0.length : Int) == 0)) else (gangsawlaw33_SampleUnordered.j0 k l0 a1 a2 true))) else (some false)) = some r := H
 have A4 := Aside0.mk A40
 clear A40
 by_cases c5 : t555 = true
 ·subst c5
  have H1 : ((gangsawref33_Few.f k l0).bind fun t556 => (if t556 = true then (gangsawlaw33_SampleUnordered.j0 k l0 a1 a2 ((l0.length : Int) == 0)) else (gangsawlaw33_SampleUnordered.j0 k l0 a1 a2 true))) = some r := by rw [if_pos rfl] at H; exact H
  clear H
  have H := H1
  clear H1
  have HC6 := Aside0.mk H
  clear H
  go_enter Try.func7, Try.ntmps7
  go_upto_region 3 with (first | ((with_reducible refine gate_callee (f := 10) rfl ?_); refine goesL_ (some 21) rfl rfl Try.func10 (by kernel_rfl) rfl #[] rfl (by (try simp only [List.map_toArray, List.map_cons, List.map_nil]); first | done | rfl | (simp only [List.length_drop, List.length_take]; rfl)) ?_; (with_reducible refine (gangsawlaw33_awake_N.calls  true _ A4.out).mono ?_); rintro e w7 ⟨rfl, hb⟩; refine ⟨_, rfl, ?_⟩; have n0_ := Aside0.mk (below_step (by repeat (first | (with_reducible first | exact HB.out | apply below_alloc | apply pw_below_drewN | apply below_drew1) | exact HB.out)) hb); clear HB; have HB := n0_; clear n0_; (try clear hb); (try clear hb2); (try clear hk); (try clear hi)))
  (try simp only [Act.put, List.setIfInBounds_toArray, List.set_cons_zero, List.set_cons_succ])
  go_cut [30] (fun v30 wc => ∃ (kq : Nat) (x30_5 : Bool), v30 = .bool x30_5 ∧ Aside0 (gangsawlaw33_SampleUnordered.j0 kq l0 a1 a2 x30_5 = some r) ∧ Aside0 (kq ≤ k) ∧ Aside0 (Below w.heap.size w wc))
  case first =>
   have H := HC6.out
   clear HC6
   replace H := Option.bind_eq_some_iff.mp H
   obtain ⟨t556, A80, H⟩ := H
   replace H : (if t556 = true then (gangsawlaw33_SampleUnordered.j0 k l0 a1 a2 ((l0.length : Int) == 0)) else (gangsawlaw33_SampleUnordered.j0 k l0 a1 a2 true)) = some r := H
   have A8 := Aside0.mk A80
   clear A80
   by_cases c9 : t556 = true
   ·subst c9
    have H1 : (gangsawlaw33_SampleUnordered.j0 k l0 a1 a2 ((l0.length : Int) == 0)) = some r := by rw [if_pos rfl] at H; exact H
    clear H
    have H := H1
    clear H1
    have H' := Aside0.mk H
    clear H
    go_wp2_with (first | ((with_reducible refine gate_callee (f := 11) rfl ?_); refine goesL_ (some 24) rfl rfl Try.func11 (by kernel_rfl) rfl #[.slice A0 l0.length c0] rfl (by (try simp only [List.map_toArray, List.map_cons, List.map_nil]); first | done | rfl | (simp only [List.length_drop, List.length_take]; rfl)) ?_; (with_reducible refine (gangsawref33_Few.calls k _ _ l0 true _ ?side1 ?side2 A8.out).mono ?_); (case side1 => repeat (first | exact (Kd.C_below HR0.out HB.out) | (with_reducible refine Kd.C_alloc ?_ _) | (with_reducible refine Kd.C_drewN ?_ _) | (with_reducible refine Kd.C_drew ?_))); (case side2 => exact HC0.out); rintro e w' ⟨rfl, ⟨nd, rfl⟩⟩; refine ⟨_, rfl, ?_⟩))
    go_meet
    case rel => exact ⟨_, (((l0.length : Int) == 0)), (by first | rfl | (simp; done) | (simp [*]; done)), H', ⟨by first | omega | exact Nat.le_refl _⟩, ⟨by repeat (first | (with_reducible first | exact HB.out | apply below_alloc | apply pw_below_drewN | apply below_drew1) | exact HB.out)⟩⟩
   ·replace c9 := Bool.eq_false_iff.mpr c9
    subst c9
    have H1 : (gangsawlaw33_SampleUnordered.j0 k l0 a1 a2 true) = some r := by rw [if_neg (show ¬ (false = true) by decide)] at H; exact H
    clear H
    have H := H1
    clear H1
    have H' := Aside0.mk H
    clear H
    go_wp2_with (first | ((with_reducible refine gate_callee (f := 11) rfl ?_); refine goesL_ (some 24) rfl rfl Try.func11 (by kernel_rfl) rfl #[.slice A0 l0.length c0] rfl (by (try simp only [List.map_toArray, List.map_cons, List.map_nil]); first | done | rfl | (simp only [List.length_drop, List.length_take]; rfl)) ?_; (with_reducible refine (gangsawref33_Few.calls k _ _ l0 false _ ?side1 ?side2 A8.out).mono ?_); (case side1 => repeat (first | exact (Kd.C_below HR0.out HB.out) | (with_reducible refine Kd.C_alloc ?_ _) | (with_reducible refine Kd.C_drewN ?_ _) | (with_reducible refine Kd.C_drew ?_))); (case side2 => exact HC0.out); rintro e w' ⟨rfl, ⟨nd, rfl⟩⟩; refine ⟨_, rfl, ?_⟩))
    go_meet
    case rel => exact ⟨_, (true), (by first | rfl | (simp; done) | (simp [*]; done)), H', ⟨by first | omega | exact Nat.le_refl _⟩, ⟨by repeat (first | (with_reducible first | exact HB.out | apply below_alloc | apply pw_below_drewN | apply below_drew1) | exact HB.out)⟩⟩
  case rest =>
   clear HC6
   try clear c1
   try clear p2
   try clear c5
   try clear c7
   try clear c9
   obtain ⟨kq, x30_5, rfl, HA, HJ5, HB⟩ := hcut
   cases kq with
   | zero => exact absurd HA.out (by simp [gangsawlaw33_SampleUnordered.j0])
   | succ kj5 =>
    have H := HA.out
    clear HA
    simp only [gangsawlaw33_SampleUnordered.j0] at H
    by_cases c10 : x30_5 = true
    ·subst c10
     have H1 : (some true) = some r := by rw [if_pos rfl] at H; exact H
     clear H
     have H := H1
     clear H1
     obtain rfl := Option.some.inj H
     simp only [Option.some.injEq, Prod.mk.injEq] at H
     obtain ⟨rfl⟩ := H
     go_wp2
     go_ret
     exact ⟨by first | rfl | (simp [errW_none, errW_some] <;> rfl) | (simp [*, errW_none, errW_some] <;> rfl), by repeat (first | (with_reducible first | exact HB.out | apply below_alloc | apply pw_below_drewN | apply below_drew1) | exact HB.out)⟩
    ·replace c10 := Bool.eq_false_iff.mpr c10
     subst c10
     have H1 : (if (IntKind.u64.wrap ((l0.length : Int))) = 0 then (none) else ((some (([] : List (S51)) : List (S51))).bind fun y557 => (if 0 ≤ (wrap64 (Int.tmod (IntKind.u64.wrap (a1)) (IntKind.u64.wrap ((l0.length : Int))))) then (if (wrap64 (Int.tmod (IntKind.u64.wrap (a1)) (IntKind.u64.wrap ((l0.length : Int))))) ≤ (l0.length : Int) then ((some (l0.drop ((wrap64 (Int.tmod (IntKind.u64.wrap (a1)) (IntKind.u64.wrap ((l0.length : Int))))) : Int).toNat : List (S51))).bind fun y560 => (if y557.length + y560.length < 4398046511104 then ((some (y557 ++ y560 : List (S51))).bind fun y564 => ((some (l0.take ((wrap64 (Int.tmod (IntKind.u64.wrap (a1)) (IntKind.u64.wrap ((l0.length : Int))))) : Int).toNat : List (S51))).bind fun y567 => (if y564.length + y567.length < 4398046511104 then ((some (y564 ++ y567 : List (S51))).bind fun y571 => ((sample_Strength.f kj5 l0 a2).bind fun bt574 => ((sample_Strength.f kj5 y571 a2).bind fun bt576 => ((sample_Absorption.f kj5 l0 a2).bind fun bt578 => ((sample_Absorption.f kj5 y571 a2).bind fun bt580 => ((sample_Outliers.f kj5 l0).bind fun bt582 => ((sample_Outliers.f kj5 y571).bind fun bt586 => (if bt574.1 = bt576.1 then (if bt574.2 = bt576.2 then (if bt578.1 = bt580.1 then (if bt578.2 = bt580.2 then ((gangsawref33_Same.f kj5 bt582.1 bt586.1).bind fun t590 => (if t590 = true then (some (bt582.2 == bt586.2)) else (some false))) else (some false)) else (some false)) else (some false)) else (some false))))))))) else (none)))) else (none))) else (none)) else (none)))) = some r := by rw [if_neg (show ¬ (false = true) by decide)] at H; exact H
     clear H
     have H := H1
     clear H1
     by_cases c11 : (IntKind.u64.wrap ((l0.length : Int))) = 0
     ·rw [if_pos c11] at H
      exact absurd H (by simp)
     ·rw [if_neg c11] at H
      have c11b0 : ((IntKind.u64.wrap ((l0.length : Int))) == 0) = false := beq_eq_false_iff_ne.mpr c11
      have c11b1 : ((IntKind.u64.wrap ((l0.length : Int))) != 0) = true := bne_iff_ne.mpr c11
      obtain ⟨y557, hy557⟩ : ∃ y_ : List (S51), y_ = (([] : List (S51))) := ⟨_, rfl⟩
      replace H : (if 0 ≤ (wrap64 (Int.tmod (IntKind.u64.wrap (a1)) (IntKind.u64.wrap ((l0.length : Int))))) then (if (wrap64 (Int.tmod (IntKind.u64.wrap (a1)) (IntKind.u64.wrap ((l0.length : Int))))) ≤ (l0.length : Int) then ((some (l0.drop ((wrap64 (Int.tmod (IntKind.u64.wrap (a1)) (IntKind.u64.wrap ((l0.length : Int))))) : Int).toNat : List (S51))).bind fun y560 => (if y557.length + y560.length < 4398046511104 then ((some (y557 ++ y560 : List (S51))).bind fun y564 => ((some (l0.take ((wrap64 (Int.tmod (IntKind.u64.wrap (a1)) (IntKind.u64.wrap ((l0.length : Int))))) : Int).toNat : List (S51))).bind fun y567 => (if y564.length + y567.length < 4398046511104 then ((some (y564 ++ y567 : List (S51))).bind fun y571 => ((sample_Strength.f kj5 l0 a2).bind fun bt574 => ((sample_Strength.f kj5 y571 a2).bind fun bt576 => ((sample_Absorption.f kj5 l0 a2).bind fun bt578 => ((sample_Absorption.f kj5 y571 a2).bind fun bt580 => ((sample_Outliers.f kj5 l0).bind fun bt582 => ((sample_Outliers.f kj5 y571).bind fun bt586 => (if bt574.1 = bt576.1 then (if bt574.2 = bt576.2 then (if bt578.1 = bt580.1 then (if bt578.2 = bt580.2 then ((gangsawref33_Same.f kj5 bt582.1 bt586.1).bind fun t590 => (if t590 = true then (some (bt582.2 == bt586.2)) else (some false))) else (some false)) else (some false)) else (some false)) else (some false))))))))) else (none)))) else (none))) else (none)) else (none)) = some r := by first | (rw [hy557]; with_reducible exact H) | (have H2_ := (Option.bind_some _ _).symm.trans H; rw [hy557]; with_reducible exact H2_) | (have H2_ := (Option.bind_some _ _).symm.trans H; with_reducible exact H2_) | with_reducible exact H | (rw [hy557]; exact H) | exact H
      have Ny557 := Aside0.mk hy557
      clear hy557
      obtain ⟨ji12, hji12⟩ : ∃ j_ : Int, (wrap64 (Int.tmod (IntKind.u64.wrap (a1)) (IntKind.u64.wrap ((l0.length : Int))))) = j_ := ⟨_, rfl⟩
      replace H : (if 0 ≤ (ji12) then (if (ji12) ≤ (l0.length : Int) then ((some (l0.drop ((ji12) : Int).toNat : List (S51))).bind fun y560 => (if y557.length + y560.length < 4398046511104 then ((some (y557 ++ y560 : List (S51))).bind fun y564 => ((some (l0.take ((ji12) : Int).toNat : List (S51))).bind fun y567 => (if y564.length + y567.length < 4398046511104 then ((some (y564 ++ y567 : List (S51))).bind fun y571 => ((sample_Strength.f kj5 l0 a2).bind fun bt574 => ((sample_Strength.f kj5 y571 a2).bind fun bt576 => ((sample_Absorption.f kj5 l0 a2).bind fun bt578 => ((sample_Absorption.f kj5 y571 a2).bind fun bt580 => ((sample_Outliers.f kj5 l0).bind fun bt582 => ((sample_Outliers.f kj5 y571).bind fun bt586 => (if bt574.1 = bt576.1 then (if bt574.2 = bt576.2 then (if bt578.1 = bt580.1 then (if bt578.2 = bt580.2 then ((gangsawref33_Same.f kj5 bt582.1 bt586.1).bind fun t590 => (if t590 = true then (some (bt582.2 == bt586.2)) else (some false))) else (some false)) else (some false)) else (some false)) else (some false))))))))) else (none)))) else (none))) else (none)) else (none)) = some r := by first | (rw [hji12] at H; exact H) | (simp only [hji12] at H ⊢; exact H)
      have hji12w : (IntKind.i64.wrap (Int.tmod (IntKind.u64.wrap (a1)) (IntKind.u64.wrap ((l0.length : Int))))) = ji12 := (i64_w _).trans hji12
      by_cases c13 : 0 ≤ (ji12)
      ·rw [if_pos c13] at H
       have c13b0 := eq_true c13
       have c13b1 : decide (0 ≤ (ji12)) = true := decide_eq_true c13
       clear c13
       by_cases c14 : (ji12) ≤ (l0.length : Int)
       ·rw [if_pos c14] at H
        have c14b0 := eq_true c14
        have c14b1 : decide ((ji12) ≤ (l0.length : Int)) = true := decide_eq_true c14
        clear c14
        obtain ⟨y560, hy560⟩ : ∃ y_ : List (S51), y_ = (l0.drop ((ji12) : Int).toNat) := ⟨_, rfl⟩
        replace H : (if y557.length + y560.length < 4398046511104 then ((some (y557 ++ y560 : List (S51))).bind fun y564 => ((some (l0.take ((ji12) : Int).toNat : List (S51))).bind fun y567 => (if y564.length + y567.length < 4398046511104 then ((some (y564 ++ y567 : List (S51))).bind fun y571 => ((sample_Strength.f kj5 l0 a2).bind fun bt574 => ((sample_Strength.f kj5 y571 a2).bind fun bt576 => ((sample_Absorption.f kj5 l0 a2).bind fun bt578 => ((sample_Absorption.f kj5 y571 a2).bind fun bt580 => ((sample_Outliers.f kj5 l0).bind fun bt582 => ((sample_Outliers.f kj5 y571).bind fun bt586 => (if bt574.1 = bt576.1 then (if bt574.2 = bt576.2 then (if bt578.1 = bt580.1 then (if bt578.2 = bt580.2 then ((gangsawref33_Same.f kj5 bt582.1 bt586.1).bind fun t590 => (if t590 = true then (some (bt582.2 == bt586.2)) else (some false))) else (some false)) else (some false)) else (some false)) else (some false))))))))) else (none)))) else (none)) = some r := by first | (rw [hy560]; with_reducible exact H) | (have H2_ := (Option.bind_some _ _).symm.trans H; rw [hy560]; with_reducible exact H2_) | (have H2_ := (Option.bind_some _ _).symm.trans H; with_reducible exact H2_) | with_reducible exact H | (rw [hy560]; exact H) | exact H
        have Ny560 := Aside0.mk hy560
        clear hy560
        by_cases c15 : y557.length + y560.length < 4398046511104
        ·rw [if_pos c15] at H
         have LMc15 := Aside0.mk c15
         clear c15
         obtain ⟨y564, hy564⟩ : ∃ y_ : List (S51), y_ = (y557 ++ y560) := ⟨_, rfl⟩
         replace H : ((some (l0.take ((ji12) : Int).toNat : List (S51))).bind fun y567 => (if y564.length + y567.length < 4398046511104 then ((some (y564 ++ y567 : List (S51))).bind fun y571 => ((sample_Strength.f kj5 l0 a2).bind fun bt574 => ((sample_Strength.f kj5 y571 a2).bind fun bt576 => ((sample_Absorption.f kj5 l0 a2).bind fun bt578 => ((sample_Absorption.f kj5 y571 a2).bind fun bt580 => ((sample_Outliers.f kj5 l0).bind fun bt582 => ((sample_Outliers.f kj5 y571).bind fun bt586 => (if bt574.1 = bt576.1 then (if bt574.2 = bt576.2 then (if bt578.1 = bt580.1 then (if bt578.2 = bt580.2 then ((gangsawref33_Same.f kj5 bt582.1 bt586.1).bind fun t590 => (if t590 = true then (some (bt582.2 == bt586.2)) else (some false))) else (some false)) else (some false)) else (some false)) else (some false))))))))) else (none))) = some r := by first | (rw [hy564]; with_reducible exact H) | (have H2_ := (Option.bind_some _ _).symm.trans H; rw [hy564]; with_reducible exact H2_) | (have H2_ := (Option.bind_some _ _).symm.trans H; with_reducible exact H2_) | with_reducible exact H | (rw [hy564]; exact H) | exact H
         have Ny564 := Aside0.mk hy564
         clear hy564
         have c16b0 := eq_true (of_decide_eq_true (by first | (with_reducible assumption) | assumption) : 0 ≤ (ji12))
         have c17b0 := eq_true (of_decide_eq_true (by first | (with_reducible assumption) | assumption) : (ji12) ≤ (l0.length : Int))
         obtain ⟨y567, hy567⟩ : ∃ y_ : List (S51), y_ = (l0.take ((ji12) : Int).toNat) := ⟨_, rfl⟩
         replace H : (if y564.length + y567.length < 4398046511104 then ((some (y564 ++ y567 : List (S51))).bind fun y571 => ((sample_Strength.f kj5 l0 a2).bind fun bt574 => ((sample_Strength.f kj5 y571 a2).bind fun bt576 => ((sample_Absorption.f kj5 l0 a2).bind fun bt578 => ((sample_Absorption.f kj5 y571 a2).bind fun bt580 => ((sample_Outliers.f kj5 l0).bind fun bt582 => ((sample_Outliers.f kj5 y571).bind fun bt586 => (if bt574.1 = bt576.1 then (if bt574.2 = bt576.2 then (if bt578.1 = bt580.1 then (if bt578.2 = bt580.2 then ((gangsawref33_Same.f kj5 bt582.1 bt586.1).bind fun t590 => (if t590 = true then (some (bt582.2 == bt586.2)) else (some false))) else (some false)) else (some false)) else (some false)) else (some false))))))))) else (none)) = some r := by first | (rw [hy567]; with_reducible exact H) | (have H2_ := (Option.bind_some _ _).symm.trans H; rw [hy567]; with_reducible exact H2_) | (have H2_ := (Option.bind_some _ _).symm.trans H; with_reducible exact H2_) | with_reducible exact H | (rw [hy567]; exact H) | exact H
         have Ny567 := Aside0.mk hy567
         clear hy567
         by_cases c18 : y564.length + y567.length < 4398046511104
         ·rw [if_pos c18] at H
          have LMc18 := Aside0.mk c18
          clear c18
          obtain ⟨y571, hy571⟩ : ∃ y_ : List (S51), y_ = (y564 ++ y567) := ⟨_, rfl⟩
          replace H : ((sample_Strength.f kj5 l0 a2).bind fun bt574 => ((sample_Strength.f kj5 y571 a2).bind fun bt576 => ((sample_Absorption.f kj5 l0 a2).bind fun bt578 => ((sample_Absorption.f kj5 y571 a2).bind fun bt580 => ((sample_Outliers.f kj5 l0).bind fun bt582 => ((sample_Outliers.f kj5 y571).bind fun bt586 => (if bt574.1 = bt576.1 then (if bt574.2 = bt576.2 then (if bt578.1 = bt580.1 then (if bt578.2 = bt580.2 then ((gangsawref33_Same.f kj5 bt582.1 bt586.1).bind fun t590 => (if t590 = true then (some (bt582.2 == bt586.2)) else (some false))) else (some false)) else (some false)) else (some false)) else (some false)))))))) = some r := by first | (rw [hy571]; with_reducible exact H) | (have H2_ := (Option.bind_some _ _).symm.trans H; rw [hy571]; with_reducible exact H2_) | (have H2_ := (Option.bind_some _ _).symm.trans H; with_reducible exact H2_) | with_reducible exact H | (rw [hy571]; exact H) | exact H
          have Ny571 := Aside0.mk hy571
          clear hy571
          replace H := Option.bind_eq_some_iff.mp H
          obtain ⟨⟨t574, t575⟩, A190, H⟩ := H
          replace H : ((sample_Strength.f kj5 y571 a2).bind fun bt576 => ((sample_Absorption.f kj5 l0 a2).bind fun bt578 => ((sample_Absorption.f kj5 y571 a2).bind fun bt580 => ((sample_Outliers.f kj5 l0).bind fun bt582 => ((sample_Outliers.f kj5 y571).bind fun bt586 => (if t574 = bt576.1 then (if t575 = bt576.2 then (if bt578.1 = bt580.1 then (if bt578.2 = bt580.2 then ((gangsawref33_Same.f kj5 bt582.1 bt586.1).bind fun t590 => (if t590 = true then (some (bt582.2 == bt586.2)) else (some false))) else (some false)) else (some false)) else (some false)) else (some false))))))) = some r := H
          have A19 := Aside0.mk A190
          clear A190
          replace H := Option.bind_eq_some_iff.mp H
          obtain ⟨⟨t576, t577⟩, A200, H⟩ := H
          replace H : ((sample_Absorption.f kj5 l0 a2).bind fun bt578 => ((sample_Absorption.f kj5 y571 a2).bind fun bt580 => ((sample_Outliers.f kj5 l0).bind fun bt582 => ((sample_Outliers.f kj5 y571).bind fun bt586 => (if t574 = t576 then (if t575 = t577 then (if bt578.1 = bt580.1 then (if bt578.2 = bt580.2 then ((gangsawref33_Same.f kj5 bt582.1 bt586.1).bind fun t590 => (if t590 = true then (some (bt582.2 == bt586.2)) else (some false))) else (some false)) else (some false)) else (some false)) else (some false)))))) = some r := H
          have A20 := Aside0.mk A200
          clear A200
          replace H := Option.bind_eq_some_iff.mp H
          obtain ⟨⟨t578, t579⟩, A210, H⟩ := H
          replace H : ((sample_Absorption.f kj5 y571 a2).bind fun bt580 => ((sample_Outliers.f kj5 l0).bind fun bt582 => ((sample_Outliers.f kj5 y571).bind fun bt586 => (if t574 = t576 then (if t575 = t577 then (if t578 = bt580.1 then (if t579 = bt580.2 then ((gangsawref33_Same.f kj5 bt582.1 bt586.1).bind fun t590 => (if t590 = true then (some (bt582.2 == bt586.2)) else (some false))) else (some false)) else (some false)) else (some false)) else (some false))))) = some r := H
          have A21 := Aside0.mk A210
          clear A210
          replace H := Option.bind_eq_some_iff.mp H
          obtain ⟨⟨t580, t581⟩, A220, H⟩ := H
          replace H : ((sample_Outliers.f kj5 l0).bind fun bt582 => ((sample_Outliers.f kj5 y571).bind fun bt586 => (if t574 = t576 then (if t575 = t577 then (if t578 = t580 then (if t579 = t581 then ((gangsawref33_Same.f kj5 bt582.1 bt586.1).bind fun t590 => (if t590 = true then (some (bt582.2 == bt586.2)) else (some false))) else (some false)) else (some false)) else (some false)) else (some false)))) = some r := H
          have A22 := Aside0.mk A220
          clear A220
          replace H := Option.bind_eq_some_iff.mp H
          obtain ⟨⟨t582, t583⟩, A230, H⟩ := H
          replace H : ((sample_Outliers.f kj5 y571).bind fun bt586 => (if t574 = t576 then (if t575 = t577 then (if t578 = t580 then (if t579 = t581 then ((gangsawref33_Same.f kj5 t582 bt586.1).bind fun t590 => (if t590 = true then (some (t583 == bt586.2)) else (some false))) else (some false)) else (some false)) else (some false)) else (some false))) = some r := H
          have A23 := Aside0.mk A230
          clear A230
          replace H := Option.bind_eq_some_iff.mp H
          obtain ⟨⟨t586, t587⟩, A240, H⟩ := H
          replace H : (if t574 = t576 then (if t575 = t577 then (if t578 = t580 then (if t579 = t581 then ((gangsawref33_Same.f kj5 t582 t586).bind fun t590 => (if t590 = true then (some (t583 == t587)) else (some false))) else (some false)) else (some false)) else (some false)) else (some false)) = some r := H
          have A24 := Aside0.mk A240
          clear A240
          by_cases c25 : t574 = t576
          ·rw [if_pos c25] at H
           have c25b0 : (t574 == t576) = true := beq_iff_eq.mpr c25
           have c25b1 : (t574 != t576) = false := bne_eq_false_iff_eq.mpr c25
           clear c25
           by_cases c26 : t575 = t577
           ·rw [if_pos c26] at H
            have c26b0 : (t575 == t577) = true := beq_iff_eq.mpr c26
            have c26b1 : (t575 != t577) = false := bne_eq_false_iff_eq.mpr c26
            clear c26
            by_cases c27 : t578 = t580
            ·rw [if_pos c27] at H
             have c27b0 : (t578 == t580) = true := beq_iff_eq.mpr c27
             have c27b1 : (t578 != t580) = false := bne_eq_false_iff_eq.mpr c27
             clear c27
             by_cases c28 : t579 = t581
             ·rw [if_pos c28] at H
              have c28b0 : (t579 == t581) = true := beq_iff_eq.mpr c28
              have c28b1 : (t579 != t581) = false := bne_eq_false_iff_eq.mpr c28
              clear c28
              replace H := Option.bind_eq_some_iff.mp H
              obtain ⟨t590, A290, H⟩ := H
              replace H : (if t590 = true then (some (t583 == t587)) else (some false)) = some r := H
              have A29 := Aside0.mk A290
              clear A290
              by_cases c30 : t590 = true
              ·subst c30
               have H1 : (some (t583 == t587)) = some r := by rw [if_pos rfl] at H; exact H
               clear H
               have H := H1
               clear H1
               obtain rfl := Option.some.inj H
               simp only [Option.some.injEq, Prod.mk.injEq] at H
               obtain ⟨rfl⟩ := H
               try go_wp2
               have n0_ := Aside0.mk (below_drew1 HB.out)
               clear HB
               have HB := n0_
               clear n0_
               have q32 : ((ji12) : Int) ≤ ((l0.length : Int) : Int) := of_decide_eq_true (by first | (with_reducible assumption) | assumption)
               obtain ⟨i032, hi032, _, hsz32, _⟩ := info_parts info51
               have hroom32 : l0.length ≤ c0 := HC0.out
               have hC32 : Kd.C k51 _ A0 l0.length l0 := HR0.out
               have q032 : (0 : Int) ≤ ((ji12) : Int) := of_decide_eq_true (by first | (with_reducible assumption) | assumption)
               have hcut32 := cut_from (P := Try.prog) 22 51 .i64 Try.underlying22 hi032 3 hsz32 A0 l0.length c0 (ji12) q032 q32
               have hr32 := Kd.C_drop (m := ((ji12) : Int).toNat) (c := c0) hC32 (by omega) hroom32
               obtain ⟨A32, hA32⟩ : ∃ A1, A1 = (if c0 = ((ji12) : Int).toNat then A0 else (A0 : Option Addr).map (·.add (((ji12) : Int).toNat * 3))) := ⟨_, rfl⟩
               obtain ⟨c32, hc32⟩ : ∃ c1, c1 = c0 - ((ji12) : Int).toNat := ⟨_, rfl⟩
               have hy32 : y560.length = l0.length - ((ji12) : Int).toNat := (by rw [Ny560.out, List.length_drop] <;> omega)
               rw [show (l0).drop ((ji12) : Int).toNat = y560 from Ny560.out.symm] at hr32
               replace hr32 : Kd.C k51 _ A32 y560.length y560 := (by rw [hA32]; exact hr32)
               rw [← hy32, ← hA32, ← hc32] at hcut32
               have HR563 := Aside0.mk hr32
               have HC563 := Aside0.mk (show y560.length ≤ c32 from by rw [hy32, hc32]; exact Nat.sub_le_sub_right hroom32 _)
               clear hr32 hC32 hroom32 hi032 hsz32 hc32
               have KY32 := Aside0.mk hy32
               have KA32 := Aside0.mk hA32
               clear hy32 hA32
               replace q32 := eq_true q32
               have q33 : ((ji12) : Int) ≤ ((l0.length : Int) : Int) := of_decide_eq_true (by first | (with_reducible assumption) | assumption)
               obtain ⟨i033, hi033, _, hsz33, _⟩ := info_parts info51
               have hroom33 : l0.length ≤ c0 := HC0.out
               have hC33 : Kd.C k51 _ A0 l0.length l0 := HR0.out
               have hcut33 := cut_to (P := Try.prog) 22 51 .i64 Try.underlying22 hi033 A0 l0.length c0 (ji12) (of_decide_eq_true (by first | (with_reducible assumption) | assumption)) q33 hroom33
               have hr33 := Kd.C_take (m := ((ji12) : Int).toNat) hC33 (by omega)
               have hy33 : y567.length = ((ji12) : Int).toNat := (by rw [Ny567.out, List.length_take]; omega)
               rw [← Ny567.out] at hr33
               rw [← hy33] at hcut33
               have HR570 := Aside0.mk hr33
               have HC570 := Aside0.mk (show y567.length ≤ c0 from by omega)
               clear hr33 hC33 hroom33 hi033 hsz33
               have KY33 := Aside0.mk hy33
               clear hy33
               replace q33 := eq_true q33
               refine start_ (n := 10) (S := fun w' => True) (ds := []) #[false, false, false, false, false, false, false, false, false, false] (by kernel_rfl) rfl rfl trivial (fun hHeld => ?_); refine with_tabW gangsawlaw33_SampleUnordered.tab6 gangsawlaw33_SampleUnordered.bits6 (fun HT_ HW_ => ?_)
               generalize wc.drew = w31 at HB HR563 HR570 hHeld ⊢
               refine pure_ (i := 1) (N := some 39) (v := ?_) (a' := ?_) #[false, true, false, false, false, false, false, false, false, false] rfl rfl (any_of HT_.out (by kernel_rfl)) (fun _ _ _ h => h) (Or.inl ⟨by rfl, ?_⟩) ?_ ?_
               rotate_left
               ·intro w'
                go_simp
                with_reducible rfl
               rotate_left
               ·simp only [Act.put, List.setIfInBounds_toArray, List.set_cons_zero, List.set_cons_succ, i64_w, i32_w]
                rfl
               refine pure_ (i := 2) (N := some 40) (v := ?_) (a' := ?_) #[false, true, true, false, false, false, false, false, false, false] rfl rfl (any_of HT_.out (by kernel_rfl)) (fun _ _ _ h => h) (Or.inl ⟨by rfl, ?_⟩) ?_ ?_
               rotate_left
               ·intro w'
                go_simp
                with_reducible rfl
               rotate_left
               ·simp only [Act.put, List.setIfInBounds_toArray, List.set_cons_zero, List.set_cons_succ, i64_w, i32_w]
                rfl
               refine pure_ (i := 3) (N := some 41) (v := ?_) (a' := ?_) #[false, true, true, true, false, false, false, false, false, false] rfl rfl (any_of HT_.out (by kernel_rfl)) (fun _ _ _ h => h) (Or.inl ⟨by rfl, ?_⟩) ?_ ?_
               rotate_left
               ·intro w'
                go_simp
                with_reducible rfl
               rotate_left
               ·simp only [Act.put, List.setIfInBounds_toArray, List.set_cons_zero, List.set_cons_succ, i64_w, i32_w]
                rfl
               refine pure_ (i := 5) (N := some 43) (v := ?_) (a' := ?_) #[false, true, true, true, false, true, false, false, false, false] rfl rfl (any_of HT_.out (by kernel_rfl)) (fun _ _ _ h => h) (Or.inl ⟨by rfl, ?_⟩) ?_ ?_
               rotate_left
               ·intro w'
                go_simp
                with_reducible rfl
               rotate_left
               ·simp only [Act.put, List.setIfInBounds_toArray, List.set_cons_zero, List.set_cons_succ, i64_w, i32_w]
                rfl
               refine pure_ (i := 6) (N := some 44) (v := ?_) (a' := ?_) #[false, true, true, true, false, true, true, false, false, false] rfl rfl (any_of HT_.out (by kernel_rfl)) (fun _ _ _ h => h) (Or.inl ⟨by rfl, ?_⟩) ?_ ?_
               rotate_left
               ·intro w'
                go_simp
                with_reducible rfl
               rotate_left
               ·simp only [Act.put, List.setIfInBounds_toArray, List.set_cons_zero, List.set_cons_succ, i64_w, i32_w]
                rfl
               refine pure_ (i := 7) (N := some 45) (v := ?_) (a' := ?_) #[false, true, true, true, false, true, true, true, false, false] rfl rfl (any_of HT_.out (by kernel_rfl)) (fun _ _ _ h => h) (Or.inl ⟨by rfl, ?_⟩) ?_ ?_
               rotate_left
               ·intro w'
                go_simp
                with_reducible rfl
               rotate_left
               ·simp only [Act.put, List.setIfInBounds_toArray, List.set_cons_zero, List.set_cons_succ, i64_w, i32_w]
                rfl
               refine one_ (i := 0) (N := some 38) #[true, true, true, true, false, true, true, true, false, false] rfl rfl (one_of HT_.out (by kernel_rfl)) (by decide) (fun K hK => ?_)
               refine Kd.R_lit_step k51 _ 51 ?hg (N := 38) ?hd (xs := ([] : List (S51))) (inner := []) (ok := fun _ => True) (okp := fun _ => True) ?hr ?hp (fun _ hk => hk) trivial (Below.refl _ _) (Nat.le_refl _) (by simp) ?_; (case hd => rfl); (case hg => rfl); (case hr => first | (go_simp; done) | (go_simp; rfl)); (case hp => exact (Reps.none _ _))
               intro v558 w34 ho35 hb hg_ hnew_
               clear hg_ hnew_
               (first | rw [← Ny557.out] at ho35 | (simp only [Int.reduceToNat] at ho35; rw [← Ny557.out] at ho35))
               have n0_ := Aside0.mk (Kd.R_lower ho35 (below_size (by repeat (first | (with_reducible first | exact HB.out | apply below_alloc | apply pw_below_drewN | apply below_drew1) | exact HB.out))))
               have n1_ := Aside0.mk (below_step (by repeat (first | (with_reducible first | exact HB.out | apply below_alloc | apply pw_below_drewN | apply below_drew1) | exact HB.out)) hb)
               clear HB
               have HO559 := n0_
               have HB := n1_
               clear n0_ n1_
               clear hb ho35
               refine hK.out _ _ trivial (fun hHeld => ?_)
               clear hK K
               refine norm_ (a' := ?_) ?_ ?_
               rotate_left
               ·show Act.put _ (some 38) _ = _
                simp only [Act.put, List.setIfInBounds_toArray, List.set_cons_zero, List.set_cons_succ, i64_w, i32_w]
                rfl
               refine one_ (i := 4) (N := some 42) #[true, true, true, true, true, true, true, true, false, false] rfl rfl (one_of HT_.out (by kernel_rfl)) (by decide) (fun K hK => ?_)
               refine Kd.R_append_rows_step k51 (w0 := w) w.heap.size (by rfl) (.tmp 38) (.tmp 41) 22 51 (.agg #[(.string ⟨#[]⟩), (.int .i64 0), (.int .i64 0)]) 32 rfl Try.underlying22 info51 rfl (by decide) (by omega) v558 y557 y560 _ _ _ (fun _ => True) (fun _ => False) rfl rfl ?aO ?aR (fun _ _ h => h) (fun _ h => h.elim) ?aF ?aB ?aS ?aL ?_
               (case aR => repeat (first | exact (Kd.C_below HR563.out HB.out) | (with_reducible refine Kd.C_alloc ?_ _) | (with_reducible refine Kd.C_drewN ?_ _) | (with_reducible refine Kd.C_drew ?_)))
               (case aB => exact (by repeat (first | (with_reducible first | exact HB.out | apply below_alloc | apply pw_below_drewN | apply below_drew1) | exact HB.out)))
               (case aF => exact (fun _ _ => trivial))
               (case aO => exact (by (with_reducible repeat (first | apply Kd.R_alloc | apply Kd.R_drewN | apply Kd.R_drew)); exact HO559.out))
               (case aS => exact (below_size (by repeat (first | (with_reducible first | exact HB.out | apply below_alloc | apply pw_below_drewN | apply below_drew1) | exact HB.out))))
               (case aL => have := LMc15.out; omega)
               intro v565 w36 ho hb hg hat
               rw [← Ny564.out] at ho
               have n0_ := Aside0.mk (hb)
               have n1_ := Aside0.mk (ho)
               clear HB
               clear HO559
               have HB := n0_
               have HO566 := n1_
               clear n0_ n1_
               clear ho hb hg hat
               refine hK.out _ _ trivial (fun hHeld => ?_)
               clear hK K
               refine norm_ (a' := ?_) ?_ ?_
               rotate_left
               ·show Act.put _ (some 42) _ = _
                simp only [Act.put, List.setIfInBounds_toArray, List.set_cons_zero, List.set_cons_succ, i64_w, i32_w]
                rfl
               refine one_ (i := 8) (N := some 46) #[true, true, true, true, true, true, true, true, true, false] rfl rfl (one_of HT_.out (by kernel_rfl)) (by decide) (fun K hK => ?_)
               refine Kd.R_append_rows_step k51 (w0 := w) w.heap.size (by rfl) (.tmp 42) (.tmp 45) 22 51 (.agg #[(.string ⟨#[]⟩), (.int .i64 0), (.int .i64 0)]) 32 rfl Try.underlying22 info51 rfl (by decide) (by omega) v565 y564 y567 _ _ _ (fun _ => True) (fun _ => False) rfl rfl ?aO ?aR (fun _ _ h => h) (fun _ h => h.elim) ?aF ?aB ?aS ?aL ?_
               (case aR => repeat (first | exact (Kd.C_below HR570.out HB.out) | (with_reducible refine Kd.C_alloc ?_ _) | (with_reducible refine Kd.C_drewN ?_ _) | (with_reducible refine Kd.C_drew ?_)))
               (case aB => exact (by repeat (first | (with_reducible first | exact HB.out | apply below_alloc | apply pw_below_drewN | apply below_drew1) | exact HB.out)))
               (case aF => exact (fun _ _ => trivial))
               (case aO => exact (by (with_reducible repeat (first | apply Kd.R_alloc | apply Kd.R_drewN | apply Kd.R_drew)); exact HO566.out))
               (case aS => exact (below_size (by repeat (first | (with_reducible first | exact HB.out | apply below_alloc | apply pw_below_drewN | apply below_drew1) | exact HB.out))))
               (case aL => have := LMc18.out; omega)
               intro v572 w37 ho hb hg hat
               rw [← Ny571.out] at ho
               have n0_ := Aside0.mk (hb)
               have n1_ := Aside0.mk (ho)
               clear HB
               clear HO566
               have HB := n0_
               have HO573 := n1_
               clear n0_ n1_
               clear ho hb hg hat
               refine hK.out _ _ trivial (fun hHeld => ?_)
               clear hK K
               refine norm_ (a' := ?_) ?_ ?_
               rotate_left
               ·show Act.put _ (some 46) _ = _
                simp only [Act.put, List.setIfInBounds_toArray, List.set_cons_zero, List.set_cons_succ, i64_w, i32_w]
                rfl
               refine pure_ (i := 9) (N := some 8) (v := ?_) (a' := ?_) #[true, true, true, true, true, true, true, true, true, true] rfl rfl (any_of HT_.out (by kernel_rfl)) (fun _ _ _ h => h) (Or.inl ⟨by rfl, ?_⟩) ?_ ?_
               rotate_left
               ·intro w'
                go_simp
                with_reducible rfl
               rotate_left
               ·simp only [Act.put, List.setIfInBounds_toArray, List.set_cons_zero, List.set_cons_succ, i64_w, i32_w]
                rfl
               refine done_ (done_of HT_.out (by kernel_rfl)) ?_
               try go_wp2_with (first | ((with_reducible refine gate_callee (f := 13) rfl ?_); refine goesL_ (some 50) rfl rfl Try.func13 (by kernel_rfl) rfl #[.slice A0 l0.length c0, .int .i64 a2] rfl (by (try simp only [List.map_toArray, List.map_cons, List.map_nil]); first | done | rfl | (simp only [List.length_drop, List.length_take]; rfl)) ?_; (with_reducible refine (sample_Strength.calls kj5 _ _ l0 a2 t574 t575 _ ?side1 ?side2 A19.out).mono ?_); (case side1 => repeat (first | exact (Kd.C_below HR0.out HB.out) | (with_reducible refine Kd.C_alloc ?_ _) | (with_reducible refine Kd.C_drewN ?_ _) | (with_reducible refine Kd.C_drew ?_))); (case side2 => exact HC0.out); rintro e w38 ⟨rfl, hb⟩; refine ⟨_, rfl, ?_⟩; have n0_ := Aside0.mk (Kd.R_below (by (with_reducible repeat (first | apply Kd.R_alloc | apply Kd.R_drewN | apply Kd.R_drew)); exact HO573.out) hb); have n1_ := Aside0.mk (below_step (by repeat (first | (with_reducible first | exact HB.out | apply below_alloc | apply pw_below_drewN | apply below_drew1) | exact HB.out)) hb); clear HO573; clear HB; have HO573 := n0_; have HB := n1_; clear n0_ n1_; (try clear hb); (try clear hb2); (try clear hk); (try clear hi); obtain ⟨Ao39, co39, eo39⟩ := Kd.R_slice HO573.out; subst eo39) | ((with_reducible refine gate_callee (f := 13) rfl ?_); refine goesL_ (some 56) rfl rfl Try.func13 (by kernel_rfl) rfl #[.slice Ao39 y571.length co39, .int .i64 a2] rfl (by (try simp only [List.map_toArray, List.map_cons, List.map_nil]); first | done | rfl | (simp only [List.length_drop, List.length_take]; rfl)) ?_; (with_reducible refine (sample_Strength.calls kj5 _ _ y571 a2 t576 t577 _ ?side1 ?side2 A20.out).mono ?_); (case side1 => repeat (first | exact (Kd.R_reads' HO573.out).2.2 | (with_reducible refine Kd.C_alloc ?_ _) | (with_reducible refine Kd.C_drewN ?_ _) | (with_reducible refine Kd.C_drew ?_))); (case side2 => exact (Kd.R_reads' HO573.out).2.1); rintro e w40 ⟨rfl, hb⟩; refine ⟨_, rfl, ?_⟩; have n0_ := Aside0.mk (Kd.R_below (by (with_reducible repeat (first | apply Kd.R_alloc | apply Kd.R_drewN | apply Kd.R_drew)); exact HO573.out) hb); have n1_ := Aside0.mk (below_step (by repeat (first | (with_reducible first | exact HB.out | apply below_alloc | apply pw_below_drewN | apply below_drew1) | exact HB.out)) hb); clear HO573; clear HB; have HO573 := n0_; have HB := n1_; clear n0_ n1_; (try clear hb); (try clear hb2); (try clear hk); (try clear hi)) | ((with_reducible refine gate_callee (f := 14) rfl ?_); refine goesL_ (some 62) rfl rfl Try.func14 (by kernel_rfl) rfl #[.slice A0 l0.length c0, .int .i64 a2] rfl (by (try simp only [List.map_toArray, List.map_cons, List.map_nil]); first | done | rfl | (simp only [List.length_drop, List.length_take]; rfl)) ?_; (with_reducible refine (sample_Absorption.calls kj5 _ _ l0 a2 t578 t579 _ ?side1 ?side2 A21.out).mono ?_); (case side1 => repeat (first | exact (Kd.C_below HR0.out HB.out) | (with_reducible refine Kd.C_alloc ?_ _) | (with_reducible refine Kd.C_drewN ?_ _) | (with_reducible refine Kd.C_drew ?_))); (case side2 => exact HC0.out); rintro e w41 ⟨rfl, hb⟩; refine ⟨_, rfl, ?_⟩; have n0_ := Aside0.mk (Kd.R_below (by (with_reducible repeat (first | apply Kd.R_alloc | apply Kd.R_drewN | apply Kd.R_drew)); exact HO573.out) hb); have n1_ := Aside0.mk (below_step (by repeat (first | (with_reducible first | exact HB.out | apply below_alloc | apply pw_below_drewN | apply below_drew1) | exact HB.out)) hb); clear HO573; clear HB; have HO573 := n0_; have HB := n1_; clear n0_ n1_; (try clear hb); (try clear hb2); (try clear hk); (try clear hi)) | ((with_reducible refine gate_callee (f := 14) rfl ?_); refine goesL_ (some 68) rfl rfl Try.func14 (by kernel_rfl) rfl #[.slice Ao39 y571.length co39, .int .i64 a2] rfl (by (try simp only [List.map_toArray, List.map_cons, List.map_nil]); first | done | rfl | (simp only [List.length_drop, List.length_take]; rfl)) ?_; (with_reducible refine (sample_Absorption.calls kj5 _ _ y571 a2 t580 t581 _ ?side1 ?side2 A22.out).mono ?_); (case side1 => repeat (first | exact (Kd.R_reads' HO573.out).2.2 | (with_reducible refine Kd.C_alloc ?_ _) | (with_reducible refine Kd.C_drewN ?_ _) | (with_reducible refine Kd.C_drew ?_))); (case side2 => exact (Kd.R_reads' HO573.out).2.1); rintro e w42 ⟨rfl, hb⟩; refine ⟨_, rfl, ?_⟩; have n0_ := Aside0.mk (Kd.R_below (by (with_reducible repeat (first | apply Kd.R_alloc | apply Kd.R_drewN | apply Kd.R_drew)); exact HO573.out) hb); have n1_ := Aside0.mk (below_step (by repeat (first | (with_reducible first | exact HB.out | apply below_alloc | apply pw_below_drewN | apply below_drew1) | exact HB.out)) hb); clear HO573; clear HB; have HO573 := n0_; have HB := n1_; clear n0_ n1_; (try clear hb); (try clear hb2); (try clear hk); (try clear hi)) | ((with_reducible refine gate_callee (f := 24) rfl ?_); refine goesL_ (some 73) rfl rfl Try.func24 (by kernel_rfl) rfl #[.slice A0 l0.length c0] rfl (by (try simp only [List.map_toArray, List.map_cons, List.map_nil]); first | done | rfl | (simp only [List.length_drop, List.length_take]; rfl)) ?_; (with_reducible refine (sample_Outliers.calls kj5 _ _ l0 t582 t583 _ ?side1 ?side2 A23.out).mono ?_); (case side1 => repeat (first | exact (Kd.C_below HR0.out HB.out) | (with_reducible refine Kd.C_alloc ?_ _) | (with_reducible refine Kd.C_drewN ?_ _) | (with_reducible refine Kd.C_drew ?_))); (case side2 => exact HC0.out); rintro e w43 ⟨v584, rfl, ho0, hb⟩; refine ⟨_, rfl, ?_⟩; have n0_ := Aside0.mk (Kd.R_below (by (with_reducible repeat (first | apply Kd.R_alloc | apply Kd.R_drewN | apply Kd.R_drew)); exact HO573.out) hb); have n1_ := Aside0.mk (Kd.R_lower ho0 (below_size (by repeat (first | (with_reducible first | exact HB.out | apply below_alloc | apply pw_below_drewN | apply below_drew1) | exact HB.out)))); have n2_ := Aside0.mk (below_step (by repeat (first | (with_reducible first | exact HB.out | apply below_alloc | apply pw_below_drewN | apply below_drew1) | exact HB.out)) hb); clear HO573; clear HB; have HO573 := n0_; have HO585 := n1_; have HB := n2_; clear n0_ n1_ n2_; (try clear hb); (try clear hb2); (try clear hk); (try clear hi); (try clear ho0)) | ((with_reducible refine gate_callee (f := 24) rfl ?_); refine goesL_ (some 78) rfl rfl Try.func24 (by kernel_rfl) rfl #[.slice Ao39 y571.length co39] rfl (by (try simp only [List.map_toArray, List.map_cons, List.map_nil]); first | done | rfl | (simp only [List.length_drop, List.length_take]; rfl)) ?_; (with_reducible refine (sample_Outliers.calls kj5 _ _ y571 t586 t587 _ ?side1 ?side2 A24.out).mono ?_); (case side1 => repeat (first | exact (Kd.R_reads' HO573.out).2.2 | (with_reducible refine Kd.C_alloc ?_ _) | (with_reducible refine Kd.C_drewN ?_ _) | (with_reducible refine Kd.C_drew ?_))); (case side2 => exact (Kd.R_reads' HO573.out).2.1); rintro e w44 ⟨v588, rfl, ho0, hb⟩; refine ⟨_, rfl, ?_⟩; have n0_ := Aside0.mk (Kd.R_below (by (with_reducible repeat (first | apply Kd.R_alloc | apply Kd.R_drewN | apply Kd.R_drew)); exact HO573.out) hb); have n1_ := Aside0.mk (Kd.R_elder' (by (with_reducible repeat (first | apply Kd.R_alloc | apply Kd.R_drewN | apply Kd.R_drew)); exact HO585.out) (Kd.R_base ho0) hb); have n2_ := Aside0.mk (Kd.R_lower (Kd.R_new' ho0 (Kd.R_lt (by (with_reducible repeat (first | apply Kd.R_alloc | apply Kd.R_drewN | apply Kd.R_drew)); exact HO585.out))) (below_size (by repeat (first | (with_reducible first | exact HB.out | apply below_alloc | apply pw_below_drewN | apply below_drew1) | exact HB.out)))); have n3_ := Aside0.mk (below_step (by repeat (first | (with_reducible first | exact HB.out | apply below_alloc | apply pw_below_drewN | apply below_drew1) | exact HB.out)) hb); clear HO573; clear HO585; clear HB; have HO573 := n0_; have HO585 := n1_; have HO589 := n2_; have HB := n3_; clear n0_ n1_ n2_ n3_; (try clear hb); (try clear hb2); (try clear hk); (try clear hi); (try clear ho0); obtain ⟨Ao45, co45, eo45⟩ := Kd.R_slice HO585.out; subst eo45; obtain ⟨Ao46, co46, eo46⟩ := Kd.R_slice HO589.out; subst eo46) | (go_at_call 25; (with_reducible refine (gangsawref33_Same.calls kj5 _ _ t582 _ _ t586 true _ ?side1 ?side2 ?side3 ?side4 A29.out).mono ?_); (case side1 => repeat (first | exact (Kd.R_reads' HO585.out).2.2 | (with_reducible refine Kd.C_alloc ?_ _) | (with_reducible refine Kd.C_drewN ?_ _) | (with_reducible refine Kd.C_drew ?_))); (case side2 => exact (Kd.R_reads' HO585.out).2.1); (case side3 => repeat (first | exact (Kd.R_reads' HO589.out).2.2 | (with_reducible refine Kd.C_alloc ?_ _) | (with_reducible refine Kd.C_drewN ?_ _) | (with_reducible refine Kd.C_drew ?_))); (case side4 => exact (Kd.R_reads' HO589.out).2.1); rintro e w' ⟨rfl, ⟨nd, rfl⟩⟩))
               go_ret
               exact ⟨by first | rfl | (simp [errW_none, errW_some] <;> rfl) | (simp only [← hji12]; first | rfl | (simp [errW_none, errW_some] <;> rfl)) | (simp [*, errW_none, errW_some] <;> rfl), by repeat (first | (with_reducible first | exact HB.out | apply below_alloc | apply pw_below_drewN | apply below_drew1) | exact HB.out)⟩
              ·replace c30 := Bool.eq_false_iff.mpr c30
               subst c30
               have H1 : (some false) = some r := by rw [if_neg (show ¬ (false = true) by decide)] at H; exact H
               clear H
               have H := H1
               clear H1
               obtain rfl := Option.some.inj H
               exact absurd hr (by decide)
             ·rw [if_neg c28] at H
              have c28b0 : (t579 == t581) = false := beq_eq_false_iff_ne.mpr c28
              have c28b1 : (t579 != t581) = true := bne_iff_ne.mpr c28
              obtain rfl := Option.some.inj H
              exact absurd hr (by decide)
            ·rw [if_neg c27] at H
             have c27b0 : (t578 == t580) = false := beq_eq_false_iff_ne.mpr c27
             have c27b1 : (t578 != t580) = true := bne_iff_ne.mpr c27
             obtain rfl := Option.some.inj H
             exact absurd hr (by decide)
           ·rw [if_neg c26] at H
            have c26b0 : (t575 == t577) = false := beq_eq_false_iff_ne.mpr c26
            have c26b1 : (t575 != t577) = true := bne_iff_ne.mpr c26
            obtain rfl := Option.some.inj H
            exact absurd hr (by decide)
          ·rw [if_neg c25] at H
           have c25b0 : (t574 == t576) = false := beq_eq_false_iff_ne.mpr c25
           have c25b1 : (t574 != t576) = true := bne_iff_ne.mpr c25
           obtain rfl := Option.some.inj H
           exact absurd hr (by decide)
         ·rw [if_neg c18] at H
          exact absurd H (by simp)
        ·rw [if_neg c15] at H
         exact absurd H (by simp)
       ·rw [if_neg c14] at H
        exact absurd H (by simp)
      ·rw [if_neg c13] at H
       exact absurd H (by simp)
 ·replace c5 := Bool.eq_false_iff.mpr c5
  subst c5
  have H1 : (some false) = some r := by rw [if_neg (show ¬ (false = true) by decide)] at H; exact H
  clear H
  have H := H1
  clear H1
  obtain rfl := Option.some.inj H
  exact absurd hr (by decide)

-- NOT PRINTED: function 79 (fraction_sum)

end Go.Proofs.Ythkpgjjakdbbfaa.P
