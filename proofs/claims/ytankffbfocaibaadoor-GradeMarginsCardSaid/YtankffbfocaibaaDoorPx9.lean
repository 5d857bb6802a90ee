/- What functions of the program return: each contract says so of one function, for every input at which its pure function yields. -/
import Derived.Test.YtankffbfocaibaaDoorPx0
import Derived.Test.YtankffbfocaibaaDoorPx6
namespace Go.Proofs.YtankffbfocaibaaDoor.P
open Go.RowKit Go.Proofs.YtankffbfocaibaaDoorW.PrintWords Go.Proofs.YtankffbfocaibaaDoorW.PrintLast Go.Proofs.YtankffbfocaibaaDoorW.PrintMore
attribute [local go_sem] max2_int min2_int max_two min_two max_three min_three max_four min_four   -- for this text's walks alone
set_option linter.unusedVariables false
set_option linter.unusedSimpArgs false

mutual
def gangsawref33_Check.l0 : Nat → List (S46) → Int → Option (Int)
 | 0, _, _ => none
 | k + 1, x0, x3 => if x3 < (x0.length : Int) then (if 0 ≤ x3 then ((gangsawref09_Name.f k ((rd_T46 x0 x3).f0)).bind fun t161 => (if t161 = true then (gangsawref33_Check.l0 k x0 (wrap64 (x3 + 1))) else (some 4))) else (none)) else (gangsawref33_Check.l1 k x0 0)
def gangsawref33_Check.l1 : Nat → List (S46) → Int → Option (Int)
 | 0, _, _ => none
 | k + 1, x0, x4 => if x4 < (x0.length : Int) then (if 0 ≤ x4 then (if ((rd_T46 x0 x4).f1) < 0 then (some 6) else (if ((rd_T46 x0 x4).f1) > 1000000 then (some 6) else (if ((rd_T46 x0 x4).f2) < 0 then (some 6) else (if ((rd_T46 x0 x4).f2) > 1000000 then (some 6) else (gangsawref33_Check.l1 k x0 (wrap64 (x4 + 1))))))) else (none)) else (gangsawref33_Check.l2 k x0 0)
def gangsawref33_Check.l2 : Nat → List (S46) → Int → Option (Int)
 | 0, _, _ => none
 | k + 1, x0, x5 => if x5 < (x0.length : Int) then (gangsawref33_Check.l3 k x0 x5 0) else (some 0)
def gangsawref33_Check.l3 : Nat → List (S46) → Int → Int → Option (Int)
 | 0, _, _, _ => none
 | k + 1, x0, x5, x6 => if x6 < x5 then (if 0 ≤ x5 then (if x5 < (x0.length : Int) then (if 0 ≤ x6 then (if x6 < (x0.length : Int) then (if ((rd_T46 x0 x5).f0).toList = ((rd_T46 x0 x6).f0).toList then (some 5) else (gangsawref33_Check.l3 k x0 x5 (wrap64 (x6 + 1)))) else (none)) else (none)) else (none)) else (none)) else (gangsawref33_Check.l2 k x0 (wrap64 (x5 + 1)))
end
def gangsawref33_Check.f (k : Nat) (l0 : List (S46)) : Option (Int) := if (l0.length : Int) > 256 then (some 7) else (gangsawref33_Check.l0 k l0 0)
theorem gangsawref33_Check.mono_l : ∀ k, (∀ y0 y1, LeO (gangsawref33_Check.l0 k y0 y1) (gangsawref33_Check.l0 (k + 1) y0 y1)) ∧ (∀ y0 y1, LeO (gangsawref33_Check.l1 k y0 y1) (gangsawref33_Check.l1 (k + 1) y0 y1)) ∧ (∀ y0 y1, LeO (gangsawref33_Check.l2 k y0 y1) (gangsawref33_Check.l2 (k + 1) y0 y1)) ∧ (∀ y0 y1 y2, LeO (gangsawref33_Check.l3 k y0 y1 y2) (gangsawref33_Check.l3 (k + 1) y0 y1 y2))
 | 0 => ⟨fun _ _ r h => by simp [gangsawref33_Check.l0] at h, fun _ _ r h => by simp [gangsawref33_Check.l1] at h, fun _ _ r h => by simp [gangsawref33_Check.l2] at h, fun _ _ _ r h => by simp [gangsawref33_Check.l3] at h⟩
 | k + 1 => by
  obtain ⟨ih0, ih1, ih2, ih3⟩ := gangsawref33_Check.mono_l k
  refine ⟨?_, ?_, ?_, ?_⟩
  ·intro y0 y1
   unfold gangsawref33_Check.l0
   repeat' first
   | (with_reducible exact ih0 _ _)
   | (with_reducible exact ih1 _ _)
   | (with_reducible exact ih2 _ _)
   | (with_reducible exact ih3 _ _ _)
   | (with_reducible exact gangsawref09_Name.mono _ _)
   | (with_reducible refine contains32.mono2 (fun x_ => ?_))
   | (with_reducible refine contains46.mono2 (fun x_ => ?_))
   | (with_reducible refine index32.mono2 (fun x_ => ?_))
   | (with_reducible refine index46.mono2 (fun x_ => ?_))
   | (with_reducible exact LeO.refl _)
   | (with_reducible exact LeO.none _)
   | (with_reducible refine LeO.ite ?_ ?_)
   | (with_reducible refine LeO.bind ?_ (fun _ => ?_))
   | exact ih0 _ _
   | exact ih1 _ _
   | exact ih2 _ _
   | exact ih3 _ _ _
   | exact gangsawref09_Name.mono _ _
   | exact LeO.none _
   | refine LeO.ite ?_ ?_
   | refine LeO.bind ?_ (fun _ => ?_)
  ·intro y0 y1
   unfold gangsawref33_Check.l1
   repeat' first
   | (with_reducible exact ih0 _ _)
   | (with_reducible exact ih1 _ _)
   | (with_reducible exact ih2 _ _)
   | (with_reducible exact ih3 _ _ _)
   | (with_reducible exact gangsawref09_Name.mono _ _)
   | (with_reducible refine contains32.mono2 (fun x_ => ?_))
   | (with_reducible refine contains46.mono2 (fun x_ => ?_))
   | (with_reducible refine index32.mono2 (fun x_ => ?_))
   | (with_reducible refine index46.mono2 (fun x_ => ?_))
   | (with_reducible exact LeO.refl _)
   | (with_reducible exact LeO.none _)
   | (with_reducible refine LeO.ite ?_ ?_)
   | (with_reducible refine LeO.bind ?_ (fun _ => ?_))
   | exact ih0 _ _
   | exact ih1 _ _
   | exact ih2 _ _
   | exact ih3 _ _ _
   | exact gangsawref09_Name.mono _ _
   | exact LeO.none _
   | refine LeO.ite ?_ ?_
   | refine LeO.bind ?_ (fun _ => ?_)
  ·intro y0 y1
   unfold gangsawref33_Check.l2
   repeat' first
   | (with_reducible exact ih0 _ _)
   | (with_reducible exact ih1 _ _)
   | (with_reducible exact ih2 _ _)
   | (with_reducible exact ih3 _ _ _)
   | (with_reducible exact gangsawref09_Name.mono _ _)
   | (with_reducible refine contains32.mono2 (fun x_ => ?_))
   | (with_reducible refine contains46.mono2 (fun x_ => ?_))
   | (with_reducible refine index32.mono2 (fun x_ => ?_))
   | (with_reducible refine index46.mono2 (fun x_ => ?_))
   | (with_reducible exact LeO.refl _)
   | (with_reducible exact LeO.none _)
   | (with_reducible refine LeO.ite ?_ ?_)
   | (with_reducible refine LeO.bind ?_ (fun _ => ?_))
   | exact ih0 _ _
   | exact ih1 _ _
   | exact ih2 _ _
   | exact ih3 _ _ _
   | exact gangsawref09_Name.mono _ _
   | exact LeO.none _
   | refine LeO.ite ?_ ?_
   | refine LeO.bind ?_ (fun _ => ?_)
  ·intro y0 y1 y2
   unfold gangsawref33_Check.l3
   repeat' first
   | (with_reducible exact ih0 _ _)
   | (with_reducible exact ih1 _ _)
   | (with_reducible exact ih2 _ _)
   | (with_reducible exact ih3 _ _ _)
   | (with_reducible exact gangsawref09_Name.mono _ _)
   | (with_reducible refine contains32.mono2 (fun x_ => ?_))
   | (with_reducible refine contains46.mono2 (fun x_ => ?_))
   | (with_reducible refine index32.mono2 (fun x_ => ?_))
   | (with_reducible refine index46.mono2 (fun x_ => ?_))
   | (with_reducible exact LeO.refl _)
   | (with_reducible exact LeO.none _)
   | (with_reducible refine LeO.ite ?_ ?_)
   | (with_reducible refine LeO.bind ?_ (fun _ => ?_))
   | exact ih0 _ _
   | exact ih1 _ _
   | exact ih2 _ _
   | exact ih3 _ _ _
   | exact gangsawref09_Name.mono _ _
   | exact LeO.none _
   | refine LeO.ite ?_ ?_
   | refine LeO.bind ?_ (fun _ => ?_)
theorem gangsawref33_Check.mono : ∀ a0 k, LeO (gangsawref33_Check.f k a0) (gangsawref33_Check.f (k + 1) a0) := by
 intro a0 k
 obtain ⟨ih0, ih1, ih2, ih3⟩ := gangsawref33_Check.mono_l k
 unfold gangsawref33_Check.f
 repeat' first
   | (with_reducible exact ih0 _ _)
   | (with_reducible exact ih1 _ _)
   | (with_reducible exact ih2 _ _)
   | (with_reducible exact ih3 _ _ _)
   | (with_reducible exact gangsawref09_Name.mono _ _)
   | (with_reducible refine contains32.mono2 (fun x_ => ?_))
   | (with_reducible refine contains46.mono2 (fun x_ => ?_))
   | (with_reducible refine index32.mono2 (fun x_ => ?_))
   | (with_reducible refine index46.mono2 (fun x_ => ?_))
   | (with_reducible exact LeO.refl _)
   | (with_reducible exact LeO.none _)
   | (with_reducible refine LeO.ite ?_ ?_)
   | (with_reducible refine LeO.bind ?_ (fun _ => ?_))
   | exact ih0 _ _
   | exact ih1 _ _
   | exact ih2 _ _
   | exact ih3 _ _ _
   | exact gangsawref09_Name.mono _ _
   | exact LeO.none _
   | refine LeO.ite ?_ ?_
   | refine LeO.bind ?_ (fun _ => ?_)
set_option maxHeartbeats 8000000 in
set_option maxRecDepth 100000 in
theorem gangsawref33_Check.calls (k : Nat) (A0 : Option Addr) (c0 : Nat) (l0 : List (S46)) (r : Int) (w : World) (hr0 : Kd.C k46 w A0 l0.length l0) (hc0 : l0.length ≤ c0) (h : gangsawref33_Check.f k l0 = some r) :
  Calls Tryd.prog 29 #[.slice A0 l0.length c0] w fun e w' => e = .returned (.int .i64 r) ∧ Drawn0 w w' := by
 have HR0 := Aside0.mk hr0
 have HC0 := Aside0.mk hc0
 clear hr0 hc0
 have H : (if (l0.length : Int) > 256 then (some 7) else (gangsawref33_Check.l0 k l0 0)) = some r := h
 clear h
 by_cases c2 : (l0.length : Int) > 256
 ·rw [if_pos c2] at H
  have c2b0 : decide (256 < (l0.length : Int)) = true := decide_eq_true c2
  have c2b1 : decide (256 < l0.length) = true := decide_eq_true (by omega)
  clear c2
  obtain rfl := Option.some.inj H
  simp only [Option.some.injEq, Prod.mk.injEq] at H
  obtain ⟨rfl⟩ := H
  go_enter Tryd.func29, Tryd.ntmps29
  go_wp2
  go_ret
  exact ⟨by first | rfl | (simp; done) | (simp [*]; done), by repeat (first | exact Drawn0.refl _ | apply Drawn0.step)⟩
 ·rw [if_neg c2] at H
  have c2b0 : decide (256 < (l0.length : Int)) = false := decide_eq_false c2
  have c2b1 : decide (256 < l0.length) = false := decide_eq_false (by omega)
  clear c2
  have H' := Aside0.mk H
  clear H
  go_enter Tryd.func29, Tryd.ntmps29
  go_wp2
  go_loopg [3] k (fun kq v3 w' => ∃ (x3_1 : Int), v3 = .int .i64 x3_1 ∧ Aside0 (gangsawref33_Check.l0 kq l0 x3_1 = some r) ∧ Aside0 (kq ≤ k) ∧ Drawn0 w w')
  case atStart => exact ⟨(0), (by first | rfl | (simp; done) | (simp [*]; done)), H', ⟨Nat.le_refl _⟩, by repeat (first | exact Drawn0.refl _ | apply Drawn0.step)⟩
  case round =>
   clear H'
   try clear c2
   try clear c2b0
   try clear c2b1
   try clear p2
   obtain ⟨x3_1, rfl, HA, HK1, ⟨m1, rfl⟩⟩ := hrel
   cases gk with
   | zero => exact absurd HA.out (by simp [gangsawref33_Check.l0])
   | succ k1 =>
    have H := HA.out
    clear HA
    simp only [gangsawref33_Check.l0] at H
    by_cases c3 : x3_1 < (l0.length : Int)
    ·rw [if_pos c3] at H
     have c3b0 : decide (x3_1 < (l0.length : Int)) = true := decide_eq_true c3
     clear c3
     by_cases c4 : 0 ≤ x3_1
     ·rw [if_pos c4] at H
      have c4b0 : decide (0 ≤ x3_1) = true := decide_eq_true c4
      clear c4
      replace H := Option.bind_eq_some_iff.mp H
      obtain ⟨t161, A50, H⟩ := H
      replace H : (if t161 = true then (gangsawref33_Check.l0 k1 l0 (wrap64 (x3_1 + 1))) else (some 4)) = some r := H
      have A5 := Aside0.mk A50
      clear A50
      by_cases c6 : t161 = true
      ·subst c6
       have H1 : (gangsawref33_Check.l0 k1 l0 (wrap64 (x3_1 + 1))) = some r := by rw [if_pos rfl] at H; exact H
       clear H
       have H := H1
       clear H1
       have H' := Aside0.mk H
       clear H
       have p160 : 0 ≤ (x3_1 : Int) := of_decide_eq_true (by first | (with_reducible assumption) | assumption)
       have q160 : x3_1 < (l0.length : Int) := of_decide_eq_true (by first | (with_reducible assumption) | assumption)
       obtain ⟨ad160, e160, hx160_0, hx160_1, hx160_2⟩ := at_T46 HR0.out x3_1 p160 q160
       cases e160
       replace p160 := eq_true p160
       replace q160 := eq_true q160
       go_wp2_with (first | (go_at_call 53; (with_reducible refine (gangsawref09_Name.calls k1 ((rd_T46 l0 x3_1).f0) true _ A5.out).mono ?_); rintro e w' ⟨rfl, ⟨nd, rfl⟩⟩; (try first | exact ⟨rfl, _, World.drewN_drewN _ _ _⟩ | exact ⟨rfl, _, Eq.trans (World.drewN_drewN _ _ _) (congrArg (World.drewN _) (Nat.add_assoc _ _ _))⟩)))
       go_roundg k1
       case measure => have := HK1.out; omega
       case rel => exact ⟨(wrap64 (x3_1 + 1)), (by first | rfl | (simp; done) | (simp [*]; done)), H', ⟨by have := HK1.out; omega⟩, by repeat (first | exact Drawn0.refl _ | apply Drawn0.step)⟩
      ·replace c6 := Bool.eq_false_iff.mpr c6
       subst c6
       have H1 : (some 4) = some r := by rw [if_neg (show ¬ (false = true) by decide)] at H; exact H
       clear H
       have H := H1
       clear H1
       obtain rfl := Option.some.inj H
       simp only [Option.some.injEq, Prod.mk.injEq] at H
       obtain ⟨rfl⟩ := H
       have p160 : 0 ≤ (x3_1 : Int) := of_decide_eq_true (by first | (with_reducible assumption) | assumption)
       have q160 : x3_1 < (l0.length : Int) := of_decide_eq_true (by first | (with_reducible assumption) | assumption)
       obtain ⟨ad160, e160, hx160_0, hx160_1, hx160_2⟩ := at_T46 HR0.out x3_1 p160 q160
       cases e160
       replace p160 := eq_true p160
       replace q160 := eq_true q160
       go_wp2_with (first | (go_at_call 53; (with_reducible refine (gangsawref09_Name.calls k1 ((rd_T46 l0 x3_1).f0) false _ A5.out).mono ?_); rintro e w' ⟨rfl, ⟨nd, rfl⟩⟩; (try first | exact ⟨rfl, _, World.drewN_drewN _ _ _⟩ | exact ⟨rfl, _, Eq.trans (World.drewN_drewN _ _ _) (congrArg (World.drewN _) (Nat.add_assoc _ _ _))⟩)))
       go_ret
       exact ⟨by first | rfl | (simp; done) | (simp [*]; done), by repeat (first | exact Drawn0.refl _ | apply Drawn0.step)⟩
     ·rw [if_neg c4] at H
      exact absurd H (by simp)
    ·rw [if_neg c3] at H
     have c3b0 : decide (x3_1 < (l0.length : Int)) = false := decide_eq_false c3
     clear c3
     have H' := Aside0.mk H
     clear H
     go_wp2
     go_loopg [4] k1 (fun kq v4 w' => ∃ (x4_2 : Int), v4 = .int .i64 x4_2 ∧ Aside0 (gangsawref33_Check.l1 kq l0 x4_2 = some r) ∧ Aside0 (kq ≤ k1) ∧ Drawn0 w w')
     case atStart => exact ⟨(0), (by first | rfl | (simp; done) | (simp [*]; done)), H', ⟨Nat.le_refl _⟩, by repeat (first | exact Drawn0.refl _ | apply Drawn0.step)⟩
     case round =>
      clear H'
      try clear p1
      try clear q1
      try clear hx1
      try clear c2
      try clear c2b0
      try clear c2b1
      try clear p2
      try clear c3
      try clear c3b0
      try clear c4
      try clear c4b0
      try clear c6
      try clear p6
      try clear hx160_0
      try clear hx160_1
      try clear hx160_2
      try clear p160
      try clear p2
      try clear q160
      obtain ⟨x4_2, rfl, HA, HK2, ⟨m2, rfl⟩⟩ := hrel
      cases gk with
      | zero => exact absurd HA.out (by simp [gangsawref33_Check.l1])
      | succ k2 =>
       have H := HA.out
       clear HA
       simp only [gangsawref33_Check.l1] at H
       by_cases c7 : x4_2 < (l0.length : Int)
       ·rw [if_pos c7] at H
        have c7b0 : decide (x4_2 < (l0.length : Int)) = true := decide_eq_true c7
        clear c7
        by_cases c8 : 0 ≤ x4_2
        ·rw [if_pos c8] at H
         have c8b0 : decide (0 ≤ x4_2) = true := decide_eq_true c8
         clear c8
         by_cases c9 : ((rd_T46 l0 x4_2).f1) < 0
         ·rw [if_pos c9] at H
          have c9b0 : decide (((rd_T46 l0 x4_2).f1) < 0) = true := decide_eq_true c9
          clear c9
          obtain rfl := Option.some.inj H
          simp only [Option.some.injEq, Prod.mk.injEq] at H
          obtain ⟨rfl⟩ := H
          have p162 : 0 ≤ (x4_2 : Int) := of_decide_eq_true (by first | (with_reducible assumption) | assumption)
          have q162 : x4_2 < (l0.length : Int) := of_decide_eq_true (by first | (with_reducible assumption) | assumption)
          obtain ⟨ad162, e162, hx162_0, hx162_1, hx162_2⟩ := at_T46 HR0.out x4_2 p162 q162
          cases e162
          replace p162 := eq_true p162
          replace q162 := eq_true q162
          go_wp2
          go_ret
          exact ⟨by first | rfl | (simp; done) | (simp [*]; done), by repeat (first | exact Drawn0.refl _ | apply Drawn0.step)⟩
         ·rw [if_neg c9] at H
          have c9b0 : decide (((rd_T46 l0 x4_2).f1) < 0) = false := decide_eq_false c9
          clear c9
          by_cases c10 : ((rd_T46 l0 x4_2).f1) > 1000000
          ·rw [if_pos c10] at H
           have c10b0 : decide (1000000 < ((rd_T46 l0 x4_2).f1)) = true := decide_eq_true c10
           clear c10
           obtain rfl := Option.some.inj H
           simp only [Option.some.injEq, Prod.mk.injEq] at H
           obtain ⟨rfl⟩ := H
           have p162 : 0 ≤ (x4_2 : Int) := of_decide_eq_true (by first | (with_reducible assumption) | assumption)
           have q162 : x4_2 < (l0.length : Int) := of_decide_eq_true (by first | (with_reducible assumption) | assumption)
           obtain ⟨ad162, e162, hx162_0, hx162_1, hx162_2⟩ := at_T46 HR0.out x4_2 p162 q162
           cases e162
           replace p162 := eq_true p162
           replace q162 := eq_true q162
           have p163 : 0 ≤ (x4_2 : Int) := of_decide_eq_true (by first | (with_reducible assumption) | assumption)
           have q163 : x4_2 < (l0.length : Int) := of_decide_eq_true (by first | (with_reducible assumption) | assumption)
           obtain ⟨ad163, e163, hx163_0, hx163_1, hx163_2⟩ := at_T46 HR0.out x4_2 p163 q163
           obtain rfl : ad162 = ad163 := (by injection e163)
           replace p163 := eq_true p163
           replace q163 := eq_true q163
           go_wp2
           go_ret
           exact ⟨by first | rfl | (simp; done) | (simp [*]; done), by repeat (first | exact Drawn0.refl _ | apply Drawn0.step)⟩
          ·rw [if_neg c10] at H
           have c10b0 : decide (1000000 < ((rd_T46 l0 x4_2).f1)) = false := decide_eq_false c10
           clear c10
           by_cases c11 : ((rd_T46 l0 x4_2).f2) < 0
           ·rw [if_pos c11] at H
            have c11b0 : decide (((rd_T46 l0 x4_2).f2) < 0) = true := decide_eq_true c11
            clear c11
            obtain rfl := Option.some.inj H
            simp only [Option.some.injEq, Prod.mk.injEq] at H
            obtain ⟨rfl⟩ := H
            have p162 : 0 ≤ (x4_2 : Int) := of_decide_eq_true (by first | (with_reducible assumption) | assumption)
            have q162 : x4_2 < (l0.length : Int) := of_decide_eq_true (by first | (with_reducible assumption) | assumption)
            obtain ⟨ad162, e162, hx162_0, hx162_1, hx162_2⟩ := at_T46 HR0.out x4_2 p162 q162
            cases e162
            replace p162 := eq_true p162
            replace q162 := eq_true q162
            have p163 : 0 ≤ (x4_2 : Int) := of_decide_eq_true (by first | (with_reducible assumption) | assumption)
            have q163 : x4_2 < (l0.length : Int) := of_decide_eq_true (by first | (with_reducible assumption) | assumption)
            obtain ⟨ad163, e163, hx163_0, hx163_1, hx163_2⟩ := at_T46 HR0.out x4_2 p163 q163
            obtain rfl : ad162 = ad163 := (by injection e163)
            replace p163 := eq_true p163
            replace q163 := eq_true q163
            have p164 : 0 ≤ (x4_2 : Int) := of_decide_eq_true (by first | (with_reducible assumption) | assumption)
            have q164 : x4_2 < (l0.length : Int) := of_decide_eq_true (by first | (with_reducible assumption) | assumption)
            obtain ⟨ad164, e164, hx164_0, hx164_1, hx164_2⟩ := at_T46 HR0.out x4_2 p164 q164
            obtain rfl : ad162 = ad164 := (by injection e164)
            replace p164 := eq_true p164
            replace q164 := eq_true q164
            go_wp2
            go_ret
            exact ⟨by first | rfl | (simp; done) | (simp [*]; done), by repeat (first | exact Drawn0.refl _ | apply Drawn0.step)⟩
           ·rw [if_neg c11] at H
            have c11b0 : decide (((rd_T46 l0 x4_2).f2) < 0) = false := decide_eq_false c11
            clear c11
            by_cases c12 : ((rd_T46 l0 x4_2).f2) > 1000000
            ·rw [if_pos c12] at H
             have c12b0 : decide (1000000 < ((rd_T46 l0 x4_2).f2)) = true := decide_eq_true c12
             clear c12
             obtain rfl := Option.some.inj H
             simp only [Option.some.injEq, Prod.mk.injEq] at H
             obtain ⟨rfl⟩ := H
             have p162 : 0 ≤ (x4_2 : Int) := of_decide_eq_true (by first | (with_reducible assumption) | assumption)
             have q162 : x4_2 < (l0.length : Int) := of_decide_eq_true (by first | (with_reducible assumption) | assumption)
             obtain ⟨ad162, e162, hx162_0, hx162_1, hx162_2⟩ := at_T46 HR0.out x4_2 p162 q162
             cases e162
             replace p162 := eq_true p162
             replace q162 := eq_true q162
             have p163 : 0 ≤ (x4_2 : Int) := of_decide_eq_true (by first | (with_reducible assumption) | assumption)
             have q163 : x4_2 < (l0.length : Int) := of_decide_eq_true (by first | (with_reducible assumption) | assumption)
             obtain ⟨ad163, e163, hx163_0, hx163_1, hx163_2⟩ := at_T46 HR0.out x4_2 p163 q163
             obtain rfl : ad162 = ad163 := (by injection e163)
             replace p163 := eq_true p163
             replace q163 := eq_true q163
             have p164 : 0 ≤ (x4_2 : Int) := of_decide_eq_true (by first | (with_reducible assumption) | assumption)
             have q164 : x4_2 < (l0.length : Int) := of_decide_eq_true (by first | (with_reducible assumption) | assumption)
             obtain ⟨ad164, e164, hx164_0, hx164_1, hx164_2⟩ := at_T46 HR0.out x4_2 p164 q164
             obtain rfl : ad162 = ad164 := (by injection e164)
             replace p164 := eq_true p164
             replace q164 := eq_true q164
             have p165 : 0 ≤ (x4_2 : Int) := of_decide_eq_true (by first | (with_reducible assumption) | assumption)
             have q165 : x4_2 < (l0.length : Int) := of_decide_eq_true (by first | (with_reducible assumption) | assumption)
             obtain ⟨ad165, e165, hx165_0, hx165_1, hx165_2⟩ := at_T46 HR0.out x4_2 p165 q165
             obtain rfl : ad162 = ad165 := (by injection e165)
             replace p165 := eq_true p165
             replace q165 := eq_true q165
             go_wp2
             go_ret
             exact ⟨by first | rfl | (simp; done) | (simp [*]; done), by repeat (first | exact Drawn0.refl _ | apply Drawn0.step)⟩
            ·rw [if_neg c12] at H
             have c12b0 : decide (1000000 < ((rd_T46 l0 x4_2).f2)) = false := decide_eq_false c12
             clear c12
             have H' := Aside0.mk H
             clear H
             have p162 : 0 ≤ (x4_2 : Int) := of_decide_eq_true (by first | (with_reducible assumption) | assumption)
             have q162 : x4_2 < (l0.length : Int) := of_decide_eq_true (by first | (with_reducible assumption) | assumption)
             obtain ⟨ad162, e162, hx162_0, hx162_1, hx162_2⟩ := at_T46 HR0.out x4_2 p162 q162
             cases e162
             replace p162 := eq_true p162
             replace q162 := eq_true q162
             have p163 : 0 ≤ (x4_2 : Int) := of_decide_eq_true (by first | (with_reducible assumption) | assumption)
             have q163 : x4_2 < (l0.length : Int) := of_decide_eq_true (by first | (with_reducible assumption) | assumption)
             obtain ⟨ad163, e163, hx163_0, hx163_1, hx163_2⟩ := at_T46 HR0.out x4_2 p163 q163
             obtain rfl : ad162 = ad163 := (by injection e163)
             replace p163 := eq_true p163
             replace q163 := eq_true q163
             have p164 : 0 ≤ (x4_2 : Int) := of_decide_eq_true (by first | (with_reducible assumption) | assumption)
             have q164 : x4_2 < (l0.length : Int) := of_decide_eq_true (by first | (with_reducible assumption) | assumption)
             obtain ⟨ad164, e164, hx164_0, hx164_1, hx164_2⟩ := at_T46 HR0.out x4_2 p164 q164
             obtain rfl : ad162 = ad164 := (by injection e164)
             replace p164 := eq_true p164
             replace q164 := eq_true q164
             have p165 : 0 ≤ (x4_2 : Int) := of_decide_eq_true (by first | (with_reducible assumption) | assumption)
             have q165 : x4_2 < (l0.length : Int) := of_decide_eq_true (by first | (with_reducible assumption) | assumption)
             obtain ⟨ad165, e165, hx165_0, hx165_1, hx165_2⟩ := at_T46 HR0.out x4_2 p165 q165
             obtain rfl : ad162 = ad165 := (by injection e165)
             replace p165 := eq_true p165
             replace q165 := eq_true q165
             go_wp2
             go_roundg k2
             case measure => have := HK1.out; have := HK2.out; omega
             case rel => exact ⟨(wrap64 (x4_2 + 1)), (by first | rfl | (simp; done) | (simp [*]; done)), H', ⟨by have := HK1.out; have := HK2.out; omega⟩, by repeat (first | exact Drawn0.refl _ | apply Drawn0.step)⟩
        ·rw [if_neg c8] at H
         exact absurd H (by simp)
       ·rw [if_neg c7] at H
        have c7b0 : decide (x4_2 < (l0.length : Int)) = false := decide_eq_false c7
        clear c7
        have H' := Aside0.mk H
        clear H
        go_wp2
        go_loopg [5] k2 (fun kq v5 w' => ∃ (x5_3 : Int), v5 = .int .i64 x5_3 ∧ Aside0 (gangsawref33_Check.l2 kq l0 x5_3 = some r) ∧ Aside0 (kq ≤ k2) ∧ Drawn0 w w')
        case atStart => exact ⟨(0), (by first | rfl | (simp; done) | (simp [*]; done)), H', ⟨Nat.le_refl _⟩, by repeat (first | exact Drawn0.refl _ | apply Drawn0.step)⟩
        case round =>
         clear H'
         try clear c1
         try clear p1
         try clear q1
         try clear hx1
         try clear c2
         try clear c2b0
         try clear c2b1
         try clear p2
         try clear c3
         try clear c3b0
         try clear c4
         try clear c4b0
         try clear c6
         try clear p6
         try clear c7
         try clear c7b0
         try clear c8
         try clear c8b0
         try clear c9
         try clear c9b0
         try clear c10
         try clear c10b0
         try clear c11
         try clear c11b0
         try clear c12
         try clear c12b0
         try clear hx160_0
         try clear hx160_1
         try clear hx160_2
         try clear hx162_0
         try clear hx162_1
         try clear hx162_2
         try clear hx163_0
         try clear hx163_1
         try clear hx163_2
         try clear hx164_0
         try clear hx164_1
         try clear hx164_2
         try clear hx165_0
         try clear hx165_1
         try clear hx165_2
         try clear p1
         try clear p160
         try clear p162
         try clear p163
         try clear p164
         try clear p165
         try clear p2
         try clear p6
         try clear q1
         try clear q160
         try clear q162
         try clear q163
         try clear q164
         try clear q165
         obtain ⟨x5_3, rfl, HA, HK3, ⟨m3, rfl⟩⟩ := hrel
         cases gk with
         | zero => exact absurd HA.out (by simp [gangsawref33_Check.l2])
         | succ k3 =>
          have H := HA.out
          clear HA
          simp only [gangsawref33_Check.l2] at H
          by_cases c13 : x5_3 < (l0.length : Int)
          ·rw [if_pos c13] at H
           have c13b0 : decide (x5_3 < (l0.length : Int)) = true := decide_eq_true c13
           clear c13
           have H' := Aside0.mk H
           clear H
           go_wp2
           go_loopg [6] k3 (fun kq v6 w' => ∃ (x6_4 : Int), v6 = .int .i64 x6_4 ∧ Aside0 (gangsawref33_Check.l3 kq l0 x5_3 x6_4 = some r) ∧ Aside0 (kq ≤ k3) ∧ Drawn0 w w')
           case atStart => exact ⟨(0), (by first | rfl | (simp; done) | (simp [*]; done)), H', ⟨Nat.le_refl _⟩, by repeat (first | exact Drawn0.refl _ | apply Drawn0.step)⟩
           case round =>
            clear H'
            try clear c1
            try clear p1
            try clear q1
            try clear hx1
            try clear c2
            try clear c2b0
            try clear c2b1
            try clear p2
            try clear c3
            try clear c3b0
            try clear c4
            try clear c4b0
            try clear c6
            try clear p6
            try clear c7
            try clear c7b0
            try clear c8
            try clear c8b0
            try clear c9
            try clear c9b0
            try clear c10
            try clear c10b0
            try clear c11
            try clear c11b0
            try clear c12
            try clear c12b0
            try clear c13
            try clear c13b0
            try clear hx160_0
            try clear hx160_1
            try clear hx160_2
            try clear hx162_0
            try clear hx162_1
            try clear hx162_2
            try clear hx163_0
            try clear hx163_1
            try clear hx163_2
            try clear hx164_0
            try clear hx164_1
            try clear hx164_2
            try clear hx165_0
            try clear hx165_1
            try clear hx165_2
            try clear p1
            try clear p160
            try clear p162
            try clear p163
            try clear p164
            try clear p165
            try clear p2
            try clear p6
            try clear q1
            try clear q160
            try clear q162
            try clear q163
            try clear q164
            try clear q165
            obtain ⟨x6_4, rfl, HA, HK4, ⟨m4, rfl⟩⟩ := hrel
            cases gk with
            | zero => exact absurd HA.out (by simp [gangsawref33_Check.l3])
            | succ k4 =>
             have H := HA.out
             clear HA
             simp only [gangsawref33_Check.l3] at H
             by_cases c14 : x6_4 < x5_3
             ·rw [if_pos c14] at H
              have c14b0 : decide (x6_4 < x5_3) = true := decide_eq_true c14
              clear c14
              by_cases c15 : 0 ≤ x5_3
              ·rw [if_pos c15] at H
               have c15b0 : decide (0 ≤ x5_3) = true := decide_eq_true c15
               clear c15
               by_cases c16 : x5_3 < (l0.length : Int)
               ·rw [if_pos c16] at H
                have c16b0 : decide (x5_3 < (l0.length : Int)) = true := decide_eq_true c16
                clear c16
                by_cases c17 : 0 ≤ x6_4
                ·rw [if_pos c17] at H
                 have c17b0 : decide (0 ≤ x6_4) = true := decide_eq_true c17
                 clear c17
                 by_cases c18 : x6_4 < (l0.length : Int)
                 ·rw [if_pos c18] at H
                  have c18b0 : decide (x6_4 < (l0.length : Int)) = true := decide_eq_true c18
                  clear c18
                  by_cases c19 : ((rd_T46 l0 x5_3).f0).toList = ((rd_T46 l0 x6_4).f0).toList
                  ·rw [if_pos c19] at H
                   have c19b0 : (((rd_T46 l0 x5_3).f0).toList == ((rd_T46 l0 x6_4).f0).toList) = true := beq_iff_eq.mpr c19
                   have c19b1 : (((rd_T46 l0 x5_3).f0).toList != ((rd_T46 l0 x6_4).f0).toList) = false := bne_eq_false_iff_eq.mpr c19
                   clear c19
                   obtain rfl := Option.some.inj H
                   simp only [Option.some.injEq, Prod.mk.injEq] at H
                   obtain ⟨rfl⟩ := H
                   have p166 : 0 ≤ (x5_3 : Int) := of_decide_eq_true (by first | (with_reducible assumption) | assumption)
                   have q166 : x5_3 < (l0.length : Int) := of_decide_eq_true (by first | (with_reducible assumption) | assumption)
                   obtain ⟨ad166, e166, hx166_0, hx166_1, hx166_2⟩ := at_T46 HR0.out x5_3 p166 q166
                   cases e166
                   replace p166 := eq_true p166
                   replace q166 := eq_true q166
                   have p167 : 0 ≤ (x6_4 : Int) := of_decide_eq_true (by first | (with_reducible assumption) | assumption)
                   have q167 : x6_4 < (l0.length : Int) := of_decide_eq_true (by first | (with_reducible assumption) | assumption)
                   obtain ⟨ad167, e167, hx167_0, hx167_1, hx167_2⟩ := at_T46 HR0.out x6_4 p167 q167
                   obtain rfl : ad166 = ad167 := (by injection e167)
                   replace p167 := eq_true p167
                   replace q167 := eq_true q167
                   go_wp2
                   repeat (go_quiet (fail); try go_wp2)
                   go_ret
                   exact ⟨by first | rfl | (simp; done) | (simp [*]; done), by repeat (first | exact Drawn0.refl _ | apply Drawn0.step)⟩
                  ·rw [if_neg c19] at H
                   have c19b0 : (((rd_T46 l0 x5_3).f0).toList == ((rd_T46 l0 x6_4).f0).toList) = false := beq_eq_false_iff_ne.mpr c19
                   have c19b1 : (((rd_T46 l0 x5_3).f0).toList != ((rd_T46 l0 x6_4).f0).toList) = true := bne_iff_ne.mpr c19
                   have H' := Aside0.mk H
                   clear H
                   have p166 : 0 ≤ (x5_3 : Int) := of_decide_eq_true (by first | (with_reducible assumption) | assumption)
                   have q166 : x5_3 < (l0.length : Int) := of_decide_eq_true (by first | (with_reducible assumption) | assumption)
                   obtain ⟨ad166, e166, hx166_0, hx166_1, hx166_2⟩ := at_T46 HR0.out x5_3 p166 q166
                   cases e166
                   replace p166 := eq_true p166
                   replace q166 := eq_true q166
                   have p167 : 0 ≤ (x6_4 : Int) := of_decide_eq_true (by first | (with_reducible assumption) | assumption)
                   have q167 : x6_4 < (l0.length : Int) := of_decide_eq_true (by first | (with_reducible assumption) | assumption)
                   obtain ⟨ad167, e167, hx167_0, hx167_1, hx167_2⟩ := at_T46 HR0.out x6_4 p167 q167
                   obtain rfl : ad166 = ad167 := (by injection e167)
                   replace p167 := eq_true p167
                   replace q167 := eq_true q167
                   go_wp2
                   repeat (go_quiet (fail); try go_wp2)
                   go_roundg k4
                   case measure => have := HK1.out; have := HK2.out; have := HK3.out; have := HK4.out; omega
                   case rel => exact ⟨(wrap64 (x6_4 + 1)), (by first | rfl | (simp; done) | (simp [*]; done)), H', ⟨by have := HK1.out; have := HK2.out; have := HK3.out; have := HK4.out; omega⟩, by repeat (first | exact Drawn0.refl _ | apply Drawn0.step)⟩
                 ·rw [if_neg c18] at H
                  exact absurd H (by simp)
                ·rw [if_neg c17] at H
                 exact absurd H (by simp)
               ·rw [if_neg c16] at H
                exact absurd H (by simp)
              ·rw [if_neg c15] at H
               exact absurd H (by simp)
             ·rw [if_neg c14] at H
              have c14b0 : decide (x6_4 < x5_3) = false := decide_eq_false c14
              clear c14
              have H' := Aside0.mk H
              clear H
              go_wp2
              go_roundg k4
              case measure => have := HK1.out; have := HK2.out; have := HK3.out; have := HK4.out; omega
              case rel => exact ⟨(wrap64 (x5_3 + 1)), (by first | rfl | (simp; done) | (simp [*]; done)), H', ⟨by have := HK1.out; have := HK2.out; have := HK3.out; have := HK4.out; omega⟩, by repeat (first | exact Drawn0.refl _ | apply Drawn0.step)⟩
          ·rw [if_neg c13] at H
           have c13b0 : decide (x5_3 < (l0.length : Int)) = false := decide_eq_false c13
           clear c13
           obtain rfl := Option.some.inj H
           simp only [Option.some.injEq, Prod.mk.injEq] at H
           obtain ⟨rfl⟩ := H
           go_wp2
           go_ret
           exact ⟨by first | rfl | (simp; done) | (simp [*]; done), by repeat (first | exact Drawn0.refl _ | apply Drawn0.step)⟩

end Go.Proofs.YtankffbfocaibaaDoor.P
