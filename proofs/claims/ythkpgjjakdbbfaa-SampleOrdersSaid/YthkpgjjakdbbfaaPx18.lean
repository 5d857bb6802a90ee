/- What functions of the program return: each contract says so of one function, for every input at which its pure function yields. -/
import Derived.Test.YthkpgjjakdbbfaaPx0
import Derived.Test.YthkpgjjakdbbfaaPx2
import Derived.Test.YthkpgjjakdbbfaaPx3
import Derived.Test.YthkpgjjakdbbfaaPx12
import Derived.Test.YthkpgjjakdbbfaaPx14
import Derived.Test.YthkpgjjakdbbfaaPx15
import Derived.Test.YthkpgjjakdbbfaaPx17
namespace Go.Proofs.Ythkpgjjakdbbfaa.P
open Go.RowKit Go.Proofs.YthkpgjjakdbbfaaW.PrintWords Go.Proofs.YthkpgjjakdbbfaaW.PrintLast Go.Proofs.YthkpgjjakdbbfaaW.PrintMore
attribute [local go_sem] max2_int min2_int max_two min_two max_three min_three max_four min_four   -- for this text's walks alone
set_option linter.unusedVariables false
set_option linter.unusedSimpArgs false

def gangsawref33_Rank.l0 : Nat → List (S51) → Int → Int → Int → Option (Int)
 | 0, _, _, _, _ => none
 | k + 1, x0, x1, x5, x6 => if x6 < (x0.length : Int) then (if 0 ≤ x6 then (if ((rd_T51 x0 x6).f1) < x1 then (gangsawref33_Rank.l0 k x0 x1 (wrap64 (x5 + 1)) (wrap64 (x6 + 1))) else (gangsawref33_Rank.l0 k x0 x1 x5 (wrap64 (x6 + 1)))) else (none)) else (some x5)
def gangsawref33_Rank.f (k : Nat) (l0 : List (S51)) (a1 : Int) : Option (Int) := gangsawref33_Rank.l0 k l0 a1 0 0
set_option maxHeartbeats 8000000 in
set_option maxRecDepth 100000 in
theorem gangsawref33_Rank.calls (k : Nat) (A0 : Option Addr) (c0 : Nat) (l0 : List (S51)) (a1 : Int) (r : Int) (w : World) (hr0 : Kd.C k51 w A0 l0.length l0) (hc0 : l0.length ≤ c0) (h : gangsawref33_Rank.f k l0 a1 = some r) :
  Calls Try.prog 19 #[.slice A0 l0.length c0, .int .i64 a1] w fun e w' => e = .returned (.int .i64 r) ∧ Drawn0 w w' := by
 have HR0 := Aside0.mk hr0
 have HC0 := Aside0.mk hc0
 clear hr0 hc0
 have H : (gangsawref33_Rank.l0 k l0 a1 0 0) = some r := h
 clear h
 have H' := Aside0.mk H
 clear H
 go_enter Try.func19, Try.ntmps19
 go_wp2
 go_loopg [5, 6] k (fun kq v5 v6 w' => ∃ (x5_1 : Int) (x6_1 : Int), v5 = .int .i64 x5_1 ∧ v6 = .int .i64 x6_1 ∧ Aside0 (gangsawref33_Rank.l0 kq l0 a1 x5_1 x6_1 = some r) ∧ Aside0 (kq ≤ k) ∧ Drawn0 w w')
 case atStart => exact ⟨(0), (0), (by first | rfl | (simp; done) | (simp [*]; done)), (by first | rfl | (simp; done) | (simp [*]; done)), H', ⟨Nat.le_refl _⟩, by repeat (first | exact Drawn0.refl _ | apply Drawn0.step)⟩
 case round =>
  clear H'
  try clear c1
  try clear p2
  obtain ⟨x5_1, x6_1, rfl, rfl, HA, HK1, ⟨m1, rfl⟩⟩ := hrel
  cases gk with
  | zero => exact absurd HA.out (by simp [gangsawref33_Rank.l0])
  | succ k1 =>
   have H := HA.out
   clear HA
   simp only [gangsawref33_Rank.l0] at H
   by_cases c3 : x6_1 < (l0.length : Int)
   ·rw [if_pos c3] at H
    have c3b0 : decide (x6_1 < (l0.length : Int)) = true := decide_eq_true c3
    clear c3
    by_cases c4 : 0 ≤ x6_1
    ·rw [if_pos c4] at H
     have c4b0 : decide (0 ≤ x6_1) = true := decide_eq_true c4
     clear c4
     by_cases c5 : ((rd_T51 l0 x6_1).f1) < a1
     ·rw [if_pos c5] at H
      have c5b0 : decide (((rd_T51 l0 x6_1).f1) < a1) = true := decide_eq_true c5
      clear c5
      have H' := Aside0.mk H
      clear H
      have p332 : 0 ≤ (x6_1 : Int) := of_decide_eq_true (by first | (with_reducible assumption) | assumption)
      have q332 : x6_1 < (l0.length : Int) := of_decide_eq_true (by first | (with_reducible assumption) | assumption)
      obtain ⟨ad332, e332, hx332_0, hx332_1, hx332_2⟩ := at_T51 HR0.out x6_1 p332 q332
      cases e332
      replace p332 := eq_true p332
      replace q332 := eq_true q332
      go_wp2
      go_roundg k1
      case measure => have := HK1.out; omega
      case rel => exact ⟨(wrap64 (x5_1 + 1)), (wrap64 (x6_1 + 1)), (by first | rfl | (simp; done) | (simp [*]; done)), (by first | rfl | (simp; done) | (simp [*]; done)), H', ⟨by have := HK1.out; omega⟩, by repeat (first | exact Drawn0.refl _ | apply Drawn0.step)⟩
     ·rw [if_neg c5] at H
      have c5b0 : decide (((rd_T51 l0 x6_1).f1) < a1) = false := decide_eq_false c5
      clear c5
      have H' := Aside0.mk H
      clear H
      have p332 : 0 ≤ (x6_1 : Int) := of_decide_eq_true (by first | (with_reducible assumption) | assumption)
      have q332 : x6_1 < (l0.length : Int) := of_decide_eq_true (by first | (with_reducible assumption) | assumption)
      obtain ⟨ad332, e332, hx332_0, hx332_1, hx332_2⟩ := at_T51 HR0.out x6_1 p332 q332
      cases e332
      replace p332 := eq_true p332
      replace q332 := eq_true q332
      go_wp2
      go_roundg k1
      case measure => have := HK1.out; omega
      case rel => exact ⟨(x5_1), (wrap64 (x6_1 + 1)), (by first | rfl | (simp; done) | (simp [*]; done)), (by first | rfl | (simp; done) | (simp [*]; done)), H', ⟨by have := HK1.out; omega⟩, by repeat (first | exact Drawn0.refl _ | apply Drawn0.step)⟩
    ·rw [if_neg c4] at H
     exact absurd H (by simp)
   ·rw [if_neg c3] at H
    have c3b0 : decide (x6_1 < (l0.length : Int)) = false := decide_eq_false c3
    clear c3
    obtain rfl := Option.some.inj H
    simp only [Option.some.injEq, Prod.mk.injEq] at H
    obtain ⟨rfl⟩ := H
    go_wp2
    go_ret
    exact ⟨by first | rfl | (simp; done) | (simp [*]; done), by repeat (first | exact Drawn0.refl _ | apply Drawn0.step)⟩

def gangsawlaw33_SampleOrders.f (k : Nat) (l0 : List (S51)) (a1 : Int) (a2 : Int) : Option (Bool) := (gangsawlaw33_awake_N.f).bind fun t333 => (if t333 = true then ((gangsawref33_Few.f k l0).bind fun t334 => (if t334 = true then ((gangsawref33_Check.f k l0).bind fun t335 => ((sample_Strength.f k l0 a1).bind fun bt336 => ((sample_Absorption.f k l0 a1).bind fun bt338 => ((sample_Rank.f k l0 a2).bind fun bt340 => ((gangsawref33_Strength.f k l0 a1).bind fun bt342 => ((gangsawref33_Absorption.f k l0 a1).bind fun bt344 => ((sample_Check.f k l0).bind fun t346 => (if t346 = t335 then (if bt336.1 = bt342.1 then (if bt336.2 = bt342.2 then (if bt338.1 = bt344.1 then (if bt338.2 = bt344.2 then (if bt340.2 = t335 then (if t335 = 0 then ((gangsawref33_Rank.f k l0 a2).bind fun t347 => (some (bt340.1 == t347))) else (if bt340.1 = 0 then (some true) else (some false))) else (some false)) else (some false)) else (some false)) else (some false)) else (some false)) else (some false))))))))) else (some true))) else (some false))
set_option maxHeartbeats 8000000 in
set_option maxRecDepth 100000 in
theorem gangsawlaw33_SampleOrders.calls (k : Nat) (A0 : Option Addr) (c0 : Nat) (l0 : List (S51)) (a1 : Int) (a2 : Int) (r : Bool) (w : World) (hr0 : Kd.C k51 w A0 l0.length l0) (hc0 : l0.length ≤ c0) (h : gangsawlaw33_SampleOrders.f k l0 a1 a2 = some r) (hr : r = true) :
  Calls Try.prog 3 #[.slice A0 l0.length c0, .int .i64 a1, .int .i64 a2] w fun e w' => e = .returned (.bool r) ∧ Below w.heap.size w w' := by
 have HR0 := Aside0.mk hr0
 have HC0 := Aside0.mk hc0
 clear hr0 hc0
 have HB := Aside0.mk (Below.refl w.heap.size w)
 have H : ((gangsawlaw33_awake_N.f).bind fun t333 => (if t333 = true then ((gangsawref33_Few.f k l0).bind fun t334 => (if t334 = true then ((gangsawref33_Check.f k l0).bind fun t335 => ((sample_Strength.f k l0 a1).bind fun bt336 => ((sample_Absorption.f k l0 a1).bind fun bt338 => ((sample_Rank.f k l0 a2).bind fun bt340 => ((gangsawref33_Strength.f k l0 a1).bind fun bt342 => ((gangsawref33_Absorption.f k l0 a1).bind fun bt344 => ((sample_Check.f k l0).bind fun t346 => (if t346 = t335 then (if bt336.1 = bt342.1 then (if bt336.2 = bt342.2 then (if bt338.1 = bt344.1 then (if bt338.2 = bt344.2 then (if bt340.2 = t335 then (if t335 = 0 then ((gangsawref33_Rank.f k l0 a2).bind fun t347 => (some (bt340.1 == t347))) else (if bt340.1 = 0 then (some true) else (some false))) else (some false)) else (some false)) else (some false)) else (some false)) else (some false)) else (some false))))))))) else (some true))) else (some false))) = some r := h
 clear h
 replace H := Option.bind_eq_some_iff.mp H
 obtain ⟨t333, A40, H⟩ := H
 replace H : (if t333 = true then ((gangsawref33_Few.f k l0).bind fun t334 => (if t334 = true then ((gangsawref33_Check.f k l0).bind fun t335 => ((sample_Strength.f k l0 a1).bind fun bt336 => ((sample_Absorption.f k l0 a1).bind fun bt338 => ((sample_Rank.f k l0 a2).bind fun bt340 => ((gangsawref33_Strength.f k l0 a1).bind fun bt342 => ((gangsawref33_Absorption.f k l0 a1).bind fun bt344 => ((sample_Check.f k l0).bind fun t346 => (if t346 = t335 then (if bt336.1 = bt342.1 then (if bt336.2 = bt342.2 then (if bt338.1 = bt344.1 then (if bt338.2 = bt344.2 then (if bt340.2 = t335 then (if t335 = 0 then ((gangsawref33_Rank.f k l0 a2).bind fun t347 => (some (bt340.1 == t347))) else (if bt340.1 = 0 then (some true) else (some false))) else (some false)) else (some false)) else (some false)) else (some false)) else (some false)) else (some false))))))))) else (some true))) else (some false)) = some r := H
 have A4 := Aside0.mk A40
 clear A40
 by_cases c5 : t333 = true
 ·subst c5
  have H1 : ((gangsawref33_Few.f k l0).bind fun t334 => (if t334 = true then ((gangsawref33_Check.f k l0).bind fun t335 => ((sample_Strength.f k l0 a1).bind fun bt336 => ((sample_Absorption.f k l0 a1).bind fun bt338 => ((sample_Rank.f k l0 a2).bind fun bt340 => ((gangsawref33_Strength.f k l0 a1).bind fun bt342 => ((gangsawref33_Absorption.f k l0 a1).bind fun bt344 => ((sample_Check.f k l0).bind fun t346 => (if t346 = t335 then (if bt336.1 = bt342.1 then (if bt336.2 = bt342.2 then (if bt338.1 = bt344.1 then (if bt338.2 = bt344.2 then (if bt340.2 = t335 then (if t335 = 0 then ((gangsawref33_Rank.f k l0 a2).bind fun t347 => (some (bt340.1 == t347))) else (if bt340.1 = 0 then (some true) else (some false))) else (some false)) else (some false)) else (some false)) else (some false)) else (some false)) else (some false))))))))) else (some true))) = some r := by rw [if_pos rfl] at H; exact H
  clear H
  have H := H1
  clear H1
  replace H := Option.bind_eq_some_iff.mp H
  obtain ⟨t334, A60, H⟩ := H
  replace H : (if t334 = true then ((gangsawref33_Check.f k l0).bind fun t335 => ((sample_Strength.f k l0 a1).bind fun bt336 => ((sample_Absorption.f k l0 a1).bind fun bt338 => ((sample_Rank.f k l0 a2).bind fun bt340 => ((gangsawref33_Strength.f k l0 a1).bind fun bt342 => ((gangsawref33_Absorption.f k l0 a1).bind fun bt344 => ((sample_Check.f k l0).bind fun t346 => (if t346 = t335 then (if bt336.1 = bt342.1 then (if bt336.2 = bt342.2 then (if bt338.1 = bt344.1 then (if bt338.2 = bt344.2 then (if bt340.2 = t335 then (if t335 = 0 then ((gangsawref33_Rank.f k l0 a2).bind fun t347 => (some (bt340.1 == t347))) else (if bt340.1 = 0 then (some true) else (some false))) else (some false)) else (some false)) else (some false)) else (some false)) else (some false)) else (some false))))))))) else (some true)) = some r := H
  have A6 := Aside0.mk A60
  clear A60
  by_cases c7 : t334 = true
  ·subst c7
   have H1 : ((gangsawref33_Check.f k l0).bind fun t335 => ((sample_Strength.f k l0 a1).bind fun bt336 => ((sample_Absorption.f k l0 a1).bind fun bt338 => ((sample_Rank.f k l0 a2).bind fun bt340 => ((gangsawref33_Strength.f k l0 a1).bind fun bt342 => ((gangsawref33_Absorption.f k l0 a1).bind fun bt344 => ((sample_Check.f k l0).bind fun t346 => (if t346 = t335 then (if bt336.1 = bt342.1 then (if bt336.2 = bt342.2 then (if bt338.1 = bt344.1 then (if bt338.2 = bt344.2 then (if bt340.2 = t335 then (if t335 = 0 then ((gangsawref33_Rank.f k l0 a2).bind fun t347 => (some (bt340.1 == t347))) else (if bt340.1 = 0 then (some true) else (some false))) else (some false)) else (some false)) else (some false)) else (some false)) else (some false)) else (some false))))))))) = some r := by rw [if_pos rfl] at H; exact H
   clear H
   have H := H1
   clear H1
   replace H := Option.bind_eq_some_iff.mp H
   obtain ⟨t335, A80, H⟩ := H
   replace H : ((sample_Strength.f k l0 a1).bind fun bt336 => ((sample_Absorption.f k l0 a1).bind fun bt338 => ((sample_Rank.f k l0 a2).bind fun bt340 => ((gangsawref33_Strength.f k l0 a1).bind fun bt342 => ((gangsawref33_Absorption.f k l0 a1).bind fun bt344 => ((sample_Check.f k l0).bind fun t346 => (if t346 = t335 then (if bt336.1 = bt342.1 then (if bt336.2 = bt342.2 then (if bt338.1 = bt344.1 then (if bt338.2 = bt344.2 then (if bt340.2 = t335 then (if t335 = 0 then ((gangsawref33_Rank.f k l0 a2).bind fun t347 => (some (bt340.1 == t347))) else (if bt340.1 = 0 then (some true) else (some false))) else (some false)) else (some false)) else (some false)) else (some false)) else (some false)) else (some false)))))))) = some r := H
   have A8 := Aside0.mk A80
   clear A80
   replace H := Option.bind_eq_some_iff.mp H
   obtain ⟨⟨t336, t337⟩, A90, H⟩ := H
   replace H : ((sample_Absorption.f k l0 a1).bind fun bt338 => ((sample_Rank.f k l0 a2).bind fun bt340 => ((gangsawref33_Strength.f k l0 a1).bind fun bt342 => ((gangsawref33_Absorption.f k l0 a1).bind fun bt344 => ((sample_Check.f k l0).bind fun t346 => (if t346 = t335 then (if t336 = bt342.1 then (if t337 = bt342.2 then (if bt338.1 = bt344.1 then (if bt338.2 = bt344.2 then (if bt340.2 = t335 then (if t335 = 0 then ((gangsawref33_Rank.f k l0 a2).bind fun t347 => (some (bt340.1 == t347))) else (if bt340.1 = 0 then (some true) else (some false))) else (some false)) else (some false)) else (some false)) else (some false)) else (some false)) else (some false))))))) = some r := H
   have A9 := Aside0.mk A90
   clear A90
   replace H := Option.bind_eq_some_iff.mp H
   obtain ⟨⟨t338, t339⟩, A100, H⟩ := H
   replace H : ((sample_Rank.f k l0 a2).bind fun bt340 => ((gangsawref33_Strength.f k l0 a1).bind fun bt342 => ((gangsawref33_Absorption.f k l0 a1).bind fun bt344 => ((sample_Check.f k l0).bind fun t346 => (if t346 = t335 then (if t336 = bt342.1 then (if t337 = bt342.2 then (if t338 = bt344.1 then (if t339 = bt344.2 then (if bt340.2 = t335 then (if t335 = 0 then ((gangsawref33_Rank.f k l0 a2).bind fun t347 => (some (bt340.1 == t347))) else (if bt340.1 = 0 then (some true) else (some false))) else (some false)) else (some false)) else (some false)) else (some false)) else (some false)) else (some false)))))) = some r := H
   have A10 := Aside0.mk A100
   clear A100
   replace H := Option.bind_eq_some_iff.mp H
   obtain ⟨⟨t340, t341⟩, A110, H⟩ := H
   replace H : ((gangsawref33_Strength.f k l0 a1).bind fun bt342 => ((gangsawref33_Absorption.f k l0 a1).bind fun bt344 => ((sample_Check.f k l0).bind fun t346 => (if t346 = t335 then (if t336 = bt342.1 then (if t337 = bt342.2 then (if t338 = bt344.1 then (if t339 = bt344.2 then (if t341 = t335 then (if t335 = 0 then ((gangsawref33_Rank.f k l0 a2).bind fun t347 => (some (t340 == t347))) else (if t340 = 0 then (some true) else (some false))) else (some false)) else (some false)) else (some false)) else (some false)) else (some false)) else (some false))))) = some r := H
   have A11 := Aside0.mk A110
   clear A110
   replace H := Option.bind_eq_some_iff.mp H
   obtain ⟨⟨t342, t343⟩, A120, H⟩ := H
   replace H : ((gangsawref33_Absorption.f k l0 a1).bind fun bt344 => ((sample_Check.f k l0).bind fun t346 => (if t346 = t335 then (if t336 = t342 then (if t337 = t343 then (if t338 = bt344.1 then (if t339 = bt344.2 then (if t341 = t335 then (if t335 = 0 then ((gangsawref33_Rank.f k l0 a2).bind fun t347 => (some (t340 == t347))) else (if t340 = 0 then (some true) else (some false))) else (some false)) else (some false)) else (some false)) else (some false)) else (some false)) else (some false)))) = some r := H
   have A12 := Aside0.mk A120
   clear A120
   replace H := Option.bind_eq_some_iff.mp H
   obtain ⟨⟨t344, t345⟩, A130, H⟩ := H
   replace H : ((sample_Check.f k l0).bind fun t346 => (if t346 = t335 then (if t336 = t342 then (if t337 = t343 then (if t338 = t344 then (if t339 = t345 then (if t341 = t335 then (if t335 = 0 then ((gangsawref33_Rank.f k l0 a2).bind fun t347 => (some (t340 == t347))) else (if t340 = 0 then (some true) else (some false))) else (some false)) else (some false)) else (some false)) else (some false)) else (some false)) else (some false))) = some r := H
   have A13 := Aside0.mk A130
   clear A130
   replace H := Option.bind_eq_some_iff.mp H
   obtain ⟨t346, A140, H⟩ := H
   replace H : (if t346 = t335 then (if t336 = t342 then (if t337 = t343 then (if t338 = t344 then (if t339 = t345 then (if t341 = t335 then (if t335 = 0 then ((gangsawref33_Rank.f k l0 a2).bind fun t347 => (some (t340 == t347))) else (if t340 = 0 then (some true) else (some false))) else (some false)) else (some false)) else (some false)) else (some false)) else (some false)) else (some false)) = some r := H
   have A14 := Aside0.mk A140
   clear A140
   by_cases c15 : t346 = t335
   ·rw [if_pos c15] at H
    have c15b0 : (t346 == t335) = true := beq_iff_eq.mpr c15
    have c15b1 : (t346 != t335) = false := bne_eq_false_iff_eq.mpr c15
    clear c15
    by_cases c16 : t336 = t342
    ·rw [if_pos c16] at H
     have c16b0 : (t336 == t342) = true := beq_iff_eq.mpr c16
     have c16b1 : (t336 != t342) = false := bne_eq_false_iff_eq.mpr c16
     clear c16
     by_cases c17 : t337 = t343
     ·rw [if_pos c17] at H
      have c17b0 : (t337 == t343) = true := beq_iff_eq.mpr c17
      have c17b1 : (t337 != t343) = false := bne_eq_false_iff_eq.mpr c17
      clear c17
      by_cases c18 : t338 = t344
      ·rw [if_pos c18] at H
       have c18b0 : (t338 == t344) = true := beq_iff_eq.mpr c18
       have c18b1 : (t338 != t344) = false := bne_eq_false_iff_eq.mpr c18
       clear c18
       by_cases c19 : t339 = t345
       ·rw [if_pos c19] at H
        have c19b0 : (t339 == t345) = true := beq_iff_eq.mpr c19
        have c19b1 : (t339 != t345) = false := bne_eq_false_iff_eq.mpr c19
        clear c19
        by_cases c20 : t341 = t335
        ·rw [if_pos c20] at H
         have c20b0 : (t341 == t335) = true := beq_iff_eq.mpr c20
         have c20b1 : (t341 != t335) = false := bne_eq_false_iff_eq.mpr c20
         clear c20
         by_cases c21 : t335 = 0
         ·rw [if_pos c21] at H
          have c21b0 : (t335 == 0) = true := beq_iff_eq.mpr c21
          have c21b1 : (t335 != 0) = false := bne_eq_false_iff_eq.mpr c21
          clear c21
          replace H := Option.bind_eq_some_iff.mp H
          obtain ⟨t347, A220, H⟩ := H
          replace H : (some (t340 == t347)) = some r := H
          have A22 := Aside0.mk A220
          clear A220
          obtain rfl := Option.some.inj H
          simp only [Option.some.injEq, Prod.mk.injEq] at H
          obtain ⟨rfl⟩ := H
          go_enter Try.func3, Try.ntmps3
          go_wp2_with (first | ((with_reducible refine gate_callee (f := 10) rfl ?_); refine goesL_ (some 18) rfl rfl Try.func10 (by kernel_rfl) rfl #[] rfl (by (try simp only [List.map_toArray, List.map_cons, List.map_nil]); first | done | rfl | (simp only [List.length_drop, List.length_take]; rfl)) ?_; (with_reducible refine (gangsawlaw33_awake_N.calls  true _ A4.out).mono ?_); rintro e w23 ⟨rfl, hb⟩; refine ⟨_, rfl, ?_⟩; have n0_ := Aside0.mk (below_step (by repeat (first | (with_reducible first | exact HB.out | apply below_alloc | apply pw_below_drewN | apply below_drew1) | exact HB.out)) hb); clear HB; have HB := n0_; clear n0_; (try clear hb); (try clear hb2); (try clear hk); (try clear hi)) | ((with_reducible refine gate_callee (f := 11) rfl ?_); refine goesL_ (some 21) rfl rfl Try.func11 (by kernel_rfl) rfl #[.slice A0 l0.length c0] rfl (by (try simp only [List.map_toArray, List.map_cons, List.map_nil]); first | done | rfl | (simp only [List.length_drop, List.length_take]; rfl)) ?_; (with_reducible refine (gangsawref33_Few.calls k _ _ l0 true _ ?side1 ?side2 A6.out).mono ?_); (case side1 => repeat (first | exact (Kd.C_below HR0.out HB.out) | (with_reducible refine Kd.C_alloc ?_ _) | (with_reducible refine Kd.C_drewN ?_ _) | (with_reducible refine Kd.C_drew ?_))); (case side2 => exact HC0.out); rintro e w' ⟨rfl, ⟨nd, rfl⟩⟩; refine ⟨_, rfl, ?_⟩) | ((with_reducible refine gate_callee (f := 12) rfl ?_); refine goesL_ (some 24) rfl rfl Try.func12 (by kernel_rfl) rfl #[.slice A0 l0.length c0] rfl (by (try simp only [List.map_toArray, List.map_cons, List.map_nil]); first | done | rfl | (simp only [List.length_drop, List.length_take]; rfl)) ?_; (with_reducible refine (gangsawref33_Check.calls k _ _ l0 t335 _ ?side1 ?side2 A8.out).mono ?_); (case side1 => repeat (first | exact (Kd.C_below HR0.out (by repeat (first | (with_reducible first | exact HB.out | apply below_alloc | apply pw_below_drewN | apply below_drew1) | exact HB.out))) | (with_reducible refine Kd.C_alloc ?_ _) | (with_reducible refine Kd.C_drewN ?_ _) | (with_reducible refine Kd.C_drew ?_))); (case side2 => exact HC0.out); rintro e w' ⟨rfl, ⟨nd, rfl⟩⟩; refine ⟨_, rfl, ?_⟩) | ((with_reducible refine gate_callee (f := 13) rfl ?_); refine goesL_ (some 28) rfl rfl Try.func13 (by kernel_rfl) rfl #[.slice A0 l0.length c0, .int .i64 a1] rfl (by (try simp only [List.map_toArray, List.map_cons, List.map_nil]); first | done | rfl | (simp only [List.length_drop, List.length_take]; rfl)) ?_; (with_reducible refine (sample_Strength.calls k _ _ l0 a1 t336 t337 _ ?side1 ?side2 A9.out).mono ?_); (case side1 => repeat (first | exact (Kd.C_below HR0.out (by repeat (first | (with_reducible first | exact HB.out | apply below_alloc | apply pw_below_drewN | apply below_drew1) | exact HB.out))) | (with_reducible refine Kd.C_alloc ?_ _) | (with_reducible refine Kd.C_drewN ?_ _) | (with_reducible refine Kd.C_drew ?_))); (case side2 => exact HC0.out); rintro e w24 ⟨rfl, hb⟩; refine ⟨_, rfl, ?_⟩; have n0_ := Aside0.mk (below_step (by repeat (first | (with_reducible first | exact HB.out | apply below_alloc | apply pw_below_drewN | apply below_drew1) | exact HB.out)) hb); clear HB; have HB := n0_; clear n0_; (try clear hb); (try clear hb2); (try clear hk); (try clear hi)) | ((with_reducible refine gate_callee (f := 14) rfl ?_); refine goesL_ (some 34) rfl rfl Try.func14 (by kernel_rfl) rfl #[.slice A0 l0.length c0, .int .i64 a1] rfl (by (try simp only [List.map_toArray, List.map_cons, List.map_nil]); first | done | rfl | (simp only [List.length_drop, List.length_take]; rfl)) ?_; (with_reducible refine (sample_Absorption.calls k _ _ l0 a1 t338 t339 _ ?side1 ?side2 A10.out).mono ?_); (case side1 => repeat (first | exact (Kd.C_below HR0.out HB.out) | (with_reducible refine Kd.C_alloc ?_ _) | (with_reducible refine Kd.C_drewN ?_ _) | (with_reducible refine Kd.C_drew ?_))); (case side2 => exact HC0.out); rintro e w25 ⟨rfl, hb⟩; refine ⟨_, rfl, ?_⟩; have n0_ := Aside0.mk (below_step (by repeat (first | (with_reducible first | exact HB.out | apply below_alloc | apply pw_below_drewN | apply below_drew1) | exact HB.out)) hb); clear HB; have HB := n0_; clear n0_; (try clear hb); (try clear hb2); (try clear hk); (try clear hi)) | ((with_reducible refine gate_callee (f := 15) rfl ?_); refine goesL_ (some 40) rfl rfl Try.func15 (by kernel_rfl) rfl #[.slice A0 l0.length c0, .int .i64 a2] rfl (by (try simp only [List.map_toArray, List.map_cons, List.map_nil]); first | done | rfl | (simp only [List.length_drop, List.length_take]; rfl)) ?_; (with_reducible refine (sample_Rank.calls k _ _ l0 a2 t340 t341 _ ?side1 ?side2 A11.out).mono ?_); (case side1 => repeat (first | exact (Kd.C_below HR0.out HB.out) | (with_reducible refine Kd.C_alloc ?_ _) | (with_reducible refine Kd.C_drewN ?_ _) | (with_reducible refine Kd.C_drew ?_))); (case side2 => exact HC0.out); rintro e w26 ⟨rfl, hb⟩; refine ⟨_, rfl, ?_⟩; have n0_ := Aside0.mk (below_step (by repeat (first | (with_reducible first | exact HB.out | apply below_alloc | apply pw_below_drewN | apply below_drew1) | exact HB.out)) hb); clear HB; have HB := n0_; clear n0_; (try clear hb); (try clear hb2); (try clear hk); (try clear hi)) | ((with_reducible refine gate_callee (f := 16) rfl ?_); refine goesL_ (some 46) rfl rfl Try.func16 (by kernel_rfl) rfl #[.slice A0 l0.length c0, .int .i64 a1] rfl (by (try simp only [List.map_toArray, List.map_cons, List.map_nil]); first | done | rfl | (simp only [List.length_drop, List.length_take]; rfl)) ?_; (with_reducible refine (gangsawref33_Strength.calls k _ _ l0 a1 t342 t343 _ ?side1 ?side2 A12.out).mono ?_); (case side1 => repeat (first | exact (Kd.C_below HR0.out HB.out) | (with_reducible refine Kd.C_alloc ?_ _) | (with_reducible refine Kd.C_drewN ?_ _) | (with_reducible refine Kd.C_drew ?_))); (case side2 => exact HC0.out); rintro e w27 ⟨rfl, hb⟩; refine ⟨_, rfl, ?_⟩; have n0_ := Aside0.mk (below_step (by repeat (first | (with_reducible first | exact HB.out | apply below_alloc | apply pw_below_drewN | apply below_drew1) | exact HB.out)) hb); clear HB; have HB := n0_; clear n0_; (try clear hb); (try clear hb2); (try clear hk); (try clear hi)) | ((with_reducible refine gate_callee (f := 17) rfl ?_); refine goesL_ (some 52) rfl rfl Try.func17 (by kernel_rfl) rfl #[.slice A0 l0.length c0, .int .i64 a1] rfl (by (try simp only [List.map_toArray, List.map_cons, List.map_nil]); first | done | rfl | (simp only [List.length_drop, List.length_take]; rfl)) ?_; (with_reducible refine (gangsawref33_Absorption.calls k _ _ l0 a1 t344 t345 _ ?side1 ?side2 A13.out).mono ?_); (case side1 => repeat (first | exact (Kd.C_below HR0.out HB.out) | (with_reducible refine Kd.C_alloc ?_ _) | (with_reducible refine Kd.C_drewN ?_ _) | (with_reducible refine Kd.C_drew ?_))); (case side2 => exact HC0.out); rintro e w28 ⟨rfl, hb⟩; refine ⟨_, rfl, ?_⟩; have n0_ := Aside0.mk (below_step (by repeat (first | (with_reducible first | exact HB.out | apply below_alloc | apply pw_below_drewN | apply below_drew1) | exact HB.out)) hb); clear HB; have HB := n0_; clear n0_; (try clear hb); (try clear hb2); (try clear hk); (try clear hi)) | ((with_reducible refine gate_callee (f := 18) rfl ?_); refine goesL_ (some 56) rfl rfl Try.func18 (by kernel_rfl) rfl #[.slice A0 l0.length c0] rfl (by (try simp only [List.map_toArray, List.map_cons, List.map_nil]); first | done | rfl | (simp only [List.length_drop, List.length_take]; rfl)) ?_; (with_reducible refine (sample_Check.calls k _ _ l0 t346 _ ?side1 ?side2 A14.out).mono ?_); (case side1 => repeat (first | exact (Kd.C_below HR0.out HB.out) | (with_reducible refine Kd.C_alloc ?_ _) | (with_reducible refine Kd.C_drewN ?_ _) | (with_reducible refine Kd.C_drew ?_))); (case side2 => exact HC0.out); rintro e w29 ⟨rfl, hb⟩; refine ⟨_, rfl, ?_⟩; have n0_ := Aside0.mk (below_step (by repeat (first | (with_reducible first | exact HB.out | apply below_alloc | apply pw_below_drewN | apply below_drew1) | exact HB.out)) hb); clear HB; have HB := n0_; clear n0_; (try clear hb); (try clear hb2); (try clear hk); (try clear hi)) | (go_at_call 19; (with_reducible refine (gangsawref33_Rank.calls k _ _ l0 a2 t347 _ ?side1 ?side2 A22.out).mono ?_); (case side1 => repeat (first | exact (Kd.C_below HR0.out HB.out) | (with_reducible refine Kd.C_alloc ?_ _) | (with_reducible refine Kd.C_drewN ?_ _) | (with_reducible refine Kd.C_drew ?_))); (case side2 => exact HC0.out); rintro e w' ⟨rfl, ⟨nd, rfl⟩⟩))
          go_ret
          exact ⟨by first | rfl | (simp [errW_none, errW_some] <;> rfl) | (simp [*, errW_none, errW_some] <;> rfl), by repeat (first | (with_reducible first | exact HB.out | apply below_alloc | apply pw_below_drewN | apply below_drew1) | exact HB.out)⟩
         ·rw [if_neg c21] at H
          have c21b0 : (t335 == 0) = false := beq_eq_false_iff_ne.mpr c21
          have c21b1 : (t335 != 0) = true := bne_iff_ne.mpr c21
          by_cases c30 : t340 = 0
          ·rw [if_pos c30] at H
           have c30b0 : (t340 == 0) = true := beq_iff_eq.mpr c30
           have c30b1 : (t340 != 0) = false := bne_eq_false_iff_eq.mpr c30
           clear c30
           obtain rfl := Option.some.inj H
           simp only [Option.some.injEq, Prod.mk.injEq] at H
           obtain ⟨rfl⟩ := H
           go_enter Try.func3, Try.ntmps3
           go_wp2_with (first | ((with_reducible refine gate_callee (f := 10) rfl ?_); refine goesL_ (some 18) rfl rfl Try.func10 (by kernel_rfl) rfl #[] rfl (by (try simp only [List.map_toArray, List.map_cons, List.map_nil]); first | done | rfl | (simp only [List.length_drop, List.length_take]; rfl)) ?_; (with_reducible refine (gangsawlaw33_awake_N.calls  true _ A4.out).mono ?_); rintro e w31 ⟨rfl, hb⟩; refine ⟨_, rfl, ?_⟩; have n0_ := Aside0.mk (below_step (by repeat (first | (with_reducible first | exact HB.out | apply below_alloc | apply pw_below_drewN | apply below_drew1) | exact HB.out)) hb); clear HB; have HB := n0_; clear n0_; (try clear hb); (try clear hb2); (try clear hk); (try clear hi)) | ((with_reducible refine gate_callee (f := 11) rfl ?_); refine goesL_ (some 21) rfl rfl Try.func11 (by kernel_rfl) rfl #[.slice A0 l0.length c0] rfl (by (try simp only [List.map_toArray, List.map_cons, List.map_nil]); first | done | rfl | (simp only [List.length_drop, List.length_take]; rfl)) ?_; (with_reducible refine (gangsawref33_Few.calls k _ _ l0 true _ ?side1 ?side2 A6.out).mono ?_); (case side1 => repeat (first | exact (Kd.C_below HR0.out HB.out) | (with_reducible refine Kd.C_alloc ?_ _) | (with_reducible refine Kd.C_drewN ?_ _) | (with_reducible refine Kd.C_drew ?_))); (case side2 => exact HC0.out); rintro e w' ⟨rfl, ⟨nd, rfl⟩⟩; refine ⟨_, rfl, ?_⟩) | ((with_reducible refine gate_callee (f := 12) rfl ?_); refine goesL_ (some 24) rfl rfl Try.func12 (by kernel_rfl) rfl #[.slice A0 l0.length c0] rfl (by (try simp only [List.map_toArray, List.map_cons, List.map_nil]); first | done | rfl | (simp only [List.length_drop, List.length_take]; rfl)) ?_; (with_reducible refine (gangsawref33_Check.calls k _ _ l0 t335 _ ?side1 ?side2 A8.out).mono ?_); (case side1 => repeat (first | exact (Kd.C_below HR0.out (by repeat (first | (with_reducible first | exact HB.out | apply below_alloc | apply pw_below_drewN | apply below_drew1) | exact HB.out))) | (with_reducible refine Kd.C_alloc ?_ _) | (with_reducible refine Kd.C_drewN ?_ _) | (with_reducible refine Kd.C_drew ?_))); (case side2 => exact HC0.out); rintro e w' ⟨rfl, ⟨nd, rfl⟩⟩; refine ⟨_, rfl, ?_⟩) | ((with_reducible refine gate_callee (f := 13) rfl ?_); refine goesL_ (some 28) rfl rfl Try.func13 (by kernel_rfl) rfl #[.slice A0 l0.length c0, .int .i64 a1] rfl (by (try simp only [List.map_toArray, List.map_cons, List.map_nil]); first | done | rfl | (simp only [List.length_drop, List.length_take]; rfl)) ?_; (with_reducible refine (sample_Strength.calls k _ _ l0 a1 t336 t337 _ ?side1 ?side2 A9.out).mono ?_); (case side1 => repeat (first | exact (Kd.C_below HR0.out (by repeat (first | (with_reducible first | exact HB.out | apply below_alloc | apply pw_below_drewN | apply below_drew1) | exact HB.out))) | (with_reducible refine Kd.C_alloc ?_ _) | (with_reducible refine Kd.C_drewN ?_ _) | (with_reducible refine Kd.C_drew ?_))); (case side2 => exact HC0.out); rintro e w32 ⟨rfl, hb⟩; refine ⟨_, rfl, ?_⟩; have n0_ := Aside0.mk (below_step (by repeat (first | (with_reducible first | exact HB.out | apply below_alloc | apply pw_below_drewN | apply below_drew1) | exact HB.out)) hb); clear HB; have HB := n0_; clear n0_; (try clear hb); (try clear hb2); (try clear hk); (try clear hi)) | ((with_reducible refine gate_callee (f := 14) rfl ?_); refine goesL_ (some 34) rfl rfl Try.func14 (by kernel_rfl) rfl #[.slice A0 l0.length c0, .int .i64 a1] rfl (by (try simp only [List.map_toArray, List.map_cons, List.map_nil]); first | done | rfl | (simp only [List.length_drop, List.length_take]; rfl)) ?_; (with_reducible refine (sample_Absorption.calls k _ _ l0 a1 t338 t339 _ ?side1 ?side2 A10.out).mono ?_); (case side1 => repeat (first | exact (Kd.C_below HR0.out HB.out) | (with_reducible refine Kd.C_alloc ?_ _) | (with_reducible refine Kd.C_drewN ?_ _) | (with_reducible refine Kd.C_drew ?_))); (case side2 => exact HC0.out); rintro e w33 ⟨rfl, hb⟩; refine ⟨_, rfl, ?_⟩; have n0_ := Aside0.mk (below_step (by repeat (first | (with_reducible first | exact HB.out | apply below_alloc | apply pw_below_drewN | apply below_drew1) | exact HB.out)) hb); clear HB; have HB := n0_; clear n0_; (try clear hb); (try clear hb2); (try clear hk); (try clear hi)) | ((with_reducible refine gate_callee (f := 15) rfl ?_); refine goesL_ (some 40) rfl rfl Try.func15 (by kernel_rfl) rfl #[.slice A0 l0.length c0, .int .i64 a2] rfl (by (try simp only [List.map_toArray, List.map_cons, List.map_nil]); first | done | rfl | (simp only [List.length_drop, List.length_take]; rfl)) ?_; (with_reducible refine (sample_Rank.calls k _ _ l0 a2 t340 t341 _ ?side1 ?side2 A11.out).mono ?_); (case side1 => repeat (first | exact (Kd.C_below HR0.out HB.out) | (with_reducible refine Kd.C_alloc ?_ _) | (with_reducible refine Kd.C_drewN ?_ _) | (with_reducible refine Kd.C_drew ?_))); (case side2 => exact HC0.out); rintro e w34 ⟨rfl, hb⟩; refine ⟨_, rfl, ?_⟩; have n0_ := Aside0.mk (below_step (by repeat (first | (with_reducible first | exact HB.out | apply below_alloc | apply pw_below_drewN | apply below_drew1) | exact HB.out)) hb); clear HB; have HB := n0_; clear n0_; (try clear hb); (try clear hb2); (try clear hk); (try clear hi)) | ((with_reducible refine gate_callee (f := 16) rfl ?_); refine goesL_ (some 46) rfl rfl Try.func16 (by kernel_rfl) rfl #[.slice A0 l0.length c0, .int .i64 a1] rfl (by (try simp only [List.map_toArray, List.map_cons, List.map_nil]); first | done | rfl | (simp only [List.length_drop, List.length_take]; rfl)) ?_; (with_reducible refine (gangsawref33_Strength.calls k _ _ l0 a1 t342 t343 _ ?side1 ?side2 A12.out).mono ?_); (case side1 => repeat (first | exact (Kd.C_below HR0.out HB.out) | (with_reducible refine Kd.C_alloc ?_ _) | (with_reducible refine Kd.C_drewN ?_ _) | (with_reducible refine Kd.C_drew ?_))); (case side2 => exact HC0.out); rintro e w35 ⟨rfl, hb⟩; refine ⟨_, rfl, ?_⟩; have n0_ := Aside0.mk (below_step (by repeat (first | (with_reducible first | exact HB.out | apply below_alloc | apply pw_below_drewN | apply below_drew1) | exact HB.out)) hb); clear HB; have HB := n0_; clear n0_; (try clear hb); (try clear hb2); (try clear hk); (try clear hi)) | ((with_reducible refine gate_callee (f := 17) rfl ?_); refine goesL_ (some 52) rfl rfl Try.func17 (by kernel_rfl) rfl #[.slice A0 l0.length c0, .int .i64 a1] rfl (by (try simp only [List.map_toArray, List.map_cons, List.map_nil]); first | done | rfl | (simp only [List.length_drop, List.length_take]; rfl)) ?_; (with_reducible refine (gangsawref33_Absorption.calls k _ _ l0 a1 t344 t345 _ ?side1 ?side2 A13.out).mono ?_); (case side1 => repeat (first | exact (Kd.C_below HR0.out HB.out) | (with_reducible refine Kd.C_alloc ?_ _) | (with_reducible refine Kd.C_drewN ?_ _) | (with_reducible refine Kd.C_drew ?_))); (case side2 => exact HC0.out); rintro e w36 ⟨rfl, hb⟩; refine ⟨_, rfl, ?_⟩; have n0_ := Aside0.mk (below_step (by repeat (first | (with_reducible first | exact HB.out | apply below_alloc | apply pw_below_drewN | apply below_drew1) | exact HB.out)) hb); clear HB; have HB := n0_; clear n0_; (try clear hb); (try clear hb2); (try clear hk); (try clear hi)) | ((with_reducible refine gate_callee (f := 18) rfl ?_); refine goesL_ (some 56) rfl rfl Try.func18 (by kernel_rfl) rfl #[.slice A0 l0.length c0] rfl (by (try simp only [List.map_toArray, List.map_cons, List.map_nil]); first | done | rfl | (simp only [List.length_drop, List.length_take]; rfl)) ?_; (with_reducible refine (sample_Check.calls k _ _ l0 t346 _ ?side1 ?side2 A14.out).mono ?_); (case side1 => repeat (first | exact (Kd.C_below HR0.out HB.out) | (with_reducible refine Kd.C_alloc ?_ _) | (with_reducible refine Kd.C_drewN ?_ _) | (with_reducible refine Kd.C_drew ?_))); (case side2 => exact HC0.out); rintro e w37 ⟨rfl, hb⟩; refine ⟨_, rfl, ?_⟩; have n0_ := Aside0.mk (below_step (by repeat (first | (with_reducible first | exact HB.out | apply below_alloc | apply pw_below_drewN | apply below_drew1) | exact HB.out)) hb); clear HB; have HB := n0_; clear n0_; (try clear hb); (try clear hb2); (try clear hk); (try clear hi)))
           go_ret
           exact ⟨by first | rfl | (simp [errW_none, errW_some] <;> rfl) | (simp [*, errW_none, errW_some] <;> rfl), by repeat (first | (with_reducible first | exact HB.out | apply below_alloc | apply pw_below_drewN | apply below_drew1) | exact HB.out)⟩
          ·rw [if_neg c30] at H
           have c30b0 : (t340 == 0) = false := beq_eq_false_iff_ne.mpr c30
           have c30b1 : (t340 != 0) = true := bne_iff_ne.mpr c30
           obtain rfl := Option.some.inj H
           exact absurd hr (by decide)
        ·rw [if_neg c20] at H
         have c20b0 : (t341 == t335) = false := beq_eq_false_iff_ne.mpr c20
         have c20b1 : (t341 != t335) = true := bne_iff_ne.mpr c20
         obtain rfl := Option.some.inj H
         exact absurd hr (by decide)
       ·rw [if_neg c19] at H
        have c19b0 : (t339 == t345) = false := beq_eq_false_iff_ne.mpr c19
        have c19b1 : (t339 != t345) = true := bne_iff_ne.mpr c19
        obtain rfl := Option.some.inj H
        exact absurd hr (by decide)
      ·rw [if_neg c18] at H
       have c18b0 : (t338 == t344) = false := beq_eq_false_iff_ne.mpr c18
       have c18b1 : (t338 != t344) = true := bne_iff_ne.mpr c18
       obtain rfl := Option.some.inj H
       exact absurd hr (by decide)
     ·rw [if_neg c17] at H
      have c17b0 : (t337 == t343) = false := beq_eq_false_iff_ne.mpr c17
      have c17b1 : (t337 != t343) = true := bne_iff_ne.mpr c17
      obtain rfl := Option.some.inj H
      exact absurd hr (by decide)
    ·rw [if_neg c16] at H
     have c16b0 : (t336 == t342) = false := beq_eq_false_iff_ne.mpr c16
     have c16b1 : (t336 != t342) = true := bne_iff_ne.mpr c16
     obtain rfl := Option.some.inj H
     exact absurd hr (by decide)
   ·rw [if_neg c15] at H
    have c15b0 : (t346 == t335) = false := beq_eq_false_iff_ne.mpr c15
    have c15b1 : (t346 != t335) = true := bne_iff_ne.mpr c15
    obtain rfl := Option.some.inj H
    exact absurd hr (by decide)
  ·replace c7 := Bool.eq_false_iff.mpr c7
   subst c7
   have H1 : (some true) = some r := by rw [if_neg (show ¬ (false = true) by decide)] at H; exact H
   clear H
   have H := H1
   clear H1
   obtain rfl := Option.some.inj H
   simp only [Option.some.injEq, Prod.mk.injEq] at H
   obtain ⟨rfl⟩ := H
   go_enter Try.func3, Try.ntmps3
   go_wp2_with (first | ((with_reducible refine gate_callee (f := 10) rfl ?_); refine goesL_ (some 18) rfl rfl Try.func10 (by kernel_rfl) rfl #[] rfl (by (try simp only [List.map_toArray, List.map_cons, List.map_nil]); first | done | rfl | (simp only [List.length_drop, List.length_take]; rfl)) ?_; (with_reducible refine (gangsawlaw33_awake_N.calls  true _ A4.out).mono ?_); rintro e w38 ⟨rfl, hb⟩; refine ⟨_, rfl, ?_⟩; have n0_ := Aside0.mk (below_step (by repeat (first | (with_reducible first | exact HB.out | apply below_alloc | apply pw_below_drewN | apply below_drew1) | exact HB.out)) hb); clear HB; have HB := n0_; clear n0_; (try clear hb); (try clear hb2); (try clear hk); (try clear hi)) | ((with_reducible refine gate_callee (f := 11) rfl ?_); refine goesL_ (some 21) rfl rfl Try.func11 (by kernel_rfl) rfl #[.slice A0 l0.length c0] rfl (by (try simp only [List.map_toArray, List.map_cons, List.map_nil]); first | done | rfl | (simp only [List.length_drop, List.length_take]; rfl)) ?_; (with_reducible refine (gangsawref33_Few.calls k _ _ l0 false _ ?side1 ?side2 A6.out).mono ?_); (case side1 => repeat (first | exact (Kd.C_below HR0.out HB.out) | (with_reducible refine Kd.C_alloc ?_ _) | (with_reducible refine Kd.C_drewN ?_ _) | (with_reducible refine Kd.C_drew ?_))); (case side2 => exact HC0.out); rintro e w' ⟨rfl, ⟨nd, rfl⟩⟩; refine ⟨_, rfl, ?_⟩))
   go_ret
   exact ⟨by first | rfl | (simp [errW_none, errW_some] <;> rfl) | (simp [*, errW_none, errW_some] <;> rfl), by repeat (first | (with_reducible first | exact HB.out | apply below_alloc | apply pw_below_drewN | apply below_drew1) | exact HB.out)⟩
 ·replace c5 := Bool.eq_false_iff.mpr c5
  subst c5
  have H1 : (some false) = some r := by rw [if_neg (show ¬ (false = true) by decide)] at H; exact H
  clear H
  have H := H1
  clear H1
  obtain rfl := Option.some.inj H
  exact absurd hr (by decide)

end Go.Proofs.Ythkpgjjakdbbfaa.P
