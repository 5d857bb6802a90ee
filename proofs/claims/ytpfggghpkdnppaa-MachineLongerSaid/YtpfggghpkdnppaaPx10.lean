/- What functions of the program return: each contract says so of one function, for every input at which its pure function yields. -/
import Derived.Test.YtpfggghpkdnppaaPx0
namespace Go.Proofs.Ytpfggghpkdnppaa.P
open Go.RowKit Go.Proofs.YtpfggghpkdnppaaW.PrintWords Go.Proofs.YtpfggghpkdnppaaW.PrintLast Go.Proofs.YtpfggghpkdnppaaW.PrintMore
attribute [local go_sem] max2_int min2_int max_two min_two max_three min_three max_four min_four   -- for this text's walks alone
set_option linter.unusedVariables false
set_option linter.unusedSimpArgs false

mutual
def gangsawref49_Small.j0 : Nat → List (S34) → List (S47) → Bool → Option (Bool)
 | 0, _, _, _ => none
 | k + 1, x0, x1, x25 => if x25 = true then (some false) else (gangsawref49_Small.l0 k x0 x1 0)
def gangsawref49_Small.l0 : Nat → List (S34) → List (S47) → Int → Option (Bool)
 | 0, _, _, _ => none
 | k + 1, x0, x1, x5 => if x5 < (x0.length : Int) then (if 0 ≤ x5 then (if (((rd_T34 x0 x5).f0).size : Int) > 100 then (some false) else (if (((rd_T34 x0 x5).f1).size : Int) > 100 then (some false) else (gangsawref49_Small.l0 k x0 x1 (wrap64 (x5 + 1))))) else (none)) else (gangsawref49_Small.l1 k x1 0)
def gangsawref49_Small.l1 : Nat → List (S47) → Int → Option (Bool)
 | 0, _, _ => none
 | k + 1, x1, x6 => if x6 < (x1.length : Int) then (if 0 ≤ x6 then (if (((rd_T47 x1 x6).f1).length : Int) > 20 then (gangsawref49_Small.j3 k x1 x6 true) else (gangsawref49_Small.j3 k x1 x6 (decide ((((rd_T47 x1 x6).f0).size : Int) > 100)))) else (none)) else (some true)
def gangsawref49_Small.j3 : Nat → List (S47) → Int → Bool → Option (Bool)
 | 0, _, _, _ => none
 | k + 1, x1, x6, x69 => if x69 = true then (some false) else (gangsawref49_Small.l2 k x1 x6 0)
def gangsawref49_Small.l2 : Nat → List (S47) → Int → Int → Option (Bool)
 | 0, _, _, _ => none
 | k + 1, x1, x6, x7 => if 0 ≤ x6 then (if x6 < (x1.length : Int) then (if x7 < (((rd_T47 x1 x6).f1).length : Int) then (if 0 ≤ x7 then (if (((rd_T36 ((rd_T47 x1 x6).f1) x7).f0).size : Int) > 100 then (some false) else (gangsawref49_Small.l2 k x1 x6 (wrap64 (x7 + 1)))) else (none)) else (gangsawref49_Small.l1 k x1 (wrap64 (x6 + 1)))) else (none)) else (none)
end
def gangsawref49_Small.f (k : Nat) (l0 : List (S34)) (l1 : List (S47)) : Option (Bool) := if (l0.length : Int) > 40 then (gangsawref49_Small.j0 k l0 l1 true) else (if (l1.length : Int) > 12 then (if (l1.length : Int) ≤ 128 then (gangsawref49_Small.j0 k l0 l1 true) else (gangsawref49_Small.j0 k l0 l1 (decide ((l1.length : Int) > 132)))) else (gangsawref49_Small.j0 k l0 l1 false))
set_option maxHeartbeats 8000000 in
set_option maxRecDepth 100000 in
theorem gangsawref49_Small.calls (k : Nat) (A0 : Option Addr) (c0 : Nat) (l0 : List (S34)) (A1 : Option Addr) (c1 : Nat) (l1 : List (S47)) (r : Bool) (w : World) (hr0 : Kd.C k34 w A0 l0.length l0) (hc0 : l0.length ≤ c0) (hr1 : Kd.C k47 w A1 l1.length l1) (hc1 : l1.length ≤ c1) (h : gangsawref49_Small.f k l0 l1 = some r) :
  Calls Try.prog 10 #[.slice A0 l0.length c0, .slice A1 l1.length c1] w fun e w' => e = .returned (.bool r) ∧ Drawn0 w w' := by
 have HR0 := Aside0.mk hr0
 have HC0 := Aside0.mk hc0
 clear hr0 hc0
 have HR1 := Aside0.mk hr1
 have HC1 := Aside0.mk hc1
 clear hr1 hc1
 have H : (if (l0.length : Int) > 40 then (gangsawref49_Small.j0 k l0 l1 true) else (if (l1.length : Int) > 12 then (if (l1.length : Int) ≤ 128 then (gangsawref49_Small.j0 k l0 l1 true) else (gangsawref49_Small.j0 k l0 l1 (decide ((l1.length : Int) > 132)))) else (gangsawref49_Small.j0 k l0 l1 false))) = some r := h
 clear h
 have HC3 := Aside0.mk H
 clear H
 go_enter Try.func10, Try.ntmps10
 go_upto_region 1 with (fail)
 go_cut [25] (fun v25 wc => ∃ (kq : Nat) (x25_2 : Bool), v25 = .bool x25_2 ∧ Aside0 (gangsawref49_Small.j0 kq l0 l1 x25_2 = some r) ∧ Aside0 (kq ≤ k) ∧ Drawn0 w wc)
 case first =>
  have H := HC3.out
  clear HC3
  by_cases c4 : (l0.length : Int) > 40
  ·rw [if_pos c4] at H
   have c4b0 : decide (40 < (l0.length : Int)) = true := decide_eq_true c4
   have c4b1 : decide (40 < l0.length) = true := decide_eq_true (by omega)
   clear c4
   (first | rw [c4b0] | (simp only [i64_w, i32_w]; rw [c4b0]) | skip)
   have H' := Aside0.mk H
   clear H
   go_wp2
   go_meet
   case rel => exact ⟨_, (true), (by first | rfl | (simp; done) | (simp [*]; done)), H', ⟨by first | omega | exact Nat.le_refl _⟩, by repeat (first | exact Drawn0.refl _ | apply Drawn0.step)⟩
  ·rw [if_neg c4] at H
   have c4b0 : decide (40 < (l0.length : Int)) = false := decide_eq_false c4
   have c4b1 : decide (40 < l0.length) = false := decide_eq_false (by omega)
   clear c4
   (first | rw [c4b0] | (simp only [i64_w, i32_w]; rw [c4b0]) | skip)
   by_cases c5 : (l1.length : Int) > 12
   ·rw [if_pos c5] at H
    have c5b0 : decide (12 < (l1.length : Int)) = true := decide_eq_true c5
    have c5b1 : decide (12 < l1.length) = true := decide_eq_true (by omega)
    clear c5
    by_cases c6 : (l1.length : Int) ≤ 128
    ·rw [if_pos c6] at H
     have c6b0 : decide ((l1.length : Int) ≤ 128) = true := decide_eq_true c6
     have c6b1 : decide (l1.length ≤ 128) = true := decide_eq_true (by omega)
     clear c6
     have H' := Aside0.mk H
     clear H
     go_wp2
     go_meet
     case rel => exact ⟨_, (true), (by first | rfl | (simp; done) | (simp [*]; done)), H', ⟨by first | omega | exact Nat.le_refl _⟩, by repeat (first | exact Drawn0.refl _ | apply Drawn0.step)⟩
    ·rw [if_neg c6] at H
     have c6b0 : decide ((l1.length : Int) ≤ 128) = false := decide_eq_false c6
     have c6b1 : decide (l1.length ≤ 128) = false := decide_eq_false (by omega)
     clear c6
     have H' := Aside0.mk H
     clear H
     go_wp2
     go_meet
     case rel => exact ⟨_, (decide ((l1.length : Int) > 132)), (by first | rfl | (simp; done) | (simp [*]; done)), H', ⟨by first | omega | exact Nat.le_refl _⟩, by repeat (first | exact Drawn0.refl _ | apply Drawn0.step)⟩
   ·rw [if_neg c5] at H
    have c5b0 : decide (12 < (l1.length : Int)) = false := decide_eq_false c5
    have c5b1 : decide (12 < l1.length) = false := decide_eq_false (by omega)
    clear c5
    have H' := Aside0.mk H
    clear H
    go_wp2
    go_meet
    case rel => exact ⟨_, (false), (by first | rfl | (simp; done) | (simp [*]; done)), H', ⟨by first | omega | exact Nat.le_refl _⟩, by repeat (first | exact Drawn0.refl _ | apply Drawn0.step)⟩
 case rest =>
  clear HC3
  try clear c1
  try clear p2
  try clear c4
  try clear c4b0
  try clear c4b1
  try clear c5
  try clear c5b0
  try clear c5b1
  try clear c6
  try clear c6b0
  try clear c6b1
  obtain ⟨kq, x25_2, rfl, HA, HJ2, ⟨mc2, rfl⟩⟩ := hcut
  cases kq with
  | zero => exact absurd HA.out (by simp [gangsawref49_Small.j0])
  | succ kj2 =>
   have H := HA.out
   clear HA
   simp only [gangsawref49_Small.j0] at H
   by_cases c7 : x25_2 = true
   ·subst c7
    have H1 : (some false) = some r := by rw [if_pos rfl] at H; exact H
    clear H
    have H := H1
    clear H1
    obtain rfl := Option.some.inj H
    simp only [Option.some.injEq, Prod.mk.injEq] at H
    obtain ⟨rfl⟩ := H
    go_wp2
    go_ret
    exact ⟨by first | rfl | (simp; done) | (simp [*]; done), by repeat (first | exact Drawn0.refl _ | apply Drawn0.step)⟩
   ·replace c7 := Bool.eq_false_iff.mpr c7
    subst c7
    have H1 : (gangsawref49_Small.l0 kj2 l0 l1 0) = some r := by rw [if_neg (show ¬ (false = true) by decide)] at H; exact H
    clear H
    have H := H1
    clear H1
    have H' := Aside0.mk H
    clear H
    go_wp2
    go_loopg [5] kj2 (fun kq v5 w' => ∃ (x5_2 : Int), v5 = .int .i64 x5_2 ∧ Aside0 (gangsawref49_Small.l0 kq l0 l1 x5_2 = some r) ∧ Aside0 (kq ≤ kj2) ∧ Drawn0 w w')
    case atStart => exact ⟨(0), (by first | rfl | (simp; done) | (simp [*]; done)), H', ⟨Nat.le_refl _⟩, by repeat (first | exact Drawn0.refl _ | apply Drawn0.step)⟩
    case round =>
     clear H'
     try clear c1
     try clear c2
     try clear p2
     try clear c4
     try clear c4b0
     try clear c4b1
     try clear c5
     try clear c5b0
     try clear c5b1
     try clear c6
     try clear c6b0
     try clear c6b1
     try clear c7
     try clear p2
     obtain ⟨x5_2, rfl, HA, HK2, ⟨m2, rfl⟩⟩ := hrel
     cases gk with
     | zero => exact absurd HA.out (by simp [gangsawref49_Small.l0])
     | succ k2 =>
      have H := HA.out
      clear HA
      simp only [gangsawref49_Small.l0] at H
      by_cases c8 : x5_2 < (l0.length : Int)
      ·rw [if_pos c8] at H
       have c8b0 : decide (x5_2 < (l0.length : Int)) = true := decide_eq_true c8
       clear c8
       by_cases c9 : 0 ≤ x5_2
       ·rw [if_pos c9] at H
        have c9b0 : decide (0 ≤ x5_2) = true := decide_eq_true c9
        clear c9
        by_cases c10 : (((rd_T34 l0 x5_2).f0).size : Int) > 100
        ·rw [if_pos c10] at H
         have c10b0 : decide (100 < (((rd_T34 l0 x5_2).f0).size : Int)) = true := decide_eq_true c10
         have c10b1 : decide (100 < ((rd_T34 l0 x5_2).f0).size) = true := decide_eq_true (by omega)
         clear c10
         obtain rfl := Option.some.inj H
         simp only [Option.some.injEq, Prod.mk.injEq] at H
         obtain ⟨rfl⟩ := H
         have p237 : 0 ≤ (x5_2 : Int) := of_decide_eq_true (by first | (with_reducible assumption) | assumption)
         have q237 : x5_2 < (l0.length : Int) := of_decide_eq_true (by first | (with_reducible assumption) | assumption)
         obtain ⟨ad237, e237, hx237_0, hx237_1, hx237_2⟩ := at_T34 HR0.out x5_2 p237 q237
         cases e237
         replace p237 := eq_true p237
         replace q237 := eq_true q237
         go_wp2
         go_ret
         exact ⟨by first | rfl | (simp; done) | (simp [*]; done), by repeat (first | exact Drawn0.refl _ | apply Drawn0.step)⟩
        ·rw [if_neg c10] at H
         have c10b0 : decide (100 < (((rd_T34 l0 x5_2).f0).size : Int)) = false := decide_eq_false c10
         have c10b1 : decide (100 < ((rd_T34 l0 x5_2).f0).size) = false := decide_eq_false (by omega)
         clear c10
         by_cases c11 : (((rd_T34 l0 x5_2).f1).size : Int) > 100
         ·rw [if_pos c11] at H
          have c11b0 : decide (100 < (((rd_T34 l0 x5_2).f1).size : Int)) = true := decide_eq_true c11
          have c11b1 : decide (100 < ((rd_T34 l0 x5_2).f1).size) = true := decide_eq_true (by omega)
          clear c11
          obtain rfl := Option.some.inj H
          simp only [Option.some.injEq, Prod.mk.injEq] at H
          obtain ⟨rfl⟩ := H
          have p237 : 0 ≤ (x5_2 : Int) := of_decide_eq_true (by first | (with_reducible assumption) | assumption)
          have q237 : x5_2 < (l0.length : Int) := of_decide_eq_true (by first | (with_reducible assumption) | assumption)
          obtain ⟨ad237, e237, hx237_0, hx237_1, hx237_2⟩ := at_T34 HR0.out x5_2 p237 q237
          cases e237
          replace p237 := eq_true p237
          replace q237 := eq_true q237
          have p238 : 0 ≤ (x5_2 : Int) := of_decide_eq_true (by first | (with_reducible assumption) | assumption)
          have q238 : x5_2 < (l0.length : Int) := of_decide_eq_true (by first | (with_reducible assumption) | assumption)
          obtain ⟨ad238, e238, hx238_0, hx238_1, hx238_2⟩ := at_T34 HR0.out x5_2 p238 q238
          obtain rfl : ad237 = ad238 := (by injection e238)
          replace p238 := eq_true p238
          replace q238 := eq_true q238
          go_wp2
          go_ret
          exact ⟨by first | rfl | (simp; done) | (simp [*]; done), by repeat (first | exact Drawn0.refl _ | apply Drawn0.step)⟩
         ·rw [if_neg c11] at H
          have c11b0 : decide (100 < (((rd_T34 l0 x5_2).f1).size : Int)) = false := decide_eq_false c11
          have c11b1 : decide (100 < ((rd_T34 l0 x5_2).f1).size) = false := decide_eq_false (by omega)
          clear c11
          have H' := Aside0.mk H
          clear H
          have p237 : 0 ≤ (x5_2 : Int) := of_decide_eq_true (by first | (with_reducible assumption) | assumption)
          have q237 : x5_2 < (l0.length : Int) := of_decide_eq_true (by first | (with_reducible assumption) | assumption)
          obtain ⟨ad237, e237, hx237_0, hx237_1, hx237_2⟩ := at_T34 HR0.out x5_2 p237 q237
          cases e237
          replace p237 := eq_true p237
          replace q237 := eq_true q237
          have p238 : 0 ≤ (x5_2 : Int) := of_decide_eq_true (by first | (with_reducible assumption) | assumption)
          have q238 : x5_2 < (l0.length : Int) := of_decide_eq_true (by first | (with_reducible assumption) | assumption)
          obtain ⟨ad238, e238, hx238_0, hx238_1, hx238_2⟩ := at_T34 HR0.out x5_2 p238 q238
          obtain rfl : ad237 = ad238 := (by injection e238)
          replace p238 := eq_true p238
          replace q238 := eq_true q238
          go_wp2
          go_roundg k2
          case measure => have := HJ2.out; have := HK2.out; omega
          case rel => exact ⟨(wrap64 (x5_2 + 1)), (by first | rfl | (simp; done) | (simp [*]; done)), H', ⟨by have := HJ2.out; have := HK2.out; omega⟩, by repeat (first | exact Drawn0.refl _ | apply Drawn0.step)⟩
       ·rw [if_neg c9] at H
        exact absurd H (by simp)
      ·rw [if_neg c8] at H
       have c8b0 : decide (x5_2 < (l0.length : Int)) = false := decide_eq_false c8
       clear c8
       have H' := Aside0.mk H
       clear H
       go_wp2
       go_loopg [6] k2 (fun kq v6 w' => ∃ (x6_3 : Int), v6 = .int .i64 x6_3 ∧ Aside0 (gangsawref49_Small.l1 kq l1 x6_3 = some r) ∧ Aside0 (kq ≤ k2) ∧ Drawn0 w w')
       case atStart => exact ⟨(0), (by first | rfl | (simp; done) | (simp [*]; done)), H', ⟨Nat.le_refl _⟩, by repeat (first | exact Drawn0.refl _ | apply Drawn0.step)⟩
       case round =>
        clear H'
        try clear c1
        try clear c2
        try clear p2
        try clear q2
        try clear hx2
        try clear c4
        try clear c4b0
        try clear c4b1
        try clear c5
        try clear c5b0
        try clear c5b1
        try clear c6
        try clear c6b0
        try clear c6b1
        try clear p6
        try clear c7
        try clear c8
        try clear c8b0
        try clear c9
        try clear c9b0
        try clear c10
        try clear c10b0
        try clear c10b1
        try clear c11
        try clear c11b0
        try clear c11b1
        try clear hx237_0
        try clear hx237_1
        try clear hx237_2
        try clear hx238_0
        try clear hx238_1
        try clear hx238_2
        try clear p2
        try clear p237
        try clear p238
        try clear q237
        try clear q238
        obtain ⟨x6_3, rfl, HA, HK3, ⟨m3, rfl⟩⟩ := hrel
        cases gk with
        | zero => exact absurd HA.out (by simp [gangsawref49_Small.l1])
        | succ k3 =>
         have H := HA.out
         clear HA
         simp only [gangsawref49_Small.l1] at H
         by_cases c12 : x6_3 < (l1.length : Int)
         ·rw [if_pos c12] at H
          have c12b0 : decide (x6_3 < (l1.length : Int)) = true := decide_eq_true c12
          clear c12
          have HC13 := Aside0.mk H
          clear H
          go_upto_region 11 with (fail)
          go_cut [69] (fun v69 wc => ∃ (kq : Nat) (x69_12 : Bool), v69 = .bool x69_12 ∧ Aside0 (gangsawref49_Small.j3 kq l1 x6_3 x69_12 = some r) ∧ Aside0 (kq ≤ k3) ∧ Drawn0 w wc)
          case first =>
           have H := HC13.out
           clear HC13
           by_cases c14 : 0 ≤ x6_3
           ·rw [if_pos c14] at H
            have c14b0 : decide (0 ≤ x6_3) = true := decide_eq_true c14
            clear c14
            (first | rw [c14b0] | (simp only [i64_w, i32_w]; rw [c14b0]) | skip)
            by_cases c15 : (((rd_T47 l1 x6_3).f1).length : Int) > 20
            ·rw [if_pos c15] at H
             have c15b0 : decide (20 < (((rd_T47 l1 x6_3).f1).length : Int)) = true := decide_eq_true c15
             have c15b1 : decide (20 < ((rd_T47 l1 x6_3).f1).length) = true := decide_eq_true (by omega)
             clear c15
             have H' := Aside0.mk H
             clear H
             have p239 : 0 ≤ (x6_3 : Int) := of_decide_eq_true (by first | (with_reducible assumption) | assumption)
             have q239 : x6_3 < (l1.length : Int) := of_decide_eq_true (by first | (with_reducible assumption) | assumption)
             obtain ⟨ad239, A239_1, c239_1, e239, hx239_0, hx239_1, hx239_2, hx239_3, hx239_4, hl239_1, hi239_1⟩ := at_T47 HR1.out x6_3 p239 q239
             cases e239
             have HR239_1 := Aside0.mk hi239_1
             have HC239_1 := Aside0.mk hl239_1
             clear hi239_1 hl239_1
             replace p239 := eq_true p239
             replace q239 := eq_true q239
             go_wp2
             go_meet
             case rel => exact ⟨_, (true), (by first | rfl | (simp; done) | (simp [*]; done)), H', ⟨by have := HJ2.out; have := HK2.out; have := HK3.out; first | omega | exact Nat.le_refl _⟩, by repeat (first | exact Drawn0.refl _ | apply Drawn0.step)⟩
            ·rw [if_neg c15] at H
             have c15b0 : decide (20 < (((rd_T47 l1 x6_3).f1).length : Int)) = false := decide_eq_false c15
             have c15b1 : decide (20 < ((rd_T47 l1 x6_3).f1).length) = false := decide_eq_false (by omega)
             clear c15
             have H' := Aside0.mk H
             clear H
             have p239 : 0 ≤ (x6_3 : Int) := of_decide_eq_true (by first | (with_reducible assumption) | assumption)
             have q239 : x6_3 < (l1.length : Int) := of_decide_eq_true (by first | (with_reducible assumption) | assumption)
             obtain ⟨ad239, A239_1, c239_1, e239, hx239_0, hx239_1, hx239_2, hx239_3, hx239_4, hl239_1, hi239_1⟩ := at_T47 HR1.out x6_3 p239 q239
             cases e239
             have HR239_1 := Aside0.mk hi239_1
             have HC239_1 := Aside0.mk hl239_1
             clear hi239_1 hl239_1
             replace p239 := eq_true p239
             replace q239 := eq_true q239
             have p240 : 0 ≤ (x6_3 : Int) := of_decide_eq_true (by first | (with_reducible assumption) | assumption)
             have q240 : x6_3 < (l1.length : Int) := of_decide_eq_true (by first | (with_reducible assumption) | assumption)
             obtain ⟨ad240, A240_1, c240_1, e240, hx240_0, hx240_1, hx240_2, hx240_3, hx240_4, hl240_1, hi240_1⟩ := at_T47 HR1.out x6_3 p240 q240
             obtain rfl : ad239 = ad240 := (by injection e240)
             have HR240_1 := Aside0.mk hi240_1
             have HC240_1 := Aside0.mk hl240_1
             clear hi240_1 hl240_1
             replace p240 := eq_true p240
             replace q240 := eq_true q240
             have ea_ := Option.some.inj (hx239_1.symm.trans hx240_1)
             injection ea_ with ea_ en_ ec_
             subst ea_
             subst ec_
             clear en_
             go_wp2
             go_meet
             case rel => exact ⟨_, (decide ((((rd_T47 l1 x6_3).f0).size : Int) > 100)), (by first | rfl | (simp; done) | (simp [*]; done)), H', ⟨by have := HJ2.out; have := HK2.out; have := HK3.out; first | omega | exact Nat.le_refl _⟩, by repeat (first | exact Drawn0.refl _ | apply Drawn0.step)⟩
           ·rw [if_neg c14] at H
            exact absurd H (by simp)
          case rest =>
           clear HC13
           try clear c1
           try clear c2
           try clear p2
           try clear q2
           try clear hx2
           try clear c4
           try clear c4b0
           try clear c4b1
           try clear c5
           try clear c5b0
           try clear c5b1
           try clear c6
           try clear c6b0
           try clear c6b1
           try clear p6
           try clear c7
           try clear c8
           try clear c8b0
           try clear c9
           try clear c9b0
           try clear c10
           try clear c10b0
           try clear c10b1
           try clear c11
           try clear c11b0
           try clear c11b1
           try clear c12
           try clear c12b0
           try clear c14
           try clear c14b0
           try clear c15
           try clear c15b0
           try clear c15b1
           try clear hx237_0
           try clear hx237_1
           try clear hx237_2
           try clear hx238_0
           try clear hx238_1
           try clear hx238_2
           try clear hx239_0
           try clear hx239_1
           try clear hx239_2
           try clear hx239_3
           try clear hx239_4
           try clear hx240_0
           try clear hx240_1
           try clear hx240_2
           try clear hx240_3
           try clear hx240_4
           try clear p2
           try clear p237
           try clear p238
           try clear p239
           try clear p240
           try clear p6
           try clear q2
           try clear q237
           try clear q238
           try clear q239
           try clear q240
           obtain ⟨kq, x69_12, rfl, HA, HJ12, ⟨mc12, rfl⟩⟩ := hcut
           cases kq with
           | zero => exact absurd HA.out (by simp [gangsawref49_Small.j3])
           | succ kj12 =>
            have H := HA.out
            clear HA
            simp only [gangsawref49_Small.j3] at H
            by_cases c16 : x69_12 = true
            ·subst c16
             have H1 : (some false) = some r := by rw [if_pos rfl] at H; exact H
             clear H
             have H := H1
             clear H1
             obtain rfl := Option.some.inj H
             simp only [Option.some.injEq, Prod.mk.injEq] at H
             obtain ⟨rfl⟩ := H
             go_wp2
             go_ret
             exact ⟨by first | rfl | (simp; done) | (simp [*]; done), by repeat (first | exact Drawn0.refl _ | apply Drawn0.step)⟩
            ·replace c16 := Bool.eq_false_iff.mpr c16
             subst c16
             have H1 : (gangsawref49_Small.l2 kj12 l1 x6_3 0) = some r := by rw [if_neg (show ¬ (false = true) by decide)] at H; exact H
             clear H
             have H := H1
             clear H1
             have H' := Aside0.mk H
             clear H
             go_wp2
             go_loopg [7] kj12 (fun kq v7 w' => ∃ (x7_5 : Int), v7 = .int .i64 x7_5 ∧ Aside0 (gangsawref49_Small.l2 kq l1 x6_3 x7_5 = some r) ∧ Aside0 (kq ≤ kj12) ∧ Drawn0 w w')
             case atStart => exact ⟨(0), (by first | rfl | (simp; done) | (simp [*]; done)), H', ⟨Nat.le_refl _⟩, by repeat (first | exact Drawn0.refl _ | apply Drawn0.step)⟩
             case round =>
              clear H'
              try clear c1
              try clear c2
              try clear p2
              try clear q2
              try clear hx2
              try clear c4
              try clear c4b0
              try clear c4b1
              try clear c5
              try clear c5b0
              try clear c5b1
              try clear c6
              try clear c6b0
              try clear c6b1
              try clear p6
              try clear c7
              try clear c8
              try clear c8b0
              try clear c9
              try clear c9b0
              try clear c10
              try clear c10b0
              try clear c10b1
              try clear c11
              try clear c11b0
              try clear c11b1
              try clear c12
              try clear c12b0
              try clear c14
              try clear c14b0
              try clear c15
              try clear c15b0
              try clear c15b1
              try clear c16
              try clear hx237_0
              try clear hx237_1
              try clear hx237_2
              try clear hx238_0
              try clear hx238_1
              try clear hx238_2
              try clear hx239_0
              try clear hx239_1
              try clear hx239_2
              try clear hx239_3
              try clear hx239_4
              try clear hx240_0
              try clear hx240_1
              try clear hx240_2
              try clear hx240_3
              try clear hx240_4
              try clear p2
              try clear p237
              try clear p238
              try clear p239
              try clear p240
              try clear p6
              try clear q2
              try clear q237
              try clear q238
              try clear q239
              try clear q240
              obtain ⟨x7_5, rfl, HA, HK5, ⟨m5, rfl⟩⟩ := hrel
              cases gk with
              | zero => exact absurd HA.out (by simp [gangsawref49_Small.l2])
              | succ k5 =>
               have H := HA.out
               clear HA
               simp only [gangsawref49_Small.l2] at H
               by_cases c17 : 0 ≤ x6_3
               ·rw [if_pos c17] at H
                have c17b0 : decide (0 ≤ x6_3) = true := decide_eq_true c17
                clear c17
                by_cases c18 : x6_3 < (l1.length : Int)
                ·rw [if_pos c18] at H
                 have c18b0 : decide (x6_3 < (l1.length : Int)) = true := decide_eq_true c18
                 clear c18
                 by_cases c19 : x7_5 < (((rd_T47 l1 x6_3).f1).length : Int)
                 ·rw [if_pos c19] at H
                  have c19b0 : decide (x7_5 < (((rd_T47 l1 x6_3).f1).length : Int)) = true := decide_eq_true c19
                  clear c19
                  by_cases c20 : 0 ≤ x7_5
                  ·rw [if_pos c20] at H
                   have c20b0 : decide (0 ≤ x7_5) = true := decide_eq_true c20
                   clear c20
                   by_cases c21 : (((rd_T36 ((rd_T47 l1 x6_3).f1) x7_5).f0).size : Int) > 100
                   ·rw [if_pos c21] at H
                    have c21b0 : decide (100 < (((rd_T36 ((rd_T47 l1 x6_3).f1) x7_5).f0).size : Int)) = true := decide_eq_true c21
                    have c21b1 : decide (100 < ((rd_T36 ((rd_T47 l1 x6_3).f1) x7_5).f0).size) = true := decide_eq_true (by omega)
                    clear c21
                    obtain rfl := Option.some.inj H
                    simp only [Option.some.injEq, Prod.mk.injEq] at H
                    obtain ⟨rfl⟩ := H
                    have p241 : 0 ≤ (x6_3 : Int) := of_decide_eq_true (by first | (with_reducible assumption) | assumption)
                    have q241 : x6_3 < (l1.length : Int) := of_decide_eq_true (by first | (with_reducible assumption) | assumption)
                    obtain ⟨ad241, A241_1, c241_1, e241, hx241_0, hx241_1, hx241_2, hx241_3, hx241_4, hl241_1, hi241_1⟩ := at_T47 HR1.out x6_3 p241 q241
                    cases e241
                    have HR241_1 := Aside0.mk hi241_1
                    have HC241_1 := Aside0.mk hl241_1
                    clear hi241_1 hl241_1
                    replace p241 := eq_true p241
                    replace q241 := eq_true q241
                    have p242 : 0 ≤ (x6_3 : Int) := of_decide_eq_true (by first | (with_reducible assumption) | assumption)
                    have q242 : x6_3 < (l1.length : Int) := of_decide_eq_true (by first | (with_reducible assumption) | assumption)
                    obtain ⟨ad242, A242_1, c242_1, e242, hx242_0, hx242_1, hx242_2, hx242_3, hx242_4, hl242_1, hi242_1⟩ := at_T47 HR1.out x6_3 p242 q242
                    obtain rfl : ad241 = ad242 := (by injection e242)
                    have HR242_1 := Aside0.mk hi242_1
                    have HC242_1 := Aside0.mk hl242_1
                    clear hi242_1 hl242_1
                    replace p242 := eq_true p242
                    replace q242 := eq_true q242
                    have ea_ := Option.some.inj (hx241_1.symm.trans hx242_1)
                    injection ea_ with ea_ en_ ec_
                    subst ea_
                    subst ec_
                    clear en_
                    have p243 : 0 ≤ (x7_5 : Int) := of_decide_eq_true (by first | (with_reducible assumption) | assumption)
                    have q243 : x7_5 < (((rd_T47 l1 x6_3).f1).length : Int) := of_decide_eq_true (by first | (with_reducible assumption) | assumption)
                    obtain ⟨ad243, e243, hx243_0, hx243_1, hx243_2⟩ := at_T36 HR242_1.out x7_5 p243 q243
                    cases e243
                    replace p243 := eq_true p243
                    replace q243 := eq_true q243
                    go_wp2
                    go_ret
                    exact ⟨by first | rfl | (simp; done) | (simp [*]; done), by repeat (first | exact Drawn0.refl _ | apply Drawn0.step)⟩
                   ·rw [if_neg c21] at H
                    have c21b0 : decide (100 < (((rd_T36 ((rd_T47 l1 x6_3).f1) x7_5).f0).size : Int)) = false := decide_eq_false c21
                    have c21b1 : decide (100 < ((rd_T36 ((rd_T47 l1 x6_3).f1) x7_5).f0).size) = false := decide_eq_false (by omega)
                    clear c21
                    have H' := Aside0.mk H
                    clear H
                    have p241 : 0 ≤ (x6_3 : Int) := of_decide_eq_true (by first | (with_reducible assumption) | assumption)
                    have q241 : x6_3 < (l1.length : Int) := of_decide_eq_true (by first | (with_reducible assumption) | assumption)
                    obtain ⟨ad241, A241_1, c241_1, e241, hx241_0, hx241_1, hx241_2, hx241_3, hx241_4, hl241_1, hi241_1⟩ := at_T47 HR1.out x6_3 p241 q241
                    cases e241
                    have HR241_1 := Aside0.mk hi241_1
                    have HC241_1 := Aside0.mk hl241_1
                    clear hi241_1 hl241_1
                    replace p241 := eq_true p241
                    replace q241 := eq_true q241
                    have p242 : 0 ≤ (x6_3 : Int) := of_decide_eq_true (by first | (with_reducible assumption) | assumption)
                    have q242 : x6_3 < (l1.length : Int) := of_decide_eq_true (by first | (with_reducible assumption) | assumption)
                    obtain ⟨ad242, A242_1, c242_1, e242, hx242_0, hx242_1, hx242_2, hx242_3, hx242_4, hl242_1, hi242_1⟩ := at_T47 HR1.out x6_3 p242 q242
                    obtain rfl : ad241 = ad242 := (by injection e242)
                    have HR242_1 := Aside0.mk hi242_1
                    have HC242_1 := Aside0.mk hl242_1
                    clear hi242_1 hl242_1
                    replace p242 := eq_true p242
                    replace q242 := eq_true q242
                    have ea_ := Option.some.inj (hx241_1.symm.trans hx242_1)
                    injection ea_ with ea_ en_ ec_
                    subst ea_
                    subst ec_
                    clear en_
                    have p243 : 0 ≤ (x7_5 : Int) := of_decide_eq_true (by first | (with_reducible assumption) | assumption)
                    have q243 : x7_5 < (((rd_T47 l1 x6_3).f1).length : Int) := of_decide_eq_true (by first | (with_reducible assumption) | assumption)
                    obtain ⟨ad243, e243, hx243_0, hx243_1, hx243_2⟩ := at_T36 HR242_1.out x7_5 p243 q243
                    cases e243
                    replace p243 := eq_true p243
                    replace q243 := eq_true q243
                    go_wp2
                    go_roundg k5
                    case measure => have := HJ2.out; have := HK2.out; have := HK3.out; have := HJ12.out; have := HK5.out; omega
                    case rel => exact ⟨(wrap64 (x7_5 + 1)), (by first | rfl | (simp; done) | (simp [*]; done)), H', ⟨by have := HJ2.out; have := HK2.out; have := HK3.out; have := HJ12.out; have := HK5.out; omega⟩, by repeat (first | exact Drawn0.refl _ | apply Drawn0.step)⟩
                  ·rw [if_neg c20] at H
                   exact absurd H (by simp)
                 ·rw [if_neg c19] at H
                  have c19b0 : decide (x7_5 < (((rd_T47 l1 x6_3).f1).length : Int)) = false := decide_eq_false c19
                  clear c19
                  have H' := Aside0.mk H
                  clear H
                  have p241 : 0 ≤ (x6_3 : Int) := of_decide_eq_true (by first | (with_reducible assumption) | assumption)
                  have q241 : x6_3 < (l1.length : Int) := of_decide_eq_true (by first | (with_reducible assumption) | assumption)
                  obtain ⟨ad241, A241_1, c241_1, e241, hx241_0, hx241_1, hx241_2, hx241_3, hx241_4, hl241_1, hi241_1⟩ := at_T47 HR1.out x6_3 p241 q241
                  cases e241
                  have HR241_1 := Aside0.mk hi241_1
                  have HC241_1 := Aside0.mk hl241_1
                  clear hi241_1 hl241_1
                  replace p241 := eq_true p241
                  replace q241 := eq_true q241
                  go_wp2
                  go_roundg k5
                  case measure => have := HJ2.out; have := HK2.out; have := HK3.out; have := HJ12.out; have := HK5.out; omega
                  case rel => exact ⟨(wrap64 (x6_3 + 1)), (by first | rfl | (simp; done) | (simp [*]; done)), H', ⟨by have := HJ2.out; have := HK2.out; have := HK3.out; have := HJ12.out; have := HK5.out; omega⟩, by repeat (first | exact Drawn0.refl _ | apply Drawn0.step)⟩
                ·rw [if_neg c18] at H
                 exact absurd H (by simp)
               ·rw [if_neg c17] at H
                exact absurd H (by simp)
         ·rw [if_neg c12] at H
          have c12b0 : decide (x6_3 < (l1.length : Int)) = false := decide_eq_false c12
          clear c12
          obtain rfl := Option.some.inj H
          simp only [Option.some.injEq, Prod.mk.injEq] at H
          obtain ⟨rfl⟩ := H
          go_wp2
          go_ret
          exact ⟨by first | rfl | (simp; done) | (simp [*]; done), by repeat (first | exact Drawn0.refl _ | apply Drawn0.step)⟩

end Go.Proofs.Ytpfggghpkdnppaa.P
