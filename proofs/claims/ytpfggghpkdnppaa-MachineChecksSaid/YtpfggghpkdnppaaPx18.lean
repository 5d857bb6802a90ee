/- What functions of the program return: each contract says so of one function, for every input at which its pure function yields. -/
import Derived.Test.YtpfggghpkdnppaaPx0
import Derived.Test.YtpfggghpkdnppaaPx16
import Derived.Test.YtpfggghpkdnppaaPx17
namespace Go.Proofs.Ytpfggghpkdnppaa.P
open Go.RowKit Go.Proofs.YtpfggghpkdnppaaW.PrintWords Go.Proofs.YtpfggghpkdnppaaW.PrintLast Go.Proofs.YtpfggghpkdnppaaW.PrintMore
attribute [local go_sem] max2_int min2_int max_two min_two max_three min_three max_four min_four   -- for this text's walks alone
set_option linter.unusedVariables false
set_option linter.unusedSimpArgs false

mutual
def gangsawref49_each.l0 : Nat → List (S34) → List (S47) → Bool → Int → Option (Int)
 | 0, _, _, _, _ => none
 | k + 1, x0, x1, x2, x7 => if x7 < (x1.length : Int) then (if 0 ≤ x7 then (if (((rd_T47 x1 x7).f1).length : Int) > 16 then (some 7) else (gangsawref49_each.l0 k x0 x1 x2 (wrap64 (x7 + 1)))) else (none)) else (gangsawref49_each.l1 k x0 x1 x2 0)
def gangsawref49_each.l1 : Nat → List (S34) → List (S47) → Bool → Int → Option (Int)
 | 0, _, _, _, _ => none
 | k + 1, x0, x1, x2, x8 => if x8 < (x1.length : Int) then (if 0 ≤ x8 then (if (((rd_T47 x1 x8).f1).length : Int) = 0 then (some 1) else (gangsawref49_each.l1 k x0 x1 x2 (wrap64 (x8 + 1)))) else (none)) else (gangsawref49_each.l2 k x0 x1 x2 0)
def gangsawref49_each.l2 : Nat → List (S34) → List (S47) → Bool → Int → Option (Int)
 | 0, _, _, _, _ => none
 | k + 1, x0, x1, x2, x9 => if x9 < (x1.length : Int) then (if 0 ≤ x9 then ((gangsawref49_unnamed.f k ((rd_T47 x1 x9).f0) ((rd_T47 x1 x9).f1) ((rd_T47 x1 x9).f2) ((rd_T47 x1 x9).f3) ((rd_T47 x1 x9).f4)).bind fun t392 => (if t392 = true then (some 4) else (gangsawref49_each.l2 k x0 x1 x2 (wrap64 (x9 + 1))))) else (none)) else (gangsawref49_each.l3 k x0 x1 x2 0)
def gangsawref49_each.l3 : Nat → List (S34) → List (S47) → Bool → Int → Option (Int)
 | 0, _, _, _, _ => none
 | k + 1, x0, x1, x2, x10 => if x10 < (x1.length : Int) then (if 0 ≤ x10 then ((gangsawref49_job.f k ((rd_T47 x1 x10).f0) ((rd_T47 x1 x10).f1) ((rd_T47 x1 x10).f2) ((rd_T47 x1 x10).f3) ((rd_T47 x1 x10).f4)).bind fun t394 => (if t394 = true then (gangsawref49_each.l3 k x0 x1 x2 (wrap64 (x10 + 1))) else (some 6))) else (none)) else (gangsawref49_each.l4 k x0 x1 x2 1)
def gangsawref49_each.l4 : Nat → List (S34) → List (S47) → Bool → Int → Option (Int)
 | 0, _, _, _, _ => none
 | k + 1, x0, x1, x2, x11 => if x11 < (x1.length : Int) then (gangsawref49_each.j5 k x0 x1 x2 x11 x2) else (gangsawref49_each.j5 k x0 x1 x2 x11 false)
def gangsawref49_each.j5 : Nat → List (S34) → List (S47) → Bool → Int → Bool → Option (Int)
 | 0, _, _, _, _, _ => none
 | k + 1, x0, x1, x2, x11, x67 => if x67 = true then (if 0 ≤ (wrap64 (x11 - 1)) then (if (wrap64 (x11 - 1)) < (x1.length : Int) then (if 0 ≤ x11 then (if x11 < (x1.length : Int) then (if ((Op.bytesLess (((rd_T47 x1 (wrap64 (x11 - 1))).f0).toList) (((rd_T47 x1 x11).f0).toList)) = true) then (gangsawref49_each.l4 k x0 x1 x2 (wrap64 (x11 + 1))) else (some 5)) else (none)) else (none)) else (none)) else (none)) else ((gangsawref49_Works.f k x0 x1).bind fun t397 => (if (t397.length : Int) > 0 then (some 3) else (some 0)))
end
def gangsawref49_each.f (k : Nat) (l0 : List (S34)) (l1 : List (S47)) (a2 : Bool) : Option (Int) := gangsawref49_each.l0 k l0 l1 a2 0
set_option maxHeartbeats 8000000 in
set_option maxRecDepth 100000 in
theorem gangsawref49_each.calls (k : Nat) (A0 : Option Addr) (c0 : Nat) (l0 : List (S34)) (A1 : Option Addr) (c1 : Nat) (l1 : List (S47)) (a2 : Bool) (r : Int) (w : World) (hr0 : Kd.C k34 w A0 l0.length l0) (hc0 : l0.length ≤ c0) (hr1 : Kd.C k47 w A1 l1.length l1) (hc1 : l1.length ≤ c1) (h : gangsawref49_each.f k l0 l1 a2 = some r) :
  Calls Try.prog 36 #[.slice A0 l0.length c0, .slice A1 l1.length c1, .bool a2] w fun e w' => e = .returned (.int .i64 r) ∧ Below w.heap.size w w' := by
 have hu47 := Try.underlying47
 have HR0 := Aside0.mk hr0
 have HC0 := Aside0.mk hc0
 clear hr0 hc0
 have HR1 := Aside0.mk hr1
 have HC1 := Aside0.mk hc1
 clear hr1 hc1
 have HB := Aside0.mk (Below.refl w.heap.size w)
 have H : (gangsawref49_each.l0 k l0 l1 a2 0) = some r := h
 clear h
 have H' := Aside0.mk H
 clear H
 go_enter Try.func36, Try.ntmps36
 go_wp2
 go_loopg [7] k (fun kq v7 w' => ∃ (x7_1 : Int), v7 = .int .i64 x7_1 ∧ Aside0 (gangsawref49_each.l0 kq l0 l1 a2 x7_1 = some r) ∧ Aside0 (kq ≤ k) ∧ Aside0 (Below w.heap.size w w'))
 case atStart => exact ⟨(0), (by first | rfl | (simp; done) | (simp [*]; done)), H', ⟨Nat.le_refl _⟩, ⟨by repeat (first | (with_reducible first | exact HB.out | apply below_alloc | apply pw_below_drewN | apply below_drew1) | exact HB.out)⟩⟩
 case round =>
  clear H'
  try clear c1
  try clear p2
  try clear c3
  obtain ⟨x7_1, rfl, HA, HK1, HB⟩ := hrel
  cases gk with
  | zero => exact absurd HA.out (by simp [gangsawref49_each.l0])
  | succ k1 =>
   have H := HA.out
   clear HA
   simp only [gangsawref49_each.l0] at H
   by_cases c4 : x7_1 < (l1.length : Int)
   ·rw [if_pos c4] at H
    have c4b0 : decide (x7_1 < (l1.length : Int)) = true := decide_eq_true c4
    clear c4
    by_cases c5 : 0 ≤ x7_1
    ·rw [if_pos c5] at H
     have c5b0 : decide (0 ≤ x7_1) = true := decide_eq_true c5
     clear c5
     by_cases c6 : (((rd_T47 l1 x7_1).f1).length : Int) > 16
     ·rw [if_pos c6] at H
      have c6b0 : decide (16 < (((rd_T47 l1 x7_1).f1).length : Int)) = true := decide_eq_true c6
      have c6b1 : decide (16 < ((rd_T47 l1 x7_1).f1).length) = true := decide_eq_true (by omega)
      clear c6
      obtain rfl := Option.some.inj H
      simp only [Option.some.injEq, Prod.mk.injEq] at H
      obtain ⟨rfl⟩ := H
      have p389 : 0 ≤ (x7_1 : Int) := of_decide_eq_true (by first | (with_reducible assumption) | assumption)
      have q389 : x7_1 < (l1.length : Int) := of_decide_eq_true (by first | (with_reducible assumption) | assumption)
      obtain ⟨ad389, A389_1, c389_1, e389, hx389_0, hx389_1, hx389_2, hx389_3, hx389_4, hl389_1, hi389_1⟩ := at_T47 HR1.out x7_1 p389 q389
      cases e389
      replace hx389_0 := (HB.out.cell (World.block_lt_of_cell? w _ hx389_0)).trans hx389_0
      replace hx389_1 := (HB.out.cell (World.block_lt_of_cell? w _ hx389_1)).trans hx389_1
      replace hx389_2 := (HB.out.cell (World.block_lt_of_cell? w _ hx389_2)).trans hx389_2
      replace hx389_3 := (HB.out.cell (World.block_lt_of_cell? w _ hx389_3)).trans hx389_3
      replace hx389_4 := (HB.out.cell (World.block_lt_of_cell? w _ hx389_4)).trans hx389_4
      have HR389_1 := Aside0.mk hi389_1
      have HC389_1 := Aside0.mk hl389_1
      clear hi389_1 hl389_1
      replace p389 := eq_true p389
      replace q389 := eq_true q389
      go_wp2
      go_ret
      exact ⟨by first | rfl | (simp [errW_none, errW_some] <;> rfl) | (simp [*, errW_none, errW_some] <;> rfl), by repeat (first | (with_reducible first | exact HB.out | apply below_alloc | apply pw_below_drewN | apply below_drew1) | exact HB.out)⟩
     ·rw [if_neg c6] at H
      have c6b0 : decide (16 < (((rd_T47 l1 x7_1).f1).length : Int)) = false := decide_eq_false c6
      have c6b1 : decide (16 < ((rd_T47 l1 x7_1).f1).length) = false := decide_eq_false (by omega)
      clear c6
      have H' := Aside0.mk H
      clear H
      have p389 : 0 ≤ (x7_1 : Int) := of_decide_eq_true (by first | (with_reducible assumption) | assumption)
      have q389 : x7_1 < (l1.length : Int) := of_decide_eq_true (by first | (with_reducible assumption) | assumption)
      obtain ⟨ad389, A389_1, c389_1, e389, hx389_0, hx389_1, hx389_2, hx389_3, hx389_4, hl389_1, hi389_1⟩ := at_T47 HR1.out x7_1 p389 q389
      cases e389
      replace hx389_0 := (HB.out.cell (World.block_lt_of_cell? w _ hx389_0)).trans hx389_0
      replace hx389_1 := (HB.out.cell (World.block_lt_of_cell? w _ hx389_1)).trans hx389_1
      replace hx389_2 := (HB.out.cell (World.block_lt_of_cell? w _ hx389_2)).trans hx389_2
      replace hx389_3 := (HB.out.cell (World.block_lt_of_cell? w _ hx389_3)).trans hx389_3
      replace hx389_4 := (HB.out.cell (World.block_lt_of_cell? w _ hx389_4)).trans hx389_4
      have HR389_1 := Aside0.mk hi389_1
      have HC389_1 := Aside0.mk hl389_1
      clear hi389_1 hl389_1
      replace p389 := eq_true p389
      replace q389 := eq_true q389
      go_wp2
      go_roundg k1
      case measure => have := HK1.out; omega
      case rel => exact ⟨(wrap64 (x7_1 + 1)), (by first | rfl | (simp; done) | (simp [*]; done)), H', ⟨by have := HK1.out; omega⟩, ⟨by repeat (first | (with_reducible first | exact HB.out | apply below_alloc | apply pw_below_drewN | apply below_drew1) | exact HB.out)⟩⟩
    ·rw [if_neg c5] at H
     exact absurd H (by simp)
   ·rw [if_neg c4] at H
    have c4b0 : decide (x7_1 < (l1.length : Int)) = false := decide_eq_false c4
    clear c4
    have H' := Aside0.mk H
    clear H
    go_wp2
    go_loopg [8] k1 (fun kq v8 w' => ∃ (x8_2 : Int), v8 = .int .i64 x8_2 ∧ Aside0 (gangsawref49_each.l1 kq l0 l1 a2 x8_2 = some r) ∧ Aside0 (kq ≤ k1) ∧ Aside0 (Below w.heap.size w w'))
    case atStart => exact ⟨(0), (by first | rfl | (simp; done) | (simp [*]; done)), H', ⟨Nat.le_refl _⟩, ⟨by repeat (first | (with_reducible first | exact HB.out | apply below_alloc | apply pw_below_drewN | apply below_drew1) | exact HB.out)⟩⟩
    case round =>
     clear H'
     try clear c1
     try clear p2
     try clear c3
     try clear p3
     try clear q3
     try clear hx3
     try clear c4
     try clear c4b0
     try clear c5
     try clear c5b0
     try clear c6
     try clear c6b0
     try clear c6b1
     try clear p6
     try clear hx389_0
     try clear hx389_1
     try clear hx389_2
     try clear hx389_3
     try clear hx389_4
     try clear p2
     try clear p389
     try clear q389
     obtain ⟨x8_2, rfl, HA, HK2, HB⟩ := hrel
     cases gk with
     | zero => exact absurd HA.out (by simp [gangsawref49_each.l1])
     | succ k2 =>
      have H := HA.out
      clear HA
      simp only [gangsawref49_each.l1] at H
      by_cases c7 : x8_2 < (l1.length : Int)
      ·rw [if_pos c7] at H
       have c7b0 : decide (x8_2 < (l1.length : Int)) = true := decide_eq_true c7
       clear c7
       by_cases c8 : 0 ≤ x8_2
       ·rw [if_pos c8] at H
        have c8b0 : decide (0 ≤ x8_2) = true := decide_eq_true c8
        clear c8
        by_cases c9 : (((rd_T47 l1 x8_2).f1).length : Int) = 0
        ·rw [if_pos c9] at H
         have c9b0 : ((((rd_T47 l1 x8_2).f1).length : Int) == 0) = true := beq_iff_eq.mpr c9
         have c9b1 : ((((rd_T47 l1 x8_2).f1).length : Int) != 0) = false := bne_eq_false_iff_eq.mpr c9
         clear c9
         obtain rfl := Option.some.inj H
         simp only [Option.some.injEq, Prod.mk.injEq] at H
         obtain ⟨rfl⟩ := H
         have p390 : 0 ≤ (x8_2 : Int) := of_decide_eq_true (by first | (with_reducible assumption) | assumption)
         have q390 : x8_2 < (l1.length : Int) := of_decide_eq_true (by first | (with_reducible assumption) | assumption)
         obtain ⟨ad390, A390_1, c390_1, e390, hx390_0, hx390_1, hx390_2, hx390_3, hx390_4, hl390_1, hi390_1⟩ := at_T47 HR1.out x8_2 p390 q390
         cases e390
         replace hx390_0 := (HB.out.cell (World.block_lt_of_cell? w _ hx390_0)).trans hx390_0
         replace hx390_1 := (HB.out.cell (World.block_lt_of_cell? w _ hx390_1)).trans hx390_1
         replace hx390_2 := (HB.out.cell (World.block_lt_of_cell? w _ hx390_2)).trans hx390_2
         replace hx390_3 := (HB.out.cell (World.block_lt_of_cell? w _ hx390_3)).trans hx390_3
         replace hx390_4 := (HB.out.cell (World.block_lt_of_cell? w _ hx390_4)).trans hx390_4
         have HR390_1 := Aside0.mk hi390_1
         have HC390_1 := Aside0.mk hl390_1
         clear hi390_1 hl390_1
         replace p390 := eq_true p390
         replace q390 := eq_true q390
         go_wp2
         go_ret
         exact ⟨by first | rfl | (simp [errW_none, errW_some] <;> rfl) | (simp [*, errW_none, errW_some] <;> rfl), by repeat (first | (with_reducible first | exact HB.out | apply below_alloc | apply pw_below_drewN | apply below_drew1) | exact HB.out)⟩
        ·rw [if_neg c9] at H
         have c9b0 : ((((rd_T47 l1 x8_2).f1).length : Int) == 0) = false := beq_eq_false_iff_ne.mpr c9
         have c9b1 : ((((rd_T47 l1 x8_2).f1).length : Int) != 0) = true := bne_iff_ne.mpr c9
         have c9b2 : ¬ (((rd_T47 l1 x8_2).f1) = []) := fun h_ => c9 (by rw [h_]; rfl)
         have H' := Aside0.mk H
         clear H
         have p390 : 0 ≤ (x8_2 : Int) := of_decide_eq_true (by first | (with_reducible assumption) | assumption)
         have q390 : x8_2 < (l1.length : Int) := of_decide_eq_true (by first | (with_reducible assumption) | assumption)
         obtain ⟨ad390, A390_1, c390_1, e390, hx390_0, hx390_1, hx390_2, hx390_3, hx390_4, hl390_1, hi390_1⟩ := at_T47 HR1.out x8_2 p390 q390
         cases e390
         replace hx390_0 := (HB.out.cell (World.block_lt_of_cell? w _ hx390_0)).trans hx390_0
         replace hx390_1 := (HB.out.cell (World.block_lt_of_cell? w _ hx390_1)).trans hx390_1
         replace hx390_2 := (HB.out.cell (World.block_lt_of_cell? w _ hx390_2)).trans hx390_2
         replace hx390_3 := (HB.out.cell (World.block_lt_of_cell? w _ hx390_3)).trans hx390_3
         replace hx390_4 := (HB.out.cell (World.block_lt_of_cell? w _ hx390_4)).trans hx390_4
         have HR390_1 := Aside0.mk hi390_1
         have HC390_1 := Aside0.mk hl390_1
         clear hi390_1 hl390_1
         replace p390 := eq_true p390
         replace q390 := eq_true q390
         go_wp2
         go_roundg k2
         case measure => have := HK1.out; have := HK2.out; omega
         case rel => exact ⟨(wrap64 (x8_2 + 1)), (by first | rfl | (simp; done) | (simp [*]; done)), H', ⟨by have := HK1.out; have := HK2.out; omega⟩, ⟨by repeat (first | (with_reducible first | exact HB.out | apply below_alloc | apply pw_below_drewN | apply below_drew1) | exact HB.out)⟩⟩
       ·rw [if_neg c8] at H
        exact absurd H (by simp)
      ·rw [if_neg c7] at H
       have c7b0 : decide (x8_2 < (l1.length : Int)) = false := decide_eq_false c7
       clear c7
       have H' := Aside0.mk H
       clear H
       go_wp2
       go_loopg [9] k2 (fun kq v9 w' => ∃ (x9_3 : Int), v9 = .int .i64 x9_3 ∧ Aside0 (gangsawref49_each.l2 kq l0 l1 a2 x9_3 = some r) ∧ Aside0 (kq ≤ k2) ∧ Aside0 (Below w.heap.size w w'))
       case atStart => exact ⟨(0), (by first | rfl | (simp; done) | (simp [*]; done)), H', ⟨Nat.le_refl _⟩, ⟨by repeat (first | (with_reducible first | exact HB.out | apply below_alloc | apply pw_below_drewN | apply below_drew1) | exact HB.out)⟩⟩
       case round =>
        clear H'
        try clear c1
        try clear p2
        try clear c3
        try clear p3
        try clear q3
        try clear hx3
        try clear c4
        try clear c4b0
        try clear c5
        try clear c5b0
        try clear c6
        try clear c6b0
        try clear c6b1
        try clear p6
        try clear c7
        try clear c7b0
        try clear c8
        try clear c8b0
        try clear c9
        try clear c9b0
        try clear c9b1
        try clear c9b2
        try clear hx389_0
        try clear hx389_1
        try clear hx389_2
        try clear hx389_3
        try clear hx389_4
        try clear hx390_0
        try clear hx390_1
        try clear hx390_2
        try clear hx390_3
        try clear hx390_4
        try clear p2
        try clear p3
        try clear p389
        try clear p390
        try clear p6
        try clear q3
        try clear q389
        try clear q390
        obtain ⟨x9_3, rfl, HA, HK3, HB⟩ := hrel
        cases gk with
        | zero => exact absurd HA.out (by simp [gangsawref49_each.l2])
        | succ k3 =>
         have H := HA.out
         clear HA
         simp only [gangsawref49_each.l2] at H
         by_cases c10 : x9_3 < (l1.length : Int)
         ·rw [if_pos c10] at H
          have c10b0 : decide (x9_3 < (l1.length : Int)) = true := decide_eq_true c10
          clear c10
          by_cases c11 : 0 ≤ x9_3
          ·rw [if_pos c11] at H
           have c11b0 : decide (0 ≤ x9_3) = true := decide_eq_true c11
           clear c11
           replace H := Option.bind_eq_some_iff.mp H
           obtain ⟨t392, A120, H⟩ := H
           replace H : (if t392 = true then (some 4) else (gangsawref49_each.l2 k3 l0 l1 a2 (wrap64 (x9_3 + 1)))) = some r := H
           have A12 := Aside0.mk A120
           clear A120
           by_cases c13 : t392 = true
           ·subst c13
            have H1 : (some 4) = some r := by rw [if_pos rfl] at H; exact H
            clear H
            have H := H1
            clear H1
            obtain rfl := Option.some.inj H
            simp only [Option.some.injEq, Prod.mk.injEq] at H
            obtain ⟨rfl⟩ := H
            have p391 : 0 ≤ (x9_3 : Int) := of_decide_eq_true (by first | (with_reducible assumption) | assumption)
            have q391 : x9_3 < (l1.length : Int) := of_decide_eq_true (by first | (with_reducible assumption) | assumption)
            obtain ⟨ad391, A391_1, c391_1, e391, hx391_0, hx391_1, hx391_2, hx391_3, hx391_4, hl391_1, hi391_1⟩ := at_T47 HR1.out x9_3 p391 q391
            cases e391
            replace hx391_0 := (HB.out.cell (World.block_lt_of_cell? w _ hx391_0)).trans hx391_0
            replace hx391_1 := (HB.out.cell (World.block_lt_of_cell? w _ hx391_1)).trans hx391_1
            replace hx391_2 := (HB.out.cell (World.block_lt_of_cell? w _ hx391_2)).trans hx391_2
            replace hx391_3 := (HB.out.cell (World.block_lt_of_cell? w _ hx391_3)).trans hx391_3
            replace hx391_4 := (HB.out.cell (World.block_lt_of_cell? w _ hx391_4)).trans hx391_4
            have HR391_1 := Aside0.mk hi391_1
            have HC391_1 := Aside0.mk hl391_1
            clear hi391_1 hl391_1
            replace p391 := eq_true p391
            replace q391 := eq_true q391
            go_wp2_with (first | (go_at_call 48; (with_reducible refine (gangsawref49_unnamed.calls k3 ((rd_T47 l1 x9_3).f0) _ _ ((rd_T47 l1 x9_3).f1) ((rd_T47 l1 x9_3).f2) ((rd_T47 l1 x9_3).f3) ((rd_T47 l1 x9_3).f4) true _ ?side1 ?side2 A12.out).mono ?_); (case side1 => repeat (first | exact (Kd.C_below HR391_1.out HB.out) | (with_reducible refine Kd.C_alloc ?_ _) | (with_reducible refine Kd.C_drewN ?_ _) | (with_reducible refine Kd.C_drew ?_))); (case side2 => exact HC391_1.out); rintro e w14 ⟨rfl, hb⟩; have n0_ := Aside0.mk (below_step (by repeat (first | (with_reducible first | exact HB.out | apply below_alloc | apply pw_below_drewN | apply below_drew1) | exact HB.out)) hb); clear HB; have HB := n0_; clear n0_; (try clear hb); (try clear hb2); (try clear hk); (try clear hi)))
            go_ret
            exact ⟨by first | rfl | (simp [errW_none, errW_some] <;> rfl) | (simp [*, errW_none, errW_some] <;> rfl), by repeat (first | (with_reducible first | exact HB.out | apply below_alloc | apply pw_below_drewN | apply below_drew1) | exact HB.out)⟩
           ·replace c13 := Bool.eq_false_iff.mpr c13
            subst c13
            have H1 : (gangsawref49_each.l2 k3 l0 l1 a2 (wrap64 (x9_3 + 1))) = some r := by rw [if_neg (show ¬ (false = true) by decide)] at H; exact H
            clear H
            have H := H1
            clear H1
            have H' := Aside0.mk H
            clear H
            have p391 : 0 ≤ (x9_3 : Int) := of_decide_eq_true (by first | (with_reducible assumption) | assumption)
            have q391 : x9_3 < (l1.length : Int) := of_decide_eq_true (by first | (with_reducible assumption) | assumption)
            obtain ⟨ad391, A391_1, c391_1, e391, hx391_0, hx391_1, hx391_2, hx391_3, hx391_4, hl391_1, hi391_1⟩ := at_T47 HR1.out x9_3 p391 q391
            cases e391
            replace hx391_0 := (HB.out.cell (World.block_lt_of_cell? w _ hx391_0)).trans hx391_0
            replace hx391_1 := (HB.out.cell (World.block_lt_of_cell? w _ hx391_1)).trans hx391_1
            replace hx391_2 := (HB.out.cell (World.block_lt_of_cell? w _ hx391_2)).trans hx391_2
            replace hx391_3 := (HB.out.cell (World.block_lt_of_cell? w _ hx391_3)).trans hx391_3
            replace hx391_4 := (HB.out.cell (World.block_lt_of_cell? w _ hx391_4)).trans hx391_4
            have HR391_1 := Aside0.mk hi391_1
            have HC391_1 := Aside0.mk hl391_1
            clear hi391_1 hl391_1
            replace p391 := eq_true p391
            replace q391 := eq_true q391
            go_wp2_with (first | (go_at_call 48; (with_reducible refine (gangsawref49_unnamed.calls k3 ((rd_T47 l1 x9_3).f0) _ _ ((rd_T47 l1 x9_3).f1) ((rd_T47 l1 x9_3).f2) ((rd_T47 l1 x9_3).f3) ((rd_T47 l1 x9_3).f4) false _ ?side1 ?side2 A12.out).mono ?_); (case side1 => repeat (first | exact (Kd.C_below HR391_1.out HB.out) | (with_reducible refine Kd.C_alloc ?_ _) | (with_reducible refine Kd.C_drewN ?_ _) | (with_reducible refine Kd.C_drew ?_))); (case side2 => exact HC391_1.out); rintro e w15 ⟨rfl, hb⟩; have n0_ := Aside0.mk (below_step (by repeat (first | (with_reducible first | exact HB.out | apply below_alloc | apply pw_below_drewN | apply below_drew1) | exact HB.out)) hb); clear HB; have HB := n0_; clear n0_; (try clear hb); (try clear hb2); (try clear hk); (try clear hi)))
            go_roundg k3
            case measure => have := HK1.out; have := HK2.out; have := HK3.out; omega
            case rel => exact ⟨(wrap64 (x9_3 + 1)), (by first | rfl | (simp; done) | (simp [*]; done)), H', ⟨by have := HK1.out; have := HK2.out; have := HK3.out; omega⟩, ⟨by repeat (first | (with_reducible first | exact HB.out | apply below_alloc | apply pw_below_drewN | apply below_drew1) | exact HB.out)⟩⟩
          ·rw [if_neg c11] at H
           exact absurd H (by simp)
         ·rw [if_neg c10] at H
          have c10b0 : decide (x9_3 < (l1.length : Int)) = false := decide_eq_false c10
          clear c10
          have H' := Aside0.mk H
          clear H
          go_wp2
          go_loopg [10] k3 (fun kq v10 w' => ∃ (x10_4 : Int), v10 = .int .i64 x10_4 ∧ Aside0 (gangsawref49_each.l3 kq l0 l1 a2 x10_4 = some r) ∧ Aside0 (kq ≤ k3) ∧ Aside0 (Below w.heap.size w w'))
          case atStart => exact ⟨(0), (by first | rfl | (simp; done) | (simp [*]; done)), H', ⟨Nat.le_refl _⟩, ⟨by repeat (first | (with_reducible first | exact HB.out | apply below_alloc | apply pw_below_drewN | apply below_drew1) | exact HB.out)⟩⟩
          case round =>
           clear H'
           try clear c1
           try clear p2
           try clear c3
           try clear p3
           try clear q3
           try clear hx3
           try clear c4
           try clear c4b0
           try clear c5
           try clear c5b0
           try clear c6
           try clear c6b0
           try clear c6b1
           try clear p6
           try clear c7
           try clear c7b0
           try clear c8
           try clear c8b0
           try clear c9
           try clear c9b0
           try clear c9b1
           try clear c9b2
           try clear c10
           try clear c10b0
           try clear c11
           try clear c11b0
           try clear c13
           try clear hx389_0
           try clear hx389_1
           try clear hx389_2
           try clear hx389_3
           try clear hx389_4
           try clear hx390_0
           try clear hx390_1
           try clear hx390_2
           try clear hx390_3
           try clear hx390_4
           try clear hx391_0
           try clear hx391_1
           try clear hx391_2
           try clear hx391_3
           try clear hx391_4
           try clear p2
           try clear p3
           try clear p389
           try clear p390
           try clear p391
           try clear p6
           try clear q3
           try clear q389
           try clear q390
           try clear q391
           obtain ⟨x10_4, rfl, HA, HK4, HB⟩ := hrel
           cases gk with
           | zero => exact absurd HA.out (by simp [gangsawref49_each.l3])
           | succ k4 =>
            have H := HA.out
            clear HA
            simp only [gangsawref49_each.l3] at H
            by_cases c16 : x10_4 < (l1.length : Int)
            ·rw [if_pos c16] at H
             have c16b0 : decide (x10_4 < (l1.length : Int)) = true := decide_eq_true c16
             clear c16
             by_cases c17 : 0 ≤ x10_4
             ·rw [if_pos c17] at H
              have c17b0 : decide (0 ≤ x10_4) = true := decide_eq_true c17
              clear c17
              replace H := Option.bind_eq_some_iff.mp H
              obtain ⟨t394, A180, H⟩ := H
              replace H : (if t394 = true then (gangsawref49_each.l3 k4 l0 l1 a2 (wrap64 (x10_4 + 1))) else (some 6)) = some r := H
              have A18 := Aside0.mk A180
              clear A180
              by_cases c19 : t394 = true
              ·subst c19
               have H1 : (gangsawref49_each.l3 k4 l0 l1 a2 (wrap64 (x10_4 + 1))) = some r := by rw [if_pos rfl] at H; exact H
               clear H
               have H := H1
               clear H1
               have H' := Aside0.mk H
               clear H
               have p393 : 0 ≤ (x10_4 : Int) := of_decide_eq_true (by first | (with_reducible assumption) | assumption)
               have q393 : x10_4 < (l1.length : Int) := of_decide_eq_true (by first | (with_reducible assumption) | assumption)
               obtain ⟨ad393, A393_1, c393_1, e393, hx393_0, hx393_1, hx393_2, hx393_3, hx393_4, hl393_1, hi393_1⟩ := at_T47 HR1.out x10_4 p393 q393
               cases e393
               replace hx393_0 := (HB.out.cell (World.block_lt_of_cell? w _ hx393_0)).trans hx393_0
               replace hx393_1 := (HB.out.cell (World.block_lt_of_cell? w _ hx393_1)).trans hx393_1
               replace hx393_2 := (HB.out.cell (World.block_lt_of_cell? w _ hx393_2)).trans hx393_2
               replace hx393_3 := (HB.out.cell (World.block_lt_of_cell? w _ hx393_3)).trans hx393_3
               replace hx393_4 := (HB.out.cell (World.block_lt_of_cell? w _ hx393_4)).trans hx393_4
               have HR393_1 := Aside0.mk hi393_1
               have HC393_1 := Aside0.mk hl393_1
               clear hi393_1 hl393_1
               replace p393 := eq_true p393
               replace q393 := eq_true q393
               go_wp2_with (first | (go_at_call 49; (with_reducible refine (gangsawref49_job.calls k4 ((rd_T47 l1 x10_4).f0) _ _ ((rd_T47 l1 x10_4).f1) ((rd_T47 l1 x10_4).f2) ((rd_T47 l1 x10_4).f3) ((rd_T47 l1 x10_4).f4) true _ ?side1 ?side2 A18.out).mono ?_); (case side1 => repeat (first | exact (Kd.C_below HR393_1.out HB.out) | (with_reducible refine Kd.C_alloc ?_ _) | (with_reducible refine Kd.C_drewN ?_ _) | (with_reducible refine Kd.C_drew ?_))); (case side2 => exact HC393_1.out); rintro e w20 ⟨rfl, hb⟩; have n0_ := Aside0.mk (below_step (by repeat (first | (with_reducible first | exact HB.out | apply below_alloc | apply pw_below_drewN | apply below_drew1) | exact HB.out)) hb); clear HB; have HB := n0_; clear n0_; (try clear hb); (try clear hb2); (try clear hk); (try clear hi)))
               go_roundg k4
               case measure => have := HK1.out; have := HK2.out; have := HK3.out; have := HK4.out; omega
               case rel => exact ⟨(wrap64 (x10_4 + 1)), (by first | rfl | (simp; done) | (simp [*]; done)), H', ⟨by have := HK1.out; have := HK2.out; have := HK3.out; have := HK4.out; omega⟩, ⟨by repeat (first | (with_reducible first | exact HB.out | apply below_alloc | apply pw_below_drewN | apply below_drew1) | exact HB.out)⟩⟩
              ·replace c19 := Bool.eq_false_iff.mpr c19
               subst c19
               have H1 : (some 6) = some r := by rw [if_neg (show ¬ (false = true) by decide)] at H; exact H
               clear H
               have H := H1
               clear H1
               obtain rfl := Option.some.inj H
               simp only [Option.some.injEq, Prod.mk.injEq] at H
               obtain ⟨rfl⟩ := H
               have p393 : 0 ≤ (x10_4 : Int) := of_decide_eq_true (by first | (with_reducible assumption) | assumption)
               have q393 : x10_4 < (l1.length : Int) := of_decide_eq_true (by first | (with_reducible assumption) | assumption)
               obtain ⟨ad393, A393_1, c393_1, e393, hx393_0, hx393_1, hx393_2, hx393_3, hx393_4, hl393_1, hi393_1⟩ := at_T47 HR1.out x10_4 p393 q393
               cases e393
               replace hx393_0 := (HB.out.cell (World.block_lt_of_cell? w _ hx393_0)).trans hx393_0
               replace hx393_1 := (HB.out.cell (World.block_lt_of_cell? w _ hx393_1)).trans hx393_1
               replace hx393_2 := (HB.out.cell (World.block_lt_of_cell? w _ hx393_2)).trans hx393_2
               replace hx393_3 := (HB.out.cell (World.block_lt_of_cell? w _ hx393_3)).trans hx393_3
               replace hx393_4 := (HB.out.cell (World.block_lt_of_cell? w _ hx393_4)).trans hx393_4
               have HR393_1 := Aside0.mk hi393_1
               have HC393_1 := Aside0.mk hl393_1
               clear hi393_1 hl393_1
               replace p393 := eq_true p393
               replace q393 := eq_true q393
               go_wp2_with (first | (go_at_call 49; (with_reducible refine (gangsawref49_job.calls k4 ((rd_T47 l1 x10_4).f0) _ _ ((rd_T47 l1 x10_4).f1) ((rd_T47 l1 x10_4).f2) ((rd_T47 l1 x10_4).f3) ((rd_T47 l1 x10_4).f4) false _ ?side1 ?side2 A18.out).mono ?_); (case side1 => repeat (first | exact (Kd.C_below HR393_1.out HB.out) | (with_reducible refine Kd.C_alloc ?_ _) | (with_reducible refine Kd.C_drewN ?_ _) | (with_reducible refine Kd.C_drew ?_))); (case side2 => exact HC393_1.out); rintro e w21 ⟨rfl, hb⟩; have n0_ := Aside0.mk (below_step (by repeat (first | (with_reducible first | exact HB.out | apply below_alloc | apply pw_below_drewN | apply below_drew1) | exact HB.out)) hb); clear HB; have HB := n0_; clear n0_; (try clear hb); (try clear hb2); (try clear hk); (try clear hi)))
               go_ret
               exact ⟨by first | rfl | (simp [errW_none, errW_some] <;> rfl) | (simp [*, errW_none, errW_some] <;> rfl), by repeat (first | (with_reducible first | exact HB.out | apply below_alloc | apply pw_below_drewN | apply below_drew1) | exact HB.out)⟩
             ·rw [if_neg c17] at H
              exact absurd H (by simp)
            ·rw [if_neg c16] at H
             have c16b0 : decide (x10_4 < (l1.length : Int)) = false := decide_eq_false c16
             clear c16
             have H' := Aside0.mk H
             clear H
             go_wp2
             go_loopg [11] k4 (fun kq v11 w' => ∃ (x11_5 : Int), v11 = .int .i64 x11_5 ∧ Aside0 (gangsawref49_each.l4 kq l0 l1 a2 x11_5 = some r) ∧ Aside0 (kq ≤ k4) ∧ Aside0 (Below w.heap.size w w'))
             case atStart => exact ⟨(1), (by first | rfl | (simp; done) | (simp [*]; done)), H', ⟨Nat.le_refl _⟩, ⟨by repeat (first | (with_reducible first | exact HB.out | apply below_alloc | apply pw_below_drewN | apply below_drew1) | exact HB.out)⟩⟩
             case round =>
              clear H'
              try clear c1
              try clear p2
              try clear c3
              try clear p3
              try clear q3
              try clear hx3
              try clear c4
              try clear c4b0
              try clear c5
              try clear c5b0
              try clear c6
              try clear c6b0
              try clear c6b1
              try clear p6
              try clear c7
              try clear c7b0
              try clear c8
              try clear c8b0
              try clear c9
              try clear c9b0
              try clear c9b1
              try clear c9b2
              try clear c10
              try clear c10b0
              try clear c11
              try clear c11b0
              try clear c13
              try clear c16
              try clear c16b0
              try clear c17
              try clear c17b0
              try clear c19
              try clear hx389_0
              try clear hx389_1
              try clear hx389_2
              try clear hx389_3
              try clear hx389_4
              try clear hx390_0
              try clear hx390_1
              try clear hx390_2
              try clear hx390_3
              try clear hx390_4
              try clear hx391_0
              try clear hx391_1
              try clear hx391_2
              try clear hx391_3
              try clear hx391_4
              try clear hx393_0
              try clear hx393_1
              try clear hx393_2
              try clear hx393_3
              try clear hx393_4
              try clear p2
              try clear p3
              try clear p389
              try clear p390
              try clear p391
              try clear p393
              try clear p6
              try clear q3
              try clear q389
              try clear q390
              try clear q391
              try clear q393
              obtain ⟨x11_5, rfl, HA, HK5, HB⟩ := hrel
              cases gk with
              | zero => exact absurd HA.out (by simp [gangsawref49_each.l4])
              | succ k5 =>
               have H := HA.out
               clear HA
               simp only [gangsawref49_each.l4] at H
               have HC22 := Aside0.mk H
               clear H
               go_upto_region 22 with (fail)
               go_cut [67] (fun v67 wc => ∃ (kq : Nat) (x67_21 : Bool), v67 = .bool x67_21 ∧ Aside0 (gangsawref49_each.j5 kq l0 l1 a2 x11_5 x67_21 = some r) ∧ Aside0 (kq ≤ k5) ∧ Aside0 (Below w.heap.size w wc))
               case first =>
                have H := HC22.out
                clear HC22
                by_cases c23 : x11_5 < (l1.length : Int)
                ·rw [if_pos c23] at H
                 have c23b0 : decide (x11_5 < (l1.length : Int)) = true := decide_eq_true c23
                 clear c23
                 (first | rw [c23b0] | (simp only [i64_w, i32_w]; rw [c23b0]) | skip)
                 have H' := Aside0.mk H
                 clear H
                 go_wp2
                 go_meet
                 case rel => exact ⟨_, (a2), (by first | rfl | (simp; done) | (simp [*]; done)), H', ⟨by have := HK1.out; have := HK2.out; have := HK3.out; have := HK4.out; have := HK5.out; first | omega | exact Nat.le_refl _⟩, ⟨by repeat (first | (with_reducible first | exact HB.out | apply below_alloc | apply pw_below_drewN | apply below_drew1) | exact HB.out)⟩⟩
                ·rw [if_neg c23] at H
                 have c23b0 : decide (x11_5 < (l1.length : Int)) = false := decide_eq_false c23
                 clear c23
                 (first | rw [c23b0] | (simp only [i64_w, i32_w]; rw [c23b0]) | skip)
                 have H' := Aside0.mk H
                 clear H
                 go_wp2
                 go_meet
                 case rel => exact ⟨_, (false), (by first | rfl | (simp; done) | (simp [*]; done)), H', ⟨by have := HK1.out; have := HK2.out; have := HK3.out; have := HK4.out; have := HK5.out; first | omega | exact Nat.le_refl _⟩, ⟨by repeat (first | (with_reducible first | exact HB.out | apply below_alloc | apply pw_below_drewN | apply below_drew1) | exact HB.out)⟩⟩
               case rest =>
                clear HC22
                try clear c1
                try clear c2
                try clear p2
                try clear c3
                try clear p3
                try clear q3
                try clear hx3
                try clear c4
                try clear c4b0
                try clear c5
                try clear c5b0
                try clear c6
                try clear c6b0
                try clear c6b1
                try clear p6
                try clear c7
                try clear c7b0
                try clear c8
                try clear c8b0
                try clear c9
                try clear c9b0
                try clear c9b1
                try clear c9b2
                try clear c10
                try clear c10b0
                try clear c11
                try clear c11b0
                try clear c13
                try clear c16
                try clear c16b0
                try clear c17
                try clear c17b0
                try clear c19
                try clear c23
                try clear c23b0
                try clear hx389_0
                try clear hx389_1
                try clear hx389_2
                try clear hx389_3
                try clear hx389_4
                try clear hx390_0
                try clear hx390_1
                try clear hx390_2
                try clear hx390_3
                try clear hx390_4
                try clear hx391_0
                try clear hx391_1
                try clear hx391_2
                try clear hx391_3
                try clear hx391_4
                try clear hx393_0
                try clear hx393_1
                try clear hx393_2
                try clear hx393_3
                try clear hx393_4
                try clear p2
                try clear p3
                try clear p389
                try clear p390
                try clear p391
                try clear p393
                try clear p6
                try clear q3
                try clear q389
                try clear q390
                try clear q391
                try clear q393
                obtain ⟨kq, x67_21, rfl, HA, HJ21, HB⟩ := hcut
                cases kq with
                | zero => exact absurd HA.out (by simp [gangsawref49_each.j5])
                | succ kj21 =>
                 have H := HA.out
                 clear HA
                 simp only [gangsawref49_each.j5] at H
                 by_cases c24 : x67_21 = true
                 ·subst c24
                  have H1 : (if 0 ≤ (wrap64 (x11_5 - 1)) then (if (wrap64 (x11_5 - 1)) < (l1.length : Int) then (if 0 ≤ x11_5 then (if x11_5 < (l1.length : Int) then (if ((Op.bytesLess (((rd_T47 l1 (wrap64 (x11_5 - 1))).f0).toList) (((rd_T47 l1 x11_5).f0).toList)) = true) then (gangsawref49_each.l4 kj21 l0 l1 a2 (wrap64 (x11_5 + 1))) else (some 5)) else (none)) else (none)) else (none)) else (none)) = some r := by rw [if_pos rfl] at H; exact H
                  clear H
                  have H := H1
                  clear H1
                  obtain ⟨ji25, hji25⟩ : ∃ j_ : Int, (wrap64 (x11_5 - 1)) = j_ := ⟨_, rfl⟩
                  replace H : (if 0 ≤ (ji25) then (if (ji25) < (l1.length : Int) then (if 0 ≤ x11_5 then (if x11_5 < (l1.length : Int) then (if ((Op.bytesLess (((rd_T47 l1 (ji25)).f0).toList) (((rd_T47 l1 x11_5).f0).toList)) = true) then (gangsawref49_each.l4 kj21 l0 l1 a2 (wrap64 (x11_5 + 1))) else (some 5)) else (none)) else (none)) else (none)) else (none)) = some r := by first | (rw [hji25] at H; exact H) | (simp only [hji25] at H ⊢; exact H)
                  have hji25w : (IntKind.i64.wrap (x11_5 - 1)) = ji25 := (i64_w _).trans hji25
                  by_cases c26 : 0 ≤ (ji25)
                  ·rw [if_pos c26] at H
                   have c26b0 : decide (0 ≤ (ji25)) = true := decide_eq_true c26
                   clear c26
                   by_cases c27 : (ji25) < (l1.length : Int)
                   ·rw [if_pos c27] at H
                    have c27b0 : decide ((ji25) < (l1.length : Int)) = true := decide_eq_true c27
                    clear c27
                    by_cases c28 : 0 ≤ x11_5
                    ·rw [if_pos c28] at H
                     have c28b0 : decide (0 ≤ x11_5) = true := decide_eq_true c28
                     clear c28
                     by_cases c29 : x11_5 < (l1.length : Int)
                     ·rw [if_pos c29] at H
                      have c29b0 : decide (x11_5 < (l1.length : Int)) = true := decide_eq_true c29
                      clear c29
                      by_cases c30 : ((Op.bytesLess (((rd_T47 l1 (ji25)).f0).toList) (((rd_T47 l1 x11_5).f0).toList)) = true)
                      ·rw [if_pos c30] at H
                       have c30b0 : (Op.bytesLess (((rd_T47 l1 (ji25)).f0).toList) (((rd_T47 l1 x11_5).f0).toList)) = true := c30
                       clear c30
                       have H' := Aside0.mk H
                       clear H
                       have p395 : 0 ≤ ((ji25) : Int) := of_decide_eq_true (by first | (with_reducible assumption) | assumption)
                       have q395 : (ji25) < (l1.length : Int) := of_decide_eq_true (by first | (with_reducible assumption) | assumption)
                       obtain ⟨ad395, A395_1, c395_1, e395, hx395_0, hx395_1, hx395_2, hx395_3, hx395_4, hl395_1, hi395_1⟩ := at_T47 HR1.out (ji25) p395 q395
                       cases e395
                       replace hx395_0 := (HB.out.cell (World.block_lt_of_cell? w _ hx395_0)).trans hx395_0
                       replace hx395_1 := (HB.out.cell (World.block_lt_of_cell? w _ hx395_1)).trans hx395_1
                       replace hx395_2 := (HB.out.cell (World.block_lt_of_cell? w _ hx395_2)).trans hx395_2
                       replace hx395_3 := (HB.out.cell (World.block_lt_of_cell? w _ hx395_3)).trans hx395_3
                       replace hx395_4 := (HB.out.cell (World.block_lt_of_cell? w _ hx395_4)).trans hx395_4
                       have HR395_1 := Aside0.mk hi395_1
                       have HC395_1 := Aside0.mk hl395_1
                       clear hi395_1 hl395_1
                       replace p395 := eq_true p395
                       replace q395 := eq_true q395
                       have p396 : 0 ≤ (x11_5 : Int) := of_decide_eq_true (by first | (with_reducible assumption) | assumption)
                       have q396 : x11_5 < (l1.length : Int) := of_decide_eq_true (by first | (with_reducible assumption) | assumption)
                       obtain ⟨ad396, A396_1, c396_1, e396, hx396_0, hx396_1, hx396_2, hx396_3, hx396_4, hl396_1, hi396_1⟩ := at_T47 HR1.out x11_5 p396 q396
                       obtain rfl : ad395 = ad396 := (by injection e396)
                       replace hx396_0 := (HB.out.cell (World.block_lt_of_cell? w _ hx396_0)).trans hx396_0
                       replace hx396_1 := (HB.out.cell (World.block_lt_of_cell? w _ hx396_1)).trans hx396_1
                       replace hx396_2 := (HB.out.cell (World.block_lt_of_cell? w _ hx396_2)).trans hx396_2
                       replace hx396_3 := (HB.out.cell (World.block_lt_of_cell? w _ hx396_3)).trans hx396_3
                       replace hx396_4 := (HB.out.cell (World.block_lt_of_cell? w _ hx396_4)).trans hx396_4
                       have HR396_1 := Aside0.mk hi396_1
                       have HC396_1 := Aside0.mk hl396_1
                       clear hi396_1 hl396_1
                       replace p396 := eq_true p396
                       replace q396 := eq_true q396
                       go_wp2
                       repeat (go_quiet (fail); try go_wp2)
                       go_roundg kj21
                       case measure => have := HK1.out; have := HK2.out; have := HK3.out; have := HK4.out; have := HK5.out; have := HJ21.out; omega
                       case rel => exact ⟨(wrap64 (x11_5 + 1)), (by first | rfl | (simp; done) | (simp [*]; done)), H', ⟨by have := HK1.out; have := HK2.out; have := HK3.out; have := HK4.out; have := HK5.out; have := HJ21.out; omega⟩, ⟨by repeat (first | (with_reducible first | exact HB.out | apply below_alloc | apply pw_below_drewN | apply below_drew1) | exact HB.out)⟩⟩
                      ·rw [if_neg c30] at H
                       have c30b0 : (Op.bytesLess (((rd_T47 l1 (ji25)).f0).toList) (((rd_T47 l1 x11_5).f0).toList)) = false := by simpa using c30
                       clear c30
                       obtain rfl := Option.some.inj H
                       simp only [Option.some.injEq, Prod.mk.injEq] at H
                       obtain ⟨rfl⟩ := H
                       have p395 : 0 ≤ ((ji25) : Int) := of_decide_eq_true (by first | (with_reducible assumption) | assumption)
                       have q395 : (ji25) < (l1.length : Int) := of_decide_eq_true (by first | (with_reducible assumption) | assumption)
                       obtain ⟨ad395, A395_1, c395_1, e395, hx395_0, hx395_1, hx395_2, hx395_3, hx395_4, hl395_1, hi395_1⟩ := at_T47 HR1.out (ji25) p395 q395
                       cases e395
                       replace hx395_0 := (HB.out.cell (World.block_lt_of_cell? w _ hx395_0)).trans hx395_0
                       replace hx395_1 := (HB.out.cell (World.block_lt_of_cell? w _ hx395_1)).trans hx395_1
                       replace hx395_2 := (HB.out.cell (World.block_lt_of_cell? w _ hx395_2)).trans hx395_2
                       replace hx395_3 := (HB.out.cell (World.block_lt_of_cell? w _ hx395_3)).trans hx395_3
                       replace hx395_4 := (HB.out.cell (World.block_lt_of_cell? w _ hx395_4)).trans hx395_4
                       have HR395_1 := Aside0.mk hi395_1
                       have HC395_1 := Aside0.mk hl395_1
                       clear hi395_1 hl395_1
                       replace p395 := eq_true p395
                       replace q395 := eq_true q395
                       have p396 : 0 ≤ (x11_5 : Int) := of_decide_eq_true (by first | (with_reducible assumption) | assumption)
                       have q396 : x11_5 < (l1.length : Int) := of_decide_eq_true (by first | (with_reducible assumption) | assumption)
                       obtain ⟨ad396, A396_1, c396_1, e396, hx396_0, hx396_1, hx396_2, hx396_3, hx396_4, hl396_1, hi396_1⟩ := at_T47 HR1.out x11_5 p396 q396
                       obtain rfl : ad395 = ad396 := (by injection e396)
                       replace hx396_0 := (HB.out.cell (World.block_lt_of_cell? w _ hx396_0)).trans hx396_0
                       replace hx396_1 := (HB.out.cell (World.block_lt_of_cell? w _ hx396_1)).trans hx396_1
                       replace hx396_2 := (HB.out.cell (World.block_lt_of_cell? w _ hx396_2)).trans hx396_2
                       replace hx396_3 := (HB.out.cell (World.block_lt_of_cell? w _ hx396_3)).trans hx396_3
                       replace hx396_4 := (HB.out.cell (World.block_lt_of_cell? w _ hx396_4)).trans hx396_4
                       have HR396_1 := Aside0.mk hi396_1
                       have HC396_1 := Aside0.mk hl396_1
                       clear hi396_1 hl396_1
                       replace p396 := eq_true p396
                       replace q396 := eq_true q396
                       go_wp2
                       repeat (go_quiet (fail); try go_wp2)
                       go_ret
                       exact ⟨by first | rfl | (simp [errW_none, errW_some] <;> rfl) | (simp only [← hji25]; first | rfl | (simp [errW_none, errW_some] <;> rfl)) | (simp [*, errW_none, errW_some] <;> rfl), by repeat (first | (with_reducible first | exact HB.out | apply below_alloc | apply pw_below_drewN | apply below_drew1) | exact HB.out)⟩
                     ·rw [if_neg c29] at H
                      exact absurd H (by simp)
                    ·rw [if_neg c28] at H
                     exact absurd H (by simp)
                   ·rw [if_neg c27] at H
                    exact absurd H (by simp)
                  ·rw [if_neg c26] at H
                   exact absurd H (by simp)
                 ·replace c24 := Bool.eq_false_iff.mpr c24
                  subst c24
                  have H1 : ((gangsawref49_Works.f kj21 l0 l1).bind fun t397 => (if (t397.length : Int) > 0 then (some 3) else (some 0))) = some r := by rw [if_neg (show ¬ (false = true) by decide)] at H; exact H
                  clear H
                  have H := H1
                  clear H1
                  replace H := Option.bind_eq_some_iff.mp H
                  obtain ⟨t397, A310, H⟩ := H
                  replace H : (if (t397.length : Int) > 0 then (some 3) else (some 0)) = some r := H
                  have A31 := Aside0.mk A310
                  clear A310
                  by_cases c32 : (t397.length : Int) > 0
                  ·rw [if_pos c32] at H
                   have c32b0 : decide (0 < (t397.length : Int)) = true := decide_eq_true c32
                   have c32b1 : decide (0 < t397.length) = true := decide_eq_true (by omega)
                   clear c32
                   obtain rfl := Option.some.inj H
                   simp only [Option.some.injEq, Prod.mk.injEq] at H
                   obtain ⟨rfl⟩ := H
                   go_wp2_with (first | (go_at_call 27; (with_reducible refine (gangsawref49_Works.calls kj21 _ _ l0 _ _ l1 t397 _ ?side1 ?side2 ?side3 ?side4 A31.out).mono ?_); (case side1 => repeat (first | exact (Kd.C_below HR0.out HB.out) | (with_reducible refine Kd.C_alloc ?_ _) | (with_reducible refine Kd.C_drewN ?_ _) | (with_reducible refine Kd.C_drew ?_))); (case side2 => exact HC0.out); (case side3 => repeat (first | exact (Kd.C_below HR1.out HB.out) | (with_reducible refine Kd.C_alloc ?_ _) | (with_reducible refine Kd.C_drewN ?_ _) | (with_reducible refine Kd.C_drew ?_))); (case side4 => exact HC1.out); rintro e w33 ⟨v398, rfl, ho0, hb⟩; have n0_ := Aside0.mk (Kd.R_lower ho0 (below_size (by repeat (first | (with_reducible first | exact HB.out | apply below_alloc | apply pw_below_drewN | apply below_drew1) | exact HB.out)))); have n1_ := Aside0.mk (below_step (by repeat (first | (with_reducible first | exact HB.out | apply below_alloc | apply pw_below_drewN | apply below_drew1) | exact HB.out)) hb); clear HB; have HO399 := n0_; have HB := n1_; clear n0_ n1_; (try clear hb); (try clear hb2); (try clear hk); (try clear hi); (try clear ho0); obtain ⟨Ao34, co34, eo34⟩ := Kd.R_slice HO399.out; subst eo34))
                   go_ret
                   exact ⟨by first | rfl | (simp [errW_none, errW_some] <;> rfl) | (simp [*, errW_none, errW_some] <;> rfl), by repeat (first | (with_reducible first | exact HB.out | apply below_alloc | apply pw_below_drewN | apply below_drew1) | exact HB.out)⟩
                  ·rw [if_neg c32] at H
                   have c32b0 : decide (0 < (t397.length : Int)) = false := decide_eq_false c32
                   have c32b1 : decide (0 < t397.length) = false := decide_eq_false (by omega)
                   clear c32
                   obtain rfl := Option.some.inj H
                   simp only [Option.some.injEq, Prod.mk.injEq] at H
                   obtain ⟨rfl⟩ := H
                   go_wp2_with (first | (go_at_call 27; (with_reducible refine (gangsawref49_Works.calls kj21 _ _ l0 _ _ l1 t397 _ ?side1 ?side2 ?side3 ?side4 A31.out).mono ?_); (case side1 => repeat (first | exact (Kd.C_below HR0.out HB.out) | (with_reducible refine Kd.C_alloc ?_ _) | (with_reducible refine Kd.C_drewN ?_ _) | (with_reducible refine Kd.C_drew ?_))); (case side2 => exact HC0.out); (case side3 => repeat (first | exact (Kd.C_below HR1.out HB.out) | (with_reducible refine Kd.C_alloc ?_ _) | (with_reducible refine Kd.C_drewN ?_ _) | (with_reducible refine Kd.C_drew ?_))); (case side4 => exact HC1.out); rintro e w35 ⟨v398, rfl, ho0, hb⟩; have n0_ := Aside0.mk (Kd.R_lower ho0 (below_size (by repeat (first | (with_reducible first | exact HB.out | apply below_alloc | apply pw_below_drewN | apply below_drew1) | exact HB.out)))); have n1_ := Aside0.mk (below_step (by repeat (first | (with_reducible first | exact HB.out | apply below_alloc | apply pw_below_drewN | apply below_drew1) | exact HB.out)) hb); clear HB; have HO399 := n0_; have HB := n1_; clear n0_ n1_; (try clear hb); (try clear hb2); (try clear hk); (try clear hi); (try clear ho0); obtain ⟨Ao36, co36, eo36⟩ := Kd.R_slice HO399.out; subst eo36))
                   go_ret
                   exact ⟨by first | rfl | (simp [errW_none, errW_some] <;> rfl) | (simp [*, errW_none, errW_some] <;> rfl), by repeat (first | (with_reducible first | exact HB.out | apply below_alloc | apply pw_below_drewN | apply below_drew1) | exact HB.out)⟩

end Go.Proofs.Ytpfggghpkdnppaa.P
