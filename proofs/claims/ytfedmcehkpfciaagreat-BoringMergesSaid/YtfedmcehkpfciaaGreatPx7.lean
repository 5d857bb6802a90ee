/- What functions of the program return: each contract says so of one function, for every input at which its pure function yields. -/
import Derived.Test.YtfedmcehkpfciaaGreatPx0
namespace Go.Proofs.YtfedmcehkpfciaaGreat.P
open Go.RowKit Go.Proofs.YtfedmcehkpfciaaGreatW.PrintWords Go.Proofs.YtfedmcehkpfciaaGreatW.PrintLast Go.Proofs.YtfedmcehkpfciaaGreatW.PrintMore
attribute [local go_sem] max2_int min2_int max_two min_two max_three min_three max_four min_four   -- for this text's walks alone
set_option linter.unusedVariables false
set_option linter.unusedSimpArgs false

def gangsawref14_stacked.l0 : Nat → Int → ByteArray → Int → Int → List (S48) → Option (Bool)
 | 0, _, _, _, _, _ => none
 | k + 1, x3, x123000, x123001, x123002, x123003 => if x3 < (x123003.length : Int) then (if 0 ≤ x3 then (if 0 ≤ (wrap64 (x3 - 1)) then (if (wrap64 (x3 - 1)) < (x123003.length : Int) then (if ((rd_T48 x123003 x3).f0) < ((rd_T48 x123003 (wrap64 (x3 - 1))).f1) then (some false) else (gangsawref14_stacked.l0 k (wrap64 (x3 + 1)) x123000 x123001 x123002 x123003)) else (none)) else (none)) else (none)) else (some true)
def gangsawref14_stacked.f (k : Nat) (a0_0 : ByteArray) (a0_1 : Int) (a0_2 : Int) (l0_3 : List (S48)) : Option (Bool) := gangsawref14_stacked.l0 k 1 a0_0 a0_1 a0_2 l0_3
theorem gangsawref14_stacked.mono_l : ∀ k, (∀ y0 y1 y2 y3 y4, LeO (gangsawref14_stacked.l0 k y0 y1 y2 y3 y4) (gangsawref14_stacked.l0 (k + 1) y0 y1 y2 y3 y4))
 | 0 => fun _ _ _ _ _ r h => by simp [gangsawref14_stacked.l0] at h
 | k + 1 => by
  have ih0 := gangsawref14_stacked.mono_l k
  ·intro y0 y1 y2 y3 y4
   unfold gangsawref14_stacked.l0
   repeat' first
   | (with_reducible exact ih0 _ _ _ _ _)
   | (with_reducible exact LeO.refl _)
   | (with_reducible exact LeO.none _)
   | (with_reducible refine LeO.ite ?_ ?_)
   | (with_reducible refine LeO.bind ?_ (fun _ => ?_))
   | exact ih0 _ _ _ _ _
   | exact LeO.none _
   | refine LeO.ite ?_ ?_
   | refine LeO.bind ?_ (fun _ => ?_)
theorem gangsawref14_stacked.mono : ∀ a0 a1 a2 a3 k, LeO (gangsawref14_stacked.f k a0 a1 a2 a3) (gangsawref14_stacked.f (k + 1) a0 a1 a2 a3) := by
 intro a0 a1 a2 a3 k
 have ih0 := gangsawref14_stacked.mono_l k
 unfold gangsawref14_stacked.f
 repeat' first
   | (with_reducible exact ih0 _ _ _ _ _)
   | (with_reducible exact LeO.refl _)
   | (with_reducible exact LeO.none _)
   | (with_reducible refine LeO.ite ?_ ?_)
   | (with_reducible refine LeO.bind ?_ (fun _ => ?_))
   | exact ih0 _ _ _ _ _
   | exact LeO.none _
   | refine LeO.ite ?_ ?_
   | refine LeO.bind ?_ (fun _ => ?_)
set_option maxHeartbeats 8000000 in
set_option maxRecDepth 100000 in
theorem gangsawref14_stacked.calls (k : Nat) (a0_0 : ByteArray) (a0_1 : Int) (a0_2 : Int) (A0_3 : Option Addr) (c0_3 : Nat) (l0_3 : List (S48)) (r : Bool) (w : World) (hr0_3 : Kd.C k48 w A0_3 l0_3.length l0_3) (hc0_3 : l0_3.length ≤ c0_3) (h : gangsawref14_stacked.f k a0_0 a0_1 a0_2 l0_3 = some r) :
  Calls Tryz.prog 55 #[.agg #[.string a0_0, .int .i64 a0_1, .int .i64 a0_2, .slice A0_3 l0_3.length c0_3]] w fun e w' => e = .returned (.bool r) ∧ Below w.heap.size w w' := by
 have hu33 := Tryz.underlying33
 have HR0_3 := aK hr0_3
 have HC0_3 := aK hc0_3
 clear hr0_3 hc0_3
 have HB := aK (Below.refl w.heap.size w)
 have H : (gangsawref14_stacked.l0 k 1 a0_0 a0_1 a0_2 l0_3) = some r := h
 clear h
 have H' := aK H
 clear H
 go_enter Tryz.func55, Tryz.ntmps55
 go_wp2_with (first | ((with_reducible refine gate_dst (N := 1) rfl ?_); refine box_event ?hg (N := 1) ?hd (cs := #[.string a0_0, .int .i64 a0_1, .int .i64 a0_2, .slice A0_3 l0_3.length c0_3]) (t := 33) ?hr ?_; (case hd => rfl); (case hg => rfl); (case hr => first | (go_simp; done) | (go_simp; rfl)); intro gb122 hg w2 hbox hb; have n0_ := aK (yT (HB.out) hb); have n1_ := aK (hbox); have n2_ := aK ((by rw [hg]; exact (yZ (HB.out)) : w.heap.size ≤ gb122)); have n3_ := n2_; clear HB; have HB := n0_; have BK122 := n1_; have GW122 := n2_; have GE122 := n3_; clear n0_ n1_ n2_ n3_; clear hb hbox hg))
 go_loopg [3] k (fun kq v3 w' => ∃ (x3_1 : Int), v3 = .int .i64 x3_1 ∧ Aside0 (gangsawref14_stacked.l0 kq x3_1 a0_0 a0_1 a0_2 l0_3 = some r) ∧ Aside0 (kq ≤ k) ∧ Aside0 (w'.heap[gb122]? = some (.cells #[.string a0_0, .int .i64 a0_1, .int .i64 a0_2, (.slice A0_3 l0_3.length c0_3)] 33 (0, 0))) ∧ Aside0 (Below w.heap.size w w'))
 case atStart => exact ⟨(1), (by first | rfl | (simp; done) | (simp [*]; done)), H', ⟨Nat.le_refl _⟩, ⟨BK122.out⟩, ⟨by repeat (first | (with_reducible first | exact HB.out | apply yA | apply yN | apply yD | refine yS ?_ GE122.out) | exact HB.out)⟩⟩
 case round =>
  clear H'
  try clear p2
  obtain ⟨x3_1, rfl, HA, HK1, BK122, HB⟩ := hrel
  cases gk with
  | zero => exact absurd HA.out (by simp [gangsawref14_stacked.l0])
  | succ k1 =>
   have H := HA.out
   clear HA
   simp only [gangsawref14_stacked.l0] at H
   by_cases c3 : x3_1 < (l0_3.length : Int)
   rotate_left
   ·rw [if_neg c3] at H
    have c3b0 : decide (x3_1 < (l0_3.length : Int)) = false := decide_eq_false c3
    clear c3
    obtain rfl := Option.some.inj H
    simp only [Option.some.injEq, Prod.mk.injEq] at H
    obtain ⟨rfl⟩ := H
    have hcz11_0 := zI BK122 0 rfl
    have hcz11_1 := zI BK122 1 rfl
    have hcz11_2 := zI BK122 2 rfl
    have hcz11_3 := zI BK122 3 rfl
    have hfz11_0 := zF BK122.out 0
    have hfz11_1 := zF BK122.out 1
    have hfz11_2 := zF BK122.out 2
    have hfz11_3 := zF BK122.out 3
    go_wp2
    go_ret
    exact ⟨rfl, by repeat (first | (with_reducible first | exact HB.out | apply yA | apply yN | apply yD | refine yS ?_ GE122.out) | exact HB.out)⟩
   rw [if_pos c3] at H
   have c3b0 : decide (x3_1 < (l0_3.length : Int)) = true := decide_eq_true c3
   clear c3
   by_cases c4 : 0 ≤ x3_1
   rotate_left
   ·rw [if_neg c4] at H
    exact absurd H (by simp)
   rw [if_pos c4] at H
   have c4b0 : decide (0 ≤ x3_1) = true := decide_eq_true c4
   clear c4
   obtain ⟨ji5, hji5⟩ : ∃ j_ : Int, (wrap64 (x3_1 - 1)) = j_ := ⟨_, rfl⟩
   replace H : (if 0 ≤ (ji5) then (if (ji5) < (l0_3.length : Int) then (if ((rd_T48 l0_3 x3_1).f0) < ((rd_T48 l0_3 (ji5)).f1) then (some false) else (gangsawref14_stacked.l0 k1 (wrap64 (x3_1 + 1)) a0_0 a0_1 a0_2 l0_3)) else (none)) else (none)) = some r := by first | (rw [hji5] at H; exact H) | (simp only [hji5] at H ⊢; exact H)
   have hji5w : (IntKind.i64.wrap (x3_1 - 1)) = ji5 := (i64_w _).trans hji5
   by_cases c6 : 0 ≤ (ji5)
   rotate_left
   ·rw [if_neg c6] at H
    exact absurd H (by simp)
   rw [if_pos c6] at H
   have c6b0 : decide (0 ≤ (ji5)) = true := decide_eq_true c6
   clear c6
   by_cases c7 : (ji5) < (l0_3.length : Int)
   rotate_left
   ·rw [if_neg c7] at H
    exact absurd H (by simp)
   rw [if_pos c7] at H
   have c7b0 : decide ((ji5) < (l0_3.length : Int)) = true := decide_eq_true c7
   clear c7
   by_cases c8 : ((rd_T48 l0_3 x3_1).f0) < ((rd_T48 l0_3 (ji5)).f1)
   ·rw [if_pos c8] at H
    have c8b0 : decide (((rd_T48 l0_3 x3_1).f0) < ((rd_T48 l0_3 (ji5)).f1)) = true := decide_eq_true c8
    clear c8
    obtain rfl := Option.some.inj H
    simp only [Option.some.injEq, Prod.mk.injEq] at H
    obtain ⟨rfl⟩ := H
    have hcz9_0 := zI BK122 0 rfl
    have hcz9_1 := zI BK122 1 rfl
    have hcz9_2 := zI BK122 2 rfl
    have hcz9_3 := zI BK122 3 rfl
    have hfz9_0 := zF BK122.out 0
    have hfz9_1 := zF BK122.out 1
    have hfz9_2 := zF BK122.out 2
    have hfz9_3 := zF BK122.out 3
    have p123 : 0 ≤ (x3_1 : Int) := of_decide_eq_true (by assumption)
    have q123 : x3_1 < (l0_3.length : Int) := of_decide_eq_true (by assumption)
    obtain ⟨ad123, e123, hx123_0, hx123_1, hx123_2⟩ := at_T48 HR0_3.out x3_1 p123 q123
    cases e123
    replace hx123_0 := (HB.out.cell (World.block_lt_of_cell? w _ hx123_0)).trans hx123_0
    replace hx123_1 := (HB.out.cell (World.block_lt_of_cell? w _ hx123_1)).trans hx123_1
    replace hx123_2 := (HB.out.cell (World.block_lt_of_cell? w _ hx123_2)).trans hx123_2
    replace p123 := eq_true p123
    replace q123 := eq_true q123
    have p124 : 0 ≤ ((ji5) : Int) := of_decide_eq_true (by assumption)
    have q124 : (ji5) < (l0_3.length : Int) := of_decide_eq_true (by assumption)
    obtain ⟨ad124, e124, hx124_0, hx124_1, hx124_2⟩ := at_T48 HR0_3.out (ji5) p124 q124
    obtain rfl : ad123 = ad124 := (by injection e124)
    replace hx124_0 := (HB.out.cell (World.block_lt_of_cell? w _ hx124_0)).trans hx124_0
    replace hx124_1 := (HB.out.cell (World.block_lt_of_cell? w _ hx124_1)).trans hx124_1
    replace hx124_2 := (HB.out.cell (World.block_lt_of_cell? w _ hx124_2)).trans hx124_2
    replace p124 := eq_true p124
    replace q124 := eq_true q124
    go_wp2
    repeat (go_quiet (fail); try go_wp2)
    go_ret
    exact ⟨by first | rfl | (simp [errW_none, errW_some] <;> rfl) | (simp only [← hji5]; first | rfl | (simp [errW_none, errW_some] <;> rfl)) | (simp [*, errW_none, errW_some] <;> rfl), by repeat (first | (with_reducible first | exact HB.out | apply yA | apply yN | apply yD | refine yS ?_ GE122.out) | exact HB.out)⟩
   rw [if_neg c8] at H
   have c8b0 : decide (((rd_T48 l0_3 x3_1).f0) < ((rd_T48 l0_3 (ji5)).f1)) = false := decide_eq_false c8
   clear c8
   have H' := aK H
   clear H
   have hcz10_0 := zI BK122 0 rfl
   have hcz10_1 := zI BK122 1 rfl
   have hcz10_2 := zI BK122 2 rfl
   have hcz10_3 := zI BK122 3 rfl
   have hfz10_0 := zF BK122.out 0
   have hfz10_1 := zF BK122.out 1
   have hfz10_2 := zF BK122.out 2
   have hfz10_3 := zF BK122.out 3
   have p123 : 0 ≤ (x3_1 : Int) := of_decide_eq_true (by assumption)
   have q123 : x3_1 < (l0_3.length : Int) := of_decide_eq_true (by assumption)
   obtain ⟨ad123, e123, hx123_0, hx123_1, hx123_2⟩ := at_T48 HR0_3.out x3_1 p123 q123
   cases e123
   replace hx123_0 := (HB.out.cell (World.block_lt_of_cell? w _ hx123_0)).trans hx123_0
   replace hx123_1 := (HB.out.cell (World.block_lt_of_cell? w _ hx123_1)).trans hx123_1
   replace hx123_2 := (HB.out.cell (World.block_lt_of_cell? w _ hx123_2)).trans hx123_2
   replace p123 := eq_true p123
   replace q123 := eq_true q123
   have p124 : 0 ≤ ((ji5) : Int) := of_decide_eq_true (by assumption)
   have q124 : (ji5) < (l0_3.length : Int) := of_decide_eq_true (by assumption)
   obtain ⟨ad124, e124, hx124_0, hx124_1, hx124_2⟩ := at_T48 HR0_3.out (ji5) p124 q124
   obtain rfl : ad123 = ad124 := (by injection e124)
   replace hx124_0 := (HB.out.cell (World.block_lt_of_cell? w _ hx124_0)).trans hx124_0
   replace hx124_1 := (HB.out.cell (World.block_lt_of_cell? w _ hx124_1)).trans hx124_1
   replace hx124_2 := (HB.out.cell (World.block_lt_of_cell? w _ hx124_2)).trans hx124_2
   replace p124 := eq_true p124
   replace q124 := eq_true q124
   go_wp2
   repeat (go_quiet (fail); try go_wp2)
   go_roundg k1
   case measure => have := HK1.out; omega
   case rel => exact ⟨(wrap64 (x3_1 + 1)), (by first | rfl | (simp; done) | (simp [*]; done)), H', ⟨by have := HK1.out; omega⟩, ⟨BK122.out⟩, ⟨by repeat (first | (with_reducible first | exact HB.out | apply yA | apply yN | apply yD | refine yS ?_ GE122.out) | exact HB.out)⟩⟩

def gangsawref09_letter.f (a0 : Int) : Option (Bool) := if a0 ≥ 97 then (if a0 ≤ 122 then (some true) else (if a0 ≥ 65 then (some (decide (a0 ≤ 90))) else (some false))) else (if a0 ≥ 65 then (some (decide (a0 ≤ 90))) else (some false))
set_option maxHeartbeats 8000000 in
set_option maxRecDepth 100000 in
theorem gangsawref09_letter.calls (a0 : Int) (r : Bool) (w : World) (h : gangsawref09_letter.f a0 = some r) :
  Calls Tryz.prog 165 #[.int .u8 a0] w fun e w' => e = .returned (.bool r) ∧ Drawn0 w w' := by
 have H : (if a0 ≥ 97 then (if a0 ≤ 122 then (some true) else (if a0 ≥ 65 then (some (decide (a0 ≤ 90))) else (some false))) else (if a0 ≥ 65 then (some (decide (a0 ≤ 90))) else (some false))) = some r := h
 clear h
 by_cases c2 : a0 ≥ 97
 rotate_left
 ·rw [if_neg c2] at H
  have c2b0 : decide (97 ≤ a0) = false := decide_eq_false c2
  clear c2
  by_cases c5 : a0 ≥ 65
  ·rw [if_pos c5] at H
   have c5b0 : decide (65 ≤ a0) = true := decide_eq_true c5
   clear c5
   obtain rfl := Option.some.inj H
   simp only [Option.some.injEq, Prod.mk.injEq] at H
   obtain ⟨rfl⟩ := H
   go_enter Tryz.func165, Tryz.ntmps165
   go_wp2
   go_ret
   exact ⟨by first | rfl | (simp; done) | (simp [*]; done), by repeat (first | exact Drawn0.refl _ | apply Drawn0.step)⟩
  rw [if_neg c5] at H
  have c5b0 : decide (65 ≤ a0) = false := decide_eq_false c5
  clear c5
  obtain rfl := Option.some.inj H
  simp only [Option.some.injEq, Prod.mk.injEq] at H
  obtain ⟨rfl⟩ := H
  go_enter Tryz.func165, Tryz.ntmps165
  go_wp2
  go_ret
  exact ⟨by first | rfl | (simp; done) | (simp [*]; done), by repeat (first | exact Drawn0.refl _ | apply Drawn0.step)⟩
 rw [if_pos c2] at H
 have c2b0 : decide (97 ≤ a0) = true := decide_eq_true c2
 clear c2
 by_cases c3 : a0 ≤ 122
 ·rw [if_pos c3] at H
  have c3b0 : decide (a0 ≤ 122) = true := decide_eq_true c3
  clear c3
  obtain rfl := Option.some.inj H
  simp only [Option.some.injEq, Prod.mk.injEq] at H
  obtain ⟨rfl⟩ := H
  go_enter Tryz.func165, Tryz.ntmps165
  go_wp2
  go_ret
  exact ⟨by first | rfl | (simp; done) | (simp [*]; done), by repeat (first | exact Drawn0.refl _ | apply Drawn0.step)⟩
 rw [if_neg c3] at H
 have c3b0 : decide (a0 ≤ 122) = false := decide_eq_false c3
 clear c3
 by_cases c4 : a0 ≥ 65
 ·rw [if_pos c4] at H
  have c4b0 : decide (65 ≤ a0) = true := decide_eq_true c4
  clear c4
  obtain rfl := Option.some.inj H
  simp only [Option.some.injEq, Prod.mk.injEq] at H
  obtain ⟨rfl⟩ := H
  go_enter Tryz.func165, Tryz.ntmps165
  go_wp2
  go_ret
  exact ⟨by first | rfl | (simp; done) | (simp [*]; done), by repeat (first | exact Drawn0.refl _ | apply Drawn0.step)⟩
 rw [if_neg c4] at H
 have c4b0 : decide (65 ≤ a0) = false := decide_eq_false c4
 clear c4
 obtain rfl := Option.some.inj H
 simp only [Option.some.injEq, Prod.mk.injEq] at H
 obtain ⟨rfl⟩ := H
 go_enter Tryz.func165, Tryz.ntmps165
 go_wp2
 go_ret
 exact ⟨by first | rfl | (simp; done) | (simp [*]; done), by repeat (first | exact Drawn0.refl _ | apply Drawn0.step)⟩

def gangsawref09_digit.f (a0 : Int) : Option (Bool) := if a0 ≥ 48 then (some (decide (a0 ≤ 57))) else (some false)
set_option maxHeartbeats 8000000 in
set_option maxRecDepth 100000 in
theorem gangsawref09_digit.calls (a0 : Int) (r : Bool) (w : World) (h : gangsawref09_digit.f a0 = some r) :
  Calls Tryz.prog 191 #[.int .u8 a0] w fun e w' => e = .returned (.bool r) ∧ Drawn0 w w' := by
 have H : (if a0 ≥ 48 then (some (decide (a0 ≤ 57))) else (some false)) = some r := h
 clear h
 by_cases c2 : a0 ≥ 48
 ·rw [if_pos c2] at H
  have c2b0 : decide (48 ≤ a0) = true := decide_eq_true c2
  clear c2
  obtain rfl := Option.some.inj H
  simp only [Option.some.injEq, Prod.mk.injEq] at H
  obtain ⟨rfl⟩ := H
  go_enter Tryz.func191, Tryz.ntmps191
  go_wp2
  go_ret
  exact ⟨by first | rfl | (simp; done) | (simp [*]; done), by repeat (first | exact Drawn0.refl _ | apply Drawn0.step)⟩
 rw [if_neg c2] at H
 have c2b0 : decide (48 ≤ a0) = false := decide_eq_false c2
 clear c2
 obtain rfl := Option.some.inj H
 simp only [Option.some.injEq, Prod.mk.injEq] at H
 obtain ⟨rfl⟩ := H
 go_enter Tryz.func191, Tryz.ntmps191
 go_wp2
 go_ret
 exact ⟨by first | rfl | (simp; done) | (simp [*]; done), by repeat (first | exact Drawn0.refl _ | apply Drawn0.step)⟩

def gangsawref09_part.f (a0 : Int) : Option (Bool) := (gangsawref09_digit.f a0).bind fun t125 => (if t125 = true then (some true) else ((gangsawref09_letter.f a0).bind fun t126 => (if t126 = true then (some true) else (some (a0 == 95)))))
set_option maxHeartbeats 8000000 in
set_option maxRecDepth 100000 in
theorem gangsawref09_part.calls (a0 : Int) (r : Bool) (w : World) (h : gangsawref09_part.f a0 = some r) :
  Calls Tryz.prog 164 #[.int .u8 a0] w fun e w' => e = .returned (.bool r) ∧ Drawn0 w w' := by
 have H : ((gangsawref09_digit.f a0).bind fun t125 => (if t125 = true then (some true) else ((gangsawref09_letter.f a0).bind fun t126 => (if t126 = true then (some true) else (some (a0 == 95)))))) = some r := h
 clear h
 replace H := Option.bind_eq_some_iff.mp H
 obtain ⟨t125, A20, H⟩ := H
 replace H : (if t125 = true then (some true) else ((gangsawref09_letter.f a0).bind fun t126 => (if t126 = true then (some true) else (some (a0 == 95))))) = some r := H
 have A2 := aK A20
 clear A20
 by_cases c3 : t125 = true
 ·subst c3
  have H1 : (some true) = some r := by rw [if_pos rfl] at H; exact H
  clear H
  have H := H1
  clear H1
  obtain rfl := Option.some.inj H
  simp only [Option.some.injEq, Prod.mk.injEq] at H
  obtain ⟨rfl⟩ := H
  go_enter Tryz.func164, Tryz.ntmps164
  go_wp2_with (first | ((with_reducible refine gate_callee (f := 191) rfl ?_); refine goesL_ (some 4) rfl rfl Tryz.func191 (by kernel_rfl) rfl #[.int .u8 a0] rfl (by (try simp only [List.map_toArray, List.map_cons, List.map_nil]); first | done | rfl | (simp only [List.length_drop, List.length_take]; rfl)) ?_; (with_reducible refine (gangsawref09_digit.calls a0 true _ A2.out).mono ?_); rintro e w' ⟨rfl, ⟨nd, rfl⟩⟩; refine ⟨_, rfl, ?_⟩))
  go_ret
  exact ⟨by first | rfl | (simp; done) | (simp [*]; done), by repeat (first | exact Drawn0.refl _ | apply Drawn0.step)⟩
 replace c3 := Bool.eq_false_iff.mpr c3
 subst c3
 have H1 : ((gangsawref09_letter.f a0).bind fun t126 => (if t126 = true then (some true) else (some (a0 == 95)))) = some r := by rw [if_neg (show ¬ (false = true) by decide)] at H; exact H
 clear H
 have H := H1
 clear H1
 replace H := Option.bind_eq_some_iff.mp H
 obtain ⟨t126, A40, H⟩ := H
 replace H : (if t126 = true then (some true) else (some (a0 == 95))) = some r := H
 have A4 := aK A40
 clear A40
 by_cases c5 : t126 = true
 ·subst c5
  have H1 : (some true) = some r := by rw [if_pos rfl] at H; exact H
  clear H
  have H := H1
  clear H1
  obtain rfl := Option.some.inj H
  simp only [Option.some.injEq, Prod.mk.injEq] at H
  obtain ⟨rfl⟩ := H
  go_enter Tryz.func164, Tryz.ntmps164
  go_wp2_with (first | ((with_reducible refine gate_callee (f := 191) rfl ?_); refine goesL_ (some 4) rfl rfl Tryz.func191 (by kernel_rfl) rfl #[.int .u8 a0] rfl (by (try simp only [List.map_toArray, List.map_cons, List.map_nil]); first | done | rfl | (simp only [List.length_drop, List.length_take]; rfl)) ?_; (with_reducible refine (gangsawref09_digit.calls a0 false _ A2.out).mono ?_); rintro e w' ⟨rfl, ⟨nd, rfl⟩⟩; refine ⟨_, rfl, ?_⟩) | (go_at_call 165; (with_reducible refine (gangsawref09_letter.calls a0 true _ A4.out).mono ?_); rintro e w' ⟨rfl, ⟨nd, rfl⟩⟩))
  go_ret
  exact ⟨by first | rfl | (simp; done) | (simp [*]; done), by repeat (first | exact Drawn0.refl _ | apply Drawn0.step)⟩
 replace c5 := Bool.eq_false_iff.mpr c5
 subst c5
 have H1 : (some (a0 == 95)) = some r := by rw [if_neg (show ¬ (false = true) by decide)] at H; exact H
 clear H
 have H := H1
 clear H1
 obtain rfl := Option.some.inj H
 simp only [Option.some.injEq, Prod.mk.injEq] at H
 obtain ⟨rfl⟩ := H
 go_enter Tryz.func164, Tryz.ntmps164
 go_wp2_with (first | ((with_reducible refine gate_callee (f := 191) rfl ?_); refine goesL_ (some 4) rfl rfl Tryz.func191 (by kernel_rfl) rfl #[.int .u8 a0] rfl (by (try simp only [List.map_toArray, List.map_cons, List.map_nil]); first | done | rfl | (simp only [List.length_drop, List.length_take]; rfl)) ?_; (with_reducible refine (gangsawref09_digit.calls a0 false _ A2.out).mono ?_); rintro e w' ⟨rfl, ⟨nd, rfl⟩⟩; refine ⟨_, rfl, ?_⟩) | (go_at_call 165; (with_reducible refine (gangsawref09_letter.calls a0 false _ A4.out).mono ?_); rintro e w' ⟨rfl, ⟨nd, rfl⟩⟩))
 go_ret
 exact ⟨by first | rfl | (simp; done) | (simp [*]; done), by repeat (first | exact Drawn0.refl _ | apply Drawn0.step)⟩

end Go.Proofs.YtfedmcehkpfciaaGreat.P
