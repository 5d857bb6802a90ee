/- What functions of the program return: each contract says so of one function, for every input at which its pure function yields. -/
import Derived.Test.YthkpgjjakdbbfaaPx0
import Derived.Test.YthkpgjjakdbbfaaPx11
import Derived.Test.YthkpgjjakdbbfaaPx12
import Derived.Test.YthkpgjjakdbbfaaPx22
import Derived.Test.YthkpgjjakdbbfaaPx28
import Derived.Test.YthkpgjjakdbbfaaPx30
namespace Go.Proofs.Ythkpgjjakdbbfaa.P
open Go.RowKit Go.Proofs.YthkpgjjakdbbfaaW.PrintWords Go.Proofs.YthkpgjjakdbbfaaW.PrintLast Go.Proofs.YthkpgjjakdbbfaaW.PrintMore
attribute [local go_sem] max2_int min2_int max_two min_two max_three min_three max_four min_four   -- for this text's walks alone
set_option linter.unusedVariables false
set_option linter.unusedSimpArgs false

mutual
def gangsawref33_Least.j0 : Nat → Int → Bool → Int → Int → Int → Int → Option (Int × Int)
 | 0, _, _, _, _, _, _ => none
 | k + 1, x0, x26, x593000, x593001, x594000, x594001 => if x26 = true then (some (0, 1)) else (gangsawref33_Least.l0 k x0 x0 x593000 x593001 x594000 x594001)
def gangsawref33_Least.l0 : Nat → Int → Int → Int → Int → Int → Int → Option (Int × Int)
 | 0, _, _, _, _, _, _ => none
 | k + 1, x0, x8, x593000, x593001, x594000, x594001 => if x8 ≤ 59 then ((gangsawref33_Confidence.f k x8 x0 x593000 x593001).bind fun bt596 => (if bt596.2.2 = 0 then ((gangsawref04_Cmp.f bt596.1 bt596.2.1 x594000 x594001).bind fun t600 => (if t600 ≥ 0 then (some (x8, 0)) else (gangsawref33_Least.l0 k x0 (wrap64 (x8 + 1)) x593000 x593001 x594000 x594001))) else (some (0, 9)))) else (some (0, 9))
end
def gangsawref33_Least.f (k : Nat) (a0 : Int) (a1_0 : Int) (a1_1 : Int) (a2_0 : Int) (a2_1 : Int) : Option (Int × Int) := (gangsawref33_unit.f k a1_0 a1_1).bind fun t594 => (if t594 = true then ((gangsawref33_unit.f k a2_0 a2_1).bind fun t595 => (if t595 = true then (if a0 < 1 then (gangsawref33_Least.j0 k a0 true a1_0 a1_1 a2_0 a2_1) else (gangsawref33_Least.j0 k a0 (decide (a0 > 59)) a1_0 a1_1 a2_0 a2_1)) else (gangsawref33_Least.j0 k a0 true a1_0 a1_1 a2_0 a2_1))) else (gangsawref33_Least.j0 k a0 true a1_0 a1_1 a2_0 a2_1))
set_option maxHeartbeats 8000000 in
set_option maxRecDepth 100000 in
theorem gangsawref33_Least.calls (k : Nat) (a0 : Int) (a1_0 : Int) (a1_1 : Int) (a2_0 : Int) (a2_1 : Int) (r1 : Int) (r2 : Int) (w : World) (h : gangsawref33_Least.f k a0 a1_0 a1_1 a2_0 a2_1 = some (r1, r2)) :
  Calls Try.prog 23 #[.int .i64 a0, .agg #[.int .i64 a1_0, .int .i64 a1_1], .agg #[.int .i64 a2_0, .int .i64 a2_1]] w fun e w' => e = .returned (.tuple #[.int .i64 r1, .int .i64 r2]) ∧ Below w.heap.size w w' := by
 have hu33 := Try.underlying33
 have HB := aK (Below.refl w.heap.size w)
 have H : ((gangsawref33_unit.f k a1_0 a1_1).bind fun t594 => (if t594 = true then ((gangsawref33_unit.f k a2_0 a2_1).bind fun t595 => (if t595 = true then (if a0 < 1 then (gangsawref33_Least.j0 k a0 true a1_0 a1_1 a2_0 a2_1) else (gangsawref33_Least.j0 k a0 (decide (a0 > 59)) a1_0 a1_1 a2_0 a2_1)) else (gangsawref33_Least.j0 k a0 true a1_0 a1_1 a2_0 a2_1))) else (gangsawref33_Least.j0 k a0 true a1_0 a1_1 a2_0 a2_1))) = some (r1, r2) := h
 clear h
 have HC4 := aK H
 clear H
 go_enter Try.func23, Try.ntmps23
 go_upto_region 1 with (first | ((with_reducible refine gate_dst (N := 4) rfl ?_); refine box_event ?hg (N := 4) ?hd (cs := #[.int .i64 a1_0, .int .i64 a1_1]) (t := 33) ?hr ?_; (case hd => rfl); (case hg => rfl); (case hr => first | (go_simp; done) | (go_simp; rfl)); intro gb592 hg w5 hbox hb; have n0_ := aK (yT (HB.out) hb); have n1_ := aK (hbox); have n2_ := aK ((by rw [hg]; exact (yZ (HB.out)) : w.heap.size ≤ gb592)); have n3_ := n2_; clear HB; have HB := n0_; have BK592 := n1_; have GW592 := n2_; have GE592 := n3_; clear n0_ n1_ n2_ n3_; clear hb hbox hg) | ((with_reducible refine gate_dst (N := 5) rfl ?_); refine box_event ?hg (N := 5) ?hd (cs := #[.int .i64 a2_0, .int .i64 a2_1]) (t := 33) ?hr ?_; (case hd => rfl); (case hg => rfl); (case hr => first | (go_simp; done) | (go_simp; rfl)); intro gb593 hg w6 hbox hb; have n0_ := aK (zB (g := gb592) (o := .cells #[.int .i64 a1_0, .int .i64 a1_1] 33 (0, 0)) (BK592.out) hb); have n1_ := aK (yT (HB.out) hb); have n2_ := aK (hbox); have n3_ := aK ((by rw [hg]; exact (yZ (HB.out)) : w.heap.size ≤ gb593)); have n4_ := n3_; have n5_ := aK ((by rw [hg]; exact Nat.ne_of_lt (blk_lt (g := gb592) (o := .cells #[.int .i64 a1_0, .int .i64 a1_1] 33 (0, 0)) (BK592.out)) : gb592 ≠ gb593)); have n6_ := aK ((by rw [hg]; exact Nat.ne_of_gt (blk_lt (g := gb592) (o := .cells #[.int .i64 a1_0, .int .i64 a1_1] 33 (0, 0)) (BK592.out)) : gb593 ≠ gb592)); clear BK592; clear HB; have BK592 := n0_; have HB := n1_; have BK593 := n2_; have GW593 := n3_; have GE593 := n4_; have NB592_593 := n5_; have NB593_592 := n6_; clear n0_ n1_ n2_ n3_ n4_ n5_ n6_; clear hb hbox hg))
 (try simp only [Act.put, sA, sZ, sS])
 go_cut [26] (fun v26 wc => ∃ (kq : Nat) (x26_3 : Bool), v26 = .bool x26_3 ∧ Aside0 (gangsawref33_Least.j0 kq a0 x26_3 a1_0 a1_1 a2_0 a2_1 = some (r1, r2)) ∧ Aside0 (kq ≤ k) ∧ Aside0 (wc.heap[gb592]? = some (.cells #[.int .i64 a1_0, .int .i64 a1_1] 33 (0, 0))) ∧ Aside0 (wc.heap[gb593]? = some (.cells #[.int .i64 a2_0, .int .i64 a2_1] 33 (0, 0))) ∧ Aside0 (Below w.heap.size w wc))
 case first =>
  have H := HC4.out
  clear HC4
  replace H := Option.bind_eq_some_iff.mp H
  obtain ⟨t594, A70, H⟩ := H
  replace H : (if t594 = true then ((gangsawref33_unit.f k a2_0 a2_1).bind fun t595 => (if t595 = true then (if a0 < 1 then (gangsawref33_Least.j0 k a0 true a1_0 a1_1 a2_0 a2_1) else (gangsawref33_Least.j0 k a0 (decide (a0 > 59)) a1_0 a1_1 a2_0 a2_1)) else (gangsawref33_Least.j0 k a0 true a1_0 a1_1 a2_0 a2_1))) else (gangsawref33_Least.j0 k a0 true a1_0 a1_1 a2_0 a2_1)) = some (r1, r2) := H
  have A7 := aK A70
  clear A70
  by_cases c8 : t594 = true
  rotate_left
  ·replace c8 := Bool.eq_false_iff.mpr c8
   subst c8
   have H1 : (gangsawref33_Least.j0 k a0 true a1_0 a1_1 a2_0 a2_1) = some (r1, r2) := by rw [if_neg (show ¬ (false = true) by decide)] at H; exact H
   clear H
   have H := H1
   clear H1
   have H' := aK H
   clear H
   have hnb27 := NB592_593.out
   have hnc27 := NB593_592.out
   have hcz28_0 := zI BK592 0 rfl
   have hcz28_1 := zI BK592 1 rfl
   have hfz28_0 := zF BK592.out 0
   have hfz28_1 := zF BK592.out 1
   go_wp2_with (first | ((with_reducible refine gate_callee (f := 46) rfl ?_); refine goesL_ (some 12) rfl rfl Try.func46 (by kernel_rfl) rfl #[.agg #[.int .i64 a1_0, .int .i64 a1_1]] rfl (by (try simp only [List.map_toArray, List.map_cons, List.map_nil]); first | done | rfl | (simp only [List.length_drop, List.length_take]; rfl)) ?_; (with_reducible refine (gangsawref33_unit.calls k a1_0 a1_1 false _ A7.out).mono ?_); rintro e w29 ⟨rfl, hb⟩; refine ⟨_, rfl, ?_⟩; have n0_ := aK (zB (g := gb592) (o := .cells #[.int .i64 a1_0, .int .i64 a1_1] 33 (0, 0)) (BK592.out) hb); have n1_ := aK (zB (g := gb593) (o := .cells #[.int .i64 a2_0, .int .i64 a2_1] 33 (0, 0)) (BK593.out) hb); have n2_ := aK (yT (HB.out) hb); clear BK592; clear BK593; clear HB; have BK592 := n0_; have BK593 := n1_; have HB := n2_; clear n0_ n1_ n2_; (try clear hb)))
   go_meet
   case rel => exact ⟨_, (true), (by first | rfl | (simp; done) | (simp [*]; done)), H', ⟨by first | omega | exact Nat.le_refl _⟩, ⟨BK592.out⟩, ⟨BK593.out⟩, ⟨HB.out⟩⟩
  subst c8
  have H1 : ((gangsawref33_unit.f k a2_0 a2_1).bind fun t595 => (if t595 = true then (if a0 < 1 then (gangsawref33_Least.j0 k a0 true a1_0 a1_1 a2_0 a2_1) else (gangsawref33_Least.j0 k a0 (decide (a0 > 59)) a1_0 a1_1 a2_0 a2_1)) else (gangsawref33_Least.j0 k a0 true a1_0 a1_1 a2_0 a2_1))) = some (r1, r2) := by rw [if_pos rfl] at H; exact H
  clear H
  have H := H1
  clear H1
  replace H := Option.bind_eq_some_iff.mp H
  obtain ⟨t595, A90, H⟩ := H
  replace H : (if t595 = true then (if a0 < 1 then (gangsawref33_Least.j0 k a0 true a1_0 a1_1 a2_0 a2_1) else (gangsawref33_Least.j0 k a0 (decide (a0 > 59)) a1_0 a1_1 a2_0 a2_1)) else (gangsawref33_Least.j0 k a0 true a1_0 a1_1 a2_0 a2_1)) = some (r1, r2) := H
  have A9 := aK A90
  clear A90
  by_cases c10 : t595 = true
  rotate_left
  ·replace c10 := Bool.eq_false_iff.mpr c10
   subst c10
   have H1 : (gangsawref33_Least.j0 k a0 true a1_0 a1_1 a2_0 a2_1) = some (r1, r2) := by rw [if_neg (show ¬ (false = true) by decide)] at H; exact H
   clear H
   have H := H1
   clear H1
   have H' := aK H
   clear H
   have hnb22 := NB592_593.out
   have hnc22 := NB593_592.out
   have hcz23_0 := zI BK592 0 rfl
   have hcz23_1 := zI BK592 1 rfl
   have hfz23_0 := zF BK592.out 0
   have hfz23_1 := zF BK592.out 1
   go_wp2_with (first | ((with_reducible refine gate_callee (f := 46) rfl ?_); refine goesL_ (some 12) rfl rfl Try.func46 (by kernel_rfl) rfl #[.agg #[.int .i64 a1_0, .int .i64 a1_1]] rfl (by (try simp only [List.map_toArray, List.map_cons, List.map_nil]); first | done | rfl | (simp only [List.length_drop, List.length_take]; rfl)) ?_; (with_reducible refine (gangsawref33_unit.calls k a1_0 a1_1 true _ A7.out).mono ?_); rintro e w24 ⟨rfl, hb⟩; refine ⟨_, rfl, ?_⟩; have n0_ := aK (zB (g := gb592) (o := .cells #[.int .i64 a1_0, .int .i64 a1_1] 33 (0, 0)) (BK592.out) hb); have n1_ := aK (zB (g := gb593) (o := .cells #[.int .i64 a2_0, .int .i64 a2_1] 33 (0, 0)) (BK593.out) hb); have n2_ := aK (yT (HB.out) hb); clear BK592; clear BK593; clear HB; have BK592 := n0_; have BK593 := n1_; have HB := n2_; clear n0_ n1_ n2_; (try clear hb); have hcz25_0 := zI BK593 0 rfl; have hcz25_1 := zI BK593 1 rfl; have hfz25_0 := zF BK593.out 0; have hfz25_1 := zF BK593.out 1) | (go_at_call 46; (with_reducible refine (gangsawref33_unit.calls k a2_0 a2_1 false _ A9.out).mono ?_); rintro e w26 ⟨rfl, hb⟩; have n0_ := aK (zB (g := gb592) (o := .cells #[.int .i64 a1_0, .int .i64 a1_1] 33 (0, 0)) (BK592.out) hb); have n1_ := aK (zB (g := gb593) (o := .cells #[.int .i64 a2_0, .int .i64 a2_1] 33 (0, 0)) (BK593.out) hb); have n2_ := aK (yT (HB.out) hb); clear BK592; clear BK593; clear HB; have BK592 := n0_; have BK593 := n1_; have HB := n2_; clear n0_ n1_ n2_; (try clear hb)))
   go_meet
   case rel => exact ⟨_, (true), (by first | rfl | (simp; done) | (simp [*]; done)), H', ⟨by first | omega | exact Nat.le_refl _⟩, ⟨BK592.out⟩, ⟨BK593.out⟩, ⟨HB.out⟩⟩
  subst c10
  have H1 : (if a0 < 1 then (gangsawref33_Least.j0 k a0 true a1_0 a1_1 a2_0 a2_1) else (gangsawref33_Least.j0 k a0 (decide (a0 > 59)) a1_0 a1_1 a2_0 a2_1)) = some (r1, r2) := by rw [if_pos rfl] at H; exact H
  clear H
  have H := H1
  clear H1
  by_cases c11 : a0 < 1
  ·rw [if_pos c11] at H
   have c11b0 : decide (a0 < 1) = true := decide_eq_true c11
   clear c11
   (first | rw [c11b0] | (simp only [i64_w, i32_w]; rw [c11b0]) | skip)
   have H' := aK H
   clear H
   have hnb12 := NB592_593.out
   have hnc12 := NB593_592.out
   have hcz13_0 := zI BK592 0 rfl
   have hcz13_1 := zI BK592 1 rfl
   have hfz13_0 := zF BK592.out 0
   have hfz13_1 := zF BK592.out 1
   go_wp2_with (first | ((with_reducible refine gate_callee (f := 46) rfl ?_); refine goesL_ (some 12) rfl rfl Try.func46 (by kernel_rfl) rfl #[.agg #[.int .i64 a1_0, .int .i64 a1_1]] rfl (by (try simp only [List.map_toArray, List.map_cons, List.map_nil]); first | done | rfl | (simp only [List.length_drop, List.length_take]; rfl)) ?_; (with_reducible refine (gangsawref33_unit.calls k a1_0 a1_1 true _ A7.out).mono ?_); rintro e w14 ⟨rfl, hb⟩; refine ⟨_, rfl, ?_⟩; have n0_ := aK (zB (g := gb592) (o := .cells #[.int .i64 a1_0, .int .i64 a1_1] 33 (0, 0)) (BK592.out) hb); have n1_ := aK (zB (g := gb593) (o := .cells #[.int .i64 a2_0, .int .i64 a2_1] 33 (0, 0)) (BK593.out) hb); have n2_ := aK (yT (HB.out) hb); clear BK592; clear BK593; clear HB; have BK592 := n0_; have BK593 := n1_; have HB := n2_; clear n0_ n1_ n2_; (try clear hb); have hcz15_0 := zI BK593 0 rfl; have hcz15_1 := zI BK593 1 rfl; have hfz15_0 := zF BK593.out 0; have hfz15_1 := zF BK593.out 1) | (go_at_call 46; (with_reducible refine (gangsawref33_unit.calls k a2_0 a2_1 true _ A9.out).mono ?_); rintro e w16 ⟨rfl, hb⟩; have n0_ := aK (zB (g := gb592) (o := .cells #[.int .i64 a1_0, .int .i64 a1_1] 33 (0, 0)) (BK592.out) hb); have n1_ := aK (zB (g := gb593) (o := .cells #[.int .i64 a2_0, .int .i64 a2_1] 33 (0, 0)) (BK593.out) hb); have n2_ := aK (yT (HB.out) hb); clear BK592; clear BK593; clear HB; have BK592 := n0_; have BK593 := n1_; have HB := n2_; clear n0_ n1_ n2_; (try clear hb)))
   go_meet
   case rel => exact ⟨_, (true), (by first | rfl | (simp; done) | (simp [*]; done)), H', ⟨by first | omega | exact Nat.le_refl _⟩, ⟨BK592.out⟩, ⟨BK593.out⟩, ⟨HB.out⟩⟩
  rw [if_neg c11] at H
  have c11b0 : decide (a0 < 1) = false := decide_eq_false c11
  clear c11
  (first | rw [c11b0] | (simp only [i64_w, i32_w]; rw [c11b0]) | skip)
  have H' := aK H
  clear H
  have hnb17 := NB592_593.out
  have hnc17 := NB593_592.out
  have hcz18_0 := zI BK592 0 rfl
  have hcz18_1 := zI BK592 1 rfl
  have hfz18_0 := zF BK592.out 0
  have hfz18_1 := zF BK592.out 1
  go_wp2_with (first | ((with_reducible refine gate_callee (f := 46) rfl ?_); refine goesL_ (some 12) rfl rfl Try.func46 (by kernel_rfl) rfl #[.agg #[.int .i64 a1_0, .int .i64 a1_1]] rfl (by (try simp only [List.map_toArray, List.map_cons, List.map_nil]); first | done | rfl | (simp only [List.length_drop, List.length_take]; rfl)) ?_; (with_reducible refine (gangsawref33_unit.calls k a1_0 a1_1 true _ A7.out).mono ?_); rintro e w19 ⟨rfl, hb⟩; refine ⟨_, rfl, ?_⟩; have n0_ := aK (zB (g := gb592) (o := .cells #[.int .i64 a1_0, .int .i64 a1_1] 33 (0, 0)) (BK592.out) hb); have n1_ := aK (zB (g := gb593) (o := .cells #[.int .i64 a2_0, .int .i64 a2_1] 33 (0, 0)) (BK593.out) hb); have n2_ := aK (yT (HB.out) hb); clear BK592; clear BK593; clear HB; have BK592 := n0_; have BK593 := n1_; have HB := n2_; clear n0_ n1_ n2_; (try clear hb); have hcz20_0 := zI BK593 0 rfl; have hcz20_1 := zI BK593 1 rfl; have hfz20_0 := zF BK593.out 0; have hfz20_1 := zF BK593.out 1) | (go_at_call 46; (with_reducible refine (gangsawref33_unit.calls k a2_0 a2_1 true _ A9.out).mono ?_); rintro e w21 ⟨rfl, hb⟩; have n0_ := aK (zB (g := gb592) (o := .cells #[.int .i64 a1_0, .int .i64 a1_1] 33 (0, 0)) (BK592.out) hb); have n1_ := aK (zB (g := gb593) (o := .cells #[.int .i64 a2_0, .int .i64 a2_1] 33 (0, 0)) (BK593.out) hb); have n2_ := aK (yT (HB.out) hb); clear BK592; clear BK593; clear HB; have BK592 := n0_; have BK593 := n1_; have HB := n2_; clear n0_ n1_ n2_; (try clear hb)))
  go_meet
  case rel => exact ⟨_, (decide (a0 > 59)), (by first | rfl | (simp; done) | (simp [*]; done)), H', ⟨by first | omega | exact Nat.le_refl _⟩, ⟨BK592.out⟩, ⟨BK593.out⟩, ⟨HB.out⟩⟩
 case rest =>
  clear HC4
  try clear c1
  try clear c2
  try clear p2
  try clear c4
  try clear c8
  try clear c10
  try clear c11
  try clear c11b0
  try clear c12
  try clear c17
  try clear c22
  try clear c23
  try clear c27
  try clear hcz13_0
  try clear hcz13_1
  try clear hcz15_0
  try clear hcz15_1
  try clear hcz18_0
  try clear hcz18_1
  try clear hcz20_0
  try clear hcz20_1
  try clear hcz23_0
  try clear hcz23_1
  try clear hcz25_0
  try clear hcz25_1
  try clear hcz28_0
  try clear hcz28_1
  try clear hfz13_0
  try clear hfz13_1
  try clear hfz15_0
  try clear hfz15_1
  try clear hfz18_0
  try clear hfz18_1
  try clear hfz20_0
  try clear hfz20_1
  try clear hfz23_0
  try clear hfz23_1
  try clear hfz25_0
  try clear hfz25_1
  try clear hfz28_0
  try clear hfz28_1
  obtain ⟨kq, x26_3, rfl, HA, HJ3, BK592, BK593, HB⟩ := hcut
  cases kq with
  | zero => exact absurd HA.out (by simp [gangsawref33_Least.j0])
  | succ kj3 =>
   have H := HA.out
   clear HA
   simp only [gangsawref33_Least.j0] at H
   by_cases c30 : x26_3 = true
   ·subst c30
    have H1 : (some (0, 1)) = some (r1, r2) := by rw [if_pos rfl] at H; exact H
    clear H
    have H := H1
    clear H1
    simp only [Option.some.injEq, Prod.mk.injEq] at H
    obtain ⟨rfl, rfl⟩ := H
    go_wp2
    go_ret2
    exact ⟨rfl, HB.out⟩
   replace c30 := Bool.eq_false_iff.mpr c30
   subst c30
   have H1 : (gangsawref33_Least.l0 kj3 a0 a0 a1_0 a1_1 a2_0 a2_1) = some (r1, r2) := by rw [if_neg (show ¬ (false = true) by decide)] at H; exact H
   clear H
   have H := H1
   clear H1
   have H' := aK H
   clear H
   go_wp2
   go_loopg [8] kj3 (fun kq v8 w' => ∃ (x8_2 : Int), v8 = .int .i64 x8_2 ∧ Aside0 (gangsawref33_Least.l0 kq a0 x8_2 a1_0 a1_1 a2_0 a2_1 = some (r1, r2)) ∧ Aside0 (kq ≤ kj3) ∧ Aside0 (w'.heap[gb592]? = some (.cells #[.int .i64 a1_0, .int .i64 a1_1] 33 (0, 0))) ∧ Aside0 (w'.heap[gb593]? = some (.cells #[.int .i64 a2_0, .int .i64 a2_1] 33 (0, 0))) ∧ Aside0 (Below w.heap.size w w'))
   case atStart => exact ⟨(a0), (by first | rfl | (simp; done) | (simp [*]; done)), H', ⟨Nat.le_refl _⟩, ⟨BK592.out⟩, ⟨BK593.out⟩, ⟨HB.out⟩⟩
   case round =>
    clear H'
    try clear c1
    try clear c2
    try clear p2
    try clear c3
    try clear c4
    try clear c8
    try clear c10
    try clear c11
    try clear c11b0
    try clear c12
    try clear c17
    try clear c22
    try clear c23
    try clear c27
    try clear c30
    try clear hcz13_0
    try clear hcz13_1
    try clear hcz15_0
    try clear hcz15_1
    try clear hcz18_0
    try clear hcz18_1
    try clear hcz20_0
    try clear hcz20_1
    try clear hcz23_0
    try clear hcz23_1
    try clear hcz25_0
    try clear hcz25_1
    try clear hcz28_0
    try clear hcz28_1
    try clear hfz13_0
    try clear hfz13_1
    try clear hfz15_0
    try clear hfz15_1
    try clear hfz18_0
    try clear hfz18_1
    try clear hfz20_0
    try clear hfz20_1
    try clear hfz23_0
    try clear hfz23_1
    try clear hfz25_0
    try clear hfz25_1
    try clear hfz28_0
    try clear hfz28_1
    try clear p2
    obtain ⟨x8_2, rfl, HA, HK2, BK592, BK593, HB⟩ := hrel
    cases gk with
    | zero => exact absurd HA.out (by simp [gangsawref33_Least.l0])
    | succ k2 =>
     have H := HA.out
     clear HA
     simp only [gangsawref33_Least.l0] at H
     by_cases c31 : x8_2 ≤ 59
     rotate_left
     ·rw [if_neg c31] at H
      have c31b0 : decide (x8_2 ≤ 59) = false := decide_eq_false c31
      clear c31
      simp only [Option.some.injEq, Prod.mk.injEq] at H
      obtain ⟨rfl, rfl⟩ := H
      go_wp2
      go_ret2
      exact ⟨rfl, HB.out⟩
     rw [if_pos c31] at H
     have c31b0 : decide (x8_2 ≤ 59) = true := decide_eq_true c31
     clear c31
     replace H := Option.bind_eq_some_iff.mp H
     obtain ⟨⟨t596, t597, t598⟩, A320, H⟩ := H
     replace H : (if t598 = 0 then ((gangsawref04_Cmp.f t596 t597 a2_0 a2_1).bind fun t600 => (if t600 ≥ 0 then (some (x8_2, 0)) else (gangsawref33_Least.l0 k2 a0 (wrap64 (x8_2 + 1)) a1_0 a1_1 a2_0 a2_1))) else (some (0, 9))) = some (r1, r2) := H
     have A32 := aK A320
     clear A320
     by_cases c33 : t598 = 0
     rotate_left
     ·rw [if_neg c33] at H
      have c33b0 : (t598 == 0) = false := beq_eq_false_iff_ne.mpr c33
      have c33b1 : (t598 != 0) = true := bne_iff_ne.mpr c33
      simp only [Option.some.injEq, Prod.mk.injEq] at H
      obtain ⟨rfl, rfl⟩ := H
      have hnb54 := NB592_593.out
      have hnc54 := NB593_592.out
      have hcz55_0 := zI BK592 0 rfl
      have hcz55_1 := zI BK592 1 rfl
      have hfz55_0 := zF BK592.out 0
      have hfz55_1 := zF BK592.out 1
      go_wp2_with (first | ((with_reducible refine gate_callee (f := 21) rfl ?_); refine goesL_ (some 36) rfl rfl Try.func21 (by kernel_rfl) rfl #[.int .i64 x8_2, .int .i64 a0, .agg #[.int .i64 a1_0, .int .i64 a1_1]] rfl (by (try simp only [List.map_toArray, List.map_cons, List.map_nil]); first | done | rfl | (simp only [List.length_drop, List.length_take]; rfl)) ?_; (with_reducible refine (gangsawref33_Confidence.calls k2 x8_2 a0 a1_0 a1_1 t596 t597 t598 _ A32.out).mono ?_); rintro e w56 ⟨rfl, hb⟩; refine ⟨_, rfl, ?_⟩; have n0_ := aK (zB (g := gb592) (o := .cells #[.int .i64 a1_0, .int .i64 a1_1] 33 (0, 0)) (BK592.out) hb); have n1_ := aK (zB (g := gb593) (o := .cells #[.int .i64 a2_0, .int .i64 a2_1] 33 (0, 0)) (BK593.out) hb); have n2_ := aK (yT (by repeat (first | (with_reducible first | exact HB.out | apply yA | apply yN | apply yD | refine yS ?_ GE592.out | refine yS ?_ GE593.out) | exact HB.out)) hb); clear BK592; clear BK593; clear HB; have BK592 := n0_; have BK593 := n1_; have HB := n2_; clear n0_ n1_ n2_; (try clear hb)) | ((with_reducible refine gate_dst (N := 9) rfl ?_); refine box_event ?hg (N := 9) ?hd (cs := #[.int .i64 0, .int .i64 0]) (t := 33) ?hr ?_; (case hd => rfl); (case hg => rfl); (case hr => first | (go_simp; done) | (go_simp; rfl)); intro gb599 hg w57 hbox hb; have n0_ := aK (zB (g := gb592) (o := .cells #[.int .i64 a1_0, .int .i64 a1_1] 33 (0, 0)) (BK592.out) hb); have n1_ := aK (zB (g := gb593) (o := .cells #[.int .i64 a2_0, .int .i64 a2_1] 33 (0, 0)) (BK593.out) hb); have ⟨n2_, n4_⟩ := zV (w := w) hb hg (by repeat (first | (with_reducible first | exact HB.out | apply yA | apply yN | apply yD | refine yS ?_ GE592.out | refine yS ?_ GE593.out) | exact HB.out)); have n3_ := aK (hbox); have n5_ := n4_; have n6_ := aK ((by rw [hg]; exact Nat.ne_of_lt (blk_lt (g := gb592) (o := .cells #[.int .i64 a1_0, .int .i64 a1_1] 33 (0, 0)) (BK592.out)) : gb592 ≠ gb599)); have n7_ := aK ((by rw [hg]; exact Nat.ne_of_gt (blk_lt (g := gb592) (o := .cells #[.int .i64 a1_0, .int .i64 a1_1] 33 (0, 0)) (BK592.out)) : gb599 ≠ gb592)); have n8_ := aK ((by rw [hg]; exact Nat.ne_of_lt (blk_lt (g := gb593) (o := .cells #[.int .i64 a2_0, .int .i64 a2_1] 33 (0, 0)) (BK593.out)) : gb593 ≠ gb599)); have n9_ := aK ((by rw [hg]; exact Nat.ne_of_gt (blk_lt (g := gb593) (o := .cells #[.int .i64 a2_0, .int .i64 a2_1] 33 (0, 0)) (BK593.out)) : gb599 ≠ gb593)); clear BK592; clear BK593; clear HB; have BK592 := n0_; have BK593 := n1_; have HB := n2_; have BK599 := n3_; have GW599 := n4_; have GE599 := n5_; have NB592_599 := n6_; have NB599_592 := n7_; have NB593_599 := n8_; have NB599_593 := n9_; clear n0_ n1_ n2_ n3_ n4_ n5_ n6_ n7_ n8_ n9_; clear hb hbox hg; have hnb58 := NB599_592.out; have hnc58 := NB592_599.out; have hnb59 := NB599_593.out; have hnc59 := NB593_599.out; have hcz60_0 := zI BK599 0 rfl; have hcz60_1 := zI BK599 1 rfl; have hfz60_0 := zF BK599.out 0; have hfz60_1 := zF BK599.out 1))
      go_ret2
      exact ⟨rfl, by repeat (first | (with_reducible first | exact HB.out | apply yA | apply yN | apply yD | refine yS ?_ GE592.out | refine yS ?_ GE593.out | refine yS ?_ GE599.out) | exact HB.out)⟩
     rw [if_pos c33] at H
     have c33b0 : (t598 == 0) = true := beq_iff_eq.mpr c33
     have c33b1 : (t598 != 0) = false := bne_eq_false_iff_eq.mpr c33
     clear c33
     replace H := Option.bind_eq_some_iff.mp H
     obtain ⟨t600, A340, H⟩ := H
     replace H : (if t600 ≥ 0 then (some (x8_2, 0)) else (gangsawref33_Least.l0 k2 a0 (wrap64 (x8_2 + 1)) a1_0 a1_1 a2_0 a2_1)) = some (r1, r2) := H
     have A34 := aK A340
     clear A340
     by_cases c35 : t600 ≥ 0
     ·rw [if_pos c35] at H
      have c35b0 : decide (0 ≤ t600) = true := decide_eq_true c35
      clear c35
      simp only [Option.some.injEq, Prod.mk.injEq] at H
      obtain ⟨rfl, rfl⟩ := H
      have hnb36 := NB592_593.out
      have hnc36 := NB593_592.out
      have hcz37_0 := zI BK592 0 rfl
      have hcz37_1 := zI BK592 1 rfl
      have hfz37_0 := zF BK592.out 0
      have hfz37_1 := zF BK592.out 1
      go_wp2_with (first | ((with_reducible refine gate_callee (f := 21) rfl ?_); refine goesL_ (some 36) rfl rfl Try.func21 (by kernel_rfl) rfl #[.int .i64 x8_2, .int .i64 a0, .agg #[.int .i64 a1_0, .int .i64 a1_1]] rfl (by (try simp only [List.map_toArray, List.map_cons, List.map_nil]); first | done | rfl | (simp only [List.length_drop, List.length_take]; rfl)) ?_; (with_reducible refine (gangsawref33_Confidence.calls k2 x8_2 a0 a1_0 a1_1 t596 t597 t598 _ A32.out).mono ?_); rintro e w38 ⟨rfl, hb⟩; refine ⟨_, rfl, ?_⟩; have n0_ := aK (zB (g := gb592) (o := .cells #[.int .i64 a1_0, .int .i64 a1_1] 33 (0, 0)) (BK592.out) hb); have n1_ := aK (zB (g := gb593) (o := .cells #[.int .i64 a2_0, .int .i64 a2_1] 33 (0, 0)) (BK593.out) hb); have n2_ := aK (yT (by repeat (first | (with_reducible first | exact HB.out | apply yA | apply yN | apply yD | refine yS ?_ GE592.out | refine yS ?_ GE593.out) | exact HB.out)) hb); clear BK592; clear BK593; clear HB; have BK592 := n0_; have BK593 := n1_; have HB := n2_; clear n0_ n1_ n2_; (try clear hb)) | ((with_reducible refine gate_dst (N := 9) rfl ?_); refine box_event ?hg (N := 9) ?hd (cs := #[.int .i64 0, .int .i64 0]) (t := 33) ?hr ?_; (case hd => rfl); (case hg => rfl); (case hr => first | (go_simp; done) | (go_simp; rfl)); intro gb599 hg w39 hbox hb; have n0_ := aK (zB (g := gb592) (o := .cells #[.int .i64 a1_0, .int .i64 a1_1] 33 (0, 0)) (BK592.out) hb); have n1_ := aK (zB (g := gb593) (o := .cells #[.int .i64 a2_0, .int .i64 a2_1] 33 (0, 0)) (BK593.out) hb); have ⟨n2_, n4_⟩ := zV (w := w) hb hg (by repeat (first | (with_reducible first | exact HB.out | apply yA | apply yN | apply yD | refine yS ?_ GE592.out | refine yS ?_ GE593.out) | exact HB.out)); have n3_ := aK (hbox); have n5_ := n4_; have n6_ := aK ((by rw [hg]; exact Nat.ne_of_lt (blk_lt (g := gb592) (o := .cells #[.int .i64 a1_0, .int .i64 a1_1] 33 (0, 0)) (BK592.out)) : gb592 ≠ gb599)); have n7_ := aK ((by rw [hg]; exact Nat.ne_of_gt (blk_lt (g := gb592) (o := .cells #[.int .i64 a1_0, .int .i64 a1_1] 33 (0, 0)) (BK592.out)) : gb599 ≠ gb592)); have n8_ := aK ((by rw [hg]; exact Nat.ne_of_lt (blk_lt (g := gb593) (o := .cells #[.int .i64 a2_0, .int .i64 a2_1] 33 (0, 0)) (BK593.out)) : gb593 ≠ gb599)); have n9_ := aK ((by rw [hg]; exact Nat.ne_of_gt (blk_lt (g := gb593) (o := .cells #[.int .i64 a2_0, .int .i64 a2_1] 33 (0, 0)) (BK593.out)) : gb599 ≠ gb593)); clear BK592; clear BK593; clear HB; have BK592 := n0_; have BK593 := n1_; have HB := n2_; have BK599 := n3_; have GW599 := n4_; have GE599 := n5_; have NB592_599 := n6_; have NB599_592 := n7_; have NB593_599 := n8_; have NB599_593 := n9_; clear n0_ n1_ n2_ n3_ n4_ n5_ n6_ n7_ n8_ n9_; clear hb hbox hg; have hnb40 := NB599_592.out; have hnc40 := NB592_599.out; have hnb41 := NB599_593.out; have hnc41 := NB593_599.out; have hcz42_0 := zI BK599 0 rfl; have hcz42_1 := zI BK599 1 rfl; have hfz42_0 := zF BK599.out 0; have hfz42_1 := zF BK599.out 1; have hcz43_0 := zI BK593 0 rfl; have hcz43_1 := zI BK593 1 rfl; have hfz43_0 := zF BK593.out 0; have hfz43_1 := zF BK593.out 1) | ((with_reducible refine gate_callee (f := 49) rfl ?_); refine goesL_ (some 43) rfl rfl Try.func49 (by kernel_rfl) rfl #[.agg #[.int .i64 t596, .int .i64 t597], .agg #[.int .i64 a2_0, .int .i64 a2_1]] rfl (by (try simp only [List.map_toArray, List.map_cons, List.map_nil]); first | done | rfl | (simp only [List.length_drop, List.length_take]; rfl)) ?_; (with_reducible refine (gangsawref04_Cmp.calls t596 t597 a2_0 a2_1 t600 _ A34.out).mono ?_); rintro e w44 ⟨rfl, hb⟩; refine ⟨_, rfl, ?_⟩; have n0_ := aK (zB (g := gb592) (o := .cells #[.int .i64 a1_0, .int .i64 a1_1] 33 (0, 0)) (by refine blk_far ?_ NB592_599.out _; refine blk_far ?_ NB592_599.out _; exact BK592.out) hb); have n1_ := aK (zB (g := gb593) (o := .cells #[.int .i64 a2_0, .int .i64 a2_1] 33 (0, 0)) (by refine blk_far ?_ NB593_599.out _; refine blk_far ?_ NB593_599.out _; exact BK593.out) hb); have n2_ := aK (zB (g := gb599) (o := .cells #[.int .i64 t596, .int .i64 t597] 33 (0, 0)) (by refine blk_put (cs := #[.int .i64 t596, .int .i64 0]) ?_ 1 _ rfl; refine blk_put (cs := #[.int .i64 0, .int .i64 0]) ?_ 0 _ rfl; exact BK599.out) hb); have n3_ := aK (yT (by repeat (first | (with_reducible first | exact HB.out | apply yA | apply yN | apply yD | refine yS ?_ GE592.out | refine yS ?_ GE593.out | refine yS ?_ GE599.out) | exact HB.out)) hb); clear BK592; clear BK593; clear BK599; clear HB; have BK592 := n0_; have BK593 := n1_; have BK599 := n2_; have HB := n3_; clear n0_ n1_ n2_ n3_; (try clear hb)))
      go_ret2
      exact ⟨rfl, HB.out⟩
     rw [if_neg c35] at H
     have c35b0 : decide (0 ≤ t600) = false := decide_eq_false c35
     clear c35
     have H' := aK H
     clear H
     have hnb45 := NB592_593.out
     have hnc45 := NB593_592.out
     have hcz46_0 := zI BK592 0 rfl
     have hcz46_1 := zI BK592 1 rfl
     have hfz46_0 := zF BK592.out 0
     have hfz46_1 := zF BK592.out 1
     go_wp2_with (first | ((with_reducible refine gate_callee (f := 21) rfl ?_); refine goesL_ (some 36) rfl rfl Try.func21 (by kernel_rfl) rfl #[.int .i64 x8_2, .int .i64 a0, .agg #[.int .i64 a1_0, .int .i64 a1_1]] rfl (by (try simp only [List.map_toArray, List.map_cons, List.map_nil]); first | done | rfl | (simp only [List.length_drop, List.length_take]; rfl)) ?_; (with_reducible refine (gangsawref33_Confidence.calls k2 x8_2 a0 a1_0 a1_1 t596 t597 t598 _ A32.out).mono ?_); rintro e w47 ⟨rfl, hb⟩; refine ⟨_, rfl, ?_⟩; have n0_ := aK (zB (g := gb592) (o := .cells #[.int .i64 a1_0, .int .i64 a1_1] 33 (0, 0)) (BK592.out) hb); have n1_ := aK (zB (g := gb593) (o := .cells #[.int .i64 a2_0, .int .i64 a2_1] 33 (0, 0)) (BK593.out) hb); have n2_ := aK (yT (by repeat (first | (with_reducible first | exact HB.out | apply yA | apply yN | apply yD | refine yS ?_ GE592.out | refine yS ?_ GE593.out) | exact HB.out)) hb); clear BK592; clear BK593; clear HB; have BK592 := n0_; have BK593 := n1_; have HB := n2_; clear n0_ n1_ n2_; (try clear hb)) | ((with_reducible refine gate_dst (N := 9) rfl ?_); refine box_event ?hg (N := 9) ?hd (cs := #[.int .i64 0, .int .i64 0]) (t := 33) ?hr ?_; (case hd => rfl); (case hg => rfl); (case hr => first | (go_simp; done) | (go_simp; rfl)); intro gb599 hg w48 hbox hb; have n0_ := aK (zB (g := gb592) (o := .cells #[.int .i64 a1_0, .int .i64 a1_1] 33 (0, 0)) (BK592.out) hb); have n1_ := aK (zB (g := gb593) (o := .cells #[.int .i64 a2_0, .int .i64 a2_1] 33 (0, 0)) (BK593.out) hb); have ⟨n2_, n4_⟩ := zV (w := w) hb hg (by repeat (first | (with_reducible first | exact HB.out | apply yA | apply yN | apply yD | refine yS ?_ GE592.out | refine yS ?_ GE593.out) | exact HB.out)); have n3_ := aK (hbox); have n5_ := n4_; have n6_ := aK ((by rw [hg]; exact Nat.ne_of_lt (blk_lt (g := gb592) (o := .cells #[.int .i64 a1_0, .int .i64 a1_1] 33 (0, 0)) (BK592.out)) : gb592 ≠ gb599)); have n7_ := aK ((by rw [hg]; exact Nat.ne_of_gt (blk_lt (g := gb592) (o := .cells #[.int .i64 a1_0, .int .i64 a1_1] 33 (0, 0)) (BK592.out)) : gb599 ≠ gb592)); have n8_ := aK ((by rw [hg]; exact Nat.ne_of_lt (blk_lt (g := gb593) (o := .cells #[.int .i64 a2_0, .int .i64 a2_1] 33 (0, 0)) (BK593.out)) : gb593 ≠ gb599)); have n9_ := aK ((by rw [hg]; exact Nat.ne_of_gt (blk_lt (g := gb593) (o := .cells #[.int .i64 a2_0, .int .i64 a2_1] 33 (0, 0)) (BK593.out)) : gb599 ≠ gb593)); clear BK592; clear BK593; clear HB; have BK592 := n0_; have BK593 := n1_; have HB := n2_; have BK599 := n3_; have GW599 := n4_; have GE599 := n5_; have NB592_599 := n6_; have NB599_592 := n7_; have NB593_599 := n8_; have NB599_593 := n9_; clear n0_ n1_ n2_ n3_ n4_ n5_ n6_ n7_ n8_ n9_; clear hb hbox hg; have hnb49 := NB599_592.out; have hnc49 := NB592_599.out; have hnb50 := NB599_593.out; have hnc50 := NB593_599.out; have hcz51_0 := zI BK599 0 rfl; have hcz51_1 := zI BK599 1 rfl; have hfz51_0 := zF BK599.out 0; have hfz51_1 := zF BK599.out 1; have hcz52_0 := zI BK593 0 rfl; have hcz52_1 := zI BK593 1 rfl; have hfz52_0 := zF BK593.out 0; have hfz52_1 := zF BK593.out 1) | ((with_reducible refine gate_callee (f := 49) rfl ?_); refine goesL_ (some 43) rfl rfl Try.func49 (by kernel_rfl) rfl #[.agg #[.int .i64 t596, .int .i64 t597], .agg #[.int .i64 a2_0, .int .i64 a2_1]] rfl (by (try simp only [List.map_toArray, List.map_cons, List.map_nil]); first | done | rfl | (simp only [List.length_drop, List.length_take]; rfl)) ?_; (with_reducible refine (gangsawref04_Cmp.calls t596 t597 a2_0 a2_1 t600 _ A34.out).mono ?_); rintro e w53 ⟨rfl, hb⟩; refine ⟨_, rfl, ?_⟩; have n0_ := aK (zB (g := gb592) (o := .cells #[.int .i64 a1_0, .int .i64 a1_1] 33 (0, 0)) (by refine blk_far ?_ NB592_599.out _; refine blk_far ?_ NB592_599.out _; exact BK592.out) hb); have n1_ := aK (zB (g := gb593) (o := .cells #[.int .i64 a2_0, .int .i64 a2_1] 33 (0, 0)) (by refine blk_far ?_ NB593_599.out _; refine blk_far ?_ NB593_599.out _; exact BK593.out) hb); have n2_ := aK (zB (g := gb599) (o := .cells #[.int .i64 t596, .int .i64 t597] 33 (0, 0)) (by refine blk_put (cs := #[.int .i64 t596, .int .i64 0]) ?_ 1 _ rfl; refine blk_put (cs := #[.int .i64 0, .int .i64 0]) ?_ 0 _ rfl; exact BK599.out) hb); have n3_ := aK (yT (by repeat (first | (with_reducible first | exact HB.out | apply yA | apply yN | apply yD | refine yS ?_ GE592.out | refine yS ?_ GE593.out | refine yS ?_ GE599.out) | exact HB.out)) hb); clear BK592; clear BK593; clear BK599; clear HB; have BK592 := n0_; have BK593 := n1_; have BK599 := n2_; have HB := n3_; clear n0_ n1_ n2_ n3_; (try clear hb)))
     go_roundg k2
     case measure => have := HJ3.out; have := HK2.out; omega
     case rel => exact ⟨(wrap64 (x8_2 + 1)), (by first | rfl | (simp; done) | (simp [*]; done)), H', ⟨by have := HJ3.out; have := HK2.out; omega⟩, ⟨BK592.out⟩, ⟨BK593.out⟩, ⟨HB.out⟩⟩

def gangsawlaw33_SampleLeast.f (k : Nat) (a0 : Int) (a1_0 : Int) (a1_1 : Int) (a2_0 : Int) (a2_1 : Int) : Option (Bool) := (gangsawlaw33_awake_N.f).bind fun t603 => (if t603 = true then ((sample_Least.f k a0 a1_0 a1_1 a2_0 a2_1).bind fun bt604 => ((gangsawref33_Least.f k a0 a1_0 a1_1 a2_0 a2_1).bind fun bt606 => (if bt604.1 = bt606.1 then (some (bt604.2 == bt606.2)) else (some false)))) else (some false))
set_option maxHeartbeats 8000000 in
set_option maxRecDepth 100000 in
theorem gangsawlaw33_SampleLeast.calls (k : Nat) (a0 : Int) (a1_0 : Int) (a1_1 : Int) (a2_0 : Int) (a2_1 : Int) (r : Bool) (w : World) (h : gangsawlaw33_SampleLeast.f k a0 a1_0 a1_1 a2_0 a2_1 = some r) (hr : r = true) :
  Calls Try.prog 6 #[.int .i64 a0, .agg #[.int .i64 a1_0, .int .i64 a1_1], .agg #[.int .i64 a2_0, .int .i64 a2_1]] w fun e w' => e = .returned (.bool r) ∧ Below w.heap.size w w' := by
 have hu33 := Try.underlying33
 have HB := aK (Below.refl w.heap.size w)
 have H : ((gangsawlaw33_awake_N.f).bind fun t603 => (if t603 = true then ((sample_Least.f k a0 a1_0 a1_1 a2_0 a2_1).bind fun bt604 => ((gangsawref33_Least.f k a0 a1_0 a1_1 a2_0 a2_1).bind fun bt606 => (if bt604.1 = bt606.1 then (some (bt604.2 == bt606.2)) else (some false)))) else (some false))) = some r := h
 clear h
 replace H := Option.bind_eq_some_iff.mp H
 obtain ⟨t603, A40, H⟩ := H
 replace H : (if t603 = true then ((sample_Least.f k a0 a1_0 a1_1 a2_0 a2_1).bind fun bt604 => ((gangsawref33_Least.f k a0 a1_0 a1_1 a2_0 a2_1).bind fun bt606 => (if bt604.1 = bt606.1 then (some (bt604.2 == bt606.2)) else (some false)))) else (some false)) = some r := H
 have A4 := aK A40
 clear A40
 by_cases c5 : t603 = true
 rotate_left
 ·replace c5 := Bool.eq_false_iff.mpr c5
  subst c5
  have H1 : (some false) = some r := by rw [if_neg (show ¬ (false = true) by decide)] at H; exact H
  clear H
  have H := H1
  clear H1
  obtain rfl := Option.some.inj H
  exact absurd hr (by decide)
 subst c5
 have H1 : ((sample_Least.f k a0 a1_0 a1_1 a2_0 a2_1).bind fun bt604 => ((gangsawref33_Least.f k a0 a1_0 a1_1 a2_0 a2_1).bind fun bt606 => (if bt604.1 = bt606.1 then (some (bt604.2 == bt606.2)) else (some false)))) = some r := by rw [if_pos rfl] at H; exact H
 clear H
 have H := H1
 clear H1
 replace H := Option.bind_eq_some_iff.mp H
 obtain ⟨⟨t604, t605⟩, A60, H⟩ := H
 replace H : ((gangsawref33_Least.f k a0 a1_0 a1_1 a2_0 a2_1).bind fun bt606 => (if t604 = bt606.1 then (some (t605 == bt606.2)) else (some false))) = some r := H
 have A6 := aK A60
 clear A60
 replace H := Option.bind_eq_some_iff.mp H
 obtain ⟨⟨t606, t607⟩, A70, H⟩ := H
 replace H : (if t604 = t606 then (some (t605 == t607)) else (some false)) = some r := H
 have A7 := aK A70
 clear A70
 by_cases c8 : t604 = t606
 rotate_left
 ·rw [if_neg c8] at H
  have c8b0 : (t604 == t606) = false := beq_eq_false_iff_ne.mpr c8
  have c8b1 : (t604 != t606) = true := bne_iff_ne.mpr c8
  obtain rfl := Option.some.inj H
  exact absurd hr (by decide)
 rw [if_pos c8] at H
 have c8b0 : (t604 == t606) = true := beq_iff_eq.mpr c8
 have c8b1 : (t604 != t606) = false := bne_eq_false_iff_eq.mpr c8
 clear c8
 obtain rfl := Option.some.inj H
 simp only [Option.some.injEq, Prod.mk.injEq] at H
 obtain ⟨rfl⟩ := H
 go_enter Try.func6, Try.ntmps6
 go_wp2_with (first | ((with_reducible refine gate_dst (N := 4) rfl ?_); refine box_event ?hg (N := 4) ?hd (cs := #[.int .i64 a1_0, .int .i64 a1_1]) (t := 33) ?hr ?_; (case hd => rfl); (case hg => rfl); (case hr => first | (go_simp; done) | (go_simp; rfl)); intro gb601 hg w9 hbox hb; have n0_ := aK (yT (HB.out) hb); have n1_ := aK (hbox); have n2_ := aK ((by rw [hg]; exact (yZ (HB.out)) : w.heap.size ≤ gb601)); have n3_ := n2_; clear HB; have HB := n0_; have BK601 := n1_; have GW601 := n2_; have GE601 := n3_; clear n0_ n1_ n2_ n3_; clear hb hbox hg) | ((with_reducible refine gate_dst (N := 5) rfl ?_); refine box_event ?hg (N := 5) ?hd (cs := #[.int .i64 a2_0, .int .i64 a2_1]) (t := 33) ?hr ?_; (case hd => rfl); (case hg => rfl); (case hr => first | (go_simp; done) | (go_simp; rfl)); intro gb602 hg w10 hbox hb; have n0_ := aK (zB (g := gb601) (o := .cells #[.int .i64 a1_0, .int .i64 a1_1] 33 (0, 0)) (BK601.out) hb); have n1_ := aK (yT (HB.out) hb); have n2_ := aK (hbox); have n3_ := aK ((by rw [hg]; exact (yZ (HB.out)) : w.heap.size ≤ gb602)); have n4_ := n3_; have n5_ := aK ((by rw [hg]; exact Nat.ne_of_lt (blk_lt (g := gb601) (o := .cells #[.int .i64 a1_0, .int .i64 a1_1] 33 (0, 0)) (BK601.out)) : gb601 ≠ gb602)); have n6_ := aK ((by rw [hg]; exact Nat.ne_of_gt (blk_lt (g := gb601) (o := .cells #[.int .i64 a1_0, .int .i64 a1_1] 33 (0, 0)) (BK601.out)) : gb602 ≠ gb601)); clear BK601; clear HB; have BK601 := n0_; have HB := n1_; have BK602 := n2_; have GW602 := n3_; have GE602 := n4_; have NB601_602 := n5_; have NB602_601 := n6_; clear n0_ n1_ n2_ n3_ n4_ n5_ n6_; clear hb hbox hg) | ((with_reducible refine gate_callee (f := 10) rfl ?_); refine goesL_ (some 11) rfl rfl Try.func10 (by kernel_rfl) rfl #[] rfl (by (try simp only [List.map_toArray, List.map_cons, List.map_nil]); first | done | rfl | (simp only [List.length_drop, List.length_take]; rfl)) ?_; (with_reducible refine (gangsawlaw33_awake_N.calls  true _ A4.out).mono ?_); rintro e w11 ⟨rfl, hb⟩; refine ⟨_, rfl, ?_⟩; have n0_ := aK (zB (g := gb601) (o := .cells #[.int .i64 a1_0, .int .i64 a1_1] 33 (0, 0)) (BK601.out) hb); have n1_ := aK (zB (g := gb602) (o := .cells #[.int .i64 a2_0, .int .i64 a2_1] 33 (0, 0)) (BK602.out) hb); have n2_ := aK (yT (HB.out) hb); clear BK601; clear BK602; clear HB; have BK601 := n0_; have BK602 := n1_; have HB := n2_; clear n0_ n1_ n2_; (try clear hb); have hnb12 := NB601_602.out; have hnc12 := NB602_601.out; have hcz13_0 := zI BK601 0 rfl; have hcz13_1 := zI BK601 1 rfl; have hfz13_0 := zF BK601.out 0; have hfz13_1 := zF BK601.out 1; have hcz14_0 := zI BK602 0 rfl; have hcz14_1 := zI BK602 1 rfl; have hfz14_0 := zF BK602.out 0; have hfz14_1 := zF BK602.out 1) | ((with_reducible refine gate_callee (f := 22) rfl ?_); refine goesL_ (some 17) rfl rfl Try.func22 (by kernel_rfl) rfl #[.int .i64 a0, .agg #[.int .i64 a1_0, .int .i64 a1_1], .agg #[.int .i64 a2_0, .int .i64 a2_1]] rfl (by (try simp only [List.map_toArray, List.map_cons, List.map_nil]); first | done | rfl | (simp only [List.length_drop, List.length_take]; rfl)) ?_; (with_reducible refine (sample_Least.calls k a0 a1_0 a1_1 a2_0 a2_1 t604 t605 _ A6.out).mono ?_); rintro e w15 ⟨rfl, hb⟩; refine ⟨_, rfl, ?_⟩; have n0_ := aK (zB (g := gb601) (o := .cells #[.int .i64 a1_0, .int .i64 a1_1] 33 (0, 0)) (BK601.out) hb); have n1_ := aK (zB (g := gb602) (o := .cells #[.int .i64 a2_0, .int .i64 a2_1] 33 (0, 0)) (BK602.out) hb); have n2_ := aK (yT (HB.out) hb); clear BK601; clear BK602; clear HB; have BK601 := n0_; have BK602 := n1_; have HB := n2_; clear n0_ n1_ n2_; (try clear hb); have hcz16_0 := zI BK601 0 rfl; have hcz16_1 := zI BK601 1 rfl; have hfz16_0 := zF BK601.out 0; have hfz16_1 := zF BK601.out 1; have hcz17_0 := zI BK602 0 rfl; have hcz17_1 := zI BK602 1 rfl; have hfz17_0 := zF BK602.out 0; have hfz17_1 := zF BK602.out 1) | ((with_reducible refine gate_callee (f := 23) rfl ?_); refine goesL_ (some 24) rfl rfl Try.func23 (by kernel_rfl) rfl #[.int .i64 a0, .agg #[.int .i64 a1_0, .int .i64 a1_1], .agg #[.int .i64 a2_0, .int .i64 a2_1]] rfl (by (try simp only [List.map_toArray, List.map_cons, List.map_nil]); first | done | rfl | (simp only [List.length_drop, List.length_take]; rfl)) ?_; (with_reducible refine (gangsawref33_Least.calls k a0 a1_0 a1_1 a2_0 a2_1 t606 t607 _ A7.out).mono ?_); rintro e w18 ⟨rfl, hb⟩; refine ⟨_, rfl, ?_⟩; have n0_ := aK (zB (g := gb601) (o := .cells #[.int .i64 a1_0, .int .i64 a1_1] 33 (0, 0)) (BK601.out) hb); have n1_ := aK (zB (g := gb602) (o := .cells #[.int .i64 a2_0, .int .i64 a2_1] 33 (0, 0)) (BK602.out) hb); have n2_ := aK (yT (HB.out) hb); clear BK601; clear BK602; clear HB; have BK601 := n0_; have BK602 := n1_; have HB := n2_; clear n0_ n1_ n2_; (try clear hb)))
 go_ret
 exact ⟨by first | rfl | (simp [errW_none, errW_some] <;> rfl) | (simp [*, errW_none, errW_some] <;> rfl), HB.out⟩

end Go.Proofs.Ythkpgjjakdbbfaa.P
