/- What functions of the program return: each contract says so of one function, for every input at which its pure function yields. -/
import Derived.Test.YthkpgjjakdbbfaaPx0
import Derived.Test.YthkpgjjakdbbfaaPx22
import Derived.Test.YthkpgjjakdbbfaaPx23
import Derived.Test.YthkpgjjakdbbfaaPx27
namespace Go.Proofs.Ythkpgjjakdbbfaa.P
open Go.RowKit Go.Proofs.YthkpgjjakdbbfaaW.PrintWords Go.Proofs.YthkpgjjakdbbfaaW.PrintLast Go.Proofs.YthkpgjjakdbbfaaW.PrintMore
attribute [local go_sem] max2_int min2_int max_two min_two max_three min_three max_four min_four   -- for this text's walks alone
set_option linter.unusedVariables false
set_option linter.unusedSimpArgs false

mutual
def gangsawref33_Confidence.j0 : Nat → Int → Int → Bool → Int → Int → Option (Int × Int × Int)
 | 0, _, _, _, _, _ => none
 | k + 1, x0, x1, x34, x545000, x545001 => if x34 = true then (some (0, 0, 1)) else ((gangsawref33_power.f k x545001 x0).bind fun t547 => (if t547 < 0 then (some (0, 0, 6)) else (gangsawref33_Confidence.l0 k x0 x1 t547 (([1] : List Int)) 0 x545000 x545001)))
def gangsawref33_Confidence.l0 : Nat → Int → Int → Int → List Int → Int → Int → Int → Option (Int × Int × Int)
 | 0, _, _, _, _, _, _, _ => none
 | k + 1, x0, x1, x8, x9, x10, x545000, x545001 => if x10 < x0 then (if 0 ≤ (wrap64 ((x9.length : Int) + 1)) then (if (wrap64 ((x9.length : Int) + 1) : Int).toNat ≤ 35184372088832 then (gangsawref33_Confidence.l1 k x0 x1 x8 x9 x10 (List.replicate (wrap64 ((x9.length : Int) + 1) : Int).toNat 0) 0 x545000 x545001) else (none)) else (none)) else (gangsawref33_Confidence.l2 k x0 x8 x9 0 x1)
def gangsawref33_Confidence.l1 : Nat → Int → Int → Int → List Int → Int → List Int → Int → Int → Int → Option (Int × Int × Int)
 | 0, _, _, _, _, _, _, _, _, _ => none
 | k + 1, x0, x1, x8, x9, x10, x11, x12, x545000, x545001 => if x12 < (x9.length : Int) then (if 0 ≤ x12 then (if x12 < (x11.length : Int) then ((some (x11.set (x12 : Int).toNat (wrap64 ((rd x11 x12) + (wrap64 ((rd x9 x12) * (wrap64 (x545001 - x545000)))))) : List Int)).bind fun y556 => (if 0 ≤ (wrap64 (x12 + 1)) then (if (wrap64 (x12 + 1)) < (x11.length : Int) then (gangsawref33_Confidence.l1 k x0 x1 x8 x9 x10 (y556.set ((wrap64 (x12 + 1)) : Int).toNat (wrap64 ((rd y556 (wrap64 (x12 + 1))) + (wrap64 ((rd x9 x12) * x545000))))) (wrap64 (x12 + 1)) x545000 x545001) else (none)) else (none))) else (none)) else (none)) else (gangsawref33_Confidence.l0 k x0 x1 x8 x11 (wrap64 (x10 + 1)) x545000 x545001)
def gangsawref33_Confidence.l2 : Nat → Int → Int → List Int → Int → Int → Option (Int × Int × Int)
 | 0, _, _, _, _, _ => none
 | k + 1, x0, x8, x9, x13, x14 => if x14 ≤ x0 then (if 0 ≤ x14 then (if x14 < (x9.length : Int) then (gangsawref33_Confidence.l2 k x0 x8 x9 (wrap64 (x13 + (rd x9 x14))) (wrap64 (x14 + 1))) else (none)) else (none)) else ((gangsawref04_New.f k x13 x8).bind fun bt561 => (some (bt561.1, bt561.2.1, bt561.2.2)))
end
def gangsawref33_Confidence.f (k : Nat) (a0 : Int) (a1 : Int) (a2_0 : Int) (a2_1 : Int) : Option (Int × Int × Int) := (gangsawref33_unit.f k a2_0 a2_1).bind fun t546 => (if t546 = true then (if a0 < 1 then (gangsawref33_Confidence.j0 k a0 a1 true a2_0 a2_1) else (if a0 > 59 then (gangsawref33_Confidence.j0 k a0 a1 true a2_0 a2_1) else (if a1 < 0 then (gangsawref33_Confidence.j0 k a0 a1 true a2_0 a2_1) else (gangsawref33_Confidence.j0 k a0 a1 (decide (a1 > a0)) a2_0 a2_1)))) else (gangsawref33_Confidence.j0 k a0 a1 true a2_0 a2_1))
def gangsawref33_Confidence.T14 : Bool × List (List Nat × List Nat) := (true, [([], []), ([], []), ([0, 1], [0, 1]), ([2], [2]), ([], []), ([], []), ([4, 5], [4, 5]), ([6], [6]), ([], []), ([8], [8]), ([], []), ([10], [10]), ([9, 11], [9, 11]), ([7, 12], [7, 12]), ([3, 13], [3, 13]), ([0, 1, 0, 1, 2, 3, 4, 5, 6, 7, 8, 9, 10, 11, 12, 13, 14], [0, 1]), ([15, 14, 0, 1, 2, 3, 4, 5, 6, 7, 8, 9, 10, 11, 12, 13, 14], [14, 15])])
def gangsawref33_Confidence.B14 : List Nat := [0, 0, 3, 7, 0, 0, 48, 112, 0, 256, 0, 1024, 3840, 8176, 16383, 32767, 65535]
theorem gangsawref33_Confidence.tab14 : rtab .any (opsOf Try.f21 14) = gangsawref33_Confidence.T14 := by kernel_rfl
theorem gangsawref33_Confidence.bits14 : waitsOk gangsawref33_Confidence.T14.2 gangsawref33_Confidence.B14 = true := by kernel_rfl
def gangsawref33_Confidence.T15 : Bool × List (List Nat × List Nat) := (true, [([], []), ([], []), ([1], [1]), ([0, 2], [0, 2]), ([3], [3]), ([], []), ([], []), ([5, 6], [5, 6]), ([7], [7]), ([], []), ([9], [9]), ([8, 10], [8, 10]), ([4, 11], [4, 11]), ([0, 2, 0, 1, 2, 3, 4, 5, 6, 7, 8, 9, 10, 11, 12], [0, 2]), ([13, 12, 0, 1, 2, 3, 4, 5, 6, 7, 8, 9, 10, 11, 12], [12, 13])])
def gangsawref33_Confidence.B15 : List Nat := [0, 0, 2, 7, 15, 0, 0, 96, 224, 0, 512, 2016, 4095, 8191, 16383]
theorem gangsawref33_Confidence.tab15 : rtab .any (opsOf Try.f21 15) = gangsawref33_Confidence.T15 := by kernel_rfl
theorem gangsawref33_Confidence.bits15 : waitsOk gangsawref33_Confidence.T15.2 gangsawref33_Confidence.B15 = true := by kernel_rfl
set_option maxHeartbeats 8000000 in
set_option maxRecDepth 100000 in
theorem gangsawref33_Confidence.calls (k : Nat) (a0 : Int) (a1 : Int) (a2_0 : Int) (a2_1 : Int) (r1 : Int) (r2 : Int) (r3 : Int) (w : World) (h : gangsawref33_Confidence.f k a0 a1 a2_0 a2_1 = some (r1, r2, r3)) :
  Calls Try.prog 21 #[.int .i64 a0, .int .i64 a1, .agg #[.int .i64 a2_0, .int .i64 a2_1]] w fun e w' => e = .returned (.tuple #[.agg #[.int .i64 r1, .int .i64 r2], .int .i64 r3]) ∧ Below w.heap.size w w' := by
 have hu33 := Try.underlying33
 have HB := aK (Below.refl w.heap.size w)
 have H : ((gangsawref33_unit.f k a2_0 a2_1).bind fun t546 => (if t546 = true then (if a0 < 1 then (gangsawref33_Confidence.j0 k a0 a1 true a2_0 a2_1) else (if a0 > 59 then (gangsawref33_Confidence.j0 k a0 a1 true a2_0 a2_1) else (if a1 < 0 then (gangsawref33_Confidence.j0 k a0 a1 true a2_0 a2_1) else (gangsawref33_Confidence.j0 k a0 a1 (decide (a1 > a0)) a2_0 a2_1)))) else (gangsawref33_Confidence.j0 k a0 a1 true a2_0 a2_1))) = some (r1, r2, r3) := h
 clear h
 have HC4 := aK H
 clear H
 go_enter Try.func21, Try.ntmps21
 go_upto_region 1 with (first | ((with_reducible refine gate_dst (N := 5) rfl ?_); refine box_event ?hg (N := 5) ?hd (cs := #[.int .i64 a2_0, .int .i64 a2_1]) (t := 33) ?hr ?_; (case hd => rfl); (case hg => rfl); (case hr => first | (go_simp; done) | (go_simp; rfl)); intro gb544 hg w5 hbox hb; have n0_ := aK (yT (HB.out) hb); have n1_ := aK (hbox); have n2_ := aK ((by rw [hg]; exact (yZ (HB.out)) : w.heap.size ≤ gb544)); have n3_ := n2_; clear HB; have HB := n0_; have BK544 := n1_; have GW544 := n2_; have GE544 := n3_; clear n0_ n1_ n2_ n3_; clear hb hbox hg) | ((with_reducible refine gate_dst (N := 6) rfl ?_); refine box_event ?hg (N := 6) ?hd (cs := #[.int .i64 0, .int .i64 0]) (t := 33) ?hr ?_; (case hd => rfl); (case hg => rfl); (case hr => first | (go_simp; done) | (go_simp; rfl)); intro gb545 hg w6 hbox hb; have n0_ := aK (zB (g := gb544) (o := .cells #[.int .i64 a2_0, .int .i64 a2_1] 33 (0, 0)) (BK544.out) hb); have n1_ := aK (yT (HB.out) hb); have n2_ := aK (hbox); have n3_ := aK ((by rw [hg]; exact (yZ (HB.out)) : w.heap.size ≤ gb545)); have n4_ := n3_; have n5_ := aK ((by rw [hg]; exact Nat.ne_of_lt (blk_lt (g := gb544) (o := .cells #[.int .i64 a2_0, .int .i64 a2_1] 33 (0, 0)) (BK544.out)) : gb544 ≠ gb545)); have n6_ := aK ((by rw [hg]; exact Nat.ne_of_gt (blk_lt (g := gb544) (o := .cells #[.int .i64 a2_0, .int .i64 a2_1] 33 (0, 0)) (BK544.out)) : gb545 ≠ gb544)); clear BK544; clear HB; have BK544 := n0_; have HB := n1_; have BK545 := n2_; have GW545 := n3_; have GE545 := n4_; have NB544_545 := n5_; have NB545_544 := n6_; clear n0_ n1_ n2_ n3_ n4_ n5_ n6_; clear hb hbox hg))
 (try simp only [Act.put, sA, sZ, sS])
 go_cut [34] (fun v34 wc => ∃ (kq : Nat) (x34_3 : Bool), v34 = .bool x34_3 ∧ Aside0 (gangsawref33_Confidence.j0 kq a0 a1 x34_3 a2_0 a2_1 = some (r1, r2, r3)) ∧ Aside0 (kq ≤ k) ∧ Aside0 (wc.heap[gb544]? = some (.cells #[.int .i64 a2_0, .int .i64 a2_1] 33 (0, 0))) ∧ Aside0 (wc.heap[gb545]? = some (.cells #[.int .i64 0, .int .i64 0] 33 (0, 0))) ∧ Aside0 (Below w.heap.size w wc))
 case first =>
  have H := HC4.out
  clear HC4
  replace H := Option.bind_eq_some_iff.mp H
  obtain ⟨t546, A70, H⟩ := H
  replace H : (if t546 = true then (if a0 < 1 then (gangsawref33_Confidence.j0 k a0 a1 true a2_0 a2_1) else (if a0 > 59 then (gangsawref33_Confidence.j0 k a0 a1 true a2_0 a2_1) else (if a1 < 0 then (gangsawref33_Confidence.j0 k a0 a1 true a2_0 a2_1) else (gangsawref33_Confidence.j0 k a0 a1 (decide (a1 > a0)) a2_0 a2_1)))) else (gangsawref33_Confidence.j0 k a0 a1 true a2_0 a2_1)) = some (r1, r2, r3) := H
  have A7 := aK A70
  clear A70
  by_cases c8 : t546 = true
  rotate_left
  ·replace c8 := Bool.eq_false_iff.mpr c8
   subst c8
   have H1 : (gangsawref33_Confidence.j0 k a0 a1 true a2_0 a2_1) = some (r1, r2, r3) := by rw [if_neg (show ¬ (false = true) by decide)] at H; exact H
   clear H
   have H := H1
   clear H1
   have H' := aK H
   clear H
   have hnb24 := NB544_545.out
   have hnc24 := NB545_544.out
   have hcz25_0 := zI BK544 0 rfl
   have hcz25_1 := zI BK544 1 rfl
   have hfz25_0 := zF BK544.out 0
   have hfz25_1 := zF BK544.out 1
   go_wp2_with (first | ((with_reducible refine gate_callee (f := 46) rfl ?_); refine goesL_ (some 16) rfl rfl Try.func46 (by kernel_rfl) rfl #[.agg #[.int .i64 a2_0, .int .i64 a2_1]] rfl (by (try simp only [List.map_toArray, List.map_cons, List.map_nil]); first | done | rfl | (simp only [List.length_drop, List.length_take]; rfl)) ?_; (with_reducible refine (gangsawref33_unit.calls k a2_0 a2_1 false _ A7.out).mono ?_); rintro e w26 ⟨rfl, hb⟩; refine ⟨_, rfl, ?_⟩; have n0_ := aK (zB (g := gb544) (o := .cells #[.int .i64 a2_0, .int .i64 a2_1] 33 (0, 0)) (BK544.out) hb); have n1_ := aK (zB (g := gb545) (o := .cells #[.int .i64 0, .int .i64 0] 33 (0, 0)) (BK545.out) hb); have n2_ := aK (yT (HB.out) hb); clear BK544; clear BK545; clear HB; have BK544 := n0_; have BK545 := n1_; have HB := n2_; clear n0_ n1_ n2_; (try clear hb)))
   go_meet
   case rel => exact ⟨_, (true), (by first | rfl | (simp; done) | (simp [*]; done)), H', ⟨by first | omega | exact Nat.le_refl _⟩, ⟨BK544.out⟩, ⟨BK545.out⟩, ⟨HB.out⟩⟩
  subst c8
  have H1 : (if a0 < 1 then (gangsawref33_Confidence.j0 k a0 a1 true a2_0 a2_1) else (if a0 > 59 then (gangsawref33_Confidence.j0 k a0 a1 true a2_0 a2_1) else (if a1 < 0 then (gangsawref33_Confidence.j0 k a0 a1 true a2_0 a2_1) else (gangsawref33_Confidence.j0 k a0 a1 (decide (a1 > a0)) a2_0 a2_1)))) = some (r1, r2, r3) := by rw [if_pos rfl] at H; exact H
  clear H
  have H := H1
  clear H1
  by_cases c9 : a0 < 1
  ·rw [if_pos c9] at H
   have c9b0 : decide (a0 < 1) = true := decide_eq_true c9
   clear c9
   (first | rw [c9b0] | (simp only [i64_w, i32_w]; rw [c9b0]) | skip)
   have H' := aK H
   clear H
   have hnb10 := NB544_545.out
   have hnc10 := NB545_544.out
   have hcz11_0 := zI BK544 0 rfl
   have hcz11_1 := zI BK544 1 rfl
   have hfz11_0 := zF BK544.out 0
   have hfz11_1 := zF BK544.out 1
   go_wp2_with (first | ((with_reducible refine gate_callee (f := 46) rfl ?_); refine goesL_ (some 16) rfl rfl Try.func46 (by kernel_rfl) rfl #[.agg #[.int .i64 a2_0, .int .i64 a2_1]] rfl (by (try simp only [List.map_toArray, List.map_cons, List.map_nil]); first | done | rfl | (simp only [List.length_drop, List.length_take]; rfl)) ?_; (with_reducible refine (gangsawref33_unit.calls k a2_0 a2_1 true _ A7.out).mono ?_); rintro e w12 ⟨rfl, hb⟩; refine ⟨_, rfl, ?_⟩; have n0_ := aK (zB (g := gb544) (o := .cells #[.int .i64 a2_0, .int .i64 a2_1] 33 (0, 0)) (BK544.out) hb); have n1_ := aK (zB (g := gb545) (o := .cells #[.int .i64 0, .int .i64 0] 33 (0, 0)) (BK545.out) hb); have n2_ := aK (yT (HB.out) hb); clear BK544; clear BK545; clear HB; have BK544 := n0_; have BK545 := n1_; have HB := n2_; clear n0_ n1_ n2_; (try clear hb)))
   go_meet
   case rel => exact ⟨_, (true), (by first | rfl | (simp; done) | (simp [*]; done)), H', ⟨by first | omega | exact Nat.le_refl _⟩, ⟨BK544.out⟩, ⟨BK545.out⟩, ⟨HB.out⟩⟩
  rw [if_neg c9] at H
  have c9b0 : decide (a0 < 1) = false := decide_eq_false c9
  clear c9
  (first | rw [c9b0] | (simp only [i64_w, i32_w]; rw [c9b0]) | skip)
  by_cases c13 : a0 > 59
  ·rw [if_pos c13] at H
   have c13b0 : decide (59 < a0) = true := decide_eq_true c13
   clear c13
   have H' := aK H
   clear H
   have hnb14 := NB544_545.out
   have hnc14 := NB545_544.out
   have hcz15_0 := zI BK544 0 rfl
   have hcz15_1 := zI BK544 1 rfl
   have hfz15_0 := zF BK544.out 0
   have hfz15_1 := zF BK544.out 1
   go_wp2_with (first | ((with_reducible refine gate_callee (f := 46) rfl ?_); refine goesL_ (some 16) rfl rfl Try.func46 (by kernel_rfl) rfl #[.agg #[.int .i64 a2_0, .int .i64 a2_1]] rfl (by (try simp only [List.map_toArray, List.map_cons, List.map_nil]); first | done | rfl | (simp only [List.length_drop, List.length_take]; rfl)) ?_; (with_reducible refine (gangsawref33_unit.calls k a2_0 a2_1 true _ A7.out).mono ?_); rintro e w16 ⟨rfl, hb⟩; refine ⟨_, rfl, ?_⟩; have n0_ := aK (zB (g := gb544) (o := .cells #[.int .i64 a2_0, .int .i64 a2_1] 33 (0, 0)) (BK544.out) hb); have n1_ := aK (zB (g := gb545) (o := .cells #[.int .i64 0, .int .i64 0] 33 (0, 0)) (BK545.out) hb); have n2_ := aK (yT (HB.out) hb); clear BK544; clear BK545; clear HB; have BK544 := n0_; have BK545 := n1_; have HB := n2_; clear n0_ n1_ n2_; (try clear hb)))
   go_meet
   case rel => exact ⟨_, (true), (by first | rfl | (simp; done) | (simp [*]; done)), H', ⟨by first | omega | exact Nat.le_refl _⟩, ⟨BK544.out⟩, ⟨BK545.out⟩, ⟨HB.out⟩⟩
  rw [if_neg c13] at H
  have c13b0 : decide (59 < a0) = false := decide_eq_false c13
  clear c13
  by_cases c17 : a1 < 0
  ·rw [if_pos c17] at H
   have c17b0 : decide (a1 < 0) = true := decide_eq_true c17
   clear c17
   have H' := aK H
   clear H
   have hnb18 := NB544_545.out
   have hnc18 := NB545_544.out
   have hcz19_0 := zI BK544 0 rfl
   have hcz19_1 := zI BK544 1 rfl
   have hfz19_0 := zF BK544.out 0
   have hfz19_1 := zF BK544.out 1
   go_wp2_with (first | ((with_reducible refine gate_callee (f := 46) rfl ?_); refine goesL_ (some 16) rfl rfl Try.func46 (by kernel_rfl) rfl #[.agg #[.int .i64 a2_0, .int .i64 a2_1]] rfl (by (try simp only [List.map_toArray, List.map_cons, List.map_nil]); first | done | rfl | (simp only [List.length_drop, List.length_take]; rfl)) ?_; (with_reducible refine (gangsawref33_unit.calls k a2_0 a2_1 true _ A7.out).mono ?_); rintro e w20 ⟨rfl, hb⟩; refine ⟨_, rfl, ?_⟩; have n0_ := aK (zB (g := gb544) (o := .cells #[.int .i64 a2_0, .int .i64 a2_1] 33 (0, 0)) (BK544.out) hb); have n1_ := aK (zB (g := gb545) (o := .cells #[.int .i64 0, .int .i64 0] 33 (0, 0)) (BK545.out) hb); have n2_ := aK (yT (HB.out) hb); clear BK544; clear BK545; clear HB; have BK544 := n0_; have BK545 := n1_; have HB := n2_; clear n0_ n1_ n2_; (try clear hb)))
   go_meet
   case rel => exact ⟨_, (true), (by first | rfl | (simp; done) | (simp [*]; done)), H', ⟨by first | omega | exact Nat.le_refl _⟩, ⟨BK544.out⟩, ⟨BK545.out⟩, ⟨HB.out⟩⟩
  rw [if_neg c17] at H
  have c17b0 : decide (a1 < 0) = false := decide_eq_false c17
  clear c17
  have H' := aK H
  clear H
  have hnb21 := NB544_545.out
  have hnc21 := NB545_544.out
  have hcz22_0 := zI BK544 0 rfl
  have hcz22_1 := zI BK544 1 rfl
  have hfz22_0 := zF BK544.out 0
  have hfz22_1 := zF BK544.out 1
  go_wp2_with (first | ((with_reducible refine gate_callee (f := 46) rfl ?_); refine goesL_ (some 16) rfl rfl Try.func46 (by kernel_rfl) rfl #[.agg #[.int .i64 a2_0, .int .i64 a2_1]] rfl (by (try simp only [List.map_toArray, List.map_cons, List.map_nil]); first | done | rfl | (simp only [List.length_drop, List.length_take]; rfl)) ?_; (with_reducible refine (gangsawref33_unit.calls k a2_0 a2_1 true _ A7.out).mono ?_); rintro e w23 ⟨rfl, hb⟩; refine ⟨_, rfl, ?_⟩; have n0_ := aK (zB (g := gb544) (o := .cells #[.int .i64 a2_0, .int .i64 a2_1] 33 (0, 0)) (BK544.out) hb); have n1_ := aK (zB (g := gb545) (o := .cells #[.int .i64 0, .int .i64 0] 33 (0, 0)) (BK545.out) hb); have n2_ := aK (yT (by repeat (first | (with_reducible first | exact HB.out | apply yA | apply yN | apply yD | refine yS ?_ GE544.out | refine yS ?_ GE545.out) | exact HB.out)) hb); clear BK544; clear BK545; clear HB; have BK544 := n0_; have BK545 := n1_; have HB := n2_; clear n0_ n1_ n2_; (try clear hb)))
  go_meet
  case rel => exact ⟨_, (decide (a1 > a0)), (by first | rfl | (simp; done) | (simp [*]; done)), H', ⟨by first | omega | exact Nat.le_refl _⟩, ⟨BK544.out⟩, ⟨BK545.out⟩, ⟨by repeat (first | (with_reducible first | exact HB.out | apply yA | apply yN | apply yD | refine yS ?_ GE544.out | refine yS ?_ GE545.out) | exact HB.out)⟩⟩
 case rest =>
  clear HC4
  try clear c1
  try clear c2
  try clear p2
  try clear c4
  try clear c8
  try clear c9
  try clear c9b0
  try clear c10
  try clear c13
  try clear c13b0
  try clear c14
  try clear c17
  try clear c17b0
  try clear c18
  try clear c21
  try clear c24
  try clear hcz11_0
  try clear hcz11_1
  try clear hcz15_0
  try clear hcz15_1
  try clear hcz19_0
  try clear hcz19_1
  try clear hcz22_0
  try clear hcz22_1
  try clear hcz25_0
  try clear hcz25_1
  try clear hfz11_0
  try clear hfz11_1
  try clear hfz15_0
  try clear hfz15_1
  try clear hfz19_0
  try clear hfz19_1
  try clear hfz22_0
  try clear hfz22_1
  try clear hfz25_0
  try clear hfz25_1
  obtain ⟨kq, x34_3, rfl, HA, HJ3, BK544, BK545, HB⟩ := hcut
  cases kq with
  | zero => exact absurd HA.out (by simp [gangsawref33_Confidence.j0])
  | succ kj3 =>
   have H := HA.out
   clear HA
   simp only [gangsawref33_Confidence.j0] at H
   by_cases c27 : x34_3 = true
   ·subst c27
    have H1 : (some (0, 0, 1)) = some (r1, r2, r3) := by rw [if_pos rfl] at H; exact H
    clear H
    have H := H1
    clear H1
    simp only [Option.some.injEq, Prod.mk.injEq] at H
    obtain ⟨rfl, rfl, rfl⟩ := H
    have hnb28 := NB545_544.out
    have hnc28 := NB544_545.out
    have hcz29_0 := zI BK545 0 rfl
    have hcz29_1 := zI BK545 1 rfl
    have hfz29_0 := zF BK545.out 0
    have hfz29_1 := zF BK545.out 1
    go_wp2
    refine bodyPost_ret (results_ct rfl _ _ gb545 33 #[.int .i64 0, .int .i64 0] (0, 0) _ rfl (by refine blk_put (cs := #[.int .i64 0, .int .i64 0]) ?_ 1 _ rfl; refine blk_put (cs := #[.int .i64 0, .int .i64 0]) ?_ 0 _ rfl; exact BK545.out) Try.underlying33 rfl (by kernel_rfl)) rfl ?_
    exact ⟨rfl, by repeat (first | (with_reducible first | exact HB.out | apply yA | apply yN | apply yD | refine yS ?_ GE544.out | refine yS ?_ GE545.out) | exact HB.out)⟩
   replace c27 := Bool.eq_false_iff.mpr c27
   subst c27
   have H1 : ((gangsawref33_power.f kj3 a2_1 a0).bind fun t547 => (if t547 < 0 then (some (0, 0, 6)) else (gangsawref33_Confidence.l0 kj3 a0 a1 t547 (([1] : List Int)) 0 a2_0 a2_1))) = some (r1, r2, r3) := by rw [if_neg (show ¬ (false = true) by decide)] at H; exact H
   clear H
   have H := H1
   clear H1
   replace H := Option.bind_eq_some_iff.mp H
   obtain ⟨t547, A300, H⟩ := H
   replace H : (if t547 < 0 then (some (0, 0, 6)) else (gangsawref33_Confidence.l0 kj3 a0 a1 t547 (([1] : List Int)) 0 a2_0 a2_1)) = some (r1, r2, r3) := H
   have A30 := aK A300
   clear A300
   by_cases c31 : t547 < 0
   ·rw [if_pos c31] at H
    have c31b0 : decide (t547 < 0) = true := decide_eq_true c31
    clear c31
    simp only [Option.some.injEq, Prod.mk.injEq] at H
    obtain ⟨rfl, rfl, rfl⟩ := H
    have hnb32 := NB544_545.out
    have hnc32 := NB545_544.out
    have hcz33_0 := zI BK544 0 rfl
    have hcz33_1 := zI BK544 1 rfl
    have hfz33_0 := zF BK544.out 0
    have hfz33_1 := zF BK544.out 1
    go_wp2_with (first | ((with_reducible refine gate_callee (f := 47) rfl ?_); refine goesL_ (some 39) rfl rfl Try.func47 (by kernel_rfl) rfl #[.int .i64 a2_1, .int .i64 a0] rfl (by (try simp only [List.map_toArray, List.map_cons, List.map_nil]); first | done | rfl | (simp only [List.length_drop, List.length_take]; rfl)) ?_; (with_reducible refine (gangsawref33_power.calls kj3 a2_1 a0 t547 _ A30.out).mono ?_); rintro e w' ⟨rfl, ⟨nd, rfl⟩⟩; refine ⟨_, rfl, ?_⟩; (try (rw [drewN_self wc]; generalize hq_ : World.drewN wc _ = wc; have n0_ : Aside0 (wc.heap[gb544]? = some (.cells #[.int .i64 a2_0, .int .i64 a2_1] 33 (0, 0))) := ⟨by rw [← hq_]; exact (BK544.out)⟩; have n1_ : Aside0 (wc.heap[gb545]? = some (.cells #[.int .i64 0, .int .i64 0] 33 (0, 0))) := ⟨by rw [← hq_]; exact (BK545.out)⟩; have n2_ : Aside0 (Below w.heap.size w wc) := ⟨by rw [← hq_]; exact (by repeat (first | (with_reducible first | exact HB.out | apply yA | apply yN | apply yD | refine yS ?_ GE544.out | refine yS ?_ GE545.out) | exact HB.out))⟩; clear BK544 BK545 HB hq_; have BK544 := n0_; have BK545 := n1_; have HB := n2_; clear n0_ n1_ n2_)); have hcz34_0 := zI BK545 0 rfl; have hcz34_1 := zI BK545 1 rfl; have hfz34_0 := zF BK545.out 0; have hfz34_1 := zF BK545.out 1))
    refine bodyPost_ret (results_ct rfl _ _ gb545 33 #[.int .i64 0, .int .i64 0] (0, 0) _ rfl (by refine blk_put (cs := #[.int .i64 0, .int .i64 0]) ?_ 1 _ rfl; refine blk_put (cs := #[.int .i64 0, .int .i64 0]) ?_ 0 _ rfl; exact BK545.out) Try.underlying33 rfl (by kernel_rfl)) rfl ?_
    exact ⟨rfl, by repeat (first | (with_reducible first | exact HB.out | apply yA | apply yN | apply yD | refine yS ?_ GE544.out | refine yS ?_ GE545.out) | exact HB.out)⟩
   rw [if_neg c31] at H
   have c31b0 : decide (t547 < 0) = false := decide_eq_false c31
   clear c31
   obtain ⟨y548, hy548⟩ : ∃ y_ : List Int, y_ = (([1] : List Int)) := ⟨_, rfl⟩
   replace H : (gangsawref33_Confidence.l0 kj3 a0 a1 t547 y548 0 a2_0 a2_1) = some (r1, r2, r3) := by first | (rw [hy548]; with_reducible exact H) | (have H2_ := (Option.bind_some _ _).symm.trans H; rw [hy548]; with_reducible exact H2_) | (have H2_ := (Option.bind_some _ _).symm.trans H; with_reducible exact H2_) | with_reducible exact H | (rw [hy548]; exact H) | exact H
   have Ny548 := aK hy548
   clear hy548
   have H' := aK H
   clear H
   have hnb35 := NB544_545.out
   have hnc35 := NB545_544.out
   have hcz36_0 := zI BK544 0 rfl
   have hcz36_1 := zI BK544 1 rfl
   have hfz36_0 := zF BK544.out 0
   have hfz36_1 := zF BK544.out 1
   go_wp2_with (first | ((with_reducible refine gate_callee (f := 47) rfl ?_); refine goesL_ (some 39) rfl rfl Try.func47 (by kernel_rfl) rfl #[.int .i64 a2_1, .int .i64 a0] rfl (by (try simp only [List.map_toArray, List.map_cons, List.map_nil]); first | done | rfl | (simp only [List.length_drop, List.length_take]; rfl)) ?_; (with_reducible refine (gangsawref33_power.calls kj3 a2_1 a0 t547 _ A30.out).mono ?_); rintro e w' ⟨rfl, ⟨nd, rfl⟩⟩; refine ⟨_, rfl, ?_⟩) | ((with_reducible refine gate_dst (N := 43) rfl ?_); refine Kd.R_lit (Kd.int .i64) _ 2 ?hg (N := 43) ?hd (xs := ([1] : List Int)) (inner := [.int .i64 1]) (ok := fun _ => True) (okp := fun _ => True) ?hr ?hp (fun _ hk => hk) trivial (Below.refl _ _) (Nat.le_refl _) (by simp) ?_; (case hd => rfl); (case hg => rfl); (case hr => first | (go_simp; done) | (go_simp; rfl)); (case hp => exact (Reps.one (show Kd.M (Kd.int .i64) _ _ _ 1 [.int .i64 1] from rfl) (Reps.none _ _))); intro v549 w37 ho38 hb hg_ hnew_; clear hg_ hnew_; (first | rw [← Ny548.out] at ho38 | (simp only [Int.reduceToNat] at ho38; rw [← Ny548.out] at ho38)); have n0_ := aK (Kd.R_lower ho38 (yZ (by repeat (first | (with_reducible first | exact HB.out | apply yA | apply yN | apply yD | refine yS ?_ GE544.out | refine yS ?_ GE545.out) | exact HB.out)))); have n1_ := aK (zB (g := gb544) (o := .cells #[.int .i64 a2_0, .int .i64 a2_1] 33 (0, 0)) (by exact BK544.out) hb); have n2_ := aK (zB (g := gb545) (o := .cells #[.int .i64 0, .int .i64 0] 33 (0, 0)) (by exact BK545.out) hb); have n3_ := aK (yT (by repeat (first | (with_reducible first | exact HB.out | apply yA | apply yN | apply yD | refine yS ?_ GE544.out | refine yS ?_ GE545.out) | exact HB.out)) hb); clear BK544; clear BK545; clear HB; have HO550 := n0_; have BK544 := n1_; have BK545 := n2_; have HB := n3_; clear n0_ n1_ n2_ n3_; clear hb ho38))
   go_loopg [9, 10] kj3 (fun kq v9 v10 w' => ∃ (x9_2 : List Int) (x10_2 : Int), v10 = .int .i64 x10_2 ∧ Aside0 (gangsawref33_Confidence.l0 kq a0 a1 t547 x9_2 x10_2 a2_0 a2_1 = some (r1, r2, r3)) ∧ Aside0 (kq ≤ kj3) ∧ Aside0 (Kd.R (Kd.int .i64) 2 w' w.heap.size (fun _ => True) v9 x9_2) ∧ Aside0 (w'.heap[gb544]? = some (.cells #[.int .i64 a2_0, .int .i64 a2_1] 33 (0, 0))) ∧ Aside0 (w'.heap[gb545]? = some (.cells #[.int .i64 0, .int .i64 0] 33 (0, 0))) ∧ Aside0 (Below w.heap.size w w'))
   case atStart => exact ⟨(y548), (0), (by first | rfl | (simp; done) | (simp [*]; done)), H', ⟨Nat.le_refl _⟩, ⟨HO550.out⟩, ⟨by exact BK544.out⟩, ⟨by exact BK545.out⟩, ⟨by repeat (first | (with_reducible first | exact HB.out | apply yA | apply yN | apply yD | refine yS ?_ GE544.out | refine yS ?_ GE545.out) | exact HB.out)⟩⟩
   case round =>
    clear H'
    try clear c1
    try clear c2
    try clear p2
    try clear c3
    try clear c4
    try clear c8
    try clear c9
    try clear c9b0
    try clear c10
    try clear c13
    try clear c13b0
    try clear c14
    try clear c17
    try clear c17b0
    try clear c18
    try clear c21
    try clear c24
    try clear c27
    try clear c28
    try clear c31
    try clear c31b0
    try clear c32
    try clear c35
    try clear hcz11_0
    try clear hcz11_1
    try clear hcz15_0
    try clear hcz15_1
    try clear hcz19_0
    try clear hcz19_1
    try clear hcz22_0
    try clear hcz22_1
    try clear hcz25_0
    try clear hcz25_1
    try clear hcz29_0
    try clear hcz29_1
    try clear hcz33_0
    try clear hcz33_1
    try clear hcz34_0
    try clear hcz34_1
    try clear hcz36_0
    try clear hcz36_1
    try clear hfz11_0
    try clear hfz11_1
    try clear hfz15_0
    try clear hfz15_1
    try clear hfz19_0
    try clear hfz19_1
    try clear hfz22_0
    try clear hfz22_1
    try clear hfz25_0
    try clear hfz25_1
    try clear hfz29_0
    try clear hfz29_1
    try clear hfz33_0
    try clear hfz33_1
    try clear hfz34_0
    try clear hfz34_1
    try clear hfz36_0
    try clear hfz36_1
    try clear p2
    obtain ⟨x9_2, x10_2, rfl, HA, HK2, HO_9, BK544, BK545, HB⟩ := hrel
    cases gk with
    | zero => exact absurd HA.out (by simp [gangsawref33_Confidence.l0])
    | succ k2 =>
     have H := HA.out
     clear HA
     simp only [gangsawref33_Confidence.l0] at H
     by_cases c39 : x10_2 < a0
     rotate_left
     ·rw [if_neg c39] at H
      have c39b0 : decide (x10_2 < a0) = false := decide_eq_false c39
      clear c39
      have H' := aK H
      clear H
      go_wp2
      go_loopg [13, 14] k2 (fun kq v13 v14 w' => ∃ (x13_3 : Int) (x14_3 : Int), v13 = .int .i64 x13_3 ∧ v14 = .int .i64 x14_3 ∧ Aside0 (gangsawref33_Confidence.l2 kq a0 t547 x9_2 x13_3 x14_3 = some (r1, r2, r3)) ∧ Aside0 (kq ≤ k2) ∧ Aside0 (Kd.R (Kd.int .i64) 2 w' w.heap.size (fun _ => True) u9 x9_2) ∧ Aside0 (w'.heap[gb544]? = some (.cells #[.int .i64 a2_0, .int .i64 a2_1] 33 (0, 0))) ∧ Aside0 (w'.heap[gb545]? = some (.cells #[.int .i64 0, .int .i64 0] 33 (0, 0))) ∧ Aside0 (Below w.heap.size w w'))
      case atStart => exact ⟨(0), (a1), (by first | rfl | (simp; done) | (simp [*]; done)), (by first | rfl | (simp; done) | (simp [*]; done)), H', ⟨Nat.le_refl _⟩, ⟨HO_9.out⟩, ⟨BK544.out⟩, ⟨BK545.out⟩, ⟨HB.out⟩⟩
      case round =>
       clear H'
       try clear c1
       try clear c2
       try clear p2
       try clear c3
       try clear c4
       try clear p4
       try clear q4
       try clear hx4
       try clear hf4
       try clear c5
       try clear p5
       try clear q5
       try clear hx5
       try clear hf5
       try clear p6
       try clear c8
       try clear c9
       try clear c9b0
       try clear c10
       try clear c13
       try clear c13b0
       try clear c14
       try clear c17
       try clear c17b0
       try clear c18
       try clear c21
       try clear c24
       try clear c27
       try clear c28
       try clear c31
       try clear c31b0
       try clear c32
       try clear c35
       try clear c39
       try clear c39b0
       try clear c41
       try clear c41b0
       try clear c41b1
       try clear c42
       try clear c42b0
       try clear c42b1
       try clear c46
       try clear c46b0
       try clear c47
       try clear c47b0
       try clear c48
       try clear c48b0
       try clear p49
       try clear q49
       try clear hx49
       try clear hf49
       try clear c51
       try clear c51b0
       try clear c52
       try clear c52b0
       try clear p53
       try clear q53
       try clear hx53
       try clear hf53
       try clear p55
       try clear q55
       try clear hx55
       try clear hcz11_0
       try clear hcz11_1
       try clear hcz15_0
       try clear hcz15_1
       try clear hcz19_0
       try clear hcz19_1
       try clear hcz22_0
       try clear hcz22_1
       try clear hcz25_0
       try clear hcz25_1
       try clear hcz29_0
       try clear hcz29_1
       try clear hcz33_0
       try clear hcz33_1
       try clear hcz34_0
       try clear hcz34_1
       try clear hcz36_0
       try clear hcz36_1
       try clear hfz11_0
       try clear hfz11_1
       try clear hfz15_0
       try clear hfz15_1
       try clear hfz19_0
       try clear hfz19_1
       try clear hfz22_0
       try clear hfz22_1
       try clear hfz25_0
       try clear hfz25_1
       try clear hfz29_0
       try clear hfz29_1
       try clear hfz33_0
       try clear hfz33_1
       try clear hfz34_0
       try clear hfz34_1
       try clear hfz36_0
       try clear hfz36_1
       try clear hx49_0
       try clear hx53_0
       try clear hx554_0
       try clear hx555_0
       try clear hx557_0
       try clear hx558_0
       try clear p2
       try clear p49
       try clear p53
       try clear p554
       try clear p555
       try clear p557
       try clear p558
       try clear p6
       try clear q49
       try clear q53
       try clear q554
       try clear q555
       try clear q557
       try clear q558
       obtain ⟨x13_3, x14_3, rfl, rfl, HA, HK3, HO_9, BK544, BK545, HB⟩ := hrel
       cases gk with
       | zero => exact absurd HA.out (by simp [gangsawref33_Confidence.l2])
       | succ k3 =>
        have H := HA.out
        clear HA
        simp only [gangsawref33_Confidence.l2] at H
        by_cases c60 : x14_3 ≤ a0
        ·rw [if_pos c60] at H
         have c60b0 : decide (x14_3 ≤ a0) = true := decide_eq_true c60
         clear c60
         by_cases c61 : 0 ≤ x14_3
         rotate_left
         ·rw [if_neg c61] at H
          exact absurd H (by simp)
         rw [if_pos c61] at H
         have c61b0 : decide (0 ≤ x14_3) = true := decide_eq_true c61
         clear c61
         by_cases c62 : x14_3 < (x9_2.length : Int)
         rotate_left
         ·rw [if_neg c62] at H
          exact absurd H (by simp)
         rw [if_pos c62] at H
         have c62b0 : decide (x14_3 < (x9_2.length : Int)) = true := decide_eq_true c62
         clear c62
         have H' := aK H
         clear H
         obtain ⟨Ao63, co63, eo63⟩ := Kd.R_slice HO_9.out
         subst eo63
         have p560 : 0 ≤ (x14_3 : Int) := of_decide_eq_true (by assumption)
         have q560 : x14_3 < (x9_2.length : Int) := of_decide_eq_true (by assumption)
         obtain ⟨ad560, e560, hx560_0⟩ := Kd.at_int (Kd.R_reads' HO_9.out).2.2 x14_3 p560 q560
         cases e560
         replace p560 := eq_true p560
         replace q560 := eq_true q560
         go_wp2
         go_roundg k3
         case measure => have := HJ3.out; have := HK2.out; have := HK3.out; omega
         case rel => exact ⟨(wrap64 (x13_3 + (rd x9_2 x14_3))), (wrap64 (x14_3 + 1)), (by first | rfl | (simp; done) | (simp [*]; done)), (by first | rfl | (simp; done) | (simp [*]; done)), H', ⟨by have := HJ3.out; have := HK2.out; have := HK3.out; omega⟩, ⟨HO_9.out⟩, ⟨BK544.out⟩, ⟨BK545.out⟩, ⟨HB.out⟩⟩
        rw [if_neg c60] at H
        have c60b0 : decide (x14_3 ≤ a0) = false := decide_eq_false c60
        clear c60
        replace H := Option.bind_eq_some_iff.mp H
        obtain ⟨⟨t561, t562, t563⟩, A640, H⟩ := H
        replace H : (some (t561, t562, t563)) = some (r1, r2, r3) := H
        have A64 := aK A640
        clear A640
        simp only [Option.some.injEq, Prod.mk.injEq] at H
        obtain ⟨rfl, rfl, rfl⟩ := H
        go_wp2_with (first | ((with_reducible refine gate_callee (f := 48) rfl ?_); refine goesL_ (some 104) rfl rfl Try.func48 (by kernel_rfl) rfl #[.int .i64 x13_3, .int .i64 t547] rfl (by (try simp only [List.map_toArray, List.map_cons, List.map_nil]); first | done | rfl | (simp only [List.length_drop, List.length_take]; rfl)) ?_; (with_reducible refine (gangsawref04_New.calls k3 x13_3 t547 t561 t562 t563 _ A64.out).mono ?_); rintro e w65 ⟨rfl, hb⟩; refine ⟨_, rfl, ?_⟩; have n0_ := aK (Kd.R_below (HO_9.out) hb); have n1_ := aK (zB (g := gb544) (o := .cells #[.int .i64 a2_0, .int .i64 a2_1] 33 (0, 0)) (BK544.out) hb); have n2_ := aK (zB (g := gb545) (o := .cells #[.int .i64 0, .int .i64 0] 33 (0, 0)) (BK545.out) hb); have n3_ := aK (yT (by repeat (first | (with_reducible first | exact HB.out | apply yA | apply yN | apply yD | refine yS ?_ GE544.out | refine yS ?_ GE545.out) | exact HB.out)) hb); clear HO_9; clear BK544; clear BK545; clear HB; have HO_9 := n0_; have BK544 := n1_; have BK545 := n2_; have HB := n3_; clear n0_ n1_ n2_ n3_; (try clear hb); have hnb66 := NB545_544.out; have hnc66 := NB544_545.out; have hcz67_0 := zI BK545 0 rfl; have hcz67_1 := zI BK545 1 rfl; have hfz67_0 := zF BK545.out 0; have hfz67_1 := zF BK545.out 1))
        refine bodyPost_ret (results_ct rfl _ _ gb545 33 #[.int .i64 t561, .int .i64 t562] (0, 0) _ rfl (by refine blk_put (cs := #[.int .i64 t561, .int .i64 0]) ?_ 1 _ rfl; refine blk_put (cs := #[.int .i64 0, .int .i64 0]) ?_ 0 _ rfl; exact BK545.out) Try.underlying33 rfl (by kernel_rfl)) rfl ?_
        exact ⟨rfl, by repeat (first | (with_reducible first | exact HB.out | apply yA | apply yN | apply yD | refine yS ?_ GE544.out | refine yS ?_ GE545.out) | exact HB.out)⟩
     rw [if_pos c39] at H
     have c39b0 : decide (x10_2 < a0) = true := decide_eq_true c39
     clear c39
     obtain ⟨ji40, hji40⟩ : ∃ j_ : Int, (wrap64 ((x9_2.length : Int) + 1)) = j_ := ⟨_, rfl⟩
     replace H : (if 0 ≤ (ji40) then (if (ji40 : Int).toNat ≤ 35184372088832 then (gangsawref33_Confidence.l1 k2 a0 a1 t547 x9_2 x10_2 (List.replicate (ji40 : Int).toNat 0) 0 a2_0 a2_1) else (none)) else (none)) = some (r1, r2, r3) := by first | (rw [hji40] at H; exact H) | (simp only [hji40] at H ⊢; exact H)
     have hji40w : (IntKind.i64.wrap ((x9_2.length : Int) + 1)) = ji40 := (i64_w _).trans hji40
     by_cases c41 : 0 ≤ (ji40)
     rotate_left
     ·rw [if_neg c41] at H
      exact absurd H (by simp)
     rw [if_pos c41] at H
     have c41b0 := eq_true c41
     have c41b1 : decide (0 ≤ (ji40)) = true := decide_eq_true c41
     clear c41
     by_cases c42 : (ji40 : Int).toNat ≤ 35184372088832
     rotate_left
     ·rw [if_neg c42] at H
      exact absurd H (by simp)
     rw [if_pos c42] at H
     have c42b0 := eq_true c42
     have c42b1 : decide ((ji40 : Int).toNat ≤ 35184372088832) = true := decide_eq_true c42
     clear c42
     obtain ⟨y551, hy551⟩ : ∃ y_ : List Int, y_ = (List.replicate (ji40 : Int).toNat 0) := ⟨_, rfl⟩
     replace H : (gangsawref33_Confidence.l1 k2 a0 a1 t547 x9_2 x10_2 y551 0 a2_0 a2_1) = some (r1, r2, r3) := by first | (rw [hy551]; with_reducible exact H) | (have H2_ := (Option.bind_some _ _).symm.trans H; rw [hy551]; with_reducible exact H2_) | (have H2_ := (Option.bind_some _ _).symm.trans H; with_reducible exact H2_) | with_reducible exact H | (rw [hy551]; exact H) | exact H
     have Ny551 := aK hy551
     clear hy551
     have H' := aK H
     clear H
     obtain ⟨Ao43, co43, eo43⟩ := Kd.R_slice HO_9.out
     subst eo43
     go_wp2_with (first | ((with_reducible refine gate_dst (N := 52) rfl ?_); refine Kd.R_make (Kd.int .i64) _ 2 rfl (N := 52) rfl 63 _ _ rfl ji40 rfl rfl Try.underlying63 (.int .i64 0) 8 info2 rfl (by decide) (by omega) 0 (ok := fun _ => True) (okp := fun _ => True) rfl (fun _ hk => hk) trivial (of_decide_eq_true (by assumption)) (Nat.le_trans (Nat.mul_le_mul_right _ (of_decide_eq_true (by assumption) : ji40.toNat ≤ 35184372088832)) (by omega)) (Below.refl _ _) (Nat.le_refl _) ?_; intro v552 w44 ho45 hb hg_ hnew_; clear hg_ hnew_; (first | rw [← Ny551.out] at ho45 | (simp only [Int.reduceToNat] at ho45; rw [← Ny551.out] at ho45)); have n0_ := aK (Kd.R_elder' (HO_9.out) (Kd.R_base ho45) hb); have n1_ := aK (Kd.R_lower (Kd.R_new' ho45 (Kd.R_lt (HO_9.out))) (yZ (HB.out))); have n2_ := aK (zB (g := gb544) (o := .cells #[.int .i64 a2_0, .int .i64 a2_1] 33 (0, 0)) (BK544.out) hb); have n3_ := aK (zB (g := gb545) (o := .cells #[.int .i64 0, .int .i64 0] 33 (0, 0)) (BK545.out) hb); have n4_ := aK (yT (HB.out) hb); clear HO_9; clear BK544; clear BK545; clear HB; have HO_9 := n0_; have HO553 := n1_; have BK544 := n2_; have BK545 := n3_; have HB := n4_; clear n0_ n1_ n2_ n3_ n4_; clear hb ho45))
     go_loopg [12] k2 (fun kq v12 w' => ∃ (x11_3 : List Int) (x12_3 : Int), v12 = .int .i64 x12_3 ∧ Aside0 (gangsawref33_Confidence.l1 kq a0 a1 t547 x9_2 x10_2 x11_3 x12_3 a2_0 a2_1 = some (r1, r2, r3)) ∧ Aside0 (kq ≤ k2) ∧ Aside0 (Kd.R (Kd.int .i64) 2 w' w.heap.size (fun k_ => some k_ ≠ (v552 : Value).ownBlock) (.slice Ao43 x9_2.length co43) x9_2) ∧ Aside0 (Kd.R (Kd.int .i64) 2 w' w.heap.size (fun k_ => some k_ ≠ ((.slice Ao43 x9_2.length co43) : Value).ownBlock) v552 x11_3) ∧ Aside0 (w'.heap[gb544]? = some (.cells #[.int .i64 a2_0, .int .i64 a2_1] 33 (0, 0))) ∧ Aside0 (w'.heap[gb545]? = some (.cells #[.int .i64 0, .int .i64 0] 33 (0, 0))) ∧ Aside0 (Below w.heap.size w w'))
     case atStart => exact ⟨(y551), (0), (by first | rfl | (simp; done) | (simp [*]; done)), H', ⟨Nat.le_refl _⟩, ⟨by (with_reducible repeat (first | apply Kd.R_alloc | apply Kd.R_drewN | apply Kd.R_drew)); exact Kd.R_mono HO_9.out (fun _ hk => hk.2)⟩, ⟨by (with_reducible repeat (first | apply Kd.R_alloc | apply Kd.R_drewN | apply Kd.R_drew)); exact Kd.R_mono HO553.out (fun _ hk => hk.2)⟩, ⟨BK544.out⟩, ⟨BK545.out⟩, ⟨HB.out⟩⟩
     case round =>
      clear H'
      try clear c1
      try clear c2
      try clear p2
      try clear c3
      try clear c4
      try clear p6
      try clear c8
      try clear c9
      try clear c9b0
      try clear c10
      try clear c13
      try clear c13b0
      try clear c14
      try clear c17
      try clear c17b0
      try clear c18
      try clear c21
      try clear c24
      try clear c27
      try clear c28
      try clear c31
      try clear c31b0
      try clear c32
      try clear c35
      try clear c39
      try clear c39b0
      try clear c41
      try clear c41b0
      try clear c41b1
      try clear c42
      try clear c42b0
      try clear c42b1
      try clear hcz11_0
      try clear hcz11_1
      try clear hcz15_0
      try clear hcz15_1
      try clear hcz19_0
      try clear hcz19_1
      try clear hcz22_0
      try clear hcz22_1
      try clear hcz25_0
      try clear hcz25_1
      try clear hcz29_0
      try clear hcz29_1
      try clear hcz33_0
      try clear hcz33_1
      try clear hcz34_0
      try clear hcz34_1
      try clear hcz36_0
      try clear hcz36_1
      try clear hfz11_0
      try clear hfz11_1
      try clear hfz15_0
      try clear hfz15_1
      try clear hfz19_0
      try clear hfz19_1
      try clear hfz22_0
      try clear hfz22_1
      try clear hfz25_0
      try clear hfz25_1
      try clear hfz29_0
      try clear hfz29_1
      try clear hfz33_0
      try clear hfz33_1
      try clear hfz34_0
      try clear hfz34_1
      try clear hfz36_0
      try clear hfz36_1
      try clear p2
      obtain ⟨x11_3, x12_3, rfl, HA, HK3, HO_9, HO_11, BK544, BK545, HB⟩ := hrel
      cases gk with
      | zero => exact absurd HA.out (by simp [gangsawref33_Confidence.l1])
      | succ k3 =>
       have H := HA.out
       clear HA
       simp only [gangsawref33_Confidence.l1] at H
       by_cases c46 : x12_3 < (x9_2.length : Int)
       rotate_left
       ·rw [if_neg c46] at H
        have c46b0 : decide (x12_3 < (x9_2.length : Int)) = false := decide_eq_false c46
        clear c46
        have H' := aK H
        clear H
        go_wp2
        go_roundg k3
        case measure => have := HJ3.out; have := HK2.out; have := HK3.out; omega
        case rel => exact ⟨(x11_3), (wrap64 (x10_2 + 1)), (by first | rfl | (simp; done) | (simp [*]; done)), H', ⟨by have := HJ3.out; have := HK2.out; have := HK3.out; omega⟩, ⟨by (with_reducible repeat (first | apply Kd.R_alloc | apply Kd.R_drewN | apply Kd.R_drew)); exact Kd.R_mono HO_11.out (fun _ hk => trivial)⟩, ⟨BK544.out⟩, ⟨BK545.out⟩, ⟨HB.out⟩⟩
       rw [if_pos c46] at H
       have c46b0 : decide (x12_3 < (x9_2.length : Int)) = true := decide_eq_true c46
       clear c46
       by_cases c47 : 0 ≤ x12_3
       rotate_left
       ·rw [if_neg c47] at H
        exact absurd H (by simp)
       rw [if_pos c47] at H
       have c47b0 : decide (0 ≤ x12_3) = true := decide_eq_true c47
       clear c47
       by_cases c48 : x12_3 < (x11_3.length : Int)
       rotate_left
       ·rw [if_neg c48] at H
        exact absurd H (by simp)
       rw [if_pos c48] at H
       have c48b0 : decide (x12_3 < (x11_3.length : Int)) = true := decide_eq_true c48
       clear c48
       obtain ⟨y556, hy556⟩ : ∃ y_ : List Int, y_ = (x11_3.set (x12_3 : Int).toNat (wrap64 ((rd x11_3 x12_3) + (wrap64 ((rd x9_2 x12_3) * (wrap64 (a2_1 - a2_0))))))) := ⟨_, rfl⟩
       replace H : (if 0 ≤ (wrap64 (x12_3 + 1)) then (if (wrap64 (x12_3 + 1)) < (x11_3.length : Int) then (gangsawref33_Confidence.l1 k3 a0 a1 t547 x9_2 x10_2 (y556.set ((wrap64 (x12_3 + 1)) : Int).toNat (wrap64 ((rd y556 (wrap64 (x12_3 + 1))) + (wrap64 ((rd x9_2 x12_3) * a2_0))))) (wrap64 (x12_3 + 1)) a2_0 a2_1) else (none)) else (none)) = some (r1, r2, r3) := by first | (rw [hy556]; with_reducible exact H) | (have H2_ := (Option.bind_some _ _).symm.trans H; rw [hy556]; with_reducible exact H2_) | (have H2_ := (Option.bind_some _ _).symm.trans H; with_reducible exact H2_) | with_reducible exact H | (rw [hy556]; exact H) | exact H
       have Ny556 := aK hy556
       clear hy556
       obtain ⟨ji50, hji50⟩ : ∃ j_ : Int, (wrap64 (x12_3 + 1)) = j_ := ⟨_, rfl⟩
       replace H : (if 0 ≤ (ji50) then (if (ji50) < (x11_3.length : Int) then (gangsawref33_Confidence.l1 k3 a0 a1 t547 x9_2 x10_2 (y556.set ((ji50) : Int).toNat (wrap64 ((rd y556 (ji50)) + (wrap64 ((rd x9_2 x12_3) * a2_0))))) ji50 a2_0 a2_1) else (none)) else (none)) = some (r1, r2, r3) := by first | (rw [hji50] at H; exact H) | (simp only [hji50] at H ⊢; exact H)
       have hji50w : (IntKind.i64.wrap (x12_3 + 1)) = ji50 := (i64_w _).trans hji50
       by_cases c51 : 0 ≤ (ji50)
       rotate_left
       ·rw [if_neg c51] at H
        exact absurd H (by simp)
       rw [if_pos c51] at H
       have c51b0 : decide (0 ≤ (ji50)) = true := decide_eq_true c51
       clear c51
       by_cases c52 : (ji50) < (x11_3.length : Int)
       rotate_left
       ·rw [if_neg c52] at H
        exact absurd H (by simp)
       rw [if_pos c52] at H
       have c52b0 : decide ((ji50) < (x11_3.length : Int)) = true := decide_eq_true c52
       clear c52
       obtain ⟨y559, hy559⟩ : ∃ y_ : List Int, y_ = (y556.set ((ji50) : Int).toNat (wrap64 ((rd y556 (ji50)) + (wrap64 ((rd x9_2 x12_3) * a2_0))))) := ⟨_, rfl⟩
       replace H : (gangsawref33_Confidence.l1 k3 a0 a1 t547 x9_2 x10_2 y559 ji50 a2_0 a2_1) = some (r1, r2, r3) := by first | (rw [hy559]; with_reducible exact H) | (have H2_ := (Option.bind_some _ _).symm.trans H; rw [hy559]; with_reducible exact H2_) | (have H2_ := (Option.bind_some _ _).symm.trans H; with_reducible exact H2_) | with_reducible exact H | (rw [hy559]; exact H) | exact H
       have Ny559 := aK hy559
       clear hy559
       have H' := aK H
       clear H
       try go_wp2
       have n0_ := aK (Kd.R_drew HO_9.out)
       have n1_ := aK (Kd.R_drew HO_11.out)
       have n2_ := aK (zD BK544.out)
       have n3_ := aK (zD BK545.out)
       have n4_ := aK (yD HB.out)
       clear HO_9
       clear HO_11
       clear BK544
       clear BK545
       clear HB
       have HO_9 := n0_
       have HO_11 := n1_
       have BK544 := n2_
       have BK545 := n3_
       have HB := n4_
       clear n0_ n1_ n2_ n3_ n4_
       obtain ⟨Ao55, co55, eo55⟩ := Kd.R_slice HO_11.out
       (first | subst eo55 | (injection eo55 with f1_ f2_ f3_; have f4_ := f1_.symm; have f5_ := f3_.symm; clear f1_ f2_ f3_; subst f4_; subst f5_))
       have p554 : 0 ≤ (x12_3 : Int) := of_decide_eq_true (by assumption)
       have q554 : x12_3 < (x11_3.length : Int) := of_decide_eq_true (by assumption)
       obtain ⟨ad554, e554, hx554_0⟩ := Kd.at_int (Kd.R_reads' HO_11.out).2.2 x12_3 p554 q554
       cases e554
       replace p554 := eq_true p554
       replace q554 := eq_true q554
       have p555 : 0 ≤ (x12_3 : Int) := of_decide_eq_true (by assumption)
       have q555 : x12_3 < (x9_2.length : Int) := of_decide_eq_true (by assumption)
       obtain ⟨ad555, e555, hx555_0⟩ := Kd.at_int (Kd.R_reads' HO_9.out).2.2 x12_3 p555 q555
       cases e555
       replace p555 := eq_true p555
       replace q555 := eq_true q555
       have p49 : 0 ≤ (x12_3 : Int) := of_decide_eq_true (by assumption)
       have q49 : (x12_3 : Int) < ((x11_3.length : Int) : Int) := of_decide_eq_true (by assumption)
       obtain ⟨go49, co49, eo49, gb49, gl49, cl49, HG49⟩ := Kd.R_form HO_11.out (by omega)
       (first | cases eo49 | (injection eo49 with ea_ en_ ec_; (first | subst ea_ | (injection ea_ with ea_; subst ea_)); subst ec_; clear en_))
       have GB49 := aK gb49
       have GG49 := aK HG49
       clear gb49 gl49 HG49
       (first | simp only [add_plain] at hx554_0 | skip)
       obtain ⟨hx49_0, hf49_0⟩ := Kd.R_celln 0 HO_11.out (x12_3 : Int) p49 q49
       replace p49 := eq_true p49
       replace q49 := eq_true q49
       have HP56 := Kd.R_putn HO_11.out (x12_3 : Int) (wrap64 ((rd x11_3 x12_3) + (wrap64 ((rd x9_2 x12_3) * (wrap64 (a2_1 - a2_0))))))
       rw [← Ny556.out] at HP56
       have HQ56 := aK HP56
       clear HP56
       refine start_ (n := 17) (S := fun w' => w'.cell? ⟨gb544, 0, none⟩ = some (.int .i64 a2_0) ∧ w'.cell? ⟨gb544, 1, none⟩ = some (.int .i64 a2_1) ∧ w'.cell? ⟨go49, (x12_3).toNat, none⟩ = some (.int .i64 (rd x11_3 x12_3)) ∧ w'.cell? (ad555.add (x12_3).toNat) = some (.int .i64 (rd x9_2 x12_3))) (ds := [16]) #[false, false, false, false, false, false, false, false, false, false, false, false, false, false, false, false, false] (by kernel_rfl) rfl rfl ⟨(zC BK544.out 0).trans rfl, (zC BK544.out 1).trans rfl, hx554_0, hx555_0⟩ (fun hHeld => ?_); refine with_tabW gangsawref33_Confidence.tab14 gangsawref33_Confidence.bits14 (fun HT_ HW_ => ?_)
       generalize wr.drew = w54 at HO_9 HO_11 BK544 BK545 HB GG49 HQ56 hf49_0 hx49_0 hx554_0 hx555_0 hHeld ⊢
       refine pure_ (i := 0) (N := some 59) (v := ?_) (a' := ?_) #[true, false, false, false, false, false, false, false, false, false, false, false, false, false, false, false, false] rfl rfl (any_of HT_.out (by kernel_rfl)) (fun _ _ _ h => h) (Or.inl ⟨by rfl, ?_⟩) ?_ ?_
       rotate_left
       ·intro w'
        go_simp
        with_reducible rfl
       rotate_left
       ·simp only [Act.put, sA, sZ, sS, i64_w, i32_w]
        rfl
       refine pure_ (i := 1) (N := some 60) (v := ?_) (a' := ?_) #[true, true, false, false, false, false, false, false, false, false, false, false, false, false, false, false, false] rfl rfl (any_of HT_.out (by kernel_rfl)) (fun _ _ _ h => h) (Or.inl ⟨by rfl, ?_⟩) ?_ ?_
       rotate_left
       ·intro w'
        go_simp
        with_reducible rfl
       rotate_left
       ·simp only [Act.put, sA, sZ, sS, i64_w, i32_w]
        rfl
       refine pure_ (i := 2) (N := some 61) (v := ?_) (a' := ?_) #[true, true, true, false, false, false, false, false, false, false, false, false, false, false, false, false, false] rfl rfl (any_of HT_.out (by kernel_rfl)) (fun _ _ _ h => h) (Or.inl ⟨by rfl, ?_⟩) ?_ ?_
       rotate_left
       ·intro w'
        go_simp
        with_reducible rfl
       rotate_left
       ·simp only [Act.put, sA, sZ, sS, i64_w, i32_w]
        rfl
       refine pure_ (i := 4) (N := some 63) (v := ?_) (a' := ?_) #[true, true, true, false, true, false, false, false, false, false, false, false, false, false, false, false, false] rfl rfl (any_of HT_.out (by kernel_rfl)) (fun _ _ _ h => h) (Or.inl ⟨by rfl, ?_⟩) ?_ ?_
       rotate_left
       ·intro w'
        go_simp
        with_reducible rfl
       rotate_left
       ·simp only [Act.put, sA, sZ, sS, i64_w, i32_w]
        rfl
       refine pure_ (i := 5) (N := some 64) (v := ?_) (a' := ?_) #[true, true, true, false, true, true, false, false, false, false, false, false, false, false, false, false, false] rfl rfl (any_of HT_.out (by kernel_rfl)) (fun _ _ _ h => h) (Or.inl ⟨by rfl, ?_⟩) ?_ ?_
       rotate_left
       ·intro w'
        go_simp
        with_reducible rfl
       rotate_left
       ·simp only [Act.put, sA, sZ, sS, i64_w, i32_w]
        rfl
       refine pure_ (i := 6) (N := some 65) (v := ?_) (a' := ?_) #[true, true, true, false, true, true, true, false, false, false, false, false, false, false, false, false, false] rfl rfl (any_of HT_.out (by kernel_rfl)) (fun _ _ _ h => h) (Or.inl ⟨by rfl, ?_⟩) ?_ ?_
       rotate_left
       ·intro w'
        go_simp
        with_reducible rfl
       rotate_left
       ·simp only [Act.put, sA, sZ, sS, i64_w, i32_w]
        rfl
       refine pure_ (i := 8) (N := some 67) (v := ?_) (a' := ?_) #[true, true, true, false, true, true, true, false, true, false, false, false, false, false, false, false, false] rfl rfl (any_of HT_.out (by kernel_rfl)) (fun _ _ _ h => h) (Or.inl ⟨by rfl, ?_⟩) ?_ ?_
       rotate_left
       ·intro w'
        go_simp
        with_reducible rfl
       rotate_left
       ·simp only [Act.put, sA, sZ, sS, i64_w, i32_w]
        rfl
       refine pure_ (i := 10) (N := some 69) (v := ?_) (a' := ?_) #[true, true, true, false, true, true, true, false, true, false, true, false, false, false, false, false, false] rfl rfl (any_of HT_.out (by kernel_rfl)) (fun _ _ _ h => h) (Or.inl ⟨by rfl, ?_⟩) ?_ ?_
       rotate_left
       ·intro w'
        go_simp
        with_reducible rfl
       rotate_left
       ·simp only [Act.put, sA, sZ, sS, i64_w, i32_w]
        rfl
       refine take_ (i := 3) (N := some 62) (v := ?_) (a' := ?_) #[true, true, true, true, true, true, true, false, true, false, true, false, false, false, false, false, false] rfl rfl (take_ofW HT_.out HW_.out (by kernel_rfl)) (fun _ _ _ h => h) (Or.inl ⟨by rfl, ?_⟩) hHeld ?_ ?_
       rotate_left
       ·rintro w' ⟨s0, s1, s2, s3⟩
        go_simp
        with_reducible rfl
       rotate_left
       ·simp only [Act.put, sA, sZ, sS, i64_w, i32_w]
        rfl
       refine take_ (i := 7) (N := some 66) (v := ?_) (a' := ?_) #[true, true, true, true, true, true, true, true, true, false, true, false, false, false, false, false, false] rfl rfl (take_ofW HT_.out HW_.out (by kernel_rfl)) (fun _ _ _ h => h) (Or.inl ⟨by rfl, ?_⟩) hHeld ?_ ?_
       rotate_left
       ·rintro w' ⟨s0, s1, s2, s3⟩
        go_simp
        with_reducible rfl
       rotate_left
       ·simp only [Act.put, sA, sZ, sS, i64_w, i32_w]
        rfl
       refine take_ (i := 9) (N := some 68) (v := ?_) (a' := ?_) #[true, true, true, true, true, true, true, true, true, true, true, false, false, false, false, false, false] rfl rfl (take_ofW HT_.out HW_.out (by kernel_rfl)) (fun _ _ _ h => h) (Or.inl ⟨by rfl, ?_⟩) hHeld ?_ ?_
       rotate_left
       ·rintro w' ⟨s0, s1, s2, s3⟩
        go_simp
        with_reducible rfl
       rotate_left
       ·simp only [Act.put, sA, sZ, sS, i64_w, i32_w]
        rfl
       refine take_ (i := 11) (N := some 70) (v := ?_) (a' := ?_) #[true, true, true, true, true, true, true, true, true, true, true, true, false, false, false, false, false] rfl rfl (take_ofW HT_.out HW_.out (by kernel_rfl)) (fun _ _ _ h => h) (Or.inl ⟨by rfl, ?_⟩) hHeld ?_ ?_
       rotate_left
       ·rintro w' ⟨s0, s1, s2, s3⟩
        go_simp
        with_reducible rfl
       rotate_left
       ·simp only [Act.put, sA, sZ, sS, i64_w, i32_w]
        rfl
       refine pure_ (i := 12) (N := some 71) (v := ?_) (a' := ?_) #[true, true, true, true, true, true, true, true, true, true, true, true, true, false, false, false, false] rfl rfl (any_of HT_.out (by kernel_rfl)) (fun _ _ _ h => h) (Or.inl ⟨by rfl, ?_⟩) ?_ ?_
       rotate_left
       ·intro w'
        go_simp
        with_reducible rfl
       rotate_left
       ·simp only [Act.put, sA, sZ, sS, i64_w, i32_w]
        rfl
       refine pure_ (i := 13) (N := some 72) (v := ?_) (a' := ?_) #[true, true, true, true, true, true, true, true, true, true, true, true, true, true, false, false, false] rfl rfl (any_of HT_.out (by kernel_rfl)) (fun _ _ _ h => h) (Or.inl ⟨by rfl, ?_⟩) ?_ ?_
       rotate_left
       ·intro w'
        go_simp
        with_reducible rfl
       rotate_left
       ·simp only [Act.put, sA, sZ, sS, i64_w, i32_w]
        rfl
       refine pure_ (i := 14) (N := some 73) (v := ?_) (a' := ?_) #[true, true, true, true, true, true, true, true, true, true, true, true, true, true, true, false, false] rfl rfl (any_of HT_.out (by kernel_rfl)) (fun _ _ _ h => h) (Or.inl ⟨by rfl, ?_⟩) ?_ ?_
       rotate_left
       ·intro w'
        go_simp
        with_reducible rfl
       rotate_left
       ·simp only [Act.put, sA, sZ, sS, i64_w, i32_w]
        rfl
       refine pure_ (i := 15) (N := some 74) (v := ?_) (a' := ?_) #[true, true, true, true, true, true, true, true, true, true, true, true, true, true, true, true, false] rfl rfl (any_of HT_.out (by kernel_rfl)) (fun _ _ _ h => h) (Or.inl ⟨by rfl, ?_⟩) ?_ ?_
       rotate_left
       ·intro w'
        go_simp
        with_reducible rfl
       rotate_left
       ·simp only [Act.put, sA, sZ, sS, i64_w, i32_w]
        rfl
       refine last_ (i := 16) (N := none) #[true, true, true, true, true, true, true, true, true, true, true, true, true, true, true, true, true] rfl rfl (one_of HT_.out (by kernel_rfl)) (by decide) (fun K hK => ?_)
       refine skip_ (w1 := ?_) (by rfl) rfl ?_ ?_
       rotate_left
       ·go_simp
        rfl
       refine hK.out _ _ ?_
       clear hK K
       refine done_ (done_of HT_.out (by kernel_rfl)) ?_
       try go_wp2
       have n0_ : Aside0 (Kd.R (Kd.int .i64) 2 (w54.setCell ⟨go49, (x12_3 : Int).toNat, none⟩ (.int .i64 (wrap64 ((rd x11_3 x12_3) + (wrap64 ((rd x9_2 x12_3) * (wrap64 (a2_1 - a2_0)))))))) w.heap.size (fun k_ => some k_ ≠ (.slice (some ⟨go49, 0, none⟩) x11_3.length co55 : Value).ownBlock) (.slice (some ad555) x9_2.length co43) x9_2) := ⟨by (with_reducible repeat (first | apply Kd.R_alloc | apply Kd.R_drewN | apply Kd.R_drew)); exact Kd.R_mono (Kd.R_far (p := ⟨go49, (x12_3 : Int).toNat, none⟩) (Kd.R_mono HO_9.out (fun k_ hk => (⟨hk, fun e_ => hk (by rw [e_]; rfl)⟩ : _ ∧ k_ ≠ go49))) (fun _ hk => hk.2) (.int .i64 (wrap64 ((rd x11_3 x12_3) + (wrap64 ((rd x9_2 x12_3) * (wrap64 (a2_1 - a2_0)))))))) (fun _ hk => hk.1)⟩
       have n1_ : Aside0 (Kd.R (Kd.int .i64) 2 (w54.setCell ⟨go49, (x12_3 : Int).toNat, none⟩ (.int .i64 (wrap64 ((rd x11_3 x12_3) + (wrap64 ((rd x9_2 x12_3) * (wrap64 (a2_1 - a2_0)))))))) w.heap.size (fun k_ => some k_ ≠ (.slice (some ad555) x9_2.length co43 : Value).ownBlock) (.slice (some ⟨go49, 0, none⟩) x11_3.length co55) y556) := ⟨HQ56.out⟩
       have n2_ : Aside0 ((w54.setCell ⟨go49, (x12_3 : Int).toNat, none⟩ (.int .i64 (wrap64 ((rd x11_3 x12_3) + (wrap64 ((rd x9_2 x12_3) * (wrap64 (a2_1 - a2_0)))))))).heap[gb544]? = some (.cells #[.int .i64 a2_0, .int .i64 a2_1] 33 (0, 0))) := ⟨by refine blk_far ?_ (by have h_ := Kd.R_ne HO_11.out BK544.out (by decide); intro e_; exact h_ (by rw [e_]; rfl)) _; exact BK544.out⟩
       have n3_ : Aside0 ((w54.setCell ⟨go49, (x12_3 : Int).toNat, none⟩ (.int .i64 (wrap64 ((rd x11_3 x12_3) + (wrap64 ((rd x9_2 x12_3) * (wrap64 (a2_1 - a2_0)))))))).heap[gb545]? = some (.cells #[.int .i64 0, .int .i64 0] 33 (0, 0))) := ⟨by refine blk_far ?_ (by have h_ := Kd.R_ne HO_11.out BK545.out (by decide); intro e_; exact h_ (by rw [e_]; rfl)) _; exact BK545.out⟩
       have n4_ : Aside0 (Below w.heap.size w (w54.setCell ⟨go49, (x12_3 : Int).toNat, none⟩ (.int .i64 (wrap64 ((rd x11_3 x12_3) + (wrap64 ((rd x9_2 x12_3) * (wrap64 (a2_1 - a2_0))))))))) := ⟨by repeat (first | (with_reducible first | exact HB.out | apply yA | apply yN | apply yD | refine yS ?_ GB49.out | refine yS ?_ GE544.out | refine yS ?_ GE545.out) | exact HB.out)⟩
       (try clear HO_9)
       (try clear HO_11)
       (try clear BK544)
       (try clear BK545)
       (try clear HB)
       generalize (w54.setCell ⟨go49, (x12_3 : Int).toNat, none⟩ (.int .i64 (wrap64 ((rd x11_3 x12_3) + (wrap64 ((rd x9_2 x12_3) * (wrap64 (a2_1 - a2_0)))))))) = w57 at n0_ n1_ n2_ n3_ n4_ ⊢
       have HO_9 := n0_
       have HO_11 := n1_
       have BK544 := n2_
       have BK545 := n3_
       have HB := n4_
       clear n0_ n1_ n2_ n3_ n4_
       have n0_ := aK (Kd.R_drew HO_9.out)
       have n1_ := aK (Kd.R_drew HO_11.out)
       have n2_ := aK (zD BK544.out)
       have n3_ := aK (zD BK545.out)
       have n4_ := aK (yD HB.out)
       clear HO_9
       clear HO_11
       clear BK544
       clear BK545
       clear HB
       have HO_9 := n0_
       have HO_11 := n1_
       have BK544 := n2_
       have BK545 := n3_
       have HB := n4_
       clear n0_ n1_ n2_ n3_ n4_
       have p557 : 0 ≤ ((ji50) : Int) := of_decide_eq_true (by assumption)
       have q557 : (ji50) < (y556.length : Int) := (by have h_ : ((ji50) : Int) < ((x11_3.length : Int) : Int) := of_decide_eq_true (by assumption); first | (have e_ := (Kd.R_reads' HO_11.out).1; omega) | simpa only [Ny556.out, List.length_set] using h_)
       have ql557 : (((ji50) : Int) < ((x11_3.length : Int) : Int)) = True := eq_true (of_decide_eq_true (by assumption))
       obtain ⟨ad557, e557, hx557_0⟩ := Kd.at_int (Kd.R_reads' HO_11.out).2.2 (ji50) p557 q557
       obtain rfl : (⟨go49, 0, none⟩ : Addr) = ad557 := (by injection e557)
       (first | simp only [add_plain] at hx557_0 | simp only [add_at] at hx557_0 | simp only [Addr.add, Nat.zero_add] at hx557_0 | skip)
       replace p557 := eq_true p557
       replace q557 := eq_true q557
       have p558 : 0 ≤ (x12_3 : Int) := of_decide_eq_true (by assumption)
       have q558 : x12_3 < (x9_2.length : Int) := of_decide_eq_true (by assumption)
       obtain ⟨ad558, e558, hx558_0⟩ := Kd.at_int (Kd.R_reads' HO_9.out).2.2 x12_3 p558 q558
       obtain rfl : ad555 = ad558 := (by injection e558)
       replace p558 := eq_true p558
       replace q558 := eq_true q558
       have p53 : 0 ≤ ((ji50) : Int) := of_decide_eq_true (by assumption)
       have q53 : ((ji50) : Int) < ((x11_3.length : Int) : Int) := of_decide_eq_true (by assumption)
       obtain ⟨hx53_0, hf53_0⟩ := Kd.R_celln 0 HO_11.out ((ji50) : Int) p53 q53
       replace p53 := eq_true p53
       replace q53 := eq_true q53
       have HP59 := Kd.R_putn HO_11.out ((ji50) : Int) (wrap64 ((rd y556 (ji50)) + (wrap64 ((rd x9_2 x12_3) * a2_0))))
       rw [← Ny559.out] at HP59
       have HQ59 := aK HP59
       clear HP59
       refine start_ (n := 15) (S := fun w' => w'.cell? ⟨gb544, 0, none⟩ = some (.int .i64 a2_0) ∧ w'.cell? ⟨gb544, 1, none⟩ = some (.int .i64 a2_1) ∧ w'.cell? ⟨go49, ((ji50)).toNat, none⟩ = some (.int .i64 (rd y556 (ji50))) ∧ w'.cell? (ad555.add (x12_3).toNat) = some (.int .i64 (rd x9_2 x12_3))) (ds := [14]) #[false, false, false, false, false, false, false, false, false, false, false, false, false, false, false] (by kernel_rfl) rfl rfl ⟨(zC BK544.out 0).trans rfl, (zC BK544.out 1).trans rfl, hx557_0, hx558_0⟩ (fun hHeld => ?_); refine with_tabW gangsawref33_Confidence.tab15 gangsawref33_Confidence.bits15 (fun HT_ HW_ => ?_)
       generalize w57.drew = w58 at HO_9 HO_11 BK544 BK545 HB HQ56 HQ59 hf53_0 hx53_0 hx557_0 hx558_0 hHeld ⊢
       refine pure_ (i := 0) (N := some 75) (v := ?_) (a' := ?_) #[true, false, false, false, false, false, false, false, false, false, false, false, false, false, false] rfl rfl (any_of HT_.out (by kernel_rfl)) (fun _ _ _ h => h) (Or.inl ⟨by rfl, ?_⟩) ?_ ?_
       rotate_left
       ·intro w'
        go_simp
        with_reducible rfl
       rotate_left
       ·simp only [Act.put, sA, sZ, sS, i64_w, i32_w]
        rfl
       refine pure_ (i := 1) (N := some 76) (v := ?_) (a' := ?_) #[true, true, false, false, false, false, false, false, false, false, false, false, false, false, false] rfl rfl (any_of HT_.out (by kernel_rfl)) (fun _ _ _ h => h) (Or.inl ⟨by rfl, ?_⟩) ?_ ?_
       rotate_left
       ·intro w'
        go_simp
        with_reducible rfl
       rotate_left
       ·simp only [Act.put, sA, sZ, sS, i64_w, i32_w]
        rfl
       refine pure_ (i := 2) (N := some 77) (v := ?_) (a' := ?_) #[true, true, true, false, false, false, false, false, false, false, false, false, false, false, false] rfl rfl (any_of HT_.out (by kernel_rfl)) (fun _ _ _ h => h) (Or.inl ⟨by rfl, ?_⟩) ?_ ?_
       rotate_left
       ·intro w'
        go_simp
        with_reducible rfl
       rotate_left
       ·simp only [Act.put, sA, sZ, sS, i64_w, i32_w]
        rfl
       refine pure_ (i := 3) (N := some 78) (v := ?_) (a' := ?_) #[true, true, true, true, false, false, false, false, false, false, false, false, false, false, false] rfl rfl (any_of HT_.out (by kernel_rfl)) (fun _ _ _ h => h) (Or.inl ⟨by rfl, ?_⟩) ?_ ?_
       rotate_left
       ·intro w'
        go_simp
        with_reducible rfl
       rotate_left
       ·simp only [Act.put, sA, sZ, sS, i64_w, i32_w]
        rfl
       refine pure_ (i := 5) (N := some 80) (v := ?_) (a' := ?_) #[true, true, true, true, false, true, false, false, false, false, false, false, false, false, false] rfl rfl (any_of HT_.out (by kernel_rfl)) (fun _ _ _ h => h) (Or.inl ⟨by rfl, ?_⟩) ?_ ?_
       rotate_left
       ·intro w'
        go_simp
        with_reducible rfl
       rotate_left
       ·simp only [Act.put, sA, sZ, sS, i64_w, i32_w]
        rfl
       refine pure_ (i := 6) (N := some 81) (v := ?_) (a' := ?_) #[true, true, true, true, false, true, true, false, false, false, false, false, false, false, false] rfl rfl (any_of HT_.out (by kernel_rfl)) (fun _ _ _ h => h) (Or.inl ⟨by rfl, ?_⟩) ?_ ?_
       rotate_left
       ·intro w'
        go_simp
        with_reducible rfl
       rotate_left
       ·simp only [Act.put, sA, sZ, sS, i64_w, i32_w]
        rfl
       refine pure_ (i := 7) (N := some 82) (v := ?_) (a' := ?_) #[true, true, true, true, false, true, true, true, false, false, false, false, false, false, false] rfl rfl (any_of HT_.out (by kernel_rfl)) (fun _ _ _ h => h) (Or.inl ⟨by rfl, ?_⟩) ?_ ?_
       rotate_left
       ·intro w'
        go_simp
        with_reducible rfl
       rotate_left
       ·simp only [Act.put, sA, sZ, sS, i64_w, i32_w]
        rfl
       refine pure_ (i := 9) (N := some 84) (v := ?_) (a' := ?_) #[true, true, true, true, false, true, true, true, false, true, false, false, false, false, false] rfl rfl (any_of HT_.out (by kernel_rfl)) (fun _ _ _ h => h) (Or.inl ⟨by rfl, ?_⟩) ?_ ?_
       rotate_left
       ·intro w'
        go_simp
        with_reducible rfl
       rotate_left
       ·simp only [Act.put, sA, sZ, sS, i64_w, i32_w]
        rfl
       refine take_ (i := 4) (N := some 79) (v := ?_) (a' := ?_) #[true, true, true, true, true, true, true, true, false, true, false, false, false, false, false] rfl rfl (take_ofW HT_.out HW_.out (by kernel_rfl)) (fun _ _ _ h => h) (Or.inl ⟨by rfl, ?_⟩) hHeld ?_ ?_
       rotate_left
       ·rintro w' ⟨s0, s1, s2, s3⟩
        go_simp
        with_reducible rfl
       rotate_left
       ·simp only [Act.put, sA, sZ, sS, i64_w, i32_w]
        rfl
       refine take_ (i := 8) (N := some 83) (v := ?_) (a' := ?_) #[true, true, true, true, true, true, true, true, true, true, false, false, false, false, false] rfl rfl (take_ofW HT_.out HW_.out (by kernel_rfl)) (fun _ _ _ h => h) (Or.inl ⟨by rfl, ?_⟩) hHeld ?_ ?_
       rotate_left
       ·rintro w' ⟨s0, s1, s2, s3⟩
        go_simp
        with_reducible rfl
       rotate_left
       ·simp only [Act.put, sA, sZ, sS, i64_w, i32_w]
        rfl
       refine take_ (i := 10) (N := some 85) (v := ?_) (a' := ?_) #[true, true, true, true, true, true, true, true, true, true, true, false, false, false, false] rfl rfl (take_ofW HT_.out HW_.out (by kernel_rfl)) (fun _ _ _ h => h) (Or.inl ⟨by rfl, ?_⟩) hHeld ?_ ?_
       rotate_left
       ·rintro w' ⟨s0, s1, s2, s3⟩
        go_simp
        with_reducible rfl
       rotate_left
       ·simp only [Act.put, sA, sZ, sS, i64_w, i32_w]
        rfl
       refine pure_ (i := 11) (N := some 86) (v := ?_) (a' := ?_) #[true, true, true, true, true, true, true, true, true, true, true, true, false, false, false] rfl rfl (any_of HT_.out (by kernel_rfl)) (fun _ _ _ h => h) (Or.inl ⟨by rfl, ?_⟩) ?_ ?_
       rotate_left
       ·intro w'
        go_simp
        with_reducible rfl
       rotate_left
       ·simp only [Act.put, sA, sZ, sS, i64_w, i32_w]
        rfl
       refine pure_ (i := 12) (N := some 87) (v := ?_) (a' := ?_) #[true, true, true, true, true, true, true, true, true, true, true, true, true, false, false] rfl rfl (any_of HT_.out (by kernel_rfl)) (fun _ _ _ h => h) (Or.inl ⟨by rfl, ?_⟩) ?_ ?_
       rotate_left
       ·intro w'
        go_simp
        with_reducible rfl
       rotate_left
       ·simp only [Act.put, sA, sZ, sS, i64_w, i32_w]
        rfl
       refine pure_ (i := 13) (N := some 88) (v := ?_) (a' := ?_) #[true, true, true, true, true, true, true, true, true, true, true, true, true, true, false] rfl rfl (any_of HT_.out (by kernel_rfl)) (fun _ _ _ h => h) (Or.inl ⟨by rfl, ?_⟩) ?_ ?_
       rotate_left
       ·intro w'
        go_simp
        with_reducible rfl
       rotate_left
       ·simp only [Act.put, sA, sZ, sS, i64_w, i32_w]
        rfl
       refine last_ (i := 14) (N := none) #[true, true, true, true, true, true, true, true, true, true, true, true, true, true, true] rfl rfl (one_of HT_.out (by kernel_rfl)) (by decide) (fun K hK => ?_)
       refine skip_ (w1 := ?_) (by rfl) rfl ?_ ?_
       rotate_left
       ·go_simp
        rfl
       refine hK.out _ _ ?_
       clear hK K
       refine done_ (done_of HT_.out (by kernel_rfl)) ?_
       try go_wp2
       go_roundg k3
       case measure => have := HJ3.out; have := HK2.out; have := HK3.out; omega
       case rel => exact ⟨(y559), (ji50), (by first | rfl | (simp; done) | (simp only [← hji50] <;> (first | rfl | simp)) | (simp [*]; done)), H', ⟨by have := HJ3.out; have := HK2.out; have := HK3.out; omega⟩, ⟨by (with_reducible repeat (first | apply Kd.R_alloc | apply Kd.R_drewN | apply Kd.R_drew)); exact Kd.R_mono (Kd.R_far (p := ⟨go49, ((ji50) : Int).toNat, none⟩) (Kd.R_mono HO_9.out (fun k_ hk => (⟨hk, fun e_ => hk (by rw [e_]; rfl)⟩ : _ ∧ k_ ≠ go49))) (fun _ hk => hk.2) (.int .i64 (wrap64 ((rd y556 (ji50)) + (wrap64 ((rd x9_2 x12_3) * a2_0)))))) (fun _ hk => hk.1)⟩, ⟨HQ59.out⟩, ⟨by refine blk_far ?_ (by have h_ := Kd.R_ne HO_11.out BK544.out (by decide); intro e_; exact h_ (by rw [e_]; rfl)) _; exact BK544.out⟩, ⟨by refine blk_far ?_ (by have h_ := Kd.R_ne HO_11.out BK545.out (by decide); intro e_; exact h_ (by rw [e_]; rfl)) _; exact BK545.out⟩, ⟨by repeat (first | (with_reducible first | exact HB.out | apply yA | apply yN | apply yD | refine yS ?_ GB49.out | refine yS ?_ GE544.out | refine yS ?_ GE545.out) | exact HB.out)⟩⟩

end Go.Proofs.Ythkpgjjakdbbfaa.P
