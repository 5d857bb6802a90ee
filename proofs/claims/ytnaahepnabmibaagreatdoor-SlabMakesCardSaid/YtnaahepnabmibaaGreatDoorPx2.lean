/- What functions of the program return: each contract says so of one function, for every input at which its pure function yields. -/
import Derived.Test.YtnaahepnabmibaaGreatDoorPx0
namespace Go.Proofs.YtnaahepnabmibaaGreatDoor.P
open Go.RowKit Go.Proofs.YtnaahepnabmibaaGreatDoorW.PrintWords Go.Proofs.YtnaahepnabmibaaGreatDoorW.PrintLast Go.Proofs.YtnaahepnabmibaaGreatDoorW.PrintMore
attribute [local go_sem] max2_int min2_int max_two min_two max_three min_three max_four min_four   -- for this text's walks alone
set_option linter.unusedVariables false
set_option linter.unusedSimpArgs false

def slab_Check.f (a0_0 : Int) (a0_1 : Int) (a0_2 : Int) (a0_3 : Int) : Option (Int) := if a0_0 < 0 then (some 6) else (if a0_0 > 2 then (some 6) else (if a0_1 < 1 then (some 6) else (if a0_1 > 1000 then (some 6) else (if a0_2 < 0 then (some 6) else (if a0_2 > 1000 then (some 6) else (if a0_3 < 1 then (some 6) else (if a0_3 > 1000000 then (some 6) else (some 0))))))))
set_option maxHeartbeats 8000000 in
set_option maxRecDepth 100000 in
theorem slab_Check.calls (a0_0 : Int) (a0_1 : Int) (a0_2 : Int) (a0_3 : Int) (r : Int) (w : World) (h : slab_Check.f a0_0 a0_1 a0_2 a0_3 = some r) :
  Calls Tryz.prog 23 #[.agg #[.int .i64 a0_0, .int .i64 a0_1, .int .i64 a0_2, .int .i64 a0_3]] w fun e w' => e = .returned (.int .i64 r) ∧ Below w.heap.size w w' := by
 have hu50 := Tryz.underlying50
 have HB := aK (Below.refl w.heap.size w)
 have H : (if a0_0 < 0 then (some 6) else (if a0_0 > 2 then (some 6) else (if a0_1 < 1 then (some 6) else (if a0_1 > 1000 then (some 6) else (if a0_2 < 0 then (some 6) else (if a0_2 > 1000 then (some 6) else (if a0_3 < 1 then (some 6) else (if a0_3 > 1000000 then (some 6) else (some 0))))))))) = some r := h
 clear h
 by_cases c2 : a0_0 < 0
 ·rw [if_pos c2] at H
  have c2b0 : decide (a0_0 < 0) = true := decide_eq_true c2
  clear c2
  obtain rfl := Option.some.inj H
  simp only [Option.some.injEq, Prod.mk.injEq] at H
  obtain ⟨rfl⟩ := H
  go_enter Tryz.func23, Tryz.ntmps23
  go_wp2_with (first | ((with_reducible refine gate_dst (N := 1) rfl ?_); refine box_event ?hg (N := 1) ?hd (cs := #[.int .i64 a0_0, .int .i64 a0_1, .int .i64 a0_2, .int .i64 a0_3]) (t := 50) ?hr ?_; (case hd => rfl); (case hg => rfl); (case hr => first | (go_simp; done) | (go_simp; rfl)); intro gb101 hg w3 hbox hb; have n0_ := aK (yT (HB.out) hb); have n1_ := aK (hbox); have n2_ := aK ((by rw [hg]; exact (yZ (HB.out)) : w.heap.size ≤ gb101)); have n3_ := n2_; clear HB; have HB := n0_; have BK101 := n1_; have GW101 := n2_; have GE101 := n3_; clear n0_ n1_ n2_ n3_; clear hb hbox hg; have hcz4_0 := zI BK101 0 rfl; have hcz4_1 := zI BK101 1 rfl; have hcz4_2 := zI BK101 2 rfl; have hcz4_3 := zI BK101 3 rfl; have hfz4_0 := zF BK101.out 0; have hfz4_1 := zF BK101.out 1; have hfz4_2 := zF BK101.out 2; have hfz4_3 := zF BK101.out 3))
  go_ret
  exact ⟨rfl, HB.out⟩
 rw [if_neg c2] at H
 have c2b0 : decide (a0_0 < 0) = false := decide_eq_false c2
 clear c2
 by_cases c5 : a0_0 > 2
 ·rw [if_pos c5] at H
  have c5b0 : decide (2 < a0_0) = true := decide_eq_true c5
  clear c5
  obtain rfl := Option.some.inj H
  simp only [Option.some.injEq, Prod.mk.injEq] at H
  obtain ⟨rfl⟩ := H
  go_enter Tryz.func23, Tryz.ntmps23
  go_wp2_with (first | ((with_reducible refine gate_dst (N := 1) rfl ?_); refine box_event ?hg (N := 1) ?hd (cs := #[.int .i64 a0_0, .int .i64 a0_1, .int .i64 a0_2, .int .i64 a0_3]) (t := 50) ?hr ?_; (case hd => rfl); (case hg => rfl); (case hr => first | (go_simp; done) | (go_simp; rfl)); intro gb101 hg w6 hbox hb; have n0_ := aK (yT (HB.out) hb); have n1_ := aK (hbox); have n2_ := aK ((by rw [hg]; exact (yZ (HB.out)) : w.heap.size ≤ gb101)); have n3_ := n2_; clear HB; have HB := n0_; have BK101 := n1_; have GW101 := n2_; have GE101 := n3_; clear n0_ n1_ n2_ n3_; clear hb hbox hg; have hcz7_0 := zI BK101 0 rfl; have hcz7_1 := zI BK101 1 rfl; have hcz7_2 := zI BK101 2 rfl; have hcz7_3 := zI BK101 3 rfl; have hfz7_0 := zF BK101.out 0; have hfz7_1 := zF BK101.out 1; have hfz7_2 := zF BK101.out 2; have hfz7_3 := zF BK101.out 3))
  go_ret
  exact ⟨rfl, HB.out⟩
 rw [if_neg c5] at H
 have c5b0 : decide (2 < a0_0) = false := decide_eq_false c5
 clear c5
 by_cases c8 : a0_1 < 1
 ·rw [if_pos c8] at H
  have c8b0 : decide (a0_1 < 1) = true := decide_eq_true c8
  clear c8
  obtain rfl := Option.some.inj H
  simp only [Option.some.injEq, Prod.mk.injEq] at H
  obtain ⟨rfl⟩ := H
  go_enter Tryz.func23, Tryz.ntmps23
  go_wp2_with (first | ((with_reducible refine gate_dst (N := 1) rfl ?_); refine box_event ?hg (N := 1) ?hd (cs := #[.int .i64 a0_0, .int .i64 a0_1, .int .i64 a0_2, .int .i64 a0_3]) (t := 50) ?hr ?_; (case hd => rfl); (case hg => rfl); (case hr => first | (go_simp; done) | (go_simp; rfl)); intro gb101 hg w9 hbox hb; have n0_ := aK (yT (HB.out) hb); have n1_ := aK (hbox); have n2_ := aK ((by rw [hg]; exact (yZ (HB.out)) : w.heap.size ≤ gb101)); have n3_ := n2_; clear HB; have HB := n0_; have BK101 := n1_; have GW101 := n2_; have GE101 := n3_; clear n0_ n1_ n2_ n3_; clear hb hbox hg; have hcz10_0 := zI BK101 0 rfl; have hcz10_1 := zI BK101 1 rfl; have hcz10_2 := zI BK101 2 rfl; have hcz10_3 := zI BK101 3 rfl; have hfz10_0 := zF BK101.out 0; have hfz10_1 := zF BK101.out 1; have hfz10_2 := zF BK101.out 2; have hfz10_3 := zF BK101.out 3))
  go_ret
  exact ⟨rfl, HB.out⟩
 rw [if_neg c8] at H
 have c8b0 : decide (a0_1 < 1) = false := decide_eq_false c8
 clear c8
 by_cases c11 : a0_1 > 1000
 ·rw [if_pos c11] at H
  have c11b0 : decide (1000 < a0_1) = true := decide_eq_true c11
  clear c11
  obtain rfl := Option.some.inj H
  simp only [Option.some.injEq, Prod.mk.injEq] at H
  obtain ⟨rfl⟩ := H
  go_enter Tryz.func23, Tryz.ntmps23
  go_wp2_with (first | ((with_reducible refine gate_dst (N := 1) rfl ?_); refine box_event ?hg (N := 1) ?hd (cs := #[.int .i64 a0_0, .int .i64 a0_1, .int .i64 a0_2, .int .i64 a0_3]) (t := 50) ?hr ?_; (case hd => rfl); (case hg => rfl); (case hr => first | (go_simp; done) | (go_simp; rfl)); intro gb101 hg w12 hbox hb; have n0_ := aK (yT (HB.out) hb); have n1_ := aK (hbox); have n2_ := aK ((by rw [hg]; exact (yZ (HB.out)) : w.heap.size ≤ gb101)); have n3_ := n2_; clear HB; have HB := n0_; have BK101 := n1_; have GW101 := n2_; have GE101 := n3_; clear n0_ n1_ n2_ n3_; clear hb hbox hg; have hcz13_0 := zI BK101 0 rfl; have hcz13_1 := zI BK101 1 rfl; have hcz13_2 := zI BK101 2 rfl; have hcz13_3 := zI BK101 3 rfl; have hfz13_0 := zF BK101.out 0; have hfz13_1 := zF BK101.out 1; have hfz13_2 := zF BK101.out 2; have hfz13_3 := zF BK101.out 3))
  go_ret
  exact ⟨rfl, HB.out⟩
 rw [if_neg c11] at H
 have c11b0 : decide (1000 < a0_1) = false := decide_eq_false c11
 clear c11
 by_cases c14 : a0_2 < 0
 ·rw [if_pos c14] at H
  have c14b0 : decide (a0_2 < 0) = true := decide_eq_true c14
  clear c14
  obtain rfl := Option.some.inj H
  simp only [Option.some.injEq, Prod.mk.injEq] at H
  obtain ⟨rfl⟩ := H
  go_enter Tryz.func23, Tryz.ntmps23
  go_wp2_with (first | ((with_reducible refine gate_dst (N := 1) rfl ?_); refine box_event ?hg (N := 1) ?hd (cs := #[.int .i64 a0_0, .int .i64 a0_1, .int .i64 a0_2, .int .i64 a0_3]) (t := 50) ?hr ?_; (case hd => rfl); (case hg => rfl); (case hr => first | (go_simp; done) | (go_simp; rfl)); intro gb101 hg w15 hbox hb; have n0_ := aK (yT (HB.out) hb); have n1_ := aK (hbox); have n2_ := aK ((by rw [hg]; exact (yZ (HB.out)) : w.heap.size ≤ gb101)); have n3_ := n2_; clear HB; have HB := n0_; have BK101 := n1_; have GW101 := n2_; have GE101 := n3_; clear n0_ n1_ n2_ n3_; clear hb hbox hg; have hcz16_0 := zI BK101 0 rfl; have hcz16_1 := zI BK101 1 rfl; have hcz16_2 := zI BK101 2 rfl; have hcz16_3 := zI BK101 3 rfl; have hfz16_0 := zF BK101.out 0; have hfz16_1 := zF BK101.out 1; have hfz16_2 := zF BK101.out 2; have hfz16_3 := zF BK101.out 3))
  go_ret
  exact ⟨rfl, HB.out⟩
 rw [if_neg c14] at H
 have c14b0 : decide (a0_2 < 0) = false := decide_eq_false c14
 clear c14
 by_cases c17 : a0_2 > 1000
 ·rw [if_pos c17] at H
  have c17b0 : decide (1000 < a0_2) = true := decide_eq_true c17
  clear c17
  obtain rfl := Option.some.inj H
  simp only [Option.some.injEq, Prod.mk.injEq] at H
  obtain ⟨rfl⟩ := H
  go_enter Tryz.func23, Tryz.ntmps23
  go_wp2_with (first | ((with_reducible refine gate_dst (N := 1) rfl ?_); refine box_event ?hg (N := 1) ?hd (cs := #[.int .i64 a0_0, .int .i64 a0_1, .int .i64 a0_2, .int .i64 a0_3]) (t := 50) ?hr ?_; (case hd => rfl); (case hg => rfl); (case hr => first | (go_simp; done) | (go_simp; rfl)); intro gb101 hg w18 hbox hb; have n0_ := aK (yT (HB.out) hb); have n1_ := aK (hbox); have n2_ := aK ((by rw [hg]; exact (yZ (HB.out)) : w.heap.size ≤ gb101)); have n3_ := n2_; clear HB; have HB := n0_; have BK101 := n1_; have GW101 := n2_; have GE101 := n3_; clear n0_ n1_ n2_ n3_; clear hb hbox hg; have hcz19_0 := zI BK101 0 rfl; have hcz19_1 := zI BK101 1 rfl; have hcz19_2 := zI BK101 2 rfl; have hcz19_3 := zI BK101 3 rfl; have hfz19_0 := zF BK101.out 0; have hfz19_1 := zF BK101.out 1; have hfz19_2 := zF BK101.out 2; have hfz19_3 := zF BK101.out 3))
  go_ret
  exact ⟨rfl, HB.out⟩
 rw [if_neg c17] at H
 have c17b0 : decide (1000 < a0_2) = false := decide_eq_false c17
 clear c17
 by_cases c20 : a0_3 < 1
 ·rw [if_pos c20] at H
  have c20b0 : decide (a0_3 < 1) = true := decide_eq_true c20
  clear c20
  obtain rfl := Option.some.inj H
  simp only [Option.some.injEq, Prod.mk.injEq] at H
  obtain ⟨rfl⟩ := H
  go_enter Tryz.func23, Tryz.ntmps23
  go_wp2_with (first | ((with_reducible refine gate_dst (N := 1) rfl ?_); refine box_event ?hg (N := 1) ?hd (cs := #[.int .i64 a0_0, .int .i64 a0_1, .int .i64 a0_2, .int .i64 a0_3]) (t := 50) ?hr ?_; (case hd => rfl); (case hg => rfl); (case hr => first | (go_simp; done) | (go_simp; rfl)); intro gb101 hg w21 hbox hb; have n0_ := aK (yT (HB.out) hb); have n1_ := aK (hbox); have n2_ := aK ((by rw [hg]; exact (yZ (HB.out)) : w.heap.size ≤ gb101)); have n3_ := n2_; clear HB; have HB := n0_; have BK101 := n1_; have GW101 := n2_; have GE101 := n3_; clear n0_ n1_ n2_ n3_; clear hb hbox hg; have hcz22_0 := zI BK101 0 rfl; have hcz22_1 := zI BK101 1 rfl; have hcz22_2 := zI BK101 2 rfl; have hcz22_3 := zI BK101 3 rfl; have hfz22_0 := zF BK101.out 0; have hfz22_1 := zF BK101.out 1; have hfz22_2 := zF BK101.out 2; have hfz22_3 := zF BK101.out 3))
  go_ret
  exact ⟨rfl, HB.out⟩
 rw [if_neg c20] at H
 have c20b0 : decide (a0_3 < 1) = false := decide_eq_false c20
 clear c20
 by_cases c23 : a0_3 > 1000000
 ·rw [if_pos c23] at H
  have c23b0 : decide (1000000 < a0_3) = true := decide_eq_true c23
  clear c23
  obtain rfl := Option.some.inj H
  simp only [Option.some.injEq, Prod.mk.injEq] at H
  obtain ⟨rfl⟩ := H
  go_enter Tryz.func23, Tryz.ntmps23
  go_wp2_with (first | ((with_reducible refine gate_dst (N := 1) rfl ?_); refine box_event ?hg (N := 1) ?hd (cs := #[.int .i64 a0_0, .int .i64 a0_1, .int .i64 a0_2, .int .i64 a0_3]) (t := 50) ?hr ?_; (case hd => rfl); (case hg => rfl); (case hr => first | (go_simp; done) | (go_simp; rfl)); intro gb101 hg w24 hbox hb; have n0_ := aK (yT (HB.out) hb); have n1_ := aK (hbox); have n2_ := aK ((by rw [hg]; exact (yZ (HB.out)) : w.heap.size ≤ gb101)); have n3_ := n2_; clear HB; have HB := n0_; have BK101 := n1_; have GW101 := n2_; have GE101 := n3_; clear n0_ n1_ n2_ n3_; clear hb hbox hg; have hcz25_0 := zI BK101 0 rfl; have hcz25_1 := zI BK101 1 rfl; have hcz25_2 := zI BK101 2 rfl; have hcz25_3 := zI BK101 3 rfl; have hfz25_0 := zF BK101.out 0; have hfz25_1 := zF BK101.out 1; have hfz25_2 := zF BK101.out 2; have hfz25_3 := zF BK101.out 3))
  go_ret
  exact ⟨rfl, HB.out⟩
 rw [if_neg c23] at H
 have c23b0 : decide (1000000 < a0_3) = false := decide_eq_false c23
 clear c23
 obtain rfl := Option.some.inj H
 simp only [Option.some.injEq, Prod.mk.injEq] at H
 obtain ⟨rfl⟩ := H
 go_enter Tryz.func23, Tryz.ntmps23
 go_wp2_with (first | ((with_reducible refine gate_dst (N := 1) rfl ?_); refine box_event ?hg (N := 1) ?hd (cs := #[.int .i64 a0_0, .int .i64 a0_1, .int .i64 a0_2, .int .i64 a0_3]) (t := 50) ?hr ?_; (case hd => rfl); (case hg => rfl); (case hr => first | (go_simp; done) | (go_simp; rfl)); intro gb101 hg w26 hbox hb; have n0_ := aK (yT (HB.out) hb); have n1_ := aK (hbox); have n2_ := aK ((by rw [hg]; exact (yZ (HB.out)) : w.heap.size ≤ gb101)); have n3_ := n2_; clear HB; have HB := n0_; have BK101 := n1_; have GW101 := n2_; have GE101 := n3_; clear n0_ n1_ n2_ n3_; clear hb hbox hg; have hcz27_0 := zI BK101 0 rfl; have hcz27_1 := zI BK101 1 rfl; have hcz27_2 := zI BK101 2 rfl; have hcz27_3 := zI BK101 3 rfl; have hfz27_0 := zF BK101.out 0; have hfz27_1 := zF BK101.out 1; have hfz27_2 := zF BK101.out 2; have hfz27_3 := zF BK101.out 3))
 go_ret
 exact ⟨rfl, HB.out⟩

def slab_Count.f (a0_0 : Int) (a0_1 : Int) (a0_2 : Int) (a0_3 : Int) (a1 : Int) : Option (Int × Int) := (slab_Check.f a0_0 a0_1 a0_2 a0_3).bind fun t103 => (if t103 = 0 then (if a1 < 1 then (some (0, 6)) else (if a1 > 2000000 then (some (0, 6)) else (if (wrap64 (a0_1 + a0_2)) = 0 then (none) else (some (wrap64 (Int.tdiv (wrap64 (a1 + a0_2)) (wrap64 (a0_1 + a0_2))), 0))))) else (some (0, t103)))
set_option maxHeartbeats 8000000 in
set_option maxRecDepth 100000 in
theorem slab_Count.calls (a0_0 : Int) (a0_1 : Int) (a0_2 : Int) (a0_3 : Int) (a1 : Int) (r1 : Int) (r2 : Int) (w : World) (h : slab_Count.f a0_0 a0_1 a0_2 a0_3 a1 = some (r1, r2)) :
  Calls Tryz.prog 19 #[.agg #[.int .i64 a0_0, .int .i64 a0_1, .int .i64 a0_2, .int .i64 a0_3], .int .i64 a1] w fun e w' => e = .returned (.tuple #[.int .i64 r1, .int .i64 r2]) ∧ Below w.heap.size w w' := by
 have hu50 := Tryz.underlying50
 have HB := aK (Below.refl w.heap.size w)
 have H : ((slab_Check.f a0_0 a0_1 a0_2 a0_3).bind fun t103 => (if t103 = 0 then (if a1 < 1 then (some (0, 6)) else (if a1 > 2000000 then (some (0, 6)) else (if (wrap64 (a0_1 + a0_2)) = 0 then (none) else (some (wrap64 (Int.tdiv (wrap64 (a1 + a0_2)) (wrap64 (a0_1 + a0_2))), 0))))) else (some (0, t103)))) = some (r1, r2) := h
 clear h
 replace H := Option.bind_eq_some_iff.mp H
 obtain ⟨t103, A30, H⟩ := H
 replace H : (if t103 = 0 then (if a1 < 1 then (some (0, 6)) else (if a1 > 2000000 then (some (0, 6)) else (if (wrap64 (a0_1 + a0_2)) = 0 then (none) else (some (wrap64 (Int.tdiv (wrap64 (a1 + a0_2)) (wrap64 (a0_1 + a0_2))), 0))))) else (some (0, t103))) = some (r1, r2) := H
 have A3 := aK A30
 clear A30
 by_cases c4 : t103 = 0
 rotate_left
 ·rw [if_neg c4] at H
  have c4b0 : (t103 == 0) = false := beq_eq_false_iff_ne.mpr c4
  have c4b1 : (t103 != 0) = true := bne_iff_ne.mpr c4
  simp only [Option.some.injEq, Prod.mk.injEq] at H
  obtain ⟨rfl, rfl⟩ := H
  go_enter Tryz.func19, Tryz.ntmps19
  go_wp2_with (first | ((with_reducible refine gate_dst (N := 2) rfl ?_); refine box_event ?hg (N := 2) ?hd (cs := #[.int .i64 a0_0, .int .i64 a0_1, .int .i64 a0_2, .int .i64 a0_3]) (t := 50) ?hr ?_; (case hd => rfl); (case hg => rfl); (case hr => first | (go_simp; done) | (go_simp; rfl)); intro gb102 hg w18 hbox hb; have n0_ := aK (yT (HB.out) hb); have n1_ := aK (hbox); have n2_ := aK ((by rw [hg]; exact (yZ (HB.out)) : w.heap.size ≤ gb102)); have n3_ := n2_; clear HB; have HB := n0_; have BK102 := n1_; have GW102 := n2_; have GE102 := n3_; clear n0_ n1_ n2_ n3_; clear hb hbox hg; have hcz19_0 := zI BK102 0 rfl; have hcz19_1 := zI BK102 1 rfl; have hcz19_2 := zI BK102 2 rfl; have hcz19_3 := zI BK102 3 rfl; have hfz19_0 := zF BK102.out 0; have hfz19_1 := zF BK102.out 1; have hfz19_2 := zF BK102.out 2; have hfz19_3 := zF BK102.out 3) | ((with_reducible refine gate_callee (f := 23) rfl ?_); refine goesL_ (some 8) rfl rfl Tryz.func23 (by kernel_rfl) rfl #[.agg #[.int .i64 a0_0, .int .i64 a0_1, .int .i64 a0_2, .int .i64 a0_3]] rfl (by (try simp only [List.map_toArray, List.map_cons, List.map_nil]); first | done | rfl | (simp only [List.length_drop, List.length_take]; rfl)) ?_; (with_reducible refine (slab_Check.calls a0_0 a0_1 a0_2 a0_3 t103 _ A3.out).mono ?_); rintro e w20 ⟨rfl, hb⟩; refine ⟨_, rfl, ?_⟩; have n0_ := aK (zB (g := gb102) (o := .cells #[.int .i64 a0_0, .int .i64 a0_1, .int .i64 a0_2, .int .i64 a0_3] 50 (0, 0)) (BK102.out) hb); have n1_ := aK (yT (HB.out) hb); clear BK102; clear HB; have BK102 := n0_; have HB := n1_; clear n0_ n1_; (try clear hb)))
  go_ret2
  exact ⟨rfl, HB.out⟩
 rw [if_pos c4] at H
 have c4b0 : (t103 == 0) = true := beq_iff_eq.mpr c4
 have c4b1 : (t103 != 0) = false := bne_eq_false_iff_eq.mpr c4
 clear c4
 by_cases c5 : a1 < 1
 ·rw [if_pos c5] at H
  have c5b0 : decide (a1 < 1) = true := decide_eq_true c5
  clear c5
  simp only [Option.some.injEq, Prod.mk.injEq] at H
  obtain ⟨rfl, rfl⟩ := H
  go_enter Tryz.func19, Tryz.ntmps19
  go_wp2_with (first | ((with_reducible refine gate_dst (N := 2) rfl ?_); refine box_event ?hg (N := 2) ?hd (cs := #[.int .i64 a0_0, .int .i64 a0_1, .int .i64 a0_2, .int .i64 a0_3]) (t := 50) ?hr ?_; (case hd => rfl); (case hg => rfl); (case hr => first | (go_simp; done) | (go_simp; rfl)); intro gb102 hg w6 hbox hb; have n0_ := aK (yT (HB.out) hb); have n1_ := aK (hbox); have n2_ := aK ((by rw [hg]; exact (yZ (HB.out)) : w.heap.size ≤ gb102)); have n3_ := n2_; clear HB; have HB := n0_; have BK102 := n1_; have GW102 := n2_; have GE102 := n3_; clear n0_ n1_ n2_ n3_; clear hb hbox hg; have hcz7_0 := zI BK102 0 rfl; have hcz7_1 := zI BK102 1 rfl; have hcz7_2 := zI BK102 2 rfl; have hcz7_3 := zI BK102 3 rfl; have hfz7_0 := zF BK102.out 0; have hfz7_1 := zF BK102.out 1; have hfz7_2 := zF BK102.out 2; have hfz7_3 := zF BK102.out 3) | ((with_reducible refine gate_callee (f := 23) rfl ?_); refine goesL_ (some 8) rfl rfl Tryz.func23 (by kernel_rfl) rfl #[.agg #[.int .i64 a0_0, .int .i64 a0_1, .int .i64 a0_2, .int .i64 a0_3]] rfl (by (try simp only [List.map_toArray, List.map_cons, List.map_nil]); first | done | rfl | (simp only [List.length_drop, List.length_take]; rfl)) ?_; (with_reducible refine (slab_Check.calls a0_0 a0_1 a0_2 a0_3 t103 _ A3.out).mono ?_); rintro e w8 ⟨rfl, hb⟩; refine ⟨_, rfl, ?_⟩; have n0_ := aK (zB (g := gb102) (o := .cells #[.int .i64 a0_0, .int .i64 a0_1, .int .i64 a0_2, .int .i64 a0_3] 50 (0, 0)) (BK102.out) hb); have n1_ := aK (yT (HB.out) hb); clear BK102; clear HB; have BK102 := n0_; have HB := n1_; clear n0_ n1_; (try clear hb)))
  go_ret2
  exact ⟨rfl, HB.out⟩
 rw [if_neg c5] at H
 have c5b0 : decide (a1 < 1) = false := decide_eq_false c5
 clear c5
 by_cases c9 : a1 > 2000000
 ·rw [if_pos c9] at H
  have c9b0 : decide (2000000 < a1) = true := decide_eq_true c9
  clear c9
  simp only [Option.some.injEq, Prod.mk.injEq] at H
  obtain ⟨rfl, rfl⟩ := H
  go_enter Tryz.func19, Tryz.ntmps19
  go_wp2_with (first | ((with_reducible refine gate_dst (N := 2) rfl ?_); refine box_event ?hg (N := 2) ?hd (cs := #[.int .i64 a0_0, .int .i64 a0_1, .int .i64 a0_2, .int .i64 a0_3]) (t := 50) ?hr ?_; (case hd => rfl); (case hg => rfl); (case hr => first | (go_simp; done) | (go_simp; rfl)); intro gb102 hg w10 hbox hb; have n0_ := aK (yT (HB.out) hb); have n1_ := aK (hbox); have n2_ := aK ((by rw [hg]; exact (yZ (HB.out)) : w.heap.size ≤ gb102)); have n3_ := n2_; clear HB; have HB := n0_; have BK102 := n1_; have GW102 := n2_; have GE102 := n3_; clear n0_ n1_ n2_ n3_; clear hb hbox hg; have hcz11_0 := zI BK102 0 rfl; have hcz11_1 := zI BK102 1 rfl; have hcz11_2 := zI BK102 2 rfl; have hcz11_3 := zI BK102 3 rfl; have hfz11_0 := zF BK102.out 0; have hfz11_1 := zF BK102.out 1; have hfz11_2 := zF BK102.out 2; have hfz11_3 := zF BK102.out 3) | ((with_reducible refine gate_callee (f := 23) rfl ?_); refine goesL_ (some 8) rfl rfl Tryz.func23 (by kernel_rfl) rfl #[.agg #[.int .i64 a0_0, .int .i64 a0_1, .int .i64 a0_2, .int .i64 a0_3]] rfl (by (try simp only [List.map_toArray, List.map_cons, List.map_nil]); first | done | rfl | (simp only [List.length_drop, List.length_take]; rfl)) ?_; (with_reducible refine (slab_Check.calls a0_0 a0_1 a0_2 a0_3 t103 _ A3.out).mono ?_); rintro e w12 ⟨rfl, hb⟩; refine ⟨_, rfl, ?_⟩; have n0_ := aK (zB (g := gb102) (o := .cells #[.int .i64 a0_0, .int .i64 a0_1, .int .i64 a0_2, .int .i64 a0_3] 50 (0, 0)) (BK102.out) hb); have n1_ := aK (yT (HB.out) hb); clear BK102; clear HB; have BK102 := n0_; have HB := n1_; clear n0_ n1_; (try clear hb)))
  go_ret2
  exact ⟨rfl, HB.out⟩
 rw [if_neg c9] at H
 have c9b0 : decide (2000000 < a1) = false := decide_eq_false c9
 clear c9
 by_cases c13 : (wrap64 (a0_1 + a0_2)) = 0
 ·rw [if_pos c13] at H
  exact absurd H (by simp)
 rw [if_neg c13] at H
 have c13b0 : ((wrap64 (a0_1 + a0_2)) == 0) = false := beq_eq_false_iff_ne.mpr c13
 have c13b1 : ((wrap64 (a0_1 + a0_2)) != 0) = true := bne_iff_ne.mpr c13
 simp only [Option.some.injEq, Prod.mk.injEq] at H
 obtain ⟨rfl, rfl⟩ := H
 go_enter Tryz.func19, Tryz.ntmps19
 go_wp2_with (first | ((with_reducible refine gate_dst (N := 2) rfl ?_); refine box_event ?hg (N := 2) ?hd (cs := #[.int .i64 a0_0, .int .i64 a0_1, .int .i64 a0_2, .int .i64 a0_3]) (t := 50) ?hr ?_; (case hd => rfl); (case hg => rfl); (case hr => first | (go_simp; done) | (go_simp; rfl)); intro gb102 hg w14 hbox hb; have n0_ := aK (yT (HB.out) hb); have n1_ := aK (hbox); have n2_ := aK ((by rw [hg]; exact (yZ (HB.out)) : w.heap.size ≤ gb102)); have n3_ := n2_; clear HB; have HB := n0_; have BK102 := n1_; have GW102 := n2_; have GE102 := n3_; clear n0_ n1_ n2_ n3_; clear hb hbox hg; have hcz15_0 := zI BK102 0 rfl; have hcz15_1 := zI BK102 1 rfl; have hcz15_2 := zI BK102 2 rfl; have hcz15_3 := zI BK102 3 rfl; have hfz15_0 := zF BK102.out 0; have hfz15_1 := zF BK102.out 1; have hfz15_2 := zF BK102.out 2; have hfz15_3 := zF BK102.out 3) | ((with_reducible refine gate_callee (f := 23) rfl ?_); refine goesL_ (some 8) rfl rfl Tryz.func23 (by kernel_rfl) rfl #[.agg #[.int .i64 a0_0, .int .i64 a0_1, .int .i64 a0_2, .int .i64 a0_3]] rfl (by (try simp only [List.map_toArray, List.map_cons, List.map_nil]); first | done | rfl | (simp only [List.length_drop, List.length_take]; rfl)) ?_; (with_reducible refine (slab_Check.calls a0_0 a0_1 a0_2 a0_3 t103 _ A3.out).mono ?_); rintro e w16 ⟨rfl, hb⟩; refine ⟨_, rfl, ?_⟩; have n0_ := aK (zB (g := gb102) (o := .cells #[.int .i64 a0_0, .int .i64 a0_1, .int .i64 a0_2, .int .i64 a0_3] 50 (0, 0)) (BK102.out) hb); have n1_ := aK (yT (HB.out) hb); clear BK102; clear HB; have BK102 := n0_; have HB := n1_; clear n0_ n1_; (try clear hb); have hcz17_0 := zI BK102 0 rfl; have hcz17_1 := zI BK102 1 rfl; have hcz17_2 := zI BK102 2 rfl; have hcz17_3 := zI BK102 3 rfl; have hfz17_0 := zF BK102.out 0; have hfz17_1 := zF BK102.out 1; have hfz17_2 := zF BK102.out 2; have hfz17_3 := zF BK102.out 3))
 go_ret2
 exact ⟨rfl, HB.out⟩

def gangsawref30_in.f (a0 : Int) (a1 : Int) (a2 : Int) : Option (Bool) := if a1 ≤ a0 then (some (decide (a0 ≤ a2))) else (some false)
set_option maxHeartbeats 8000000 in
set_option maxRecDepth 100000 in
theorem gangsawref30_in.calls (a0 : Int) (a1 : Int) (a2 : Int) (r : Bool) (w : World) (h : gangsawref30_in.f a0 a1 a2 = some r) :
  Calls Tryz.prog 57 #[.int .i64 a0, .int .i64 a1, .int .i64 a2] w fun e w' => e = .returned (.bool r) ∧ Drawn0 w w' := by
 have H : (if a1 ≤ a0 then (some (decide (a0 ≤ a2))) else (some false)) = some r := h
 clear h
 by_cases c4 : a1 ≤ a0
 ·rw [if_pos c4] at H
  have c4b0 : decide (a1 ≤ a0) = true := decide_eq_true c4
  clear c4
  obtain rfl := Option.some.inj H
  simp only [Option.some.injEq, Prod.mk.injEq] at H
  obtain ⟨rfl⟩ := H
  go_enter Tryz.func57, Tryz.ntmps57
  go_wp2
  go_ret
  exact ⟨by first | rfl | (simp; done) | (simp [*]; done), by repeat (first | exact Drawn0.refl _ | apply Drawn0.step)⟩
 rw [if_neg c4] at H
 have c4b0 : decide (a1 ≤ a0) = false := decide_eq_false c4
 clear c4
 obtain rfl := Option.some.inj H
 simp only [Option.some.injEq, Prod.mk.injEq] at H
 obtain ⟨rfl⟩ := H
 go_enter Tryz.func57, Tryz.ntmps57
 go_wp2
 go_ret
 exact ⟨by first | rfl | (simp; done) | (simp [*]; done), by repeat (first | exact Drawn0.refl _ | apply Drawn0.step)⟩

def gangsawref30_Check.f (a0_0 : Int) (a0_1 : Int) (a0_2 : Int) (a0_3 : Int) : Option (Int) := (gangsawref30_in.f a0_0 0 2).bind fun t105 => (if t105 = true then ((gangsawref30_in.f a0_1 1 1000).bind fun t106 => (if t106 = true then ((gangsawref30_in.f a0_2 0 1000).bind fun t107 => (if t107 = true then ((gangsawref30_in.f a0_3 1 1000000).bind fun t108 => (if t108 = true then (some 0) else (some 6))) else (some 6))) else (some 6))) else (some 6))
set_option maxHeartbeats 8000000 in
set_option maxRecDepth 100000 in
theorem gangsawref30_Check.calls (a0_0 : Int) (a0_1 : Int) (a0_2 : Int) (a0_3 : Int) (r : Int) (w : World) (h : gangsawref30_Check.f a0_0 a0_1 a0_2 a0_3 = some r) :
  Calls Tryz.prog 24 #[.agg #[.int .i64 a0_0, .int .i64 a0_1, .int .i64 a0_2, .int .i64 a0_3]] w fun e w' => e = .returned (.int .i64 r) ∧ Below w.heap.size w w' := by
 have hu47 := Tryz.underlying47
 have HB := aK (Below.refl w.heap.size w)
 have H : ((gangsawref30_in.f a0_0 0 2).bind fun t105 => (if t105 = true then ((gangsawref30_in.f a0_1 1 1000).bind fun t106 => (if t106 = true then ((gangsawref30_in.f a0_2 0 1000).bind fun t107 => (if t107 = true then ((gangsawref30_in.f a0_3 1 1000000).bind fun t108 => (if t108 = true then (some 0) else (some 6))) else (some 6))) else (some 6))) else (some 6))) = some r := h
 clear h
 replace H := Option.bind_eq_some_iff.mp H
 obtain ⟨t105, A20, H⟩ := H
 replace H : (if t105 = true then ((gangsawref30_in.f a0_1 1 1000).bind fun t106 => (if t106 = true then ((gangsawref30_in.f a0_2 0 1000).bind fun t107 => (if t107 = true then ((gangsawref30_in.f a0_3 1 1000000).bind fun t108 => (if t108 = true then (some 0) else (some 6))) else (some 6))) else (some 6))) else (some 6)) = some r := H
 have A2 := aK A20
 clear A20
 by_cases c3 : t105 = true
 rotate_left
 ·replace c3 := Bool.eq_false_iff.mpr c3
  subst c3
  have H1 : (some 6) = some r := by rw [if_neg (show ¬ (false = true) by decide)] at H; exact H
  clear H
  have H := H1
  clear H1
  obtain rfl := Option.some.inj H
  simp only [Option.some.injEq, Prod.mk.injEq] at H
  obtain ⟨rfl⟩ := H
  go_enter Tryz.func24, Tryz.ntmps24
  go_wp2_with (first | ((with_reducible refine gate_dst (N := 1) rfl ?_); refine box_event ?hg (N := 1) ?hd (cs := #[.int .i64 a0_0, .int .i64 a0_1, .int .i64 a0_2, .int .i64 a0_3]) (t := 47) ?hr ?_; (case hd => rfl); (case hg => rfl); (case hr => first | (go_simp; done) | (go_simp; rfl)); intro gb104 hg w18 hbox hb; have ⟨n0_, n2_⟩ := zV (w := w) hb hg (by repeat (first | (with_reducible first | exact HB.out | apply yA | apply yN | apply yD) | exact HB.out)); have n1_ := aK (hbox); have n3_ := n2_; clear HB; have HB := n0_; have BK104 := n1_; have GW104 := n2_; have GE104 := n3_; clear n0_ n1_ n2_ n3_; clear hb hbox hg; have hcz19_0 := zI BK104 0 rfl; have hcz19_1 := zI BK104 1 rfl; have hcz19_2 := zI BK104 2 rfl; have hcz19_3 := zI BK104 3 rfl; have hfz19_0 := zF BK104.out 0; have hfz19_1 := zF BK104.out 1; have hfz19_2 := zF BK104.out 2; have hfz19_3 := zF BK104.out 3) | ((with_reducible refine gate_callee (f := 57) rfl ?_); refine goesL_ (some 5) rfl rfl Tryz.func57 (by kernel_rfl) rfl #[.int .i64 a0_0, .int .i64 0, .int .i64 2] rfl (by (try simp only [List.map_toArray, List.map_cons, List.map_nil]); first | done | rfl | (simp only [List.length_drop, List.length_take]; rfl)) ?_; (with_reducible refine (gangsawref30_in.calls a0_0 0 2 false _ A2.out).mono ?_); rintro e w' ⟨rfl, ⟨nd, rfl⟩⟩; refine ⟨_, rfl, ?_⟩))
  go_ret
  exact ⟨rfl, by repeat (first | (with_reducible first | exact HB.out | apply yA | apply yN | apply yD | refine yS ?_ GE104.out) | exact HB.out)⟩
 subst c3
 have H1 : ((gangsawref30_in.f a0_1 1 1000).bind fun t106 => (if t106 = true then ((gangsawref30_in.f a0_2 0 1000).bind fun t107 => (if t107 = true then ((gangsawref30_in.f a0_3 1 1000000).bind fun t108 => (if t108 = true then (some 0) else (some 6))) else (some 6))) else (some 6))) = some r := by rw [if_pos rfl] at H; exact H
 clear H
 have H := H1
 clear H1
 replace H := Option.bind_eq_some_iff.mp H
 obtain ⟨t106, A40, H⟩ := H
 replace H : (if t106 = true then ((gangsawref30_in.f a0_2 0 1000).bind fun t107 => (if t107 = true then ((gangsawref30_in.f a0_3 1 1000000).bind fun t108 => (if t108 = true then (some 0) else (some 6))) else (some 6))) else (some 6)) = some r := H
 have A4 := aK A40
 clear A40
 by_cases c5 : t106 = true
 rotate_left
 ·replace c5 := Bool.eq_false_iff.mpr c5
  subst c5
  have H1 : (some 6) = some r := by rw [if_neg (show ¬ (false = true) by decide)] at H; exact H
  clear H
  have H := H1
  clear H1
  obtain rfl := Option.some.inj H
  simp only [Option.some.injEq, Prod.mk.injEq] at H
  obtain ⟨rfl⟩ := H
  go_enter Tryz.func24, Tryz.ntmps24
  go_wp2_with (first | ((with_reducible refine gate_dst (N := 1) rfl ?_); refine box_event ?hg (N := 1) ?hd (cs := #[.int .i64 a0_0, .int .i64 a0_1, .int .i64 a0_2, .int .i64 a0_3]) (t := 47) ?hr ?_; (case hd => rfl); (case hg => rfl); (case hr => first | (go_simp; done) | (go_simp; rfl)); intro gb104 hg w16 hbox hb; have ⟨n0_, n2_⟩ := zV (w := w) hb hg (by repeat (first | (with_reducible first | exact HB.out | apply yA | apply yN | apply yD) | exact HB.out)); have n1_ := aK (hbox); have n3_ := n2_; clear HB; have HB := n0_; have BK104 := n1_; have GW104 := n2_; have GE104 := n3_; clear n0_ n1_ n2_ n3_; clear hb hbox hg; have hcz17_0 := zI BK104 0 rfl; have hcz17_1 := zI BK104 1 rfl; have hcz17_2 := zI BK104 2 rfl; have hcz17_3 := zI BK104 3 rfl; have hfz17_0 := zF BK104.out 0; have hfz17_1 := zF BK104.out 1; have hfz17_2 := zF BK104.out 2; have hfz17_3 := zF BK104.out 3) | ((with_reducible refine gate_callee (f := 57) rfl ?_); refine goesL_ (some 5) rfl rfl Tryz.func57 (by kernel_rfl) rfl #[.int .i64 a0_0, .int .i64 0, .int .i64 2] rfl (by (try simp only [List.map_toArray, List.map_cons, List.map_nil]); first | done | rfl | (simp only [List.length_drop, List.length_take]; rfl)) ?_; (with_reducible refine (gangsawref30_in.calls a0_0 0 2 true _ A2.out).mono ?_); rintro e w' ⟨rfl, ⟨nd, rfl⟩⟩; refine ⟨_, rfl, ?_⟩) | (go_at_call 57; (with_reducible refine (gangsawref30_in.calls a0_1 1 1000 false _ A4.out).mono ?_); rintro e w' ⟨rfl, ⟨nd, rfl⟩⟩))
  go_ret
  exact ⟨rfl, by repeat (first | (with_reducible first | exact HB.out | apply yA | apply yN | apply yD | refine yS ?_ GE104.out) | exact HB.out)⟩
 subst c5
 have H1 : ((gangsawref30_in.f a0_2 0 1000).bind fun t107 => (if t107 = true then ((gangsawref30_in.f a0_3 1 1000000).bind fun t108 => (if t108 = true then (some 0) else (some 6))) else (some 6))) = some r := by rw [if_pos rfl] at H; exact H
 clear H
 have H := H1
 clear H1
 replace H := Option.bind_eq_some_iff.mp H
 obtain ⟨t107, A60, H⟩ := H
 replace H : (if t107 = true then ((gangsawref30_in.f a0_3 1 1000000).bind fun t108 => (if t108 = true then (some 0) else (some 6))) else (some 6)) = some r := H
 have A6 := aK A60
 clear A60
 by_cases c7 : t107 = true
 rotate_left
 ·replace c7 := Bool.eq_false_iff.mpr c7
  subst c7
  have H1 : (some 6) = some r := by rw [if_neg (show ¬ (false = true) by decide)] at H; exact H
  clear H
  have H := H1
  clear H1
  obtain rfl := Option.some.inj H
  simp only [Option.some.injEq, Prod.mk.injEq] at H
  obtain ⟨rfl⟩ := H
  go_enter Tryz.func24, Tryz.ntmps24
  go_wp2_with (first | ((with_reducible refine gate_dst (N := 1) rfl ?_); refine box_event ?hg (N := 1) ?hd (cs := #[.int .i64 a0_0, .int .i64 a0_1, .int .i64 a0_2, .int .i64 a0_3]) (t := 47) ?hr ?_; (case hd => rfl); (case hg => rfl); (case hr => first | (go_simp; done) | (go_simp; rfl)); intro gb104 hg w14 hbox hb; have ⟨n0_, n2_⟩ := zV (w := w) hb hg (by repeat (first | (with_reducible first | exact HB.out | apply yA | apply yN | apply yD) | exact HB.out)); have n1_ := aK (hbox); have n3_ := n2_; clear HB; have HB := n0_; have BK104 := n1_; have GW104 := n2_; have GE104 := n3_; clear n0_ n1_ n2_ n3_; clear hb hbox hg; have hcz15_0 := zI BK104 0 rfl; have hcz15_1 := zI BK104 1 rfl; have hcz15_2 := zI BK104 2 rfl; have hcz15_3 := zI BK104 3 rfl; have hfz15_0 := zF BK104.out 0; have hfz15_1 := zF BK104.out 1; have hfz15_2 := zF BK104.out 2; have hfz15_3 := zF BK104.out 3) | ((with_reducible refine gate_callee (f := 57) rfl ?_); refine goesL_ (some 5) rfl rfl Tryz.func57 (by kernel_rfl) rfl #[.int .i64 a0_0, .int .i64 0, .int .i64 2] rfl (by (try simp only [List.map_toArray, List.map_cons, List.map_nil]); first | done | rfl | (simp only [List.length_drop, List.length_take]; rfl)) ?_; (with_reducible refine (gangsawref30_in.calls a0_0 0 2 true _ A2.out).mono ?_); rintro e w' ⟨rfl, ⟨nd, rfl⟩⟩; refine ⟨_, rfl, ?_⟩) | (go_at_call 57; (with_reducible refine (gangsawref30_in.calls a0_1 1 1000 true _ A4.out).mono ?_); rintro e w' ⟨rfl, ⟨nd, rfl⟩⟩) | (go_at_call 57; (with_reducible refine (gangsawref30_in.calls a0_2 0 1000 false _ A6.out).mono ?_); rintro e w' ⟨rfl, ⟨nd, rfl⟩⟩))
  go_ret
  exact ⟨rfl, by repeat (first | (with_reducible first | exact HB.out | apply yA | apply yN | apply yD | refine yS ?_ GE104.out) | exact HB.out)⟩
 subst c7
 have H1 : ((gangsawref30_in.f a0_3 1 1000000).bind fun t108 => (if t108 = true then (some 0) else (some 6))) = some r := by rw [if_pos rfl] at H; exact H
 clear H
 have H := H1
 clear H1
 replace H := Option.bind_eq_some_iff.mp H
 obtain ⟨t108, A80, H⟩ := H
 replace H : (if t108 = true then (some 0) else (some 6)) = some r := H
 have A8 := aK A80
 clear A80
 by_cases c9 : t108 = true
 ·subst c9
  have H1 : (some 0) = some r := by rw [if_pos rfl] at H; exact H
  clear H
  have H := H1
  clear H1
  obtain rfl := Option.some.inj H
  simp only [Option.some.injEq, Prod.mk.injEq] at H
  obtain ⟨rfl⟩ := H
  go_enter Tryz.func24, Tryz.ntmps24
  go_wp2_with (first | ((with_reducible refine gate_dst (N := 1) rfl ?_); refine box_event ?hg (N := 1) ?hd (cs := #[.int .i64 a0_0, .int .i64 a0_1, .int .i64 a0_2, .int .i64 a0_3]) (t := 47) ?hr ?_; (case hd => rfl); (case hg => rfl); (case hr => first | (go_simp; done) | (go_simp; rfl)); intro gb104 hg w10 hbox hb; have ⟨n0_, n2_⟩ := zV (w := w) hb hg (by repeat (first | (with_reducible first | exact HB.out | apply yA | apply yN | apply yD) | exact HB.out)); have n1_ := aK (hbox); have n3_ := n2_; clear HB; have HB := n0_; have BK104 := n1_; have GW104 := n2_; have GE104 := n3_; clear n0_ n1_ n2_ n3_; clear hb hbox hg; have hcz11_0 := zI BK104 0 rfl; have hcz11_1 := zI BK104 1 rfl; have hcz11_2 := zI BK104 2 rfl; have hcz11_3 := zI BK104 3 rfl; have hfz11_0 := zF BK104.out 0; have hfz11_1 := zF BK104.out 1; have hfz11_2 := zF BK104.out 2; have hfz11_3 := zF BK104.out 3) | ((with_reducible refine gate_callee (f := 57) rfl ?_); refine goesL_ (some 5) rfl rfl Tryz.func57 (by kernel_rfl) rfl #[.int .i64 a0_0, .int .i64 0, .int .i64 2] rfl (by (try simp only [List.map_toArray, List.map_cons, List.map_nil]); first | done | rfl | (simp only [List.length_drop, List.length_take]; rfl)) ?_; (with_reducible refine (gangsawref30_in.calls a0_0 0 2 true _ A2.out).mono ?_); rintro e w' ⟨rfl, ⟨nd, rfl⟩⟩; refine ⟨_, rfl, ?_⟩) | (go_at_call 57; (with_reducible refine (gangsawref30_in.calls a0_1 1 1000 true _ A4.out).mono ?_); rintro e w' ⟨rfl, ⟨nd, rfl⟩⟩) | (go_at_call 57; (with_reducible refine (gangsawref30_in.calls a0_2 0 1000 true _ A6.out).mono ?_); rintro e w' ⟨rfl, ⟨nd, rfl⟩⟩) | (go_at_call 57; (with_reducible refine (gangsawref30_in.calls a0_3 1 1000000 true _ A8.out).mono ?_); rintro e w' ⟨rfl, ⟨nd, rfl⟩⟩))
  go_ret
  exact ⟨rfl, by repeat (first | (with_reducible first | exact HB.out | apply yA | apply yN | apply yD | refine yS ?_ GE104.out) | exact HB.out)⟩
 replace c9 := Bool.eq_false_iff.mpr c9
 subst c9
 have H1 : (some 6) = some r := by rw [if_neg (show ¬ (false = true) by decide)] at H; exact H
 clear H
 have H := H1
 clear H1
 obtain rfl := Option.some.inj H
 simp only [Option.some.injEq, Prod.mk.injEq] at H
 obtain ⟨rfl⟩ := H
 go_enter Tryz.func24, Tryz.ntmps24
 go_wp2_with (first | ((with_reducible refine gate_dst (N := 1) rfl ?_); refine box_event ?hg (N := 1) ?hd (cs := #[.int .i64 a0_0, .int .i64 a0_1, .int .i64 a0_2, .int .i64 a0_3]) (t := 47) ?hr ?_; (case hd => rfl); (case hg => rfl); (case hr => first | (go_simp; done) | (go_simp; rfl)); intro gb104 hg w12 hbox hb; have ⟨n0_, n2_⟩ := zV (w := w) hb hg (by repeat (first | (with_reducible first | exact HB.out | apply yA | apply yN | apply yD) | exact HB.out)); have n1_ := aK (hbox); have n3_ := n2_; clear HB; have HB := n0_; have BK104 := n1_; have GW104 := n2_; have GE104 := n3_; clear n0_ n1_ n2_ n3_; clear hb hbox hg; have hcz13_0 := zI BK104 0 rfl; have hcz13_1 := zI BK104 1 rfl; have hcz13_2 := zI BK104 2 rfl; have hcz13_3 := zI BK104 3 rfl; have hfz13_0 := zF BK104.out 0; have hfz13_1 := zF BK104.out 1; have hfz13_2 := zF BK104.out 2; have hfz13_3 := zF BK104.out 3) | ((with_reducible refine gate_callee (f := 57) rfl ?_); refine goesL_ (some 5) rfl rfl Tryz.func57 (by kernel_rfl) rfl #[.int .i64 a0_0, .int .i64 0, .int .i64 2] rfl (by (try simp only [List.map_toArray, List.map_cons, List.map_nil]); first | done | rfl | (simp only [List.length_drop, List.length_take]; rfl)) ?_; (with_reducible refine (gangsawref30_in.calls a0_0 0 2 true _ A2.out).mono ?_); rintro e w' ⟨rfl, ⟨nd, rfl⟩⟩; refine ⟨_, rfl, ?_⟩) | (go_at_call 57; (with_reducible refine (gangsawref30_in.calls a0_1 1 1000 true _ A4.out).mono ?_); rintro e w' ⟨rfl, ⟨nd, rfl⟩⟩) | (go_at_call 57; (with_reducible refine (gangsawref30_in.calls a0_2 0 1000 true _ A6.out).mono ?_); rintro e w' ⟨rfl, ⟨nd, rfl⟩⟩) | (go_at_call 57; (with_reducible refine (gangsawref30_in.calls a0_3 1 1000000 false _ A8.out).mono ?_); rintro e w' ⟨rfl, ⟨nd, rfl⟩⟩))
 go_ret
 exact ⟨rfl, by repeat (first | (with_reducible first | exact HB.out | apply yA | apply yN | apply yD | refine yS ?_ GE104.out) | exact HB.out)⟩

end Go.Proofs.YtnaahepnabmibaaGreatDoor.P
