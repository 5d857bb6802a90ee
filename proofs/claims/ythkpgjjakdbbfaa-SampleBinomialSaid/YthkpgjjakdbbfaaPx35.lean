/- What functions of the program return: each contract says so of one function, for every input at which its pure function yields. -/
import Derived.Test.YthkpgjjakdbbfaaPx0
import Derived.Test.YthkpgjjakdbbfaaPx4
import Derived.Test.YthkpgjjakdbbfaaPx7
import Derived.Test.YthkpgjjakdbbfaaPx34
namespace Go.Proofs.Ythkpgjjakdbbfaa.P
open Go.RowKit Go.Proofs.YthkpgjjakdbbfaaW.PrintWords Go.Proofs.YthkpgjjakdbbfaaW.PrintLast Go.Proofs.YthkpgjjakdbbfaaW.PrintMore
attribute [local go_sem] max2_int min2_int max_two min_two max_three min_three max_four min_four   -- for this text's walks alone
set_option linter.unusedVariables false
set_option linter.unusedSimpArgs false

def fraction_add.j0 : Nat → Int → Int → Bool → Bool → Int → Int → Option (Int × Int × Int)
 | 0, _, _, _, _, _, _ => none
 | k + 1, x12, x16, x78, x685000, x685001, x685002 => if x78 = true then (some (0, 0, 6)) else (if x12 = 0 then (some (0, 1, 0)) else ((fraction_makeFrac.f k x685000 x12 x16).bind fun bt694 => (some (bt694.1, bt694.2.1, bt694.2.2))))
def fraction_add.f (k : Nat) (a0_0 : Int) (a0_1 : Int) (a1_0 : Int) (a1_1 : Int) : Option (Int × Int × Int) := (fraction_gcd.f k (IntKind.u64.wrap (a0_1)) (IntKind.u64.wrap (a1_1))).bind fun t674 => (if (wrap64 (t674)) = 0 then (none) else ((fraction_product.f a0_0 (wrap64 (Int.tdiv a1_1 (wrap64 (t674))))).bind fun bt675 => ((fraction_product.f a1_0 (wrap64 (Int.tdiv a0_1 (wrap64 (t674))))).bind fun bt678 => ((fraction_sum.f k bt675.1 bt675.2.1 bt675.2.2 bt678.1 bt678.2.1 bt678.2.2).bind fun bt681 => ((fraction_over.f bt681.1 bt681.2.1 bt681.2.2 (IntKind.u64.wrap (wrap64 (t674)))).bind fun bt685 => ((fraction_gcd.f k bt685.2.1 (IntKind.u64.wrap (wrap64 (t674)))).bind fun t688 => ((fraction_over.f bt681.1 bt681.2.1 bt681.2.2 t688).bind fun bt689 => (if t688 = 0 then (none) else ((bits_Mul64.f (IntKind.u64.wrap (wrap64 (Int.tdiv a0_1 (wrap64 (t674))))) (IntKind.u64.wrap (Int.tdiv (IntKind.u64.wrap (a1_1)) t688))).bind fun bt692 => (if bt689.2.2 = true then (fraction_add.j0 k bt689.1 bt692.2 (decide (bt692.1 > 0)) bt681.1 bt681.2.1 bt681.2.2) else (fraction_add.j0 k bt689.1 bt692.2 true bt681.1 bt681.2.1 bt681.2.2)))))))))))
def fraction_add.T2 : Bool × List (List Nat × List Nat) := (true, [([], []), ([0], [0]), ([], []), ([2], [2]), ([], []), ([3, 4], [3, 4]), ([1, 5], [1, 5]), ([], []), ([7], [7]), ([], []), ([9], [9]), ([], []), ([10, 11], [10, 11]), ([8, 12, 6], [8, 12]), ([6, 13, 13], [6, 13]), ([], []), ([15, 14, 14, 0, 1, 2, 3, 4, 5, 6, 7, 8, 9, 10, 11, 12, 13, 14, 15], [14, 15])])
def fraction_add.B2 : List Nat := [0, 1, 0, 4, 0, 28, 63, 0, 128, 0, 512, 0, 3584, 8191, 16383, 0, 65535]
theorem fraction_add.tab2 : rtab .any (opsOf Try.f55 2) = fraction_add.T2 := by kernel_rfl
theorem fraction_add.bits2 : waitsOk fraction_add.T2.2 fraction_add.B2 = true := by kernel_rfl
def fraction_add.T6 : Bool × List (List Nat × List Nat) := (true, [([], []), ([0], [0]), ([], []), ([1, 2], [1, 2]), ([3], [3]), ([], []), ([5], [5]), ([6], [6]), ([], []), ([7, 8], [7, 8]), ([4, 9], [4, 9]), ([10], [10]), ([11], [11]), ([11], [11]), ([12, 10, 0, 1, 2, 3, 4, 5, 6, 7, 8, 9, 10, 11, 12], [12]), ([13, 14, 0, 1, 2, 3, 4, 5, 6, 7, 8, 9, 10, 11, 12, 13, 14], [13])])
def fraction_add.B6 : List Nat := [0, 1, 0, 7, 15, 0, 32, 96, 0, 480, 1023, 2047, 4095, 4095, 8191, 32767]
theorem fraction_add.tab6 : rtab .any (opsOf Try.f55 6) = fraction_add.T6 := by kernel_rfl
theorem fraction_add.bits6 : waitsOk fraction_add.T6.2 fraction_add.B6 = true := by kernel_rfl
set_option maxHeartbeats 8000000 in
set_option maxRecDepth 100000 in
theorem fraction_add.calls (k : Nat) (a0_0 : Int) (a0_1 : Int) (a1_0 : Int) (a1_1 : Int) (r1 : Int) (r2 : Int) (r3 : Int) (w : World) (h : fraction_add.f k a0_0 a0_1 a1_0 a1_1 = some (r1, r2, r3)) :
  Calls Try.prog 55 #[.agg #[.int .i64 a0_0, .int .i64 a0_1], .agg #[.int .i64 a1_0, .int .i64 a1_1]] w fun e w' => e = .returned (.tuple #[.agg #[.int .i64 r1, .int .i64 r2], .int .i64 r3]) ∧ Below w.heap.size w w' := by
 have hu33 := Try.underlying33
 have hu71 := Try.underlying71
 have HB := aK (Below.refl w.heap.size w)
 have H : ((fraction_gcd.f k (IntKind.u64.wrap (a0_1)) (IntKind.u64.wrap (a1_1))).bind fun t674 => (if (wrap64 (t674)) = 0 then (none) else ((fraction_product.f a0_0 (wrap64 (Int.tdiv a1_1 (wrap64 (t674))))).bind fun bt675 => ((fraction_product.f a1_0 (wrap64 (Int.tdiv a0_1 (wrap64 (t674))))).bind fun bt678 => ((fraction_sum.f k bt675.1 bt675.2.1 bt675.2.2 bt678.1 bt678.2.1 bt678.2.2).bind fun bt681 => ((fraction_over.f bt681.1 bt681.2.1 bt681.2.2 (IntKind.u64.wrap (wrap64 (t674)))).bind fun bt685 => ((fraction_gcd.f k bt685.2.1 (IntKind.u64.wrap (wrap64 (t674)))).bind fun t688 => ((fraction_over.f bt681.1 bt681.2.1 bt681.2.2 t688).bind fun bt689 => (if t688 = 0 then (none) else ((bits_Mul64.f (IntKind.u64.wrap (wrap64 (Int.tdiv a0_1 (wrap64 (t674))))) (IntKind.u64.wrap (Int.tdiv (IntKind.u64.wrap (a1_1)) t688))).bind fun bt692 => (if bt689.2.2 = true then (fraction_add.j0 k bt689.1 bt692.2 (decide (bt692.1 > 0)) bt681.1 bt681.2.1 bt681.2.2) else (fraction_add.j0 k bt689.1 bt692.2 true bt681.1 bt681.2.1 bt681.2.2)))))))))))) = some (r1, r2, r3) := h
 clear h
 replace H := Option.bind_eq_some_iff.mp H
 obtain ⟨t674, A30, H⟩ := H
 replace H : (if (wrap64 (t674)) = 0 then (none) else ((fraction_product.f a0_0 (wrap64 (Int.tdiv a1_1 (wrap64 (t674))))).bind fun bt675 => ((fraction_product.f a1_0 (wrap64 (Int.tdiv a0_1 (wrap64 (t674))))).bind fun bt678 => ((fraction_sum.f k bt675.1 bt675.2.1 bt675.2.2 bt678.1 bt678.2.1 bt678.2.2).bind fun bt681 => ((fraction_over.f bt681.1 bt681.2.1 bt681.2.2 (IntKind.u64.wrap (wrap64 (t674)))).bind fun bt685 => ((fraction_gcd.f k bt685.2.1 (IntKind.u64.wrap (wrap64 (t674)))).bind fun t688 => ((fraction_over.f bt681.1 bt681.2.1 bt681.2.2 t688).bind fun bt689 => (if t688 = 0 then (none) else ((bits_Mul64.f (IntKind.u64.wrap (wrap64 (Int.tdiv a0_1 (wrap64 (t674))))) (IntKind.u64.wrap (Int.tdiv (IntKind.u64.wrap (a1_1)) t688))).bind fun bt692 => (if bt689.2.2 = true then (fraction_add.j0 k bt689.1 bt692.2 (decide (bt692.1 > 0)) bt681.1 bt681.2.1 bt681.2.2) else (fraction_add.j0 k bt689.1 bt692.2 true bt681.1 bt681.2.1 bt681.2.2))))))))))) = some (r1, r2, r3) := H
 have A3 := aK A30
 clear A30
 by_cases c4 : (wrap64 (t674)) = 0
 ·rw [if_pos c4] at H
  exact absurd H (by simp)
 ·rw [if_neg c4] at H
  have c4b0 : ((wrap64 (t674)) == 0) = false := beq_eq_false_iff_ne.mpr c4
  have c4b1 : ((wrap64 (t674)) != 0) = true := bne_iff_ne.mpr c4
  replace H := Option.bind_eq_some_iff.mp H
  obtain ⟨⟨t675, t676, t677⟩, A50, H⟩ := H
  replace H : ((fraction_product.f a1_0 (wrap64 (Int.tdiv a0_1 (wrap64 (t674))))).bind fun bt678 => ((fraction_sum.f k t675 t676 t677 bt678.1 bt678.2.1 bt678.2.2).bind fun bt681 => ((fraction_over.f bt681.1 bt681.2.1 bt681.2.2 (IntKind.u64.wrap (wrap64 (t674)))).bind fun bt685 => ((fraction_gcd.f k bt685.2.1 (IntKind.u64.wrap (wrap64 (t674)))).bind fun t688 => ((fraction_over.f bt681.1 bt681.2.1 bt681.2.2 t688).bind fun bt689 => (if t688 = 0 then (none) else ((bits_Mul64.f (IntKind.u64.wrap (wrap64 (Int.tdiv a0_1 (wrap64 (t674))))) (IntKind.u64.wrap (Int.tdiv (IntKind.u64.wrap (a1_1)) t688))).bind fun bt692 => (if bt689.2.2 = true then (fraction_add.j0 k bt689.1 bt692.2 (decide (bt692.1 > 0)) bt681.1 bt681.2.1 bt681.2.2) else (fraction_add.j0 k bt689.1 bt692.2 true bt681.1 bt681.2.1 bt681.2.2))))))))) = some (r1, r2, r3) := H
  have A5 := aK A50
  clear A50
  replace H := Option.bind_eq_some_iff.mp H
  obtain ⟨⟨t678, t679, t680⟩, A60, H⟩ := H
  replace H : ((fraction_sum.f k t675 t676 t677 t678 t679 t680).bind fun bt681 => ((fraction_over.f bt681.1 bt681.2.1 bt681.2.2 (IntKind.u64.wrap (wrap64 (t674)))).bind fun bt685 => ((fraction_gcd.f k bt685.2.1 (IntKind.u64.wrap (wrap64 (t674)))).bind fun t688 => ((fraction_over.f bt681.1 bt681.2.1 bt681.2.2 t688).bind fun bt689 => (if t688 = 0 then (none) else ((bits_Mul64.f (IntKind.u64.wrap (wrap64 (Int.tdiv a0_1 (wrap64 (t674))))) (IntKind.u64.wrap (Int.tdiv (IntKind.u64.wrap (a1_1)) t688))).bind fun bt692 => (if bt689.2.2 = true then (fraction_add.j0 k bt689.1 bt692.2 (decide (bt692.1 > 0)) bt681.1 bt681.2.1 bt681.2.2) else (fraction_add.j0 k bt689.1 bt692.2 true bt681.1 bt681.2.1 bt681.2.2)))))))) = some (r1, r2, r3) := H
  have A6 := aK A60
  clear A60
  replace H := Option.bind_eq_some_iff.mp H
  obtain ⟨⟨t681, t682, t683⟩, A70, H⟩ := H
  replace H : ((fraction_over.f t681 t682 t683 (IntKind.u64.wrap (wrap64 (t674)))).bind fun bt685 => ((fraction_gcd.f k bt685.2.1 (IntKind.u64.wrap (wrap64 (t674)))).bind fun t688 => ((fraction_over.f t681 t682 t683 t688).bind fun bt689 => (if t688 = 0 then (none) else ((bits_Mul64.f (IntKind.u64.wrap (wrap64 (Int.tdiv a0_1 (wrap64 (t674))))) (IntKind.u64.wrap (Int.tdiv (IntKind.u64.wrap (a1_1)) t688))).bind fun bt692 => (if bt689.2.2 = true then (fraction_add.j0 k bt689.1 bt692.2 (decide (bt692.1 > 0)) t681 t682 t683) else (fraction_add.j0 k bt689.1 bt692.2 true t681 t682 t683))))))) = some (r1, r2, r3) := H
  have A7 := aK A70
  clear A70
  replace H := Option.bind_eq_some_iff.mp H
  obtain ⟨⟨t685, t686, t687⟩, A80, H⟩ := H
  replace H : ((fraction_gcd.f k t686 (IntKind.u64.wrap (wrap64 (t674)))).bind fun t688 => ((fraction_over.f t681 t682 t683 t688).bind fun bt689 => (if t688 = 0 then (none) else ((bits_Mul64.f (IntKind.u64.wrap (wrap64 (Int.tdiv a0_1 (wrap64 (t674))))) (IntKind.u64.wrap (Int.tdiv (IntKind.u64.wrap (a1_1)) t688))).bind fun bt692 => (if bt689.2.2 = true then (fraction_add.j0 k bt689.1 bt692.2 (decide (bt692.1 > 0)) t681 t682 t683) else (fraction_add.j0 k bt689.1 bt692.2 true t681 t682 t683)))))) = some (r1, r2, r3) := H
  have A8 := aK A80
  clear A80
  replace H := Option.bind_eq_some_iff.mp H
  obtain ⟨t688, A90, H⟩ := H
  replace H : ((fraction_over.f t681 t682 t683 t688).bind fun bt689 => (if t688 = 0 then (none) else ((bits_Mul64.f (IntKind.u64.wrap (wrap64 (Int.tdiv a0_1 (wrap64 (t674))))) (IntKind.u64.wrap (Int.tdiv (IntKind.u64.wrap (a1_1)) t688))).bind fun bt692 => (if bt689.2.2 = true then (fraction_add.j0 k bt689.1 bt692.2 (decide (bt692.1 > 0)) t681 t682 t683) else (fraction_add.j0 k bt689.1 bt692.2 true t681 t682 t683))))) = some (r1, r2, r3) := H
  have A9 := aK A90
  clear A90
  replace H := Option.bind_eq_some_iff.mp H
  obtain ⟨⟨t689, t690, t691⟩, A100, H⟩ := H
  replace H : (if t688 = 0 then (none) else ((bits_Mul64.f (IntKind.u64.wrap (wrap64 (Int.tdiv a0_1 (wrap64 (t674))))) (IntKind.u64.wrap (Int.tdiv (IntKind.u64.wrap (a1_1)) t688))).bind fun bt692 => (if t691 = true then (fraction_add.j0 k t689 bt692.2 (decide (bt692.1 > 0)) t681 t682 t683) else (fraction_add.j0 k t689 bt692.2 true t681 t682 t683)))) = some (r1, r2, r3) := H
  have A10 := aK A100
  clear A100
  by_cases c11 : t688 = 0
  ·rw [if_pos c11] at H
   exact absurd H (by simp)
  ·rw [if_neg c11] at H
   have c11b0 : (t688 == 0) = false := beq_eq_false_iff_ne.mpr c11
   have c11b1 : (t688 != 0) = true := bne_iff_ne.mpr c11
   replace H := Option.bind_eq_some_iff.mp H
   obtain ⟨⟨t692, t693⟩, A120, H⟩ := H
   replace H : (if t691 = true then (fraction_add.j0 k t689 t693 (decide (t692 > 0)) t681 t682 t683) else (fraction_add.j0 k t689 t693 true t681 t682 t683)) = some (r1, r2, r3) := H
   have A12 := aK A120
   clear A120
   have HC13 := aK H
   clear H
   go_enter Try.func55, Try.ntmps55
   try go_wp2_with (first | ((with_reducible refine gate_dst (N := 2) rfl ?_); refine box_event ?hg (N := 2) ?hd (cs := #[.int .i64 a0_0, .int .i64 a0_1]) (t := 33) ?hr ?_; (case hd => rfl); (case hg => rfl); (case hr => first | (go_simp; done) | (go_simp; rfl)); intro gb671 hg w14 hbox hb; have ⟨n0_, n2_⟩ := zV (w := w) hb hg (by repeat (first | (with_reducible first | exact HB.out | apply yA | apply yN | apply yD) | exact HB.out)); have n1_ := aK (hbox); have n3_ := n2_; clear HB; have HB := n0_; have BK671 := n1_; have GW671 := n2_; have GE671 := n3_; clear n0_ n1_ n2_ n3_; clear hb hbox hg) | ((with_reducible refine gate_dst (N := 3) rfl ?_); refine box_event ?hg (N := 3) ?hd (cs := #[.int .i64 a1_0, .int .i64 a1_1]) (t := 33) ?hr ?_; (case hd => rfl); (case hg => rfl); (case hr => first | (go_simp; done) | (go_simp; rfl)); intro gb672 hg w15 hbox hb; have n0_ := zG BK671 hb (fun h => by (with_reducible repeat (first | refine zN ?_ _ | refine zD ?_ | refine zA ?_ _)); exact h); have ⟨n1_, n3_⟩ := zV (w := w) hb hg (by repeat (first | (with_reducible first | exact HB.out | apply yA | apply yN | apply yD | refine yS ?_ GE671.out) | exact HB.out)); have n2_ := aK (hbox); have n4_ := n3_; have n5_ := aK ((by rw [hg]; exact Nat.ne_of_lt (blk_lt (g := gb671) (o := .cells #[.int .i64 a0_0, .int .i64 a0_1] 33 (0, 0)) (by (with_reducible repeat (first | refine zN ?_ _ | refine zD ?_ | refine zA ?_ _)); exact BK671.out)) : gb671 ≠ gb672)); have n6_ := aK ((by rw [hg]; exact Nat.ne_of_gt (blk_lt (g := gb671) (o := .cells #[.int .i64 a0_0, .int .i64 a0_1] 33 (0, 0)) (by (with_reducible repeat (first | refine zN ?_ _ | refine zD ?_ | refine zA ?_ _)); exact BK671.out)) : gb672 ≠ gb671)); clear BK671; clear HB; have BK671 := n0_; have HB := n1_; have BK672 := n2_; have GW672 := n3_; have GE672 := n4_; have NB671_672 := n5_; have NB672_671 := n6_; clear n0_ n1_ n2_ n3_ n4_ n5_ n6_; clear hb hbox hg) | ((with_reducible refine gate_dst (N := 4) rfl ?_); refine box_event ?hg (N := 4) ?hd (cs := #[.int .i64 0, .int .i64 0]) (t := 33) ?hr ?_; (case hd => rfl); (case hg => rfl); (case hr => first | (go_simp; done) | (go_simp; rfl)); intro gb673 hg w16 hbox hb; have n0_ := zG BK671 hb (fun h => by (with_reducible repeat (first | refine zN ?_ _ | refine zD ?_ | refine zA ?_ _)); exact h); have n1_ := zG BK672 hb (fun h => by (with_reducible repeat (first | refine zN ?_ _ | refine zD ?_ | refine zA ?_ _)); exact h); have ⟨n2_, n4_⟩ := zV (w := w) hb hg (by repeat (first | (with_reducible first | exact HB.out | apply yA | apply yN | apply yD | refine yS ?_ GE671.out | refine yS ?_ GE672.out) | exact HB.out)); have n3_ := aK (hbox); have n5_ := n4_; have n6_ := aK ((by rw [hg]; exact Nat.ne_of_lt (blk_lt (g := gb671) (o := .cells #[.int .i64 a0_0, .int .i64 a0_1] 33 (0, 0)) (by (with_reducible repeat (first | refine zN ?_ _ | refine zD ?_ | refine zA ?_ _)); exact BK671.out)) : gb671 ≠ gb673)); have n7_ := aK ((by rw [hg]; exact Nat.ne_of_gt (blk_lt (g := gb671) (o := .cells #[.int .i64 a0_0, .int .i64 a0_1] 33 (0, 0)) (by (with_reducible repeat (first | refine zN ?_ _ | refine zD ?_ | refine zA ?_ _)); exact BK671.out)) : gb673 ≠ gb671)); have n8_ := aK ((by rw [hg]; exact Nat.ne_of_lt (blk_lt (g := gb672) (o := .cells #[.int .i64 a1_0, .int .i64 a1_1] 33 (0, 0)) (by (with_reducible repeat (first | refine zN ?_ _ | refine zD ?_ | refine zA ?_ _)); exact BK672.out)) : gb672 ≠ gb673)); have n9_ := aK ((by rw [hg]; exact Nat.ne_of_gt (blk_lt (g := gb672) (o := .cells #[.int .i64 a1_0, .int .i64 a1_1] 33 (0, 0)) (by (with_reducible repeat (first | refine zN ?_ _ | refine zD ?_ | refine zA ?_ _)); exact BK672.out)) : gb673 ≠ gb672)); clear BK671; clear BK672; clear HB; have BK671 := n0_; have BK672 := n1_; have HB := n2_; have BK673 := n3_; have GW673 := n4_; have GE673 := n5_; have NB671_673 := n6_; have NB673_671 := n7_; have NB672_673 := n8_; have NB673_672 := n9_; clear n0_ n1_ n2_ n3_ n4_ n5_ n6_ n7_ n8_ n9_; clear hb hbox hg; have hnb17 := NB671_672.out; have hnc17 := NB672_671.out; have hnb18 := NB671_673.out; have hnc18 := NB673_671.out; have hcz19_0 := zI BK671 0 rfl; have hcz19_1 := zI BK671 1 rfl; have hfz19_0 := zF BK671.out 0; have hfz19_1 := zF BK671.out 1; have hnb20 := NB672_673.out; have hnc20 := NB673_672.out; have hcz21_0 := zI BK672 0 rfl; have hcz21_1 := zI BK672 1 rfl; have hfz21_0 := zF BK672.out 0; have hfz21_1 := zF BK672.out 1) | ((with_reducible refine gate_callee (f := 52) rfl ?_); refine goesL_ (some 23) rfl rfl Try.func52 (by kernel_rfl) rfl #[.int .u64 (IntKind.u64.wrap (a0_1)), .int .u64 (IntKind.u64.wrap (a1_1))] rfl (by (try simp only [List.map_toArray, List.map_cons, List.map_nil]); first | done | rfl | (simp only [List.length_drop, List.length_take]; rfl)) ?_; (with_reducible refine (fraction_gcd.calls k (IntKind.u64.wrap (a0_1)) (IntKind.u64.wrap (a1_1)) t674 _ A3.out).mono ?_); rintro e w' ⟨rfl, ⟨nd, rfl⟩⟩; refine ⟨_, rfl, ?_⟩; (try (rw [drewN_self w16]; generalize hq_ : World.drewN w16 _ = w16; have n0_ : Aside0 (w16.heap[gb671]? = some (.cells #[.int .i64 a0_0, .int .i64 a0_1] 33 (0, 0))) := ⟨by rw [← hq_]; exact (by (with_reducible repeat (first | refine zN ?_ _ | refine zD ?_ | refine zA ?_ _)); exact BK671.out)⟩; have n1_ : Aside0 (w16.heap[gb672]? = some (.cells #[.int .i64 a1_0, .int .i64 a1_1] 33 (0, 0))) := ⟨by rw [← hq_]; exact (by (with_reducible repeat (first | refine zN ?_ _ | refine zD ?_ | refine zA ?_ _)); exact BK672.out)⟩; have n2_ : Aside0 (w16.heap[gb673]? = some (.cells #[.int .i64 0, .int .i64 0] 33 (0, 0))) := ⟨by rw [← hq_]; exact (by (with_reducible repeat (first | refine zN ?_ _ | refine zD ?_ | refine zA ?_ _)); exact BK673.out)⟩; have n3_ : Aside0 (Below w.heap.size w w16) := ⟨by rw [← hq_]; exact (by repeat (first | (with_reducible first | exact HB.out | apply yA | apply yN | apply yD | refine yS ?_ GE671.out | refine yS ?_ GE672.out | refine yS ?_ GE673.out) | exact HB.out))⟩; clear BK671 BK672 BK673 HB hq_; have BK671 := n0_; have BK672 := n1_; have BK673 := n2_; have HB := n3_; clear n0_ n1_ n2_ n3_))))
   have n0_ := aK (zD BK671.out)
   have n1_ := aK (zD BK672.out)
   have n2_ := aK (zD BK673.out)
   have n3_ := aK (yD HB.out)
   clear BK671
   clear BK672
   clear BK673
   clear HB
   have BK671 := n0_
   have BK672 := n1_
   have BK673 := n2_
   have HB := n3_
   clear n0_ n1_ n2_ n3_
   refine start_ (n := 17) (S := fun w' => w'.cell? ⟨gb671, 0, none⟩ = some (.int .i64 a0_0) ∧ w'.cell? ⟨gb671, 1, none⟩ = some (.int .i64 a0_1) ∧ w'.cell? ⟨gb672, 0, none⟩ = some (.int .i64 a1_0) ∧ w'.cell? ⟨gb672, 1, none⟩ = some (.int .i64 a1_1)) (ds := []) #[false, false, false, false, false, false, false, false, false, false, false, false, false, false, false, false, false] (by kernel_rfl) rfl rfl ⟨(zC BK671.out 0).trans rfl, (zC BK671.out 1).trans rfl, (zC BK672.out 0).trans rfl, (zC BK672.out 1).trans rfl⟩ (fun hHeld => ?_); refine with_tabW fraction_add.tab2 fraction_add.bits2 (fun HT_ HW_ => ?_)
   generalize w16.drew = w22 at BK671 BK672 BK673 HB hHeld ⊢
   refine pure_ (i := 0) (N := some 25) (v := ?_) (a' := ?_) #[true, false, false, false, false, false, false, false, false, false, false, false, false, false, false, false, false] rfl rfl (any_of HT_.out (by kernel_rfl)) (fun _ _ _ h => h) (Or.inl ⟨by rfl, ?_⟩) ?_ ?_
   rotate_left
   ·intro w'
    go_simp
    with_reducible rfl
   rotate_left
   ·simp only [Act.put, sA, sZ, sS, i64_w, i32_w]
    rfl
   refine pure_ (i := 2) (N := some 27) (v := ?_) (a' := ?_) #[true, false, true, false, false, false, false, false, false, false, false, false, false, false, false, false, false] rfl rfl (any_of HT_.out (by kernel_rfl)) (fun _ _ _ h => h) (Or.inl ⟨by rfl, ?_⟩) ?_ ?_
   rotate_left
   ·intro w'
    go_simp
    with_reducible rfl
   rotate_left
   ·simp only [Act.put, sA, sZ, sS, i64_w, i32_w]
    rfl
   refine pure_ (i := 4) (N := some 29) (v := ?_) (a' := ?_) #[true, false, true, false, true, false, false, false, false, false, false, false, false, false, false, false, false] rfl rfl (any_of HT_.out (by kernel_rfl)) (fun _ _ _ h => h) (Or.inl ⟨by rfl, ?_⟩) ?_ ?_
   rotate_left
   ·intro w'
    go_simp
    with_reducible rfl
   rotate_left
   ·simp only [Act.put, sA, sZ, sS, i64_w, i32_w]
    rfl
   refine pure_ (i := 7) (N := some 32) (v := ?_) (a' := ?_) #[true, false, true, false, true, false, false, true, false, false, false, false, false, false, false, false, false] rfl rfl (any_of HT_.out (by kernel_rfl)) (fun _ _ _ h => h) (Or.inl ⟨by rfl, ?_⟩) ?_ ?_
   rotate_left
   ·intro w'
    go_simp
    with_reducible rfl
   rotate_left
   ·simp only [Act.put, sA, sZ, sS, i64_w, i32_w]
    rfl
   refine pure_ (i := 9) (N := some 34) (v := ?_) (a' := ?_) #[true, false, true, false, true, false, false, true, false, true, false, false, false, false, false, false, false] rfl rfl (any_of HT_.out (by kernel_rfl)) (fun _ _ _ h => h) (Or.inl ⟨by rfl, ?_⟩) ?_ ?_
   rotate_left
   ·intro w'
    go_simp
    with_reducible rfl
   rotate_left
   ·simp only [Act.put, sA, sZ, sS, i64_w, i32_w]
    rfl
   refine pure_ (i := 11) (N := some 36) (v := ?_) (a' := ?_) #[true, false, true, false, true, false, false, true, false, true, false, true, false, false, false, false, false] rfl rfl (any_of HT_.out (by kernel_rfl)) (fun _ _ _ h => h) (Or.inl ⟨by rfl, ?_⟩) ?_ ?_
   rotate_left
   ·intro w'
    go_simp
    with_reducible rfl
   rotate_left
   ·simp only [Act.put, sA, sZ, sS, i64_w, i32_w]
    rfl
   refine take_ (i := 1) (N := some 26) (v := ?_) (a' := ?_) #[true, true, true, false, true, false, false, true, false, true, false, true, false, false, false, false, false] rfl rfl (take_ofW HT_.out HW_.out (by kernel_rfl)) (fun _ _ _ h => h) (Or.inl ⟨by rfl, ?_⟩) hHeld ?_ ?_
   rotate_left
   ·rintro w' ⟨s0, s1, s2, s3⟩
    go_simp
    with_reducible rfl
   rotate_left
   ·simp only [Act.put, sA, sZ, sS, i64_w, i32_w]
    rfl
   refine take_ (i := 3) (N := some 28) (v := ?_) (a' := ?_) #[true, true, true, true, true, false, false, true, false, true, false, true, false, false, false, false, false] rfl rfl (take_ofW HT_.out HW_.out (by kernel_rfl)) (fun _ _ _ h => h) (Or.inl ⟨by rfl, ?_⟩) hHeld ?_ ?_
   rotate_left
   ·rintro w' ⟨s0, s1, s2, s3⟩
    go_simp
    with_reducible rfl
   rotate_left
   ·simp only [Act.put, sA, sZ, sS, i64_w, i32_w]
    rfl
   refine pure_ (i := 5) (N := some 30) (v := ?_) (a' := ?_) #[true, true, true, true, true, true, false, true, false, true, false, true, false, false, false, false, false] rfl rfl (any_of HT_.out (by kernel_rfl)) (fun _ _ _ h => h) (Or.inl ⟨by rfl, ?_⟩) ?_ ?_
   rotate_left
   ·intro w'
    go_simp
    with_reducible rfl
   rotate_left
   ·simp only [Act.put, sA, sZ, sS, i64_w, i32_w]
    rfl
   refine take_ (i := 8) (N := some 33) (v := ?_) (a' := ?_) #[true, true, true, true, true, true, false, true, true, true, false, true, false, false, false, false, false] rfl rfl (take_ofW HT_.out HW_.out (by kernel_rfl)) (fun _ _ _ h => h) (Or.inl ⟨by rfl, ?_⟩) hHeld ?_ ?_
   rotate_left
   ·rintro w' ⟨s0, s1, s2, s3⟩
    go_simp
    with_reducible rfl
   rotate_left
   ·simp only [Act.put, sA, sZ, sS, i64_w, i32_w]
    rfl
   refine take_ (i := 10) (N := some 35) (v := ?_) (a' := ?_) #[true, true, true, true, true, true, false, true, true, true, true, true, false, false, false, false, false] rfl rfl (take_ofW HT_.out HW_.out (by kernel_rfl)) (fun _ _ _ h => h) (Or.inl ⟨by rfl, ?_⟩) hHeld ?_ ?_
   rotate_left
   ·rintro w' ⟨s0, s1, s2, s3⟩
    go_simp
    with_reducible rfl
   rotate_left
   ·simp only [Act.put, sA, sZ, sS, i64_w, i32_w]
    rfl
   refine pure_ (i := 12) (N := some 37) (v := ?_) (a' := ?_) #[true, true, true, true, true, true, false, true, true, true, true, true, true, false, false, false, false] rfl rfl (any_of HT_.out (by kernel_rfl)) (fun _ _ _ h => h) (Or.inl ⟨by rfl, ?_⟩) ?_ ?_
   rotate_left
   ·intro w'
    go_simp
    with_reducible rfl
   rotate_left
   ·simp only [Act.put, sA, sZ, sS, i64_w, i32_w]
    rfl
   refine join_ (σ := Nat) 1 #[true, true, true, true, true, true, true, true, true, true, true, true, true, true, true, true, false] (fun s_ => [(31, .agg #[.bool t675, .int .u64 t676, .int .u64 t677]), (38, .agg #[.bool t678, .int .u64 t679, .int .u64 t680]), (39, .agg #[.bool t681, .int .u64 t682, .int .u64 t683]), (7, .pointer (some ⟨s_, 0, none⟩))]) (fun s_ w' => (w'.cell? ⟨gb671, 0, none⟩ = some (.int .i64 a0_0) ∧ w'.cell? ⟨gb671, 1, none⟩ = some (.int .i64 a0_1) ∧ w'.cell? ⟨gb672, 0, none⟩ = some (.int .i64 a1_0) ∧ w'.cell? ⟨gb672, 1, none⟩ = some (.int .i64 a1_1)) ∧ (w'.heap[gb671]? = some (.cells #[.int .i64 a0_0, .int .i64 a0_1] 33 (0, 0))) ∧ (w'.heap[gb672]? = some (.cells #[.int .i64 a1_0, .int .i64 a1_1] 33 (0, 0))) ∧ (w'.heap[gb673]? = some (.cells #[.int .i64 0, .int .i64 0] 33 (0, 0))) ∧ (w'.heap[s_]? = some (.cells #[.bool false, .int .u64 0, .int .u64 0] 71 (0, 0))) ∧ (w.heap.size ≤ s_) ∧ (w.heap.size ≤ s_) ∧ (gb671 ≠ s_) ∧ (s_ ≠ gb671) ∧ (gb672 ≠ s_) ∧ (s_ ≠ gb672) ∧ (gb673 ≠ s_) ∧ (s_ ≠ gb673) ∧ (Below w.heap.size w w')) ?_ ?_
   rotate_left
   ·intro hCont
    refine two_ (i := 6) (j := 15) (Ni := some 31) (Nj := some 7) #[true, true, true, true, true, true, true, true, true, true, true, true, true, false, false, false, false] #[true, true, true, true, true, true, false, true, true, true, true, true, true, false, false, true, false] rfl rfl rfl rfl (two_of HT_.out (by kernel_rfl)) (by decide) (by decide) (fun K hK => ?_) (fun K hK => ?_)
    ·skip
     refine goes_ Try.func56 (by kernel_rfl) rfl #[.int .i64 a0_0, .int .i64 (wrap64 (Int.tdiv a1_1 (wrap64 (t674))))] (by rfl) rfl rfl (by (try simp only [List.map_toArray, List.map_cons, List.map_nil]); first | done | rfl | (simp only [List.length_drop, List.length_take]; rfl)) ?_
     with_reducible refine (fraction_product.calls a0_0 (wrap64 (Int.tdiv a1_1 (wrap64 (t674)))) t675 t676 t677 _ A5.out).mono ?_
     rintro e w23 ⟨rfl, hb⟩
     refine ⟨_, rfl, ?_⟩
     have n0_ := zG BK671 hb (fun h => by (with_reducible repeat (first | refine zN ?_ _ | refine zD ?_ | refine zA ?_ _)); exact h)
     have n1_ := zG BK672 hb (fun h => by (with_reducible repeat (first | refine zN ?_ _ | refine zD ?_ | refine zA ?_ _)); exact h)
     have n2_ := zG BK673 hb (fun h => by (with_reducible repeat (first | refine zN ?_ _ | refine zD ?_ | refine zA ?_ _)); exact h)
     have n3_ := aK (yT (by repeat (first | (with_reducible first | exact HB.out | apply yA | apply yN | apply yD | refine yS ?_ GE671.out | refine yS ?_ GE672.out | refine yS ?_ GE673.out) | exact HB.out)) hb)
     clear BK671
     clear BK672
     clear BK673
     clear HB
     have BK671 := n0_
     have BK672 := n1_
     have BK673 := n2_
     have HB := n3_
     clear n0_ n1_ n2_ n3_
     (try clear hb)
     (try clear hb2)
     (try clear hk)
     (try clear hi)
     refine hK.out _ _ ⟨(zC BK671.out 0).trans rfl, (zC BK671.out 1).trans rfl, (zC BK672.out 0).trans rfl, (zC BK672.out 1).trans rfl⟩ (fun hHeld => ?_)
     clear hK K
     refine norm_ (a' := ?_) ?_ ?_
     rotate_left
     ·show Act.put _ (some 31) _ = _
      simp only [Act.put, sA, sZ, sS, i64_w, i32_w]
      rfl
     refine two_ (i := 13) (j := 15) (Ni := some 38) (Nj := some 7) #[true, true, true, true, true, true, true, true, true, true, true, true, true, true, false, false, false] #[true, true, true, true, true, true, true, true, true, true, true, true, true, false, false, true, false] rfl rfl rfl rfl (two_of HT_.out (by kernel_rfl)) (by decide) (by decide) (fun K hK => ?_) (fun K hK => ?_)
     ·skip
      refine goes_ Try.func56 (by kernel_rfl) rfl #[.int .i64 a1_0, .int .i64 (wrap64 (Int.tdiv a0_1 (wrap64 (t674))))] (by rfl) rfl rfl (by (try simp only [List.map_toArray, List.map_cons, List.map_nil]); first | done | rfl | (simp only [List.length_drop, List.length_take]; rfl)) ?_
      with_reducible refine (fraction_product.calls a1_0 (wrap64 (Int.tdiv a0_1 (wrap64 (t674)))) t678 t679 t680 _ A6.out).mono ?_
      rintro e w24 ⟨rfl, hb⟩
      refine ⟨_, rfl, ?_⟩
      have n0_ := zG BK671 hb (fun h => by (with_reducible repeat (first | refine zN ?_ _ | refine zD ?_ | refine zA ?_ _)); exact h)
      have n1_ := zG BK672 hb (fun h => by (with_reducible repeat (first | refine zN ?_ _ | refine zD ?_ | refine zA ?_ _)); exact h)
      have n2_ := zG BK673 hb (fun h => by (with_reducible repeat (first | refine zN ?_ _ | refine zD ?_ | refine zA ?_ _)); exact h)
      have n3_ := aK (yT (by repeat (first | (with_reducible first | exact HB.out | apply yA | apply yN | apply yD | refine yS ?_ GE671.out | refine yS ?_ GE672.out | refine yS ?_ GE673.out) | exact HB.out)) hb)
      clear BK671
      clear BK672
      clear BK673
      clear HB
      have BK671 := n0_
      have BK672 := n1_
      have BK673 := n2_
      have HB := n3_
      clear n0_ n1_ n2_ n3_
      (try clear hb)
      (try clear hb2)
      (try clear hk)
      (try clear hi)
      refine hK.out _ _ ⟨(zC BK671.out 0).trans rfl, (zC BK671.out 1).trans rfl, (zC BK672.out 0).trans rfl, (zC BK672.out 1).trans rfl⟩ (fun hHeld => ?_)
      clear hK K
      refine norm_ (a' := ?_) ?_ ?_
      rotate_left
      ·show Act.put _ (some 38) _ = _
       simp only [Act.put, sA, sZ, sS, i64_w, i32_w]
       rfl
      refine two_ (i := 14) (j := 15) (Ni := some 39) (Nj := some 7) #[true, true, true, true, true, true, true, true, true, true, true, true, true, true, true, false, false] #[true, true, true, true, true, true, true, true, true, true, true, true, true, true, false, true, false] rfl rfl rfl rfl (two_of HT_.out (by kernel_rfl)) (by decide) (by decide) (fun K hK => ?_) (fun K hK => ?_)
      ·skip
       refine goes_ Try.func79 (by kernel_rfl) rfl #[.agg #[.bool t675, .int .u64 t676, .int .u64 t677], .agg #[.bool t678, .int .u64 t679, .int .u64 t680]] (by rfl) rfl rfl (by (try simp only [List.map_toArray, List.map_cons, List.map_nil]); first | done | rfl | (simp only [List.length_drop, List.length_take]; rfl)) ?_
       with_reducible refine (fraction_sum.calls k t675 t676 t677 t678 t679 t680 t681 t682 t683 _ A7.out).mono ?_
       rintro e w25 ⟨rfl, hb⟩
       refine ⟨_, rfl, ?_⟩
       have n0_ := zG BK671 hb (fun h => by (with_reducible repeat (first | refine zN ?_ _ | refine zD ?_ | refine zA ?_ _)); exact h)
       have n1_ := zG BK672 hb (fun h => by (with_reducible repeat (first | refine zN ?_ _ | refine zD ?_ | refine zA ?_ _)); exact h)
       have n2_ := zG BK673 hb (fun h => by (with_reducible repeat (first | refine zN ?_ _ | refine zD ?_ | refine zA ?_ _)); exact h)
       have n3_ := aK (yT (by repeat (first | (with_reducible first | exact HB.out | apply yA | apply yN | apply yD | refine yS ?_ GE671.out | refine yS ?_ GE672.out | refine yS ?_ GE673.out) | exact HB.out)) hb)
       clear BK671
       clear BK672
       clear BK673
       clear HB
       have BK671 := n0_
       have BK672 := n1_
       have BK673 := n2_
       have HB := n3_
       clear n0_ n1_ n2_ n3_
       (try clear hb)
       (try clear hb2)
       (try clear hk)
       (try clear hi)
       refine hK.out _ _ ⟨(zC BK671.out 0).trans rfl, (zC BK671.out 1).trans rfl, (zC BK672.out 0).trans rfl, (zC BK672.out 1).trans rfl⟩ (fun hHeld => ?_)
       clear hK K
       refine norm_ (a' := ?_) ?_ ?_
       rotate_left
       ·show Act.put _ (some 39) _ = _
        simp only [Act.put, sA, sZ, sS, i64_w, i32_w]
        rfl
       refine one_ (i := 15) (N := some 7) #[true, true, true, true, true, true, true, true, true, true, true, true, true, true, true, true, false] rfl rfl (one_of HT_.out (by kernel_rfl)) (by decide) (fun K hK => ?_)
       refine box_step ?hg (N := 7) ?hd (cs := #[.bool false, .int .u64 0, .int .u64 0]) (t := 71) ?hr ?_; (case hd => rfl); (case hg => rfl); (case hr => first | (go_simp; done) | (go_simp; rfl))
       intro gb684 hg w26 hbox hb
       have n0_ := zG BK671 hb (fun h => by (with_reducible repeat (first | refine zN ?_ _ | refine zD ?_ | refine zA ?_ _)); exact h)
       have n1_ := zG BK672 hb (fun h => by (with_reducible repeat (first | refine zN ?_ _ | refine zD ?_ | refine zA ?_ _)); exact h)
       have n2_ := zG BK673 hb (fun h => by (with_reducible repeat (first | refine zN ?_ _ | refine zD ?_ | refine zA ?_ _)); exact h)
       have n3_ := aK (yT (by repeat (first | (with_reducible first | exact HB.out | apply yA | apply yN | apply yD | refine yS ?_ GE671.out | refine yS ?_ GE672.out | refine yS ?_ GE673.out) | exact HB.out)) hb)
       have n4_ := aK (hbox)
       have n5_ := aK ((by rw [hg]; exact (yZ (by repeat (first | (with_reducible first | exact HB.out | apply yA | apply yN | apply yD | refine yS ?_ GE671.out | refine yS ?_ GE672.out | refine yS ?_ GE673.out) | exact HB.out))) : w.heap.size ≤ gb684))
       have n6_ := aK ((by rw [hg]; exact (yZ (by repeat (first | (with_reducible first | exact HB.out | apply yA | apply yN | apply yD | refine yS ?_ GE671.out | refine yS ?_ GE672.out | refine yS ?_ GE673.out) | exact HB.out))) : w.heap.size ≤ gb684))
       have n7_ := aK ((by rw [hg]; exact Nat.ne_of_lt (blk_lt (g := gb671) (o := .cells #[.int .i64 a0_0, .int .i64 a0_1] 33 (0, 0)) (by (with_reducible repeat (first | refine zN ?_ _ | refine zD ?_ | refine zA ?_ _)); exact BK671.out)) : gb671 ≠ gb684))
       have n8_ := aK ((by rw [hg]; exact Nat.ne_of_gt (blk_lt (g := gb671) (o := .cells #[.int .i64 a0_0, .int .i64 a0_1] 33 (0, 0)) (by (with_reducible repeat (first | refine zN ?_ _ | refine zD ?_ | refine zA ?_ _)); exact BK671.out)) : gb684 ≠ gb671))
       have n9_ := aK ((by rw [hg]; exact Nat.ne_of_lt (blk_lt (g := gb672) (o := .cells #[.int .i64 a1_0, .int .i64 a1_1] 33 (0, 0)) (by (with_reducible repeat (first | refine zN ?_ _ | refine zD ?_ | refine zA ?_ _)); exact BK672.out)) : gb672 ≠ gb684))
       have n10_ := aK ((by rw [hg]; exact Nat.ne_of_gt (blk_lt (g := gb672) (o := .cells #[.int .i64 a1_0, .int .i64 a1_1] 33 (0, 0)) (by (with_reducible repeat (first | refine zN ?_ _ | refine zD ?_ | refine zA ?_ _)); exact BK672.out)) : gb684 ≠ gb672))
       have n11_ := aK ((by rw [hg]; exact Nat.ne_of_lt (blk_lt (g := gb673) (o := .cells #[.int .i64 0, .int .i64 0] 33 (0, 0)) (by (with_reducible repeat (first | refine zN ?_ _ | refine zD ?_ | refine zA ?_ _)); exact BK673.out)) : gb673 ≠ gb684))
       have n12_ := aK ((by rw [hg]; exact Nat.ne_of_gt (blk_lt (g := gb673) (o := .cells #[.int .i64 0, .int .i64 0] 33 (0, 0)) (by (with_reducible repeat (first | refine zN ?_ _ | refine zD ?_ | refine zA ?_ _)); exact BK673.out)) : gb684 ≠ gb673))
       clear BK671
       clear BK672
       clear BK673
       clear HB
       have BK671 := n0_
       have BK672 := n1_
       have BK673 := n2_
       have HB := n3_
       have BK684 := n4_
       have GW684 := n5_
       have GE684 := n6_
       have NB671_684 := n7_
       have NB684_671 := n8_
       have NB672_684 := n9_
       have NB684_672 := n10_
       have NB673_684 := n11_
       have NB684_673 := n12_
       clear n0_ n1_ n2_ n3_ n4_ n5_ n6_ n7_ n8_ n9_ n10_ n11_ n12_
       clear hb hbox hg
       refine hK.out _ _ ⟨(zC BK671.out 0).trans rfl, (zC BK671.out 1).trans rfl, (zC BK672.out 0).trans rfl, (zC BK672.out 1).trans rfl⟩ (fun hHeld => ?_)
       clear hK K
       refine norm_ (a' := ?_) ?_ ?_
       rotate_left
       ·show Act.put _ (some 7) _ = _
        simp only [Act.put, sA, sZ, sS, i64_w, i32_w]
        rfl
       exact norm_ (by simp only [putAll, Act.put, sA, sZ, sS]) (hCont (gb684) _ ⟨hHeld, (by (with_reducible repeat (first | refine zN ?_ _ | refine zD ?_ | refine zA ?_ _)); exact BK671.out), (by (with_reducible repeat (first | refine zN ?_ _ | refine zD ?_ | refine zA ?_ _)); exact BK672.out), (by (with_reducible repeat (first | refine zN ?_ _ | refine zD ?_ | refine zA ?_ _)); exact BK673.out), (by (with_reducible repeat (first | refine zN ?_ _ | refine zD ?_ | refine zA ?_ _)); exact BK684.out), GW684.out, GE684.out, NB671_684.out, NB684_671.out, NB672_684.out, NB684_672.out, NB673_684.out, NB684_673.out, (by repeat (first | (with_reducible first | exact HB.out | apply yA | apply yN | apply yD | refine yS ?_ GE671.out | refine yS ?_ GE672.out | refine yS ?_ GE673.out | refine yS ?_ GE684.out) | exact HB.out))⟩)
      ·skip
       refine box_step ?hg (N := 7) ?hd (cs := #[.bool false, .int .u64 0, .int .u64 0]) (t := 71) ?hr ?_; (case hd => rfl); (case hg => rfl); (case hr => first | (go_simp; done) | (go_simp; rfl))
       intro gb684 hg w25 hbox hb
       have n0_ := zG BK671 hb (fun h => by (with_reducible repeat (first | refine zN ?_ _ | refine zD ?_ | refine zA ?_ _)); exact h)
       have n1_ := zG BK672 hb (fun h => by (with_reducible repeat (first | refine zN ?_ _ | refine zD ?_ | refine zA ?_ _)); exact h)
       have n2_ := zG BK673 hb (fun h => by (with_reducible repeat (first | refine zN ?_ _ | refine zD ?_ | refine zA ?_ _)); exact h)
       have n3_ := aK (yT (by repeat (first | (with_reducible first | exact HB.out | apply yA | apply yN | apply yD | refine yS ?_ GE671.out | refine yS ?_ GE672.out | refine yS ?_ GE673.out) | exact HB.out)) hb)
       have n4_ := aK (hbox)
       have n5_ := aK ((by rw [hg]; exact (yZ (by repeat (first | (with_reducible first | exact HB.out | apply yA | apply yN | apply yD | refine yS ?_ GE671.out | refine yS ?_ GE672.out | refine yS ?_ GE673.out) | exact HB.out))) : w.heap.size ≤ gb684))
       have n6_ := aK ((by rw [hg]; exact (yZ (by repeat (first | (with_reducible first | exact HB.out | apply yA | apply yN | apply yD | refine yS ?_ GE671.out | refine yS ?_ GE672.out | refine yS ?_ GE673.out) | exact HB.out))) : w.heap.size ≤ gb684))
       have n7_ := aK ((by rw [hg]; exact Nat.ne_of_lt (blk_lt (g := gb671) (o := .cells #[.int .i64 a0_0, .int .i64 a0_1] 33 (0, 0)) (by (with_reducible repeat (first | refine zN ?_ _ | refine zD ?_ | refine zA ?_ _)); exact BK671.out)) : gb671 ≠ gb684))
       have n8_ := aK ((by rw [hg]; exact Nat.ne_of_gt (blk_lt (g := gb671) (o := .cells #[.int .i64 a0_0, .int .i64 a0_1] 33 (0, 0)) (by (with_reducible repeat (first | refine zN ?_ _ | refine zD ?_ | refine zA ?_ _)); exact BK671.out)) : gb684 ≠ gb671))
       have n9_ := aK ((by rw [hg]; exact Nat.ne_of_lt (blk_lt (g := gb672) (o := .cells #[.int .i64 a1_0, .int .i64 a1_1] 33 (0, 0)) (by (with_reducible repeat (first | refine zN ?_ _ | refine zD ?_ | refine zA ?_ _)); exact BK672.out)) : gb672 ≠ gb684))
       have n10_ := aK ((by rw [hg]; exact Nat.ne_of_gt (blk_lt (g := gb672) (o := .cells #[.int .i64 a1_0, .int .i64 a1_1] 33 (0, 0)) (by (with_reducible repeat (first | refine zN ?_ _ | refine zD ?_ | refine zA ?_ _)); exact BK672.out)) : gb684 ≠ gb672))
       have n11_ := aK ((by rw [hg]; exact Nat.ne_of_lt (blk_lt (g := gb673) (o := .cells #[.int .i64 0, .int .i64 0] 33 (0, 0)) (by (with_reducible repeat (first | refine zN ?_ _ | refine zD ?_ | refine zA ?_ _)); exact BK673.out)) : gb673 ≠ gb684))
       have n12_ := aK ((by rw [hg]; exact Nat.ne_of_gt (blk_lt (g := gb673) (o := .cells #[.int .i64 0, .int .i64 0] 33 (0, 0)) (by (with_reducible repeat (first | refine zN ?_ _ | refine zD ?_ | refine zA ?_ _)); exact BK673.out)) : gb684 ≠ gb673))
       clear BK671
       clear BK672
       clear BK673
       clear HB
       have BK671 := n0_
       have BK672 := n1_
       have BK673 := n2_
       have HB := n3_
       have BK684 := n4_
       have GW684 := n5_
       have GE684 := n6_
       have NB671_684 := n7_
       have NB684_671 := n8_
       have NB672_684 := n9_
       have NB684_672 := n10_
       have NB673_684 := n11_
       have NB684_673 := n12_
       clear n0_ n1_ n2_ n3_ n4_ n5_ n6_ n7_ n8_ n9_ n10_ n11_ n12_
       clear hb hbox hg
       refine hK.out _ _ ⟨(zC BK671.out 0).trans rfl, (zC BK671.out 1).trans rfl, (zC BK672.out 0).trans rfl, (zC BK672.out 1).trans rfl⟩ (fun hHeld => ?_)
       clear hK K
       refine norm_ (a' := ?_) ?_ ?_
       rotate_left
       ·show Act.put _ (some 7) _ = _
        simp only [Act.put, sA, sZ, sS, i64_w, i32_w]
        rfl
       refine one_ (i := 14) (N := some 39) #[true, true, true, true, true, true, true, true, true, true, true, true, true, true, true, true, false] rfl rfl (one_of HT_.out (by kernel_rfl)) (by decide) (fun K hK => ?_)
       refine goes_ Try.func79 (by kernel_rfl) rfl #[.agg #[.bool t675, .int .u64 t676, .int .u64 t677], .agg #[.bool t678, .int .u64 t679, .int .u64 t680]] (by rfl) rfl rfl (by (try simp only [List.map_toArray, List.map_cons, List.map_nil]); first | done | rfl | (simp only [List.length_drop, List.length_take]; rfl)) ?_
       with_reducible refine (fraction_sum.calls k t675 t676 t677 t678 t679 t680 t681 t682 t683 _ A7.out).mono ?_
       rintro e w26 ⟨rfl, hb⟩
       refine ⟨_, rfl, ?_⟩
       have n0_ := zG BK671 hb (fun h => by (with_reducible repeat (first | refine zN ?_ _ | refine zD ?_ | refine zA ?_ _)); exact h)
       have n1_ := zG BK672 hb (fun h => by (with_reducible repeat (first | refine zN ?_ _ | refine zD ?_ | refine zA ?_ _)); exact h)
       have n2_ := zG BK673 hb (fun h => by (with_reducible repeat (first | refine zN ?_ _ | refine zD ?_ | refine zA ?_ _)); exact h)
       have n3_ := zG BK684 hb (fun h => by (with_reducible repeat (first | refine zN ?_ _ | refine zD ?_ | refine zA ?_ _)); exact h)
       have n4_ := aK (yT (by repeat (first | (with_reducible first | exact HB.out | apply yA | apply yN | apply yD | refine yS ?_ GE671.out | refine yS ?_ GE672.out | refine yS ?_ GE673.out | refine yS ?_ GE684.out) | exact HB.out)) hb)
       clear BK671
       clear BK672
       clear BK673
       clear BK684
       clear HB
       have BK671 := n0_
       have BK672 := n1_
       have BK673 := n2_
       have BK684 := n3_
       have HB := n4_
       clear n0_ n1_ n2_ n3_ n4_
       (try clear hb)
       (try clear hb2)
       (try clear hk)
       (try clear hi)
       refine hK.out _ _ ⟨(zC BK671.out 0).trans rfl, (zC BK671.out 1).trans rfl, (zC BK672.out 0).trans rfl, (zC BK672.out 1).trans rfl⟩ (fun hHeld => ?_)
       clear hK K
       refine norm_ (a' := ?_) ?_ ?_
       rotate_left
       ·show Act.put _ (some 39) _ = _
        simp only [Act.put, sA, sZ, sS, i64_w, i32_w]
        rfl
       exact norm_ (by simp only [putAll, Act.put, sA, sZ, sS]) (hCont (gb684) _ ⟨hHeld, (by (with_reducible repeat (first | refine zN ?_ _ | refine zD ?_ | refine zA ?_ _)); exact BK671.out), (by (with_reducible repeat (first | refine zN ?_ _ | refine zD ?_ | refine zA ?_ _)); exact BK672.out), (by (with_reducible repeat (first | refine zN ?_ _ | refine zD ?_ | refine zA ?_ _)); exact BK673.out), (by (with_reducible repeat (first | refine zN ?_ _ | refine zD ?_ | refine zA ?_ _)); exact BK684.out), GW684.out, GE684.out, NB671_684.out, NB684_671.out, NB672_684.out, NB684_672.out, NB673_684.out, NB684_673.out, (by repeat (first | (with_reducible first | exact HB.out | apply yA | apply yN | apply yD | refine yS ?_ GE671.out | refine yS ?_ GE672.out | refine yS ?_ GE673.out | refine yS ?_ GE684.out) | exact HB.out))⟩)
     ·skip
      refine box_step ?hg (N := 7) ?hd (cs := #[.bool false, .int .u64 0, .int .u64 0]) (t := 71) ?hr ?_; (case hd => rfl); (case hg => rfl); (case hr => first | (go_simp; done) | (go_simp; rfl))
      intro gb684 hg w24 hbox hb
      have n0_ := zG BK671 hb (fun h => by (with_reducible repeat (first | refine zN ?_ _ | refine zD ?_ | refine zA ?_ _)); exact h)
      have n1_ := zG BK672 hb (fun h => by (with_reducible repeat (first | refine zN ?_ _ | refine zD ?_ | refine zA ?_ _)); exact h)
      have n2_ := zG BK673 hb (fun h => by (with_reducible repeat (first | refine zN ?_ _ | refine zD ?_ | refine zA ?_ _)); exact h)
      have n3_ := aK (yT (by repeat (first | (with_reducible first | exact HB.out | apply yA | apply yN | apply yD | refine yS ?_ GE671.out | refine yS ?_ GE672.out | refine yS ?_ GE673.out) | exact HB.out)) hb)
      have n4_ := aK (hbox)
      have n5_ := aK ((by rw [hg]; exact (yZ (by repeat (first | (with_reducible first | exact HB.out | apply yA | apply yN | apply yD | refine yS ?_ GE671.out | refine yS ?_ GE672.out | refine yS ?_ GE673.out) | exact HB.out))) : w.heap.size ≤ gb684))
      have n6_ := aK ((by rw [hg]; exact (yZ (by repeat (first | (with_reducible first | exact HB.out | apply yA | apply yN | apply yD | refine yS ?_ GE671.out | refine yS ?_ GE672.out | refine yS ?_ GE673.out) | exact HB.out))) : w.heap.size ≤ gb684))
      have n7_ := aK ((by rw [hg]; exact Nat.ne_of_lt (blk_lt (g := gb671) (o := .cells #[.int .i64 a0_0, .int .i64 a0_1] 33 (0, 0)) (by (with_reducible repeat (first | refine zN ?_ _ | refine zD ?_ | refine zA ?_ _)); exact BK671.out)) : gb671 ≠ gb684))
      have n8_ := aK ((by rw [hg]; exact Nat.ne_of_gt (blk_lt (g := gb671) (o := .cells #[.int .i64 a0_0, .int .i64 a0_1] 33 (0, 0)) (by (with_reducible repeat (first | refine zN ?_ _ | refine zD ?_ | refine zA ?_ _)); exact BK671.out)) : gb684 ≠ gb671))
      have n9_ := aK ((by rw [hg]; exact Nat.ne_of_lt (blk_lt (g := gb672) (o := .cells #[.int .i64 a1_0, .int .i64 a1_1] 33 (0, 0)) (by (with_reducible repeat (first | refine zN ?_ _ | refine zD ?_ | refine zA ?_ _)); exact BK672.out)) : gb672 ≠ gb684))
      have n10_ := aK ((by rw [hg]; exact Nat.ne_of_gt (blk_lt (g := gb672) (o := .cells #[.int .i64 a1_0, .int .i64 a1_1] 33 (0, 0)) (by (with_reducible repeat (first | refine zN ?_ _ | refine zD ?_ | refine zA ?_ _)); exact BK672.out)) : gb684 ≠ gb672))
      have n11_ := aK ((by rw [hg]; exact Nat.ne_of_lt (blk_lt (g := gb673) (o := .cells #[.int .i64 0, .int .i64 0] 33 (0, 0)) (by (with_reducible repeat (first | refine zN ?_ _ | refine zD ?_ | refine zA ?_ _)); exact BK673.out)) : gb673 ≠ gb684))
      have n12_ := aK ((by rw [hg]; exact Nat.ne_of_gt (blk_lt (g := gb673) (o := .cells #[.int .i64 0, .int .i64 0] 33 (0, 0)) (by (with_reducible repeat (first | refine zN ?_ _ | refine zD ?_ | refine zA ?_ _)); exact BK673.out)) : gb684 ≠ gb673))
      clear BK671
      clear BK672
      clear BK673
      clear HB
      have BK671 := n0_
      have BK672 := n1_
      have BK673 := n2_
      have HB := n3_
      have BK684 := n4_
      have GW684 := n5_
      have GE684 := n6_
      have NB671_684 := n7_
      have NB684_671 := n8_
      have NB672_684 := n9_
      have NB684_672 := n10_
      have NB673_684 := n11_
      have NB684_673 := n12_
      clear n0_ n1_ n2_ n3_ n4_ n5_ n6_ n7_ n8_ n9_ n10_ n11_ n12_
      clear hb hbox hg
      refine hK.out _ _ ⟨(zC BK671.out 0).trans rfl, (zC BK671.out 1).trans rfl, (zC BK672.out 0).trans rfl, (zC BK672.out 1).trans rfl⟩ (fun hHeld => ?_)
      clear hK K
      refine norm_ (a' := ?_) ?_ ?_
      rotate_left
      ·show Act.put _ (some 7) _ = _
       simp only [Act.put, sA, sZ, sS, i64_w, i32_w]
       rfl
      refine one_ (i := 13) (N := some 38) #[true, true, true, true, true, true, true, true, true, true, true, true, true, true, false, true, false] rfl rfl (one_of HT_.out (by kernel_rfl)) (by decide) (fun K hK => ?_)
      refine goes_ Try.func56 (by kernel_rfl) rfl #[.int .i64 a1_0, .int .i64 (wrap64 (Int.tdiv a0_1 (wrap64 (t674))))] (by rfl) rfl rfl (by (try simp only [List.map_toArray, List.map_cons, List.map_nil]); first | done | rfl | (simp only [List.length_drop, List.length_take]; rfl)) ?_
      with_reducible refine (fraction_product.calls a1_0 (wrap64 (Int.tdiv a0_1 (wrap64 (t674)))) t678 t679 t680 _ A6.out).mono ?_
      rintro e w25 ⟨rfl, hb⟩
      refine ⟨_, rfl, ?_⟩
      have n0_ := zG BK671 hb (fun h => by (with_reducible repeat (first | refine zN ?_ _ | refine zD ?_ | refine zA ?_ _)); exact h)
      have n1_ := zG BK672 hb (fun h => by (with_reducible repeat (first | refine zN ?_ _ | refine zD ?_ | refine zA ?_ _)); exact h)
      have n2_ := zG BK673 hb (fun h => by (with_reducible repeat (first | refine zN ?_ _ | refine zD ?_ | refine zA ?_ _)); exact h)
      have n3_ := zG BK684 hb (fun h => by (with_reducible repeat (first | refine zN ?_ _ | refine zD ?_ | refine zA ?_ _)); exact h)
      have n4_ := aK (yT (by repeat (first | (with_reducible first | exact HB.out | apply yA | apply yN | apply yD | refine yS ?_ GE671.out | refine yS ?_ GE672.out | refine yS ?_ GE673.out | refine yS ?_ GE684.out) | exact HB.out)) hb)
      clear BK671
      clear BK672
      clear BK673
      clear BK684
      clear HB
      have BK671 := n0_
      have BK672 := n1_
      have BK673 := n2_
      have BK684 := n3_
      have HB := n4_
      clear n0_ n1_ n2_ n3_ n4_
      (try clear hb)
      (try clear hb2)
      (try clear hk)
      (try clear hi)
      refine hK.out _ _ ⟨(zC BK671.out 0).trans rfl, (zC BK671.out 1).trans rfl, (zC BK672.out 0).trans rfl, (zC BK672.out 1).trans rfl⟩ (fun hHeld => ?_)
      clear hK K
      refine norm_ (a' := ?_) ?_ ?_
      rotate_left
      ·show Act.put _ (some 38) _ = _
       simp only [Act.put, sA, sZ, sS, i64_w, i32_w]
       rfl
      refine one_ (i := 14) (N := some 39) #[true, true, true, true, true, true, true, true, true, true, true, true, true, true, true, true, false] rfl rfl (one_of HT_.out (by kernel_rfl)) (by decide) (fun K hK => ?_)
      refine goes_ Try.func79 (by kernel_rfl) rfl #[.agg #[.bool t675, .int .u64 t676, .int .u64 t677], .agg #[.bool t678, .int .u64 t679, .int .u64 t680]] (by rfl) rfl rfl (by (try simp only [List.map_toArray, List.map_cons, List.map_nil]); first | done | rfl | (simp only [List.length_drop, List.length_take]; rfl)) ?_
      with_reducible refine (fraction_sum.calls k t675 t676 t677 t678 t679 t680 t681 t682 t683 _ A7.out).mono ?_
      rintro e w26 ⟨rfl, hb⟩
      refine ⟨_, rfl, ?_⟩
      have n0_ := zG BK671 hb (fun h => by (with_reducible repeat (first | refine zN ?_ _ | refine zD ?_ | refine zA ?_ _)); exact h)
      have n1_ := zG BK672 hb (fun h => by (with_reducible repeat (first | refine zN ?_ _ | refine zD ?_ | refine zA ?_ _)); exact h)
      have n2_ := zG BK673 hb (fun h => by (with_reducible repeat (first | refine zN ?_ _ | refine zD ?_ | refine zA ?_ _)); exact h)
      have n3_ := zG BK684 hb (fun h => by (with_reducible repeat (first | refine zN ?_ _ | refine zD ?_ | refine zA ?_ _)); exact h)
      have n4_ := aK (yT (by repeat (first | (with_reducible first | exact HB.out | apply yA | apply yN | apply yD | refine yS ?_ GE671.out | refine yS ?_ GE672.out | refine yS ?_ GE673.out | refine yS ?_ GE684.out) | exact HB.out)) hb)
      clear BK671
      clear BK672
      clear BK673
      clear BK684
      clear HB
      have BK671 := n0_
      have BK672 := n1_
      have BK673 := n2_
      have BK684 := n3_
      have HB := n4_
      clear n0_ n1_ n2_ n3_ n4_
      (try clear hb)
      (try clear hb2)
      (try clear hk)
      (try clear hi)
      refine hK.out _ _ ⟨(zC BK671.out 0).trans rfl, (zC BK671.out 1).trans rfl, (zC BK672.out 0).trans rfl, (zC BK672.out 1).trans rfl⟩ (fun hHeld => ?_)
      clear hK K
      refine norm_ (a' := ?_) ?_ ?_
      rotate_left
      ·show Act.put _ (some 39) _ = _
       simp only [Act.put, sA, sZ, sS, i64_w, i32_w]
       rfl
      exact norm_ (by simp only [putAll, Act.put, sA, sZ, sS]) (hCont (gb684) _ ⟨hHeld, (by (with_reducible repeat (first | refine zN ?_ _ | refine zD ?_ | refine zA ?_ _)); exact BK671.out), (by (with_reducible repeat (first | refine zN ?_ _ | refine zD ?_ | refine zA ?_ _)); exact BK672.out), (by (with_reducible repeat (first | refine zN ?_ _ | refine zD ?_ | refine zA ?_ _)); exact BK673.out), (by (with_reducible repeat (first | refine zN ?_ _ | refine zD ?_ | refine zA ?_ _)); exact BK684.out), GW684.out, GE684.out, NB671_684.out, NB684_671.out, NB672_684.out, NB684_672.out, NB673_684.out, NB684_673.out, (by repeat (first | (with_reducible first | exact HB.out | apply yA | apply yN | apply yD | refine yS ?_ GE671.out | refine yS ?_ GE672.out | refine yS ?_ GE673.out | refine yS ?_ GE684.out) | exact HB.out))⟩)
    ·skip
     refine box_step ?hg (N := 7) ?hd (cs := #[.bool false, .int .u64 0, .int .u64 0]) (t := 71) ?hr ?_; (case hd => rfl); (case hg => rfl); (case hr => first | (go_simp; done) | (go_simp; rfl))
     intro gb684 hg w23 hbox hb
     have n0_ := zG BK671 hb (fun h => by (with_reducible repeat (first | refine zN ?_ _ | refine zD ?_ | refine zA ?_ _)); exact h)
     have n1_ := zG BK672 hb (fun h => by (with_reducible repeat (first | refine zN ?_ _ | refine zD ?_ | refine zA ?_ _)); exact h)
     have n2_ := zG BK673 hb (fun h => by (with_reducible repeat (first | refine zN ?_ _ | refine zD ?_ | refine zA ?_ _)); exact h)
     have n3_ := aK (yT (by repeat (first | (with_reducible first | exact HB.out | apply yA | apply yN | apply yD | refine yS ?_ GE671.out | refine yS ?_ GE672.out | refine yS ?_ GE673.out) | exact HB.out)) hb)
     have n4_ := aK (hbox)
     have n5_ := aK ((by rw [hg]; exact (yZ (by repeat (first | (with_reducible first | exact HB.out | apply yA | apply yN | apply yD | refine yS ?_ GE671.out | refine yS ?_ GE672.out | refine yS ?_ GE673.out) | exact HB.out))) : w.heap.size ≤ gb684))
     have n6_ := aK ((by rw [hg]; exact (yZ (by repeat (first | (with_reducible first | exact HB.out | apply yA | apply yN | apply yD | refine yS ?_ GE671.out | refine yS ?_ GE672.out | refine yS ?_ GE673.out) | exact HB.out))) : w.heap.size ≤ gb684))
     have n7_ := aK ((by rw [hg]; exact Nat.ne_of_lt (blk_lt (g := gb671) (o := .cells #[.int .i64 a0_0, .int .i64 a0_1] 33 (0, 0)) (by (with_reducible repeat (first | refine zN ?_ _ | refine zD ?_ | refine zA ?_ _)); exact BK671.out)) : gb671 ≠ gb684))
     have n8_ := aK ((by rw [hg]; exact Nat.ne_of_gt (blk_lt (g := gb671) (o := .cells #[.int .i64 a0_0, .int .i64 a0_1] 33 (0, 0)) (by (with_reducible repeat (first | refine zN ?_ _ | refine zD ?_ | refine zA ?_ _)); exact BK671.out)) : gb684 ≠ gb671))
     have n9_ := aK ((by rw [hg]; exact Nat.ne_of_lt (blk_lt (g := gb672) (o := .cells #[.int .i64 a1_0, .int .i64 a1_1] 33 (0, 0)) (by (with_reducible repeat (first | refine zN ?_ _ | refine zD ?_ | refine zA ?_ _)); exact BK672.out)) : gb672 ≠ gb684))
     have n10_ := aK ((by rw [hg]; exact Nat.ne_of_gt (blk_lt (g := gb672) (o := .cells #[.int .i64 a1_0, .int .i64 a1_1] 33 (0, 0)) (by (with_reducible repeat (first | refine zN ?_ _ | refine zD ?_ | refine zA ?_ _)); exact BK672.out)) : gb684 ≠ gb672))
     have n11_ := aK ((by rw [hg]; exact Nat.ne_of_lt (blk_lt (g := gb673) (o := .cells #[.int .i64 0, .int .i64 0] 33 (0, 0)) (by (with_reducible repeat (first | refine zN ?_ _ | refine zD ?_ | refine zA ?_ _)); exact BK673.out)) : gb673 ≠ gb684))
     have n12_ := aK ((by rw [hg]; exact Nat.ne_of_gt (blk_lt (g := gb673) (o := .cells #[.int .i64 0, .int .i64 0] 33 (0, 0)) (by (with_reducible repeat (first | refine zN ?_ _ | refine zD ?_ | refine zA ?_ _)); exact BK673.out)) : gb684 ≠ gb673))
     clear BK671
     clear BK672
     clear BK673
     clear HB
     have BK671 := n0_
     have BK672 := n1_
     have BK673 := n2_
     have HB := n3_
     have BK684 := n4_
     have GW684 := n5_
     have GE684 := n6_
     have NB671_684 := n7_
     have NB684_671 := n8_
     have NB672_684 := n9_
     have NB684_672 := n10_
     have NB673_684 := n11_
     have NB684_673 := n12_
     clear n0_ n1_ n2_ n3_ n4_ n5_ n6_ n7_ n8_ n9_ n10_ n11_ n12_
     clear hb hbox hg
     refine hK.out _ _ ⟨(zC BK671.out 0).trans rfl, (zC BK671.out 1).trans rfl, (zC BK672.out 0).trans rfl, (zC BK672.out 1).trans rfl⟩ (fun hHeld => ?_)
     clear hK K
     refine norm_ (a' := ?_) ?_ ?_
     rotate_left
     ·show Act.put _ (some 7) _ = _
      simp only [Act.put, sA, sZ, sS, i64_w, i32_w]
      rfl
     refine one_ (i := 6) (N := some 31) #[true, true, true, true, true, true, true, true, true, true, true, true, true, false, false, true, false] rfl rfl (one_of HT_.out (by kernel_rfl)) (by decide) (fun K hK => ?_)
     refine goes_ Try.func56 (by kernel_rfl) rfl #[.int .i64 a0_0, .int .i64 (wrap64 (Int.tdiv a1_1 (wrap64 (t674))))] (by rfl) rfl rfl (by (try simp only [List.map_toArray, List.map_cons, List.map_nil]); first | done | rfl | (simp only [List.length_drop, List.length_take]; rfl)) ?_
     with_reducible refine (fraction_product.calls a0_0 (wrap64 (Int.tdiv a1_1 (wrap64 (t674)))) t675 t676 t677 _ A5.out).mono ?_
     rintro e w24 ⟨rfl, hb⟩
     refine ⟨_, rfl, ?_⟩
     have n0_ := zG BK671 hb (fun h => by (with_reducible repeat (first | refine zN ?_ _ | refine zD ?_ | refine zA ?_ _)); exact h)
     have n1_ := zG BK672 hb (fun h => by (with_reducible repeat (first | refine zN ?_ _ | refine zD ?_ | refine zA ?_ _)); exact h)
     have n2_ := zG BK673 hb (fun h => by (with_reducible repeat (first | refine zN ?_ _ | refine zD ?_ | refine zA ?_ _)); exact h)
     have n3_ := zG BK684 hb (fun h => by (with_reducible repeat (first | refine zN ?_ _ | refine zD ?_ | refine zA ?_ _)); exact h)
     have n4_ := aK (yT (by repeat (first | (with_reducible first | exact HB.out | apply yA | apply yN | apply yD | refine yS ?_ GE671.out | refine yS ?_ GE672.out | refine yS ?_ GE673.out | refine yS ?_ GE684.out) | exact HB.out)) hb)
     clear BK671
     clear BK672
     clear BK673
     clear BK684
     clear HB
     have BK671 := n0_
     have BK672 := n1_
     have BK673 := n2_
     have BK684 := n3_
     have HB := n4_
     clear n0_ n1_ n2_ n3_ n4_
     (try clear hb)
     (try clear hb2)
     (try clear hk)
     (try clear hi)
     refine hK.out _ _ ⟨(zC BK671.out 0).trans rfl, (zC BK671.out 1).trans rfl, (zC BK672.out 0).trans rfl, (zC BK672.out 1).trans rfl⟩ (fun hHeld => ?_)
     clear hK K
     refine norm_ (a' := ?_) ?_ ?_
     rotate_left
     ·show Act.put _ (some 31) _ = _
      simp only [Act.put, sA, sZ, sS, i64_w, i32_w]
      rfl
     refine one_ (i := 13) (N := some 38) #[true, true, true, true, true, true, true, true, true, true, true, true, true, true, false, true, false] rfl rfl (one_of HT_.out (by kernel_rfl)) (by decide) (fun K hK => ?_)
     refine goes_ Try.func56 (by kernel_rfl) rfl #[.int .i64 a1_0, .int .i64 (wrap64 (Int.tdiv a0_1 (wrap64 (t674))))] (by rfl) rfl rfl (by (try simp only [List.map_toArray, List.map_cons, List.map_nil]); first | done | rfl | (simp only [List.length_drop, List.length_take]; rfl)) ?_
     with_reducible refine (fraction_product.calls a1_0 (wrap64 (Int.tdiv a0_1 (wrap64 (t674)))) t678 t679 t680 _ A6.out).mono ?_
     rintro e w25 ⟨rfl, hb⟩
     refine ⟨_, rfl, ?_⟩
     have n0_ := zG BK671 hb (fun h => by (with_reducible repeat (first | refine zN ?_ _ | refine zD ?_ | refine zA ?_ _)); exact h)
     have n1_ := zG BK672 hb (fun h => by (with_reducible repeat (first | refine zN ?_ _ | refine zD ?_ | refine zA ?_ _)); exact h)
     have n2_ := zG BK673 hb (fun h => by (with_reducible repeat (first | refine zN ?_ _ | refine zD ?_ | refine zA ?_ _)); exact h)
     have n3_ := zG BK684 hb (fun h => by (with_reducible repeat (first | refine zN ?_ _ | refine zD ?_ | refine zA ?_ _)); exact h)
     have n4_ := aK (yT (by repeat (first | (with_reducible first | exact HB.out | apply yA | apply yN | apply yD | refine yS ?_ GE671.out | refine yS ?_ GE672.out | refine yS ?_ GE673.out | refine yS ?_ GE684.out) | exact HB.out)) hb)
     clear BK671
     clear BK672
     clear BK673
     clear BK684
     clear HB
     have BK671 := n0_
     have BK672 := n1_
     have BK673 := n2_
     have BK684 := n3_
     have HB := n4_
     clear n0_ n1_ n2_ n3_ n4_
     (try clear hb)
     (try clear hb2)
     (try clear hk)
     (try clear hi)
     refine hK.out _ _ ⟨(zC BK671.out 0).trans rfl, (zC BK671.out 1).trans rfl, (zC BK672.out 0).trans rfl, (zC BK672.out 1).trans rfl⟩ (fun hHeld => ?_)
     clear hK K
     refine norm_ (a' := ?_) ?_ ?_
     rotate_left
     ·show Act.put _ (some 38) _ = _
      simp only [Act.put, sA, sZ, sS, i64_w, i32_w]
      rfl
     refine one_ (i := 14) (N := some 39) #[true, true, true, true, true, true, true, true, true, true, true, true, true, true, true, true, false] rfl rfl (one_of HT_.out (by kernel_rfl)) (by decide) (fun K hK => ?_)
     refine goes_ Try.func79 (by kernel_rfl) rfl #[.agg #[.bool t675, .int .u64 t676, .int .u64 t677], .agg #[.bool t678, .int .u64 t679, .int .u64 t680]] (by rfl) rfl rfl (by (try simp only [List.map_toArray, List.map_cons, List.map_nil]); first | done | rfl | (simp only [List.length_drop, List.length_take]; rfl)) ?_
     with_reducible refine (fraction_sum.calls k t675 t676 t677 t678 t679 t680 t681 t682 t683 _ A7.out).mono ?_
     rintro e w26 ⟨rfl, hb⟩
     refine ⟨_, rfl, ?_⟩
     have n0_ := zG BK671 hb (fun h => by (with_reducible repeat (first | refine zN ?_ _ | refine zD ?_ | refine zA ?_ _)); exact h)
     have n1_ := zG BK672 hb (fun h => by (with_reducible repeat (first | refine zN ?_ _ | refine zD ?_ | refine zA ?_ _)); exact h)
     have n2_ := zG BK673 hb (fun h => by (with_reducible repeat (first | refine zN ?_ _ | refine zD ?_ | refine zA ?_ _)); exact h)
     have n3_ := zG BK684 hb (fun h => by (with_reducible repeat (first | refine zN ?_ _ | refine zD ?_ | refine zA ?_ _)); exact h)
     have n4_ := aK (yT (by repeat (first | (with_reducible first | exact HB.out | apply yA | apply yN | apply yD | refine yS ?_ GE671.out | refine yS ?_ GE672.out | refine yS ?_ GE673.out | refine yS ?_ GE684.out) | exact HB.out)) hb)
     clear BK671
     clear BK672
     clear BK673
     clear BK684
     clear HB
     have BK671 := n0_
     have BK672 := n1_
     have BK673 := n2_
     have BK684 := n3_
     have HB := n4_
     clear n0_ n1_ n2_ n3_ n4_
     (try clear hb)
     (try clear hb2)
     (try clear hk)
     (try clear hi)
     refine hK.out _ _ ⟨(zC BK671.out 0).trans rfl, (zC BK671.out 1).trans rfl, (zC BK672.out 0).trans rfl, (zC BK672.out 1).trans rfl⟩ (fun hHeld => ?_)
     clear hK K
     refine norm_ (a' := ?_) ?_ ?_
     rotate_left
     ·show Act.put _ (some 39) _ = _
      simp only [Act.put, sA, sZ, sS, i64_w, i32_w]
      rfl
     exact norm_ (by simp only [putAll, Act.put, sA, sZ, sS]) (hCont (gb684) _ ⟨hHeld, (by (with_reducible repeat (first | refine zN ?_ _ | refine zD ?_ | refine zA ?_ _)); exact BK671.out), (by (with_reducible repeat (first | refine zN ?_ _ | refine zD ?_ | refine zA ?_ _)); exact BK672.out), (by (with_reducible repeat (first | refine zN ?_ _ | refine zD ?_ | refine zA ?_ _)); exact BK673.out), (by (with_reducible repeat (first | refine zN ?_ _ | refine zD ?_ | refine zA ?_ _)); exact BK684.out), GW684.out, GE684.out, NB671_684.out, NB684_671.out, NB672_684.out, NB684_672.out, NB673_684.out, NB684_673.out, (by repeat (first | (with_reducible first | exact HB.out | apply yA | apply yN | apply yD | refine yS ?_ GE671.out | refine yS ?_ GE672.out | refine yS ?_ GE673.out | refine yS ?_ GE684.out) | exact HB.out))⟩)
   rintro gb684 w27 ⟨hS_, h0_, h1_, h2_, h3_, h4_, h5_, h6_, h7_, h8_, h9_, h10_, h11_, h12_⟩
   have n0_ : Aside0 (w27.heap[gb671]? = some (.cells #[.int .i64 a0_0, .int .i64 a0_1] 33 (0, 0))) := ⟨h0_⟩
   have n1_ : Aside0 (w27.heap[gb672]? = some (.cells #[.int .i64 a1_0, .int .i64 a1_1] 33 (0, 0))) := ⟨h1_⟩
   have n2_ : Aside0 (w27.heap[gb673]? = some (.cells #[.int .i64 0, .int .i64 0] 33 (0, 0))) := ⟨h2_⟩
   have n3_ : Aside0 (w27.heap[gb684]? = some (.cells #[.bool false, .int .u64 0, .int .u64 0] 71 (0, 0))) := ⟨h3_⟩
   have n4_ : Aside0 (w.heap.size ≤ gb684) := ⟨h4_⟩
   have n5_ : Aside0 (w.heap.size ≤ gb684) := ⟨h5_⟩
   have n6_ : Aside0 (gb671 ≠ gb684) := ⟨h6_⟩
   have n7_ : Aside0 (gb684 ≠ gb671) := ⟨h7_⟩
   have n8_ : Aside0 (gb672 ≠ gb684) := ⟨h8_⟩
   have n9_ : Aside0 (gb684 ≠ gb672) := ⟨h9_⟩
   have n10_ : Aside0 (gb673 ≠ gb684) := ⟨h10_⟩
   have n11_ : Aside0 (gb684 ≠ gb673) := ⟨h11_⟩
   have n12_ : Aside0 (Below w.heap.size w w27) := ⟨h12_⟩
   clear BK671
   clear BK672
   clear BK673
   clear HB
   clear h0_ h1_ h2_ h3_ h4_ h5_ h6_ h7_ h8_ h9_ h10_ h11_ h12_
   have BK671 := n0_
   have BK672 := n1_
   have BK673 := n2_
   have BK684 := n3_
   have GW684 := n4_
   have GE684 := n5_
   have NB671_684 := n6_
   have NB684_671 := n7_
   have NB672_684 := n8_
   have NB684_672 := n9_
   have NB673_684 := n10_
   have NB684_673 := n11_
   have HB := n12_
   clear n0_ n1_ n2_ n3_ n4_ n5_ n6_ n7_ n8_ n9_ n10_ n11_ n12_
   have hHeld : w27.cell? ⟨gb671, 0, none⟩ = some (.int .i64 a0_0) ∧ w27.cell? ⟨gb671, 1, none⟩ = some (.int .i64 a0_1) ∧ w27.cell? ⟨gb672, 0, none⟩ = some (.int .i64 a1_0) ∧ w27.cell? ⟨gb672, 1, none⟩ = some (.int .i64 a1_1) := hS_
   refine norm_ (a' := ?_) ?_ ?_
   rotate_left
   ·simp only [putAll, Act.put, sA, sZ, sS]
    rfl
   refine one_ (i := 16) (N := none) #[true, true, true, true, true, true, true, true, true, true, true, true, true, true, true, true, true] rfl rfl (one_of HT_.out (by kernel_rfl)) (by decide) (fun K hK => ?_)
   have hs28 : w27.cell? ⟨gb684, 0, none⟩ = some (.bool false) := (zC BK684.out 0).trans rfl
   have hfs28 := zF BK684.out 0
   have hns28_0 := NB671_684.out
   have hns28_1 := NB672_684.out
   have hns28_2 := NB673_684.out
   have hms28_0 := NB684_671.out
   have hms28_1 := NB684_672.out
   have hms28_2 := NB684_673.out
   have hs29 : w27.cell? ⟨gb684, 1, none⟩ = some (.int .u64 0) := (zC BK684.out 1).trans rfl
   have hfs29 := zF BK684.out 1
   have hns29_0 := NB671_684.out
   have hns29_1 := NB672_684.out
   have hns29_2 := NB673_684.out
   have hms29_0 := NB684_671.out
   have hms29_1 := NB684_672.out
   have hms29_2 := NB684_673.out
   have hs30 : w27.cell? ⟨gb684, 2, none⟩ = some (.int .u64 0) := (zC BK684.out 2).trans rfl
   have hfs30 := zF BK684.out 2
   have hns30_0 := NB671_684.out
   have hns30_1 := NB672_684.out
   have hns30_2 := NB673_684.out
   have hms30_0 := NB684_671.out
   have hms30_1 := NB684_672.out
   have hms30_2 := NB684_673.out
   refine skip_ (w1 := ?_) (by rfl) rfl ?_ ?_
   rotate_left
   ·go_simp
    rfl
   refine hK.out _ _ ⟨((cell_far (p := ⟨gb684, _, none⟩) NB671_684.out _).trans (((cell_far (p := ⟨gb684, _, none⟩) NB671_684.out _).trans (((cell_far (p := ⟨gb684, _, none⟩) NB671_684.out _).trans (hHeld.1)))))), ((cell_far (p := ⟨gb684, _, none⟩) NB671_684.out _).trans (((cell_far (p := ⟨gb684, _, none⟩) NB671_684.out _).trans (((cell_far (p := ⟨gb684, _, none⟩) NB671_684.out _).trans (hHeld.2.1)))))), ((cell_far (p := ⟨gb684, _, none⟩) NB672_684.out _).trans (((cell_far (p := ⟨gb684, _, none⟩) NB672_684.out _).trans (((cell_far (p := ⟨gb684, _, none⟩) NB672_684.out _).trans (hHeld.2.2.1)))))), ((cell_far (p := ⟨gb684, _, none⟩) NB672_684.out _).trans (((cell_far (p := ⟨gb684, _, none⟩) NB672_684.out _).trans (((cell_far (p := ⟨gb684, _, none⟩) NB672_684.out _).trans (hHeld.2.2.2))))))⟩ (fun hHeld => ?_)
   clear hK K
   refine done_ (done_of HT_.out (by kernel_rfl)) ?_
   have hnb31 := NB684_671.out
   have hnc31 := NB671_684.out
   have hnb32 := NB684_672.out
   have hnc32 := NB672_684.out
   have hnb33 := NB684_673.out
   have hnc33 := NB673_684.out
   have hcz34_0 := zI BK684 0 rfl
   have hcz34_1 := zI BK684 1 rfl
   have hcz34_2 := zI BK684 2 rfl
   have hfz34_0 := zF BK684.out 0
   have hfz34_1 := zF BK684.out 1
   have hfz34_2 := zF BK684.out 2
   try go_wp2_with (first | ((with_reducible refine gate_callee (f := 80) rfl ?_); refine goesL_ (some 44) rfl rfl Try.func80 (by kernel_rfl) rfl #[.agg #[.bool t681, .int .u64 t682, .int .u64 t683], .int .u64 (IntKind.u64.wrap (wrap64 (t674)))] rfl (by (try simp only [List.map_toArray, List.map_cons, List.map_nil]); first | done | rfl | (simp only [List.length_drop, List.length_take]; rfl)) ?_; (with_reducible refine (fraction_over.calls t681 t682 t683 (IntKind.u64.wrap (wrap64 (t674))) t685 t686 t687 _ A8.out).mono ?_); rintro e w35 ⟨rfl, hb⟩; refine ⟨_, rfl, ?_⟩; have n0_ := aK (zB (g := gb671) (o := .cells #[.int .i64 a0_0, .int .i64 a0_1] 33 (0, 0)) (by (with_reducible repeat (first | refine zN ?_ _ | refine zD ?_ | refine zA ?_ _)); refine blk_far ?_ NB671_684.out _; (with_reducible repeat (first | refine zN ?_ _ | refine zD ?_ | refine zA ?_ _)); refine blk_far ?_ NB671_684.out _; (with_reducible repeat (first | refine zN ?_ _ | refine zD ?_ | refine zA ?_ _)); refine blk_far ?_ NB671_684.out _; (with_reducible repeat (first | refine zN ?_ _ | refine zD ?_ | refine zA ?_ _)); exact BK671.out) hb); have n1_ := aK (zB (g := gb672) (o := .cells #[.int .i64 a1_0, .int .i64 a1_1] 33 (0, 0)) (by (with_reducible repeat (first | refine zN ?_ _ | refine zD ?_ | refine zA ?_ _)); refine blk_far ?_ NB672_684.out _; (with_reducible repeat (first | refine zN ?_ _ | refine zD ?_ | refine zA ?_ _)); refine blk_far ?_ NB672_684.out _; (with_reducible repeat (first | refine zN ?_ _ | refine zD ?_ | refine zA ?_ _)); refine blk_far ?_ NB672_684.out _; (with_reducible repeat (first | refine zN ?_ _ | refine zD ?_ | refine zA ?_ _)); exact BK672.out) hb); have n2_ := aK (zB (g := gb673) (o := .cells #[.int .i64 0, .int .i64 0] 33 (0, 0)) (by (with_reducible repeat (first | refine zN ?_ _ | refine zD ?_ | refine zA ?_ _)); refine blk_far ?_ NB673_684.out _; (with_reducible repeat (first | refine zN ?_ _ | refine zD ?_ | refine zA ?_ _)); refine blk_far ?_ NB673_684.out _; (with_reducible repeat (first | refine zN ?_ _ | refine zD ?_ | refine zA ?_ _)); refine blk_far ?_ NB673_684.out _; (with_reducible repeat (first | refine zN ?_ _ | refine zD ?_ | refine zA ?_ _)); exact BK673.out) hb); have n3_ := aK (zB (g := gb684) (o := .cells #[.bool t681, .int .u64 t682, .int .u64 t683] 71 (0, 0)) (by (with_reducible repeat (first | refine zN ?_ _ | refine zD ?_ | refine zA ?_ _)); refine blk_put (cs := #[.bool t681, .int .u64 t682, .int .u64 0]) ?_ 2 _ rfl; (with_reducible repeat (first | refine zN ?_ _ | refine zD ?_ | refine zA ?_ _)); refine blk_put (cs := #[.bool t681, .int .u64 0, .int .u64 0]) ?_ 1 _ rfl; (with_reducible repeat (first | refine zN ?_ _ | refine zD ?_ | refine zA ?_ _)); refine blk_put (cs := #[.bool false, .int .u64 0, .int .u64 0]) ?_ 0 _ rfl; (with_reducible repeat (first | refine zN ?_ _ | refine zD ?_ | refine zA ?_ _)); exact BK684.out) hb); have n4_ := aK (yT (by repeat (first | (with_reducible first | exact HB.out | apply yA | apply yN | apply yD | refine yS ?_ GE671.out | refine yS ?_ GE672.out | refine yS ?_ GE673.out | refine yS ?_ GE684.out) | exact HB.out)) hb); clear BK671; clear BK672; clear BK673; clear BK684; clear HB; have BK671 := n0_; have BK672 := n1_; have BK673 := n2_; have BK684 := n3_; have HB := n4_; clear n0_ n1_ n2_ n3_ n4_; (try clear hb); (try clear hb2); (try clear hk); (try clear hi)) | ((with_reducible refine gate_callee (f := 52) rfl ?_); refine goesL_ (some 51) rfl rfl Try.func52 (by kernel_rfl) rfl #[.int .u64 t686, .int .u64 (IntKind.u64.wrap (wrap64 (t674)))] rfl (by (try simp only [List.map_toArray, List.map_cons, List.map_nil]); first | done | rfl | (simp only [List.length_drop, List.length_take]; rfl)) ?_; (with_reducible refine (fraction_gcd.calls k t686 (IntKind.u64.wrap (wrap64 (t674))) t688 _ A9.out).mono ?_); rintro e w' ⟨rfl, ⟨nd, rfl⟩⟩; refine ⟨_, rfl, ?_⟩; have hcz36_0 := zI BK684 0 rfl; have hcz36_1 := zI BK684 1 rfl; have hcz36_2 := zI BK684 2 rfl; have hfz36_0 := zF BK684.out 0; have hfz36_1 := zF BK684.out 1; have hfz36_2 := zF BK684.out 2) | ((with_reducible refine gate_callee (f := 80) rfl ?_); refine goesL_ (some 55) rfl rfl Try.func80 (by kernel_rfl) rfl #[.agg #[.bool t681, .int .u64 t682, .int .u64 t683], .int .u64 t688] rfl (by (try simp only [List.map_toArray, List.map_cons, List.map_nil]); first | done | rfl | (simp only [List.length_drop, List.length_take]; rfl)) ?_; (with_reducible refine (fraction_over.calls t681 t682 t683 t688 t689 t690 t691 _ A10.out).mono ?_); rintro e w37 ⟨rfl, hb⟩; refine ⟨_, rfl, ?_⟩; have n0_ := zG BK671 hb (fun h => by (with_reducible repeat (first | refine zN ?_ _ | refine zD ?_ | refine zA ?_ _)); exact h); have n1_ := zG BK672 hb (fun h => by (with_reducible repeat (first | refine zN ?_ _ | refine zD ?_ | refine zA ?_ _)); exact h); have n2_ := zG BK673 hb (fun h => by (with_reducible repeat (first | refine zN ?_ _ | refine zD ?_ | refine zA ?_ _)); exact h); have n3_ := zG BK684 hb (fun h => by (with_reducible repeat (first | refine zN ?_ _ | refine zD ?_ | refine zA ?_ _)); exact h); have n4_ := aK (yT (by repeat (first | (with_reducible first | exact HB.out | apply yA | apply yN | apply yD | refine yS ?_ GE671.out | refine yS ?_ GE672.out | refine yS ?_ GE673.out | refine yS ?_ GE684.out) | exact HB.out)) hb); clear BK671; clear BK672; clear BK673; clear BK684; clear HB; have BK671 := n0_; have BK672 := n1_; have BK673 := n2_; have BK684 := n3_; have HB := n4_; clear n0_ n1_ n2_ n3_ n4_; (try clear hb); (try clear hb2); (try clear hk); (try clear hi)))
   have n0_ := aK (zD BK671.out)
   have n1_ := aK (zD BK672.out)
   have n2_ := aK (zD BK673.out)
   have n3_ := aK (zD BK684.out)
   have n4_ := aK (yD HB.out)
   clear BK671
   clear BK672
   clear BK673
   clear BK684
   clear HB
   have BK671 := n0_
   have BK672 := n1_
   have BK673 := n2_
   have BK684 := n3_
   have HB := n4_
   clear n0_ n1_ n2_ n3_ n4_
   refine start_ (n := 16) (S := fun w' => w'.cell? ⟨gb671, 0, none⟩ = some (.int .i64 a0_0) ∧ w'.cell? ⟨gb671, 1, none⟩ = some (.int .i64 a0_1) ∧ w'.cell? ⟨gb672, 0, none⟩ = some (.int .i64 a1_0) ∧ w'.cell? ⟨gb672, 1, none⟩ = some (.int .i64 a1_1)) (ds := []) #[false, false, false, false, false, false, false, false, false, false, false, false, false, false, false, false] (by kernel_rfl) rfl rfl ⟨(zC BK671.out 0).trans rfl, (zC BK671.out 1).trans rfl, (zC BK672.out 0).trans rfl, (zC BK672.out 1).trans rfl⟩ (fun hHeld => ?_); refine with_tabW fraction_add.tab6 fraction_add.bits6 (fun HT_ HW_ => ?_)
   generalize w37.drew = w38 at BK671 BK672 BK673 BK684 HB hHeld ⊢
   refine pure_ (i := 0) (N := some 60) (v := ?_) (a' := ?_) #[true, false, false, false, false, false, false, false, false, false, false, false, false, false, false, false] rfl rfl (any_of HT_.out (by kernel_rfl)) (fun _ _ _ h => h) (Or.inl ⟨by rfl, ?_⟩) ?_ ?_
   rotate_left
   ·intro w'
    go_simp
    with_reducible rfl
   rotate_left
   ·simp only [Act.put, sA, sZ, sS, i64_w, i32_w]
    rfl
   refine pure_ (i := 2) (N := some 62) (v := ?_) (a' := ?_) #[true, false, true, false, false, false, false, false, false, false, false, false, false, false, false, false] rfl rfl (any_of HT_.out (by kernel_rfl)) (fun _ _ _ h => h) (Or.inl ⟨by rfl, ?_⟩) ?_ ?_
   rotate_left
   ·intro w'
    go_simp
    with_reducible rfl
   rotate_left
   ·simp only [Act.put, sA, sZ, sS, i64_w, i32_w]
    rfl
   refine pure_ (i := 5) (N := some 65) (v := ?_) (a' := ?_) #[true, false, true, false, false, true, false, false, false, false, false, false, false, false, false, false] rfl rfl (any_of HT_.out (by kernel_rfl)) (fun _ _ _ h => h) (Or.inl ⟨by rfl, ?_⟩) ?_ ?_
   rotate_left
   ·intro w'
    go_simp
    with_reducible rfl
   rotate_left
   ·simp only [Act.put, sA, sZ, sS, i64_w, i32_w]
    rfl
   refine pure_ (i := 8) (N := some 68) (v := ?_) (a' := ?_) #[true, false, true, false, false, true, false, false, true, false, false, false, false, false, false, false] rfl rfl (any_of HT_.out (by kernel_rfl)) (fun _ _ _ h => h) (Or.inl ⟨by rfl, ?_⟩) ?_ ?_
   rotate_left
   ·intro w'
    go_simp
    with_reducible rfl
   rotate_left
   ·simp only [Act.put, sA, sZ, sS, i64_w, i32_w]
    rfl
   refine take_ (i := 1) (N := some 61) (v := ?_) (a' := ?_) #[true, true, true, false, false, true, false, false, true, false, false, false, false, false, false, false] rfl rfl (take_ofW HT_.out HW_.out (by kernel_rfl)) (fun _ _ _ h => h) (Or.inl ⟨by rfl, ?_⟩) hHeld ?_ ?_
   rotate_left
   ·rintro w' ⟨s0, s1, s2, s3⟩
    go_simp
    with_reducible rfl
   rotate_left
   ·simp only [Act.put, sA, sZ, sS, i64_w, i32_w]
    rfl
   refine pure_ (i := 3) (N := some 63) (v := ?_) (a' := ?_) #[true, true, true, true, false, true, false, false, true, false, false, false, false, false, false, false] rfl rfl (any_of HT_.out (by kernel_rfl)) (fun _ _ _ h => h) (Or.inl ⟨by rfl, ?_⟩) ?_ ?_
   rotate_left
   ·intro w'
    go_simp
    with_reducible rfl
   rotate_left
   ·simp only [Act.put, sA, sZ, sS, i64_w, i32_w]
    rfl
   refine pure_ (i := 4) (N := some 64) (v := ?_) (a' := ?_) #[true, true, true, true, true, true, false, false, true, false, false, false, false, false, false, false] rfl rfl (any_of HT_.out (by kernel_rfl)) (fun _ _ _ h => h) (Or.inl ⟨by rfl, ?_⟩) ?_ ?_
   rotate_left
   ·intro w'
    go_simp
    with_reducible rfl
   rotate_left
   ·simp only [Act.put, sA, sZ, sS, i64_w, i32_w]
    rfl
   refine take_ (i := 6) (N := some 66) (v := ?_) (a' := ?_) #[true, true, true, true, true, true, true, false, true, false, false, false, false, false, false, false] rfl rfl (take_ofW HT_.out HW_.out (by kernel_rfl)) (fun _ _ _ h => h) (Or.inl ⟨by rfl, ?_⟩) hHeld ?_ ?_
   rotate_left
   ·rintro w' ⟨s0, s1, s2, s3⟩
    go_simp
    with_reducible rfl
   rotate_left
   ·simp only [Act.put, sA, sZ, sS, i64_w, i32_w]
    rfl
   refine pure_ (i := 7) (N := some 67) (v := ?_) (a' := ?_) #[true, true, true, true, true, true, true, true, true, false, false, false, false, false, false, false] rfl rfl (any_of HT_.out (by kernel_rfl)) (fun _ _ _ h => h) (Or.inl ⟨by rfl, ?_⟩) ?_ ?_
   rotate_left
   ·intro w'
    go_simp
    with_reducible rfl
   rotate_left
   ·simp only [Act.put, sA, sZ, sS, i64_w, i32_w]
    rfl
   refine pure_ (i := 9) (N := some 69) (v := ?_) (a' := ?_) #[true, true, true, true, true, true, true, true, true, true, false, false, false, false, false, false] rfl rfl (any_of HT_.out (by kernel_rfl)) (fun _ _ _ h => h) (Or.inl ⟨by rfl, ?_⟩) ?_ ?_
   rotate_left
   ·intro w'
    go_simp
    with_reducible rfl
   rotate_left
   ·simp only [Act.put, sA, sZ, sS, i64_w, i32_w]
    rfl
   refine one_ (i := 10) (N := some 70) #[true, true, true, true, true, true, true, true, true, true, true, false, false, false, false, false] rfl rfl (one_of HT_.out (by kernel_rfl)) (by decide) (fun K hK => ?_)
   refine goes_ Try.func81 (by kernel_rfl) rfl #[.int .u64 (IntKind.u64.wrap (wrap64 (Int.tdiv a0_1 (wrap64 (t674))))), .int .u64 (IntKind.u64.wrap (Int.tdiv (IntKind.u64.wrap (a1_1)) t688))] (by rfl) rfl rfl (by (try simp only [List.map_toArray, List.map_cons, List.map_nil]); first | done | rfl | (simp only [List.length_drop, List.length_take]; rfl)) ?_
   with_reducible refine (bits_Mul64.calls (IntKind.u64.wrap (wrap64 (Int.tdiv a0_1 (wrap64 (t674))))) (IntKind.u64.wrap (Int.tdiv (IntKind.u64.wrap (a1_1)) t688)) t692 t693 _ A12.out).mono ?_
   rintro e w' ⟨rfl, ⟨nd, rfl⟩⟩
   refine ⟨_, rfl, ?_⟩
   refine hK.out _ _ ⟨(zC BK671.out 0).trans rfl, (zC BK671.out 1).trans rfl, (zC BK672.out 0).trans rfl, (zC BK672.out 1).trans rfl⟩ (fun hHeld => ?_)
   clear hK K
   refine norm_ (a' := ?_) ?_ ?_
   rotate_left
   ·show Act.put _ (some 70) _ = _
    simp only [Act.put, sA, sZ, sS, i64_w, i32_w]
    rfl
   refine pure_ (i := 11) (N := some 59) (v := ?_) (a' := ?_) #[true, true, true, true, true, true, true, true, true, true, true, true, false, false, false, false] rfl rfl (any_of HT_.out (by kernel_rfl)) (fun _ _ _ h => h) (Or.inl ⟨by rfl, ?_⟩) ?_ ?_
   rotate_left
   ·intro w'
    go_simp
    with_reducible rfl
   rotate_left
   ·simp only [Act.put, sA, sZ, sS, i64_w, i32_w]
    rfl
   refine pure_ (i := 12) (N := some 71) (v := ?_) (a' := ?_) #[true, true, true, true, true, true, true, true, true, true, true, true, true, false, false, false] rfl rfl (any_of HT_.out (by kernel_rfl)) (fun _ _ _ h => h) (Or.inl ⟨by rfl, ?_⟩) ?_ ?_
   rotate_left
   ·intro w'
    go_simp
    with_reducible rfl
   rotate_left
   ·simp only [Act.put, sA, sZ, sS, i64_w, i32_w]
    rfl
   refine pure_ (i := 13) (N := some 72) (v := ?_) (a' := ?_) #[true, true, true, true, true, true, true, true, true, true, true, true, true, true, false, false] rfl rfl (any_of HT_.out (by kernel_rfl)) (fun _ _ _ h => h) (Or.inl ⟨by rfl, ?_⟩) ?_ ?_
   rotate_left
   ·intro w'
    go_simp
    with_reducible rfl
   rotate_left
   ·simp only [Act.put, sA, sZ, sS, i64_w, i32_w]
    rfl
   refine pure_ (i := 14) (N := some 15) (v := ?_) (a' := ?_) #[true, true, true, true, true, true, true, true, true, true, true, true, true, true, true, false] rfl rfl (any_of HT_.out (by kernel_rfl)) (fun _ _ _ h => h) (Or.inl ⟨by rfl, ?_⟩) ?_ ?_
   rotate_left
   ·intro w'
    go_simp
    with_reducible rfl
   rotate_left
   ·simp only [Act.put, sA, sZ, sS, i64_w, i32_w]
    rfl
   refine pure_ (i := 15) (N := some 16) (v := ?_) (a' := ?_) #[true, true, true, true, true, true, true, true, true, true, true, true, true, true, true, true] rfl rfl (any_of HT_.out (by kernel_rfl)) (fun _ _ _ h => h) (Or.inl ⟨by rfl, ?_⟩) ?_ ?_
   rotate_left
   ·intro w'
    go_simp
    with_reducible rfl
   rotate_left
   ·simp only [Act.put, sA, sZ, sS, i64_w, i32_w]
    rfl
   refine done_ (done_of HT_.out (by kernel_rfl)) ?_
   go_upto_region 7 with (fail)
   go_cut [78] (fun v78 wc => ∃ (kq : Nat) (x78_12 : Bool), v78 = .bool x78_12 ∧ Aside0 (fraction_add.j0 kq t689 t693 x78_12 t681 t682 t683 = some (r1, r2, r3)) ∧ Aside0 (kq ≤ k) ∧ Aside0 (wc.heap[gb671]? = some (.cells #[.int .i64 a0_0, .int .i64 a0_1] 33 (0, 0))) ∧ Aside0 (wc.heap[gb672]? = some (.cells #[.int .i64 a1_0, .int .i64 a1_1] 33 (0, 0))) ∧ Aside0 (wc.heap[gb673]? = some (.cells #[.int .i64 0, .int .i64 0] 33 (0, 0))) ∧ Aside0 (wc.heap[gb684]? = some (.cells #[.bool t681, .int .u64 t682, .int .u64 t683] 71 (0, 0))) ∧ Aside0 (Below w.heap.size w wc))
   case first =>
    have H := HC13.out
    clear HC13
    by_cases c39 : t691 = true
    ·subst c39
     have H1 : (fraction_add.j0 k t689 t693 (decide (t692 > 0)) t681 t682 t683) = some (r1, r2, r3) := by rw [if_pos rfl] at H; exact H
     clear H
     have H := H1
     clear H1
     have H' := aK H
     clear H
     go_wp2
     go_meet
     case rel => exact ⟨_, (decide (t692 > 0)), (by first | rfl | (simp; done) | (simp [*]; done)), H', ⟨by first | omega | exact Nat.le_refl _⟩, ⟨by (with_reducible repeat (first | refine zN ?_ _ | refine zD ?_ | refine zA ?_ _)); exact BK671.out⟩, ⟨by (with_reducible repeat (first | refine zN ?_ _ | refine zD ?_ | refine zA ?_ _)); exact BK672.out⟩, ⟨by (with_reducible repeat (first | refine zN ?_ _ | refine zD ?_ | refine zA ?_ _)); exact BK673.out⟩, ⟨by (with_reducible repeat (first | refine zN ?_ _ | refine zD ?_ | refine zA ?_ _)); exact BK684.out⟩, ⟨by repeat (first | (with_reducible first | exact HB.out | apply yA | apply yN | apply yD | refine yS ?_ GE671.out | refine yS ?_ GE672.out | refine yS ?_ GE673.out | refine yS ?_ GE684.out) | exact HB.out)⟩⟩
    ·replace c39 := Bool.eq_false_iff.mpr c39
     subst c39
     have H1 : (fraction_add.j0 k t689 t693 true t681 t682 t683) = some (r1, r2, r3) := by rw [if_neg (show ¬ (false = true) by decide)] at H; exact H
     clear H
     have H := H1
     clear H1
     have H' := aK H
     clear H
     go_wp2
     go_meet
     case rel => exact ⟨_, (true), (by first | rfl | (simp; done) | (simp [*]; done)), H', ⟨by first | omega | exact Nat.le_refl _⟩, ⟨by (with_reducible repeat (first | refine zN ?_ _ | refine zD ?_ | refine zA ?_ _)); exact BK671.out⟩, ⟨by (with_reducible repeat (first | refine zN ?_ _ | refine zD ?_ | refine zA ?_ _)); exact BK672.out⟩, ⟨by (with_reducible repeat (first | refine zN ?_ _ | refine zD ?_ | refine zA ?_ _)); exact BK673.out⟩, ⟨by (with_reducible repeat (first | refine zN ?_ _ | refine zD ?_ | refine zA ?_ _)); exact BK684.out⟩, ⟨by repeat (first | (with_reducible first | exact HB.out | apply yA | apply yN | apply yD | refine yS ?_ GE671.out | refine yS ?_ GE672.out | refine yS ?_ GE673.out | refine yS ?_ GE684.out) | exact HB.out)⟩⟩
   case rest =>
    clear HC13
    try clear p2
    try clear c3
    try clear c5
    try clear p6
    try clear c7
    try clear c8
    try clear c31
    try clear c32
    try clear c33
    try clear c39
    try clear hcz34_0
    try clear hcz34_1
    try clear hcz34_2
    try clear hcz36_0
    try clear hcz36_1
    try clear hcz36_2
    try clear hfz34_0
    try clear hfz34_1
    try clear hfz34_2
    try clear hfz36_0
    try clear hfz36_1
    try clear hfz36_2
    obtain ⟨kq, x78_12, rfl, HA, HJ12, BK671, BK672, BK673, BK684, HB⟩ := hcut
    cases kq with
    | zero => exact absurd HA.out (by simp [fraction_add.j0])
    | succ kj12 =>
     have H := HA.out
     clear HA
     simp only [fraction_add.j0] at H
     by_cases c40 : x78_12 = true
     ·subst c40
      have H1 : (some (0, 0, 6)) = some (r1, r2, r3) := by rw [if_pos rfl] at H; exact H
      clear H
      have H := H1
      clear H1
      simp only [Option.some.injEq, Prod.mk.injEq] at H
      obtain ⟨rfl, rfl, rfl⟩ := H
      have hnb41 := NB673_671.out
      have hnc41 := NB671_673.out
      have hnb42 := NB673_672.out
      have hnc42 := NB672_673.out
      have hnb43 := NB673_684.out
      have hnc43 := NB684_673.out
      have hcz44_0 := zI BK673 0 rfl
      have hcz44_1 := zI BK673 1 rfl
      have hfz44_0 := zF BK673.out 0
      have hfz44_1 := zF BK673.out 1
      go_wp2
      refine bodyPost_ret (results_ct rfl _ _ gb673 33 #[.int .i64 0, .int .i64 0] (0, 0) _ rfl (by (with_reducible repeat (first | refine zN ?_ _ | refine zD ?_ | refine zA ?_ _)); refine blk_put (cs := #[.int .i64 0, .int .i64 0]) ?_ 1 _ rfl; (with_reducible repeat (first | refine zN ?_ _ | refine zD ?_ | refine zA ?_ _)); refine blk_put (cs := #[.int .i64 0, .int .i64 0]) ?_ 0 _ rfl; (with_reducible repeat (first | refine zN ?_ _ | refine zD ?_ | refine zA ?_ _)); exact BK673.out) Try.underlying33 rfl (by kernel_rfl)) rfl ?_
      exact ⟨by first | rfl | (simp [errW_none, errW_some] <;> rfl) | (simp [*, errW_none, errW_some] <;> rfl), by repeat (first | (with_reducible first | exact HB.out | apply yA | apply yN | apply yD | refine yS ?_ GE671.out | refine yS ?_ GE672.out | refine yS ?_ GE673.out | refine yS ?_ GE684.out) | exact HB.out)⟩
     ·replace c40 := Bool.eq_false_iff.mpr c40
      subst c40
      have H1 : (if t689 = 0 then (some (0, 1, 0)) else ((fraction_makeFrac.f kj12 t681 t689 t693).bind fun bt694 => (some (bt694.1, bt694.2.1, bt694.2.2)))) = some (r1, r2, r3) := by rw [if_neg (show ¬ (false = true) by decide)] at H; exact H
      clear H
      have H := H1
      clear H1
      by_cases c45 : t689 = 0
      ·rw [if_pos c45] at H
       have c45b0 : (t689 == 0) = true := beq_iff_eq.mpr c45
       have c45b1 : (t689 != 0) = false := bne_eq_false_iff_eq.mpr c45
       clear c45
       simp only [Option.some.injEq, Prod.mk.injEq] at H
       obtain ⟨rfl, rfl, rfl⟩ := H
       have hnb46 := NB673_671.out
       have hnc46 := NB671_673.out
       have hnb47 := NB673_672.out
       have hnc47 := NB672_673.out
       have hnb48 := NB673_684.out
       have hnc48 := NB684_673.out
       have hcz49_0 := zI BK673 0 rfl
       have hcz49_1 := zI BK673 1 rfl
       have hfz49_0 := zF BK673.out 0
       have hfz49_1 := zF BK673.out 1
       go_wp2
       refine bodyPost_ret (results_ct rfl _ _ gb673 33 #[.int .i64 0, .int .i64 1] (0, 0) _ rfl (by (with_reducible repeat (first | refine zN ?_ _ | refine zD ?_ | refine zA ?_ _)); refine blk_put (cs := #[.int .i64 0, .int .i64 0]) ?_ 1 _ rfl; (with_reducible repeat (first | refine zN ?_ _ | refine zD ?_ | refine zA ?_ _)); refine blk_put (cs := #[.int .i64 0, .int .i64 0]) ?_ 0 _ rfl; (with_reducible repeat (first | refine zN ?_ _ | refine zD ?_ | refine zA ?_ _)); exact BK673.out) Try.underlying33 rfl (by kernel_rfl)) rfl ?_
       exact ⟨by first | rfl | (simp [errW_none, errW_some] <;> rfl) | (simp [*, errW_none, errW_some] <;> rfl), by repeat (first | (with_reducible first | exact HB.out | apply yA | apply yN | apply yD | refine yS ?_ GE671.out | refine yS ?_ GE672.out | refine yS ?_ GE673.out | refine yS ?_ GE684.out) | exact HB.out)⟩
      ·rw [if_neg c45] at H
       have c45b0 : (t689 == 0) = false := beq_eq_false_iff_ne.mpr c45
       have c45b1 : (t689 != 0) = true := bne_iff_ne.mpr c45
       replace H := Option.bind_eq_some_iff.mp H
       obtain ⟨⟨t694, t695, t696⟩, A500, H⟩ := H
       replace H : (some (t694, t695, t696)) = some (r1, r2, r3) := H
       have A50 := aK A500
       clear A500
       simp only [Option.some.injEq, Prod.mk.injEq] at H
       obtain ⟨rfl, rfl, rfl⟩ := H
       have hnb51 := NB684_671.out
       have hnc51 := NB671_684.out
       have hnb52 := NB684_672.out
       have hnc52 := NB672_684.out
       have hnb53 := NB684_673.out
       have hnc53 := NB673_684.out
       have hcz54_0 := zI BK684 0 rfl
       have hcz54_1 := zI BK684 1 rfl
       have hcz54_2 := zI BK684 2 rfl
       have hfz54_0 := zF BK684.out 0
       have hfz54_1 := zF BK684.out 1
       have hfz54_2 := zF BK684.out 2
       go_wp2_with (first | ((with_reducible refine gate_callee (f := 53) rfl ?_); refine goesL_ (some 87) rfl rfl Try.func53 (by kernel_rfl) rfl #[.bool t681, .int .u64 t689, .int .u64 t693] rfl (by (try simp only [List.map_toArray, List.map_cons, List.map_nil]); first | done | rfl | (simp only [List.length_drop, List.length_take]; rfl)) ?_; (with_reducible refine (fraction_makeFrac.calls kj12 t681 t689 t693 t694 t695 t696 _ A50.out).mono ?_); rintro e w55 ⟨rfl, hb⟩; refine ⟨_, rfl, ?_⟩; have n0_ := zG BK671 hb (fun h => by (with_reducible repeat (first | refine zN ?_ _ | refine zD ?_ | refine zA ?_ _)); exact h); have n1_ := zG BK672 hb (fun h => by (with_reducible repeat (first | refine zN ?_ _ | refine zD ?_ | refine zA ?_ _)); exact h); have n2_ := zG BK673 hb (fun h => by (with_reducible repeat (first | refine zN ?_ _ | refine zD ?_ | refine zA ?_ _)); exact h); have n3_ := zG BK684 hb (fun h => by (with_reducible repeat (first | refine zN ?_ _ | refine zD ?_ | refine zA ?_ _)); exact h); have n4_ := aK (yT (by repeat (first | (with_reducible first | exact HB.out | apply yA | apply yN | apply yD | refine yS ?_ GE671.out | refine yS ?_ GE672.out | refine yS ?_ GE673.out | refine yS ?_ GE684.out) | exact HB.out)) hb); clear BK671; clear BK672; clear BK673; clear BK684; clear HB; have BK671 := n0_; have BK672 := n1_; have BK673 := n2_; have BK684 := n3_; have HB := n4_; clear n0_ n1_ n2_ n3_ n4_; (try clear hb); (try clear hb2); (try clear hk); (try clear hi); have hnb56 := NB673_671.out; have hnc56 := NB671_673.out; have hnb57 := NB673_672.out; have hnc57 := NB672_673.out; have hcz58_0 := zI BK673 0 rfl; have hcz58_1 := zI BK673 1 rfl; have hfz58_0 := zF BK673.out 0; have hfz58_1 := zF BK673.out 1))
       refine bodyPost_ret (results_ct rfl _ _ gb673 33 #[.int .i64 t694, .int .i64 t695] (0, 0) _ rfl (by (with_reducible repeat (first | refine zN ?_ _ | refine zD ?_ | refine zA ?_ _)); refine blk_put (cs := #[.int .i64 t694, .int .i64 0]) ?_ 1 _ rfl; (with_reducible repeat (first | refine zN ?_ _ | refine zD ?_ | refine zA ?_ _)); refine blk_put (cs := #[.int .i64 0, .int .i64 0]) ?_ 0 _ rfl; (with_reducible repeat (first | refine zN ?_ _ | refine zD ?_ | refine zA ?_ _)); exact BK673.out) Try.underlying33 rfl (by kernel_rfl)) rfl ?_
       exact ⟨by first | rfl | (simp [errW_none, errW_some] <;> rfl) | (simp [*, errW_none, errW_some] <;> rfl), by repeat (first | (with_reducible first | exact HB.out | apply yA | apply yN | apply yD | refine yS ?_ GE671.out | refine yS ?_ GE672.out | refine yS ?_ GE673.out | refine yS ?_ GE684.out) | exact HB.out)⟩

end Go.Proofs.Ythkpgjjakdbbfaa.P
