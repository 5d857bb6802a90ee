/- What functions of the program return: each contract says so of one function, for every input at which its pure function yields. -/
import Derived.Test.YthkpgjjakdbbfaaPx0
import Derived.Test.YthkpgjjakdbbfaaPx24
import Derived.Test.YthkpgjjakdbbfaaPx25
namespace Go.Proofs.Ythkpgjjakdbbfaa.P
open Go.RowKit Go.Proofs.YthkpgjjakdbbfaaW.PrintWords Go.Proofs.YthkpgjjakdbbfaaW.PrintLast Go.Proofs.YthkpgjjakdbbfaaW.PrintMore
attribute [local go_sem] max2_int min2_int max_two min_two max_three min_three max_four min_four   -- for this text's walks alone
set_option linter.unusedVariables false
set_option linter.unusedSimpArgs false

def gangsawref04_lowest.j0 : Nat → Bool → Int → Int → Bool → Int → Int → Bool → Int → Int → Bool → Option (Int × Int × Int)
 | 0, _, _, _, _, _, _, _, _, _, _ => none
 | k + 1, x48, x509000, x509001, x509002, x522000, x522001, x522002, x530000, x530001, x530002 => if x48 = true then (some (0, 0, 6)) else (if x509002 = true then (some (wrap64 (-(wrap64 (x522001))), wrap64 (x530001), 0)) else (some (wrap64 (x522001), wrap64 (x530001), 0)))
def gangsawref04_lowest.f (k : Nat) (a0_0 : Int) (a0_1 : Int) (a0_2 : Bool) (a1_0 : Int) (a1_1 : Int) (a1_2 : Bool) : Option (Int × Int × Int) := (gangsawref04_common.f k a1_0 a1_1 a1_2 a0_0 a0_1 false).bind fun bt511 => ((gangsawref04_divide.f k a0_0 a0_1 a0_2 bt511.1 bt511.2.1 bt511.2.2).bind fun bt515 => ((gangsawref04_divide.f k a1_0 a1_1 a1_2 bt511.1 bt511.2.1 bt511.2.2).bind fun bt523 => (if bt515.1 > 0 then (gangsawref04_lowest.j0 k true a0_0 a0_1 a0_2 bt515.1 bt515.2.1 bt515.2.2.1 bt523.1 bt523.2.1 bt523.2.2.1) else (if bt515.2.1 ≥ 1000000000000000000 then (gangsawref04_lowest.j0 k true a0_0 a0_1 a0_2 bt515.1 bt515.2.1 bt515.2.2.1 bt523.1 bt523.2.1 bt523.2.2.1) else (if bt523.1 > 0 then (gangsawref04_lowest.j0 k true a0_0 a0_1 a0_2 bt515.1 bt515.2.1 bt515.2.2.1 bt523.1 bt523.2.1 bt523.2.2.1) else (gangsawref04_lowest.j0 k (decide (bt523.2.1 ≥ 1000000000000000000)) a0_0 a0_1 a0_2 bt515.1 bt515.2.1 bt515.2.2.1 bt523.1 bt523.2.1 bt523.2.2.1))))))
set_option maxHeartbeats 8000000 in
set_option maxRecDepth 100000 in
theorem gangsawref04_lowest.calls (k : Nat) (a0_0 : Int) (a0_1 : Int) (a0_2 : Bool) (a1_0 : Int) (a1_1 : Int) (a1_2 : Bool) (r1 : Int) (r2 : Int) (r3 : Int) (w : World) (h : gangsawref04_lowest.f k a0_0 a0_1 a0_2 a1_0 a1_1 a1_2 = some (r1, r2, r3)) :
  Calls Try.prog 72 #[.agg #[.int .u64 a0_0, .int .u64 a0_1, .bool a0_2], .agg #[.int .u64 a1_0, .int .u64 a1_1, .bool a1_2]] w fun e w' => e = .returned (.tuple #[.agg #[.int .i64 r1, .int .i64 r2], .int .i64 r3]) ∧ Below w.heap.size w w' := by
 have hu82 := Try.underlying82
 have hu33 := Try.underlying33
 have HB := aK (Below.refl w.heap.size w)
 have H : ((gangsawref04_common.f k a1_0 a1_1 a1_2 a0_0 a0_1 false).bind fun bt511 => ((gangsawref04_divide.f k a0_0 a0_1 a0_2 bt511.1 bt511.2.1 bt511.2.2).bind fun bt515 => ((gangsawref04_divide.f k a1_0 a1_1 a1_2 bt511.1 bt511.2.1 bt511.2.2).bind fun bt523 => (if bt515.1 > 0 then (gangsawref04_lowest.j0 k true a0_0 a0_1 a0_2 bt515.1 bt515.2.1 bt515.2.2.1 bt523.1 bt523.2.1 bt523.2.2.1) else (if bt515.2.1 ≥ 1000000000000000000 then (gangsawref04_lowest.j0 k true a0_0 a0_1 a0_2 bt515.1 bt515.2.1 bt515.2.2.1 bt523.1 bt523.2.1 bt523.2.2.1) else (if bt523.1 > 0 then (gangsawref04_lowest.j0 k true a0_0 a0_1 a0_2 bt515.1 bt515.2.1 bt515.2.2.1 bt523.1 bt523.2.1 bt523.2.2.1) else (gangsawref04_lowest.j0 k (decide (bt523.2.1 ≥ 1000000000000000000)) a0_0 a0_1 a0_2 bt515.1 bt515.2.1 bt515.2.2.1 bt523.1 bt523.2.1 bt523.2.2.1))))))) = some (r1, r2, r3) := h
 clear h
 replace H := Option.bind_eq_some_iff.mp H
 obtain ⟨⟨t511, t512, t513⟩, A30, H⟩ := H
 replace H : ((gangsawref04_divide.f k a0_0 a0_1 a0_2 t511 t512 t513).bind fun bt515 => ((gangsawref04_divide.f k a1_0 a1_1 a1_2 t511 t512 t513).bind fun bt523 => (if bt515.1 > 0 then (gangsawref04_lowest.j0 k true a0_0 a0_1 a0_2 bt515.1 bt515.2.1 bt515.2.2.1 bt523.1 bt523.2.1 bt523.2.2.1) else (if bt515.2.1 ≥ 1000000000000000000 then (gangsawref04_lowest.j0 k true a0_0 a0_1 a0_2 bt515.1 bt515.2.1 bt515.2.2.1 bt523.1 bt523.2.1 bt523.2.2.1) else (if bt523.1 > 0 then (gangsawref04_lowest.j0 k true a0_0 a0_1 a0_2 bt515.1 bt515.2.1 bt515.2.2.1 bt523.1 bt523.2.1 bt523.2.2.1) else (gangsawref04_lowest.j0 k (decide (bt523.2.1 ≥ 1000000000000000000)) a0_0 a0_1 a0_2 bt515.1 bt515.2.1 bt515.2.2.1 bt523.1 bt523.2.1 bt523.2.2.1)))))) = some (r1, r2, r3) := H
 have A3 := aK A30
 clear A30
 replace H := Option.bind_eq_some_iff.mp H
 obtain ⟨⟨t515, t516, t517, t518, t519, t520⟩, A40, H⟩ := H
 replace H : ((gangsawref04_divide.f k a1_0 a1_1 a1_2 t511 t512 t513).bind fun bt523 => (if t515 > 0 then (gangsawref04_lowest.j0 k true a0_0 a0_1 a0_2 t515 t516 t517 bt523.1 bt523.2.1 bt523.2.2.1) else (if t516 ≥ 1000000000000000000 then (gangsawref04_lowest.j0 k true a0_0 a0_1 a0_2 t515 t516 t517 bt523.1 bt523.2.1 bt523.2.2.1) else (if bt523.1 > 0 then (gangsawref04_lowest.j0 k true a0_0 a0_1 a0_2 t515 t516 t517 bt523.1 bt523.2.1 bt523.2.2.1) else (gangsawref04_lowest.j0 k (decide (bt523.2.1 ≥ 1000000000000000000)) a0_0 a0_1 a0_2 t515 t516 t517 bt523.1 bt523.2.1 bt523.2.2.1))))) = some (r1, r2, r3) := H
 have A4 := aK A40
 clear A40
 replace H := Option.bind_eq_some_iff.mp H
 obtain ⟨⟨t523, t524, t525, t526, t527, t528⟩, A50, H⟩ := H
 replace H : (if t515 > 0 then (gangsawref04_lowest.j0 k true a0_0 a0_1 a0_2 t515 t516 t517 t523 t524 t525) else (if t516 ≥ 1000000000000000000 then (gangsawref04_lowest.j0 k true a0_0 a0_1 a0_2 t515 t516 t517 t523 t524 t525) else (if t523 > 0 then (gangsawref04_lowest.j0 k true a0_0 a0_1 a0_2 t515 t516 t517 t523 t524 t525) else (gangsawref04_lowest.j0 k (decide (t524 ≥ 1000000000000000000)) a0_0 a0_1 a0_2 t515 t516 t517 t523 t524 t525)))) = some (r1, r2, r3) := H
 have A5 := aK A50
 clear A50
 have HC6 := aK H
 clear H
 go_enter Try.func72, Try.ntmps72
 go_upto_region 4 with (first | ((with_reducible refine gate_dst (N := 2) rfl ?_); refine box_event ?hg (N := 2) ?hd (cs := #[.int .u64 a0_0, .int .u64 a0_1, .bool a0_2]) (t := 82) ?hr ?_; (case hd => rfl); (case hg => rfl); (case hr => first | (go_simp; done) | (go_simp; rfl)); intro gb508 hg w7 hbox hb; have ⟨n0_, n2_⟩ := zV (w := w) hb hg (by repeat (first | (with_reducible first | exact HB.out | apply yA | apply yN | apply yD) | exact HB.out)); have n1_ := aK (hbox); have n3_ := n2_; clear HB; have HB := n0_; have BK508 := n1_; have GW508 := n2_; have GE508 := n3_; clear n0_ n1_ n2_ n3_; clear hb hbox hg) | ((with_reducible refine gate_dst (N := 3) rfl ?_); refine box_event ?hg (N := 3) ?hd (cs := #[.int .u64 a1_0, .int .u64 a1_1, .bool a1_2]) (t := 82) ?hr ?_; (case hd => rfl); (case hg => rfl); (case hr => first | (go_simp; done) | (go_simp; rfl)); intro gb509 hg w8 hbox hb; have n0_ := aK (zB (g := gb508) (o := .cells #[.int .u64 a0_0, .int .u64 a0_1, .bool a0_2] 82 (0, 0)) (BK508.out) hb); have ⟨n1_, n3_⟩ := zV (w := w) hb hg (by repeat (first | (with_reducible first | exact HB.out | apply yA | apply yN | apply yD | refine yS ?_ GE508.out) | exact HB.out)); have n2_ := aK (hbox); have n4_ := n3_; have n5_ := aK ((by rw [hg]; exact Nat.ne_of_lt (blk_lt (g := gb508) (o := .cells #[.int .u64 a0_0, .int .u64 a0_1, .bool a0_2] 82 (0, 0)) (BK508.out)) : gb508 ≠ gb509)); have n6_ := aK ((by rw [hg]; exact Nat.ne_of_gt (blk_lt (g := gb508) (o := .cells #[.int .u64 a0_0, .int .u64 a0_1, .bool a0_2] 82 (0, 0)) (BK508.out)) : gb509 ≠ gb508)); clear BK508; clear HB; have BK508 := n0_; have HB := n1_; have BK509 := n2_; have GW509 := n3_; have GE509 := n4_; have NB508_509 := n5_; have NB509_508 := n6_; clear n0_ n1_ n2_ n3_ n4_ n5_ n6_; clear hb hbox hg) | ((with_reducible refine gate_dst (N := 4) rfl ?_); refine box_event ?hg (N := 4) ?hd (cs := #[.int .i64 0, .int .i64 0]) (t := 33) ?hr ?_; (case hd => rfl); (case hg => rfl); (case hr => first | (go_simp; done) | (go_simp; rfl)); intro gb510 hg w9 hbox hb; have n0_ := aK (zB (g := gb508) (o := .cells #[.int .u64 a0_0, .int .u64 a0_1, .bool a0_2] 82 (0, 0)) (BK508.out) hb); have n1_ := aK (zB (g := gb509) (o := .cells #[.int .u64 a1_0, .int .u64 a1_1, .bool a1_2] 82 (0, 0)) (BK509.out) hb); have ⟨n2_, n4_⟩ := zV (w := w) hb hg (by repeat (first | (with_reducible first | exact HB.out | apply yA | apply yN | apply yD | refine yS ?_ GE508.out | refine yS ?_ GE509.out) | exact HB.out)); have n3_ := aK (hbox); have n5_ := n4_; have n6_ := aK ((by rw [hg]; exact Nat.ne_of_lt (blk_lt (g := gb508) (o := .cells #[.int .u64 a0_0, .int .u64 a0_1, .bool a0_2] 82 (0, 0)) (BK508.out)) : gb508 ≠ gb510)); have n7_ := aK ((by rw [hg]; exact Nat.ne_of_gt (blk_lt (g := gb508) (o := .cells #[.int .u64 a0_0, .int .u64 a0_1, .bool a0_2] 82 (0, 0)) (BK508.out)) : gb510 ≠ gb508)); have n8_ := aK ((by rw [hg]; exact Nat.ne_of_lt (blk_lt (g := gb509) (o := .cells #[.int .u64 a1_0, .int .u64 a1_1, .bool a1_2] 82 (0, 0)) (BK509.out)) : gb509 ≠ gb510)); have n9_ := aK ((by rw [hg]; exact Nat.ne_of_gt (blk_lt (g := gb509) (o := .cells #[.int .u64 a1_0, .int .u64 a1_1, .bool a1_2] 82 (0, 0)) (BK509.out)) : gb510 ≠ gb509)); clear BK508; clear BK509; clear HB; have BK508 := n0_; have BK509 := n1_; have HB := n2_; have BK510 := n3_; have GW510 := n4_; have GE510 := n5_; have NB508_510 := n6_; have NB510_508 := n7_; have NB509_510 := n8_; have NB510_509 := n9_; clear n0_ n1_ n2_ n3_ n4_ n5_ n6_ n7_ n8_ n9_; clear hb hbox hg; have hnb10 := NB509_508.out; have hnc10 := NB508_509.out; have hnb11 := NB509_510.out; have hnc11 := NB510_509.out; have hcz12_0 := zI BK509 0 rfl; have hcz12_1 := zI BK509 1 rfl; have hcz12_2 := zI BK509 2 rfl; have hfz12_0 := zF BK509.out 0; have hfz12_1 := zF BK509.out 1; have hfz12_2 := zF BK509.out 2; have hnb13 := NB508_510.out; have hnc13 := NB510_508.out; have hcz14_0 := zI BK508 0 rfl; have hcz14_1 := zI BK508 1 rfl; have hcz14_2 := zI BK508 2 rfl; have hfz14_0 := zF BK508.out 0; have hfz14_1 := zF BK508.out 1; have hfz14_2 := zF BK508.out 2) | ((with_reducible refine gate_callee (f := 91) rfl ?_); refine goesL_ (some 18) rfl rfl Try.func91 (by kernel_rfl) rfl #[.agg #[.int .u64 a1_0, .int .u64 a1_1, .bool a1_2], .agg #[.int .u64 a0_0, .int .u64 a0_1, .bool false]] rfl (by (try simp only [List.map_toArray, List.map_cons, List.map_nil]); first | done | rfl | (simp only [List.length_drop, List.length_take]; rfl)) ?_; (with_reducible refine (gangsawref04_common.calls k a1_0 a1_1 a1_2 a0_0 a0_1 false t511 t512 t513 _ A3.out).mono ?_); rintro e w15 ⟨rfl, hb⟩; refine ⟨_, rfl, ?_⟩; have n0_ := aK (zB (g := gb508) (o := .cells #[.int .u64 a0_0, .int .u64 a0_1, .bool a0_2] 82 (0, 0)) (BK508.out) hb); have n1_ := aK (zB (g := gb509) (o := .cells #[.int .u64 a1_0, .int .u64 a1_1, .bool a1_2] 82 (0, 0)) (BK509.out) hb); have n2_ := aK (zB (g := gb510) (o := .cells #[.int .i64 0, .int .i64 0] 33 (0, 0)) (BK510.out) hb); have n3_ := aK (yT (by repeat (first | (with_reducible first | exact HB.out | apply yA | apply yN | apply yD | refine yS ?_ GE508.out | refine yS ?_ GE509.out | refine yS ?_ GE510.out) | exact HB.out)) hb); clear BK508; clear BK509; clear BK510; clear HB; have BK508 := n0_; have BK509 := n1_; have BK510 := n2_; have HB := n3_; clear n0_ n1_ n2_ n3_; (try clear hb)) | ((with_reducible refine gate_dst (N := 6) rfl ?_); refine box_event ?hg (N := 6) ?hd (cs := #[.int .u64 0, .int .u64 0, .bool false]) (t := 82) ?hr ?_; (case hd => rfl); (case hg => rfl); (case hr => first | (go_simp; done) | (go_simp; rfl)); intro gb514 hg w16 hbox hb; have n0_ := aK (zB (g := gb508) (o := .cells #[.int .u64 a0_0, .int .u64 a0_1, .bool a0_2] 82 (0, 0)) (BK508.out) hb); have n1_ := aK (zB (g := gb509) (o := .cells #[.int .u64 a1_0, .int .u64 a1_1, .bool a1_2] 82 (0, 0)) (BK509.out) hb); have n2_ := aK (zB (g := gb510) (o := .cells #[.int .i64 0, .int .i64 0] 33 (0, 0)) (BK510.out) hb); have ⟨n3_, n5_⟩ := zV (w := w) hb hg (by repeat (first | (with_reducible first | exact HB.out | apply yA | apply yN | apply yD | refine yS ?_ GE508.out | refine yS ?_ GE509.out | refine yS ?_ GE510.out) | exact HB.out)); have n4_ := aK (hbox); have n6_ := n5_; have n7_ := aK ((by rw [hg]; exact Nat.ne_of_lt (blk_lt (g := gb508) (o := .cells #[.int .u64 a0_0, .int .u64 a0_1, .bool a0_2] 82 (0, 0)) (BK508.out)) : gb508 ≠ gb514)); have n8_ := aK ((by rw [hg]; exact Nat.ne_of_gt (blk_lt (g := gb508) (o := .cells #[.int .u64 a0_0, .int .u64 a0_1, .bool a0_2] 82 (0, 0)) (BK508.out)) : gb514 ≠ gb508)); have n9_ := aK ((by rw [hg]; exact Nat.ne_of_lt (blk_lt (g := gb509) (o := .cells #[.int .u64 a1_0, .int .u64 a1_1, .bool a1_2] 82 (0, 0)) (BK509.out)) : gb509 ≠ gb514)); have n10_ := aK ((by rw [hg]; exact Nat.ne_of_gt (blk_lt (g := gb509) (o := .cells #[.int .u64 a1_0, .int .u64 a1_1, .bool a1_2] 82 (0, 0)) (BK509.out)) : gb514 ≠ gb509)); have n11_ := aK ((by rw [hg]; exact Nat.ne_of_lt (blk_lt (g := gb510) (o := .cells #[.int .i64 0, .int .i64 0] 33 (0, 0)) (BK510.out)) : gb510 ≠ gb514)); have n12_ := aK ((by rw [hg]; exact Nat.ne_of_gt (blk_lt (g := gb510) (o := .cells #[.int .i64 0, .int .i64 0] 33 (0, 0)) (BK510.out)) : gb514 ≠ gb510)); clear BK508; clear BK509; clear BK510; clear HB; have BK508 := n0_; have BK509 := n1_; have BK510 := n2_; have HB := n3_; have BK514 := n4_; have GW514 := n5_; have GE514 := n6_; have NB508_514 := n7_; have NB514_508 := n8_; have NB509_514 := n9_; have NB514_509 := n10_; have NB510_514 := n11_; have NB514_510 := n12_; clear n0_ n1_ n2_ n3_ n4_ n5_ n6_ n7_ n8_ n9_ n10_ n11_ n12_; clear hb hbox hg; have hnb17 := NB514_508.out; have hnc17 := NB508_514.out; have hnb18 := NB514_509.out; have hnc18 := NB509_514.out; have hnb19 := NB514_510.out; have hnc19 := NB510_514.out; have hcz20_0 := zI BK514 0 rfl; have hcz20_1 := zI BK514 1 rfl; have hcz20_2 := zI BK514 2 rfl; have hfz20_0 := zF BK514.out 0; have hfz20_1 := zF BK514.out 1; have hfz20_2 := zF BK514.out 2; have hcz21_0 := zI BK508 0 rfl; have hcz21_1 := zI BK508 1 rfl; have hcz21_2 := zI BK508 2 rfl; have hfz21_0 := zF BK508.out 0; have hfz21_1 := zF BK508.out 1; have hfz21_2 := zF BK508.out 2) | ((with_reducible refine gate_callee (f := 92) rfl ?_); refine goesL_ (some 22) rfl rfl Try.func92 (by kernel_rfl) rfl #[.agg #[.int .u64 a0_0, .int .u64 a0_1, .bool a0_2], .agg #[.int .u64 t511, .int .u64 t512, .bool t513]] rfl (by (try simp only [List.map_toArray, List.map_cons, List.map_nil]); first | done | rfl | (simp only [List.length_drop, List.length_take]; rfl)) ?_; (with_reducible refine (gangsawref04_divide.calls k a0_0 a0_1 a0_2 t511 t512 t513 t515 t516 t517 t518 t519 t520 _ A4.out).mono ?_); rintro e w22 ⟨rfl, hb⟩; refine ⟨_, rfl, ?_⟩; have n0_ := aK (zB (g := gb508) (o := .cells #[.int .u64 a0_0, .int .u64 a0_1, .bool a0_2] 82 (0, 0)) (by refine blk_far ?_ NB508_514.out _; refine blk_far ?_ NB508_514.out _; refine blk_far ?_ NB508_514.out _; exact BK508.out) hb); have n1_ := aK (zB (g := gb509) (o := .cells #[.int .u64 a1_0, .int .u64 a1_1, .bool a1_2] 82 (0, 0)) (by refine blk_far ?_ NB509_514.out _; refine blk_far ?_ NB509_514.out _; refine blk_far ?_ NB509_514.out _; exact BK509.out) hb); have n2_ := aK (zB (g := gb510) (o := .cells #[.int .i64 0, .int .i64 0] 33 (0, 0)) (by refine blk_far ?_ NB510_514.out _; refine blk_far ?_ NB510_514.out _; refine blk_far ?_ NB510_514.out _; exact BK510.out) hb); have n3_ := aK (zB (g := gb514) (o := .cells #[.int .u64 t511, .int .u64 t512, .bool t513] 82 (0, 0)) (by refine blk_put (cs := #[.int .u64 t511, .int .u64 t512, .bool false]) ?_ 2 _ rfl; refine blk_put (cs := #[.int .u64 t511, .int .u64 0, .bool false]) ?_ 1 _ rfl; refine blk_put (cs := #[.int .u64 0, .int .u64 0, .bool false]) ?_ 0 _ rfl; exact BK514.out) hb); have n4_ := aK (yT (by repeat (first | (with_reducible first | exact HB.out | apply yA | apply yN | apply yD | refine yS ?_ GE508.out | refine yS ?_ GE509.out | refine yS ?_ GE510.out | refine yS ?_ GE514.out) | exact HB.out)) hb); clear BK508; clear BK509; clear BK510; clear BK514; clear HB; have BK508 := n0_; have BK509 := n1_; have BK510 := n2_; have BK514 := n3_; have HB := n4_; clear n0_ n1_ n2_ n3_ n4_; (try clear hb)) | ((with_reducible refine gate_dst (N := 7) rfl ?_); refine box_event ?hg (N := 7) ?hd (cs := #[.int .u64 0, .int .u64 0, .bool false]) (t := 82) ?hr ?_; (case hd => rfl); (case hg => rfl); (case hr => first | (go_simp; done) | (go_simp; rfl)); intro gb521 hg w23 hbox hb; have n0_ := aK (zB (g := gb508) (o := .cells #[.int .u64 a0_0, .int .u64 a0_1, .bool a0_2] 82 (0, 0)) (BK508.out) hb); have n1_ := aK (zB (g := gb509) (o := .cells #[.int .u64 a1_0, .int .u64 a1_1, .bool a1_2] 82 (0, 0)) (BK509.out) hb); have n2_ := aK (zB (g := gb510) (o := .cells #[.int .i64 0, .int .i64 0] 33 (0, 0)) (BK510.out) hb); have n3_ := aK (zB (g := gb514) (o := .cells #[.int .u64 t511, .int .u64 t512, .bool t513] 82 (0, 0)) (BK514.out) hb); have ⟨n4_, n6_⟩ := zV (w := w) hb hg (by repeat (first | (with_reducible first | exact HB.out | apply yA | apply yN | apply yD | refine yS ?_ GE508.out | refine yS ?_ GE509.out | refine yS ?_ GE510.out | refine yS ?_ GE514.out) | exact HB.out)); have n5_ := aK (hbox); have n7_ := n6_; have n8_ := aK ((by rw [hg]; exact Nat.ne_of_lt (blk_lt (g := gb508) (o := .cells #[.int .u64 a0_0, .int .u64 a0_1, .bool a0_2] 82 (0, 0)) (BK508.out)) : gb508 ≠ gb521)); have n9_ := aK ((by rw [hg]; exact Nat.ne_of_gt (blk_lt (g := gb508) (o := .cells #[.int .u64 a0_0, .int .u64 a0_1, .bool a0_2] 82 (0, 0)) (BK508.out)) : gb521 ≠ gb508)); have n10_ := aK ((by rw [hg]; exact Nat.ne_of_lt (blk_lt (g := gb509) (o := .cells #[.int .u64 a1_0, .int .u64 a1_1, .bool a1_2] 82 (0, 0)) (BK509.out)) : gb509 ≠ gb521)); have n11_ := aK ((by rw [hg]; exact Nat.ne_of_gt (blk_lt (g := gb509) (o := .cells #[.int .u64 a1_0, .int .u64 a1_1, .bool a1_2] 82 (0, 0)) (BK509.out)) : gb521 ≠ gb509)); have n12_ := aK ((by rw [hg]; exact Nat.ne_of_lt (blk_lt (g := gb510) (o := .cells #[.int .i64 0, .int .i64 0] 33 (0, 0)) (BK510.out)) : gb510 ≠ gb521)); have n13_ := aK ((by rw [hg]; exact Nat.ne_of_gt (blk_lt (g := gb510) (o := .cells #[.int .i64 0, .int .i64 0] 33 (0, 0)) (BK510.out)) : gb521 ≠ gb510)); have n14_ := aK ((by rw [hg]; exact Nat.ne_of_lt (blk_lt (g := gb514) (o := .cells #[.int .u64 t511, .int .u64 t512, .bool t513] 82 (0, 0)) (BK514.out)) : gb514 ≠ gb521)); have n15_ := aK ((by rw [hg]; exact Nat.ne_of_gt (blk_lt (g := gb514) (o := .cells #[.int .u64 t511, .int .u64 t512, .bool t513] 82 (0, 0)) (BK514.out)) : gb521 ≠ gb514)); clear BK508; clear BK509; clear BK510; clear BK514; clear HB; have BK508 := n0_; have BK509 := n1_; have BK510 := n2_; have BK514 := n3_; have HB := n4_; have BK521 := n5_; have GW521 := n6_; have GE521 := n7_; have NB508_521 := n8_; have NB521_508 := n9_; have NB509_521 := n10_; have NB521_509 := n11_; have NB510_521 := n12_; have NB521_510 := n13_; have NB514_521 := n14_; have NB521_514 := n15_; clear n0_ n1_ n2_ n3_ n4_ n5_ n6_ n7_ n8_ n9_ n10_ n11_ n12_ n13_ n14_ n15_; clear hb hbox hg) | ((with_reducible refine gate_dst (N := 8) rfl ?_); refine box_event ?hg (N := 8) ?hd (cs := #[.int .u64 0, .int .u64 0, .bool false]) (t := 82) ?hr ?_; (case hd => rfl); (case hg => rfl); (case hr => first | (go_simp; done) | (go_simp; rfl)); intro gb522 hg w24 hbox hb; have n0_ := aK (zB (g := gb508) (o := .cells #[.int .u64 a0_0, .int .u64 a0_1, .bool a0_2] 82 (0, 0)) (BK508.out) hb); have n1_ := aK (zB (g := gb509) (o := .cells #[.int .u64 a1_0, .int .u64 a1_1, .bool a1_2] 82 (0, 0)) (BK509.out) hb); have n2_ := aK (zB (g := gb510) (o := .cells #[.int .i64 0, .int .i64 0] 33 (0, 0)) (BK510.out) hb); have n3_ := aK (zB (g := gb514) (o := .cells #[.int .u64 t511, .int .u64 t512, .bool t513] 82 (0, 0)) (BK514.out) hb); have n4_ := aK (zB (g := gb521) (o := .cells #[.int .u64 0, .int .u64 0, .bool false] 82 (0, 0)) (BK521.out) hb); have ⟨n5_, n7_⟩ := zV (w := w) hb hg (by repeat (first | (with_reducible first | exact HB.out | apply yA | apply yN | apply yD | refine yS ?_ GE508.out | refine yS ?_ GE509.out | refine yS ?_ GE510.out | refine yS ?_ GE514.out | refine yS ?_ GE521.out) | exact HB.out)); have n6_ := aK (hbox); have n8_ := n7_; have n9_ := aK ((by rw [hg]; exact Nat.ne_of_lt (blk_lt (g := gb508) (o := .cells #[.int .u64 a0_0, .int .u64 a0_1, .bool a0_2] 82 (0, 0)) (BK508.out)) : gb508 ≠ gb522)); have n10_ := aK ((by rw [hg]; exact Nat.ne_of_gt (blk_lt (g := gb508) (o := .cells #[.int .u64 a0_0, .int .u64 a0_1, .bool a0_2] 82 (0, 0)) (BK508.out)) : gb522 ≠ gb508)); have n11_ := aK ((by rw [hg]; exact Nat.ne_of_lt (blk_lt (g := gb509) (o := .cells #[.int .u64 a1_0, .int .u64 a1_1, .bool a1_2] 82 (0, 0)) (BK509.out)) : gb509 ≠ gb522)); have n12_ := aK ((by rw [hg]; exact Nat.ne_of_gt (blk_lt (g := gb509) (o := .cells #[.int .u64 a1_0, .int .u64 a1_1, .bool a1_2] 82 (0, 0)) (BK509.out)) : gb522 ≠ gb509)); have n13_ := aK ((by rw [hg]; exact Nat.ne_of_lt (blk_lt (g := gb510) (o := .cells #[.int .i64 0, .int .i64 0] 33 (0, 0)) (BK510.out)) : gb510 ≠ gb522)); have n14_ := aK ((by rw [hg]; exact Nat.ne_of_gt (blk_lt (g := gb510) (o := .cells #[.int .i64 0, .int .i64 0] 33 (0, 0)) (BK510.out)) : gb522 ≠ gb510)); have n15_ := aK ((by rw [hg]; exact Nat.ne_of_lt (blk_lt (g := gb514) (o := .cells #[.int .u64 t511, .int .u64 t512, .bool t513] 82 (0, 0)) (BK514.out)) : gb514 ≠ gb522)); have n16_ := aK ((by rw [hg]; exact Nat.ne_of_gt (blk_lt (g := gb514) (o := .cells #[.int .u64 t511, .int .u64 t512, .bool t513] 82 (0, 0)) (BK514.out)) : gb522 ≠ gb514)); have n17_ := aK ((by rw [hg]; exact Nat.ne_of_lt (blk_lt (g := gb521) (o := .cells #[.int .u64 0, .int .u64 0, .bool false] 82 (0, 0)) (BK521.out)) : gb521 ≠ gb522)); have n18_ := aK ((by rw [hg]; exact Nat.ne_of_gt (blk_lt (g := gb521) (o := .cells #[.int .u64 0, .int .u64 0, .bool false] 82 (0, 0)) (BK521.out)) : gb522 ≠ gb521)); clear BK508; clear BK509; clear BK510; clear BK514; clear BK521; clear HB; have BK508 := n0_; have BK509 := n1_; have BK510 := n2_; have BK514 := n3_; have BK521 := n4_; have HB := n5_; have BK522 := n6_; have GW522 := n7_; have GE522 := n8_; have NB508_522 := n9_; have NB522_508 := n10_; have NB509_522 := n11_; have NB522_509 := n12_; have NB510_522 := n13_; have NB522_510 := n14_; have NB514_522 := n15_; have NB522_514 := n16_; have NB521_522 := n17_; have NB522_521 := n18_; clear n0_ n1_ n2_ n3_ n4_ n5_ n6_ n7_ n8_ n9_ n10_ n11_ n12_ n13_ n14_ n15_ n16_ n17_ n18_; clear hb hbox hg; have hnb25 := NB521_508.out; have hnc25 := NB508_521.out; have hnb26 := NB521_509.out; have hnc26 := NB509_521.out; have hnb27 := NB521_510.out; have hnc27 := NB510_521.out; have hnb28 := NB521_514.out; have hnc28 := NB514_521.out; have hnb29 := NB521_522.out; have hnc29 := NB522_521.out; have hcz30_0 := zI BK521 0 rfl; have hcz30_1 := zI BK521 1 rfl; have hcz30_2 := zI BK521 2 rfl; have hfz30_0 := zF BK521.out 0; have hfz30_1 := zF BK521.out 1; have hfz30_2 := zF BK521.out 2; have hnb31 := NB522_508.out; have hnc31 := NB508_522.out; have hnb32 := NB522_509.out; have hnc32 := NB509_522.out; have hnb33 := NB522_510.out; have hnc33 := NB510_522.out; have hnb34 := NB522_514.out; have hnc34 := NB514_522.out; have hcz35_0 := zI BK522 0 rfl; have hcz35_1 := zI BK522 1 rfl; have hcz35_2 := zI BK522 2 rfl; have hfz35_0 := zF BK522.out 0; have hfz35_1 := zF BK522.out 1; have hfz35_2 := zF BK522.out 2; have hcz36_0 := zI BK509 0 rfl; have hcz36_1 := zI BK509 1 rfl; have hcz36_2 := zI BK509 2 rfl; have hfz36_0 := zF BK509.out 0; have hfz36_1 := zF BK509.out 1; have hfz36_2 := zF BK509.out 2; have hcz37_0 := zI BK514 0 rfl; have hcz37_1 := zI BK514 1 rfl; have hcz37_2 := zI BK514 2 rfl; have hfz37_0 := zF BK514.out 0; have hfz37_1 := zF BK514.out 1; have hfz37_2 := zF BK514.out 2) | ((with_reducible refine gate_callee (f := 92) rfl ?_); refine goesL_ (some 28) rfl rfl Try.func92 (by kernel_rfl) rfl #[.agg #[.int .u64 a1_0, .int .u64 a1_1, .bool a1_2], .agg #[.int .u64 t511, .int .u64 t512, .bool t513]] rfl (by (try simp only [List.map_toArray, List.map_cons, List.map_nil]); first | done | rfl | (simp only [List.length_drop, List.length_take]; rfl)) ?_; (with_reducible refine (gangsawref04_divide.calls k a1_0 a1_1 a1_2 t511 t512 t513 t523 t524 t525 t526 t527 t528 _ A5.out).mono ?_); rintro e w38 ⟨rfl, hb⟩; refine ⟨_, rfl, ?_⟩; have n0_ := aK (zB (g := gb508) (o := .cells #[.int .u64 a0_0, .int .u64 a0_1, .bool a0_2] 82 (0, 0)) (by refine blk_far ?_ NB508_522.out _; refine blk_far ?_ NB508_522.out _; refine blk_far ?_ NB508_522.out _; refine blk_far ?_ NB508_521.out _; refine blk_far ?_ NB508_521.out _; refine blk_far ?_ NB508_521.out _; exact BK508.out) hb); have n1_ := aK (zB (g := gb509) (o := .cells #[.int .u64 a1_0, .int .u64 a1_1, .bool a1_2] 82 (0, 0)) (by refine blk_far ?_ NB509_522.out _; refine blk_far ?_ NB509_522.out _; refine blk_far ?_ NB509_522.out _; refine blk_far ?_ NB509_521.out _; refine blk_far ?_ NB509_521.out _; refine blk_far ?_ NB509_521.out _; exact BK509.out) hb); have n2_ := aK (zB (g := gb510) (o := .cells #[.int .i64 0, .int .i64 0] 33 (0, 0)) (by refine blk_far ?_ NB510_522.out _; refine blk_far ?_ NB510_522.out _; refine blk_far ?_ NB510_522.out _; refine blk_far ?_ NB510_521.out _; refine blk_far ?_ NB510_521.out _; refine blk_far ?_ NB510_521.out _; exact BK510.out) hb); have n3_ := aK (zB (g := gb514) (o := .cells #[.int .u64 t511, .int .u64 t512, .bool t513] 82 (0, 0)) (by refine blk_far ?_ NB514_522.out _; refine blk_far ?_ NB514_522.out _; refine blk_far ?_ NB514_522.out _; refine blk_far ?_ NB514_521.out _; refine blk_far ?_ NB514_521.out _; refine blk_far ?_ NB514_521.out _; exact BK514.out) hb); have n4_ := aK (zB (g := gb521) (o := .cells #[.int .u64 t515, .int .u64 t516, .bool t517] 82 (0, 0)) (by refine blk_far ?_ NB521_522.out _; refine blk_far ?_ NB521_522.out _; refine blk_far ?_ NB521_522.out _; refine blk_put (cs := #[.int .u64 t515, .int .u64 t516, .bool false]) ?_ 2 _ rfl; refine blk_put (cs := #[.int .u64 t515, .int .u64 0, .bool false]) ?_ 1 _ rfl; refine blk_put (cs := #[.int .u64 0, .int .u64 0, .bool false]) ?_ 0 _ rfl; exact BK521.out) hb); have n5_ := aK (zB (g := gb522) (o := .cells #[.int .u64 t518, .int .u64 t519, .bool t520] 82 (0, 0)) (by refine blk_put (cs := #[.int .u64 t518, .int .u64 t519, .bool false]) ?_ 2 _ rfl; refine blk_put (cs := #[.int .u64 t518, .int .u64 0, .bool false]) ?_ 1 _ rfl; refine blk_put (cs := #[.int .u64 0, .int .u64 0, .bool false]) ?_ 0 _ rfl; refine blk_far ?_ NB522_521.out _; refine blk_far ?_ NB522_521.out _; refine blk_far ?_ NB522_521.out _; exact BK522.out) hb); have n6_ := aK (yT (by repeat (first | (with_reducible first | exact HB.out | apply yA | apply yN | apply yD | refine yS ?_ GE508.out | refine yS ?_ GE509.out | refine yS ?_ GE510.out | refine yS ?_ GE514.out | refine yS ?_ GE521.out | refine yS ?_ GE522.out) | exact HB.out)) hb); clear BK508; clear BK509; clear BK510; clear BK514; clear BK521; clear BK522; clear HB; have BK508 := n0_; have BK509 := n1_; have BK510 := n2_; have BK514 := n3_; have BK521 := n4_; have BK522 := n5_; have HB := n6_; clear n0_ n1_ n2_ n3_ n4_ n5_ n6_; (try clear hb)) | ((with_reducible refine gate_dst (N := 9) rfl ?_); refine box_event ?hg (N := 9) ?hd (cs := #[.int .u64 0, .int .u64 0, .bool false]) (t := 82) ?hr ?_; (case hd => rfl); (case hg => rfl); (case hr => first | (go_simp; done) | (go_simp; rfl)); intro gb529 hg w39 hbox hb; have n0_ := aK (zB (g := gb508) (o := .cells #[.int .u64 a0_0, .int .u64 a0_1, .bool a0_2] 82 (0, 0)) (BK508.out) hb); have n1_ := aK (zB (g := gb509) (o := .cells #[.int .u64 a1_0, .int .u64 a1_1, .bool a1_2] 82 (0, 0)) (BK509.out) hb); have n2_ := aK (zB (g := gb510) (o := .cells #[.int .i64 0, .int .i64 0] 33 (0, 0)) (BK510.out) hb); have n3_ := aK (zB (g := gb514) (o := .cells #[.int .u64 t511, .int .u64 t512, .bool t513] 82 (0, 0)) (BK514.out) hb); have n4_ := aK (zB (g := gb521) (o := .cells #[.int .u64 t515, .int .u64 t516, .bool t517] 82 (0, 0)) (BK521.out) hb); have n5_ := aK (zB (g := gb522) (o := .cells #[.int .u64 t518, .int .u64 t519, .bool t520] 82 (0, 0)) (BK522.out) hb); have ⟨n6_, n8_⟩ := zV (w := w) hb hg (by repeat (first | (with_reducible first | exact HB.out | apply yA | apply yN | apply yD | refine yS ?_ GE508.out | refine yS ?_ GE509.out | refine yS ?_ GE510.out | refine yS ?_ GE514.out | refine yS ?_ GE521.out | refine yS ?_ GE522.out) | exact HB.out)); have n7_ := aK (hbox); have n9_ := n8_; have n10_ := aK ((by rw [hg]; exact Nat.ne_of_lt (blk_lt (g := gb508) (o := .cells #[.int .u64 a0_0, .int .u64 a0_1, .bool a0_2] 82 (0, 0)) (BK508.out)) : gb508 ≠ gb529)); have n11_ := aK ((by rw [hg]; exact Nat.ne_of_gt (blk_lt (g := gb508) (o := .cells #[.int .u64 a0_0, .int .u64 a0_1, .bool a0_2] 82 (0, 0)) (BK508.out)) : gb529 ≠ gb508)); have n12_ := aK ((by rw [hg]; exact Nat.ne_of_lt (blk_lt (g := gb509) (o := .cells #[.int .u64 a1_0, .int .u64 a1_1, .bool a1_2] 82 (0, 0)) (BK509.out)) : gb509 ≠ gb529)); have n13_ := aK ((by rw [hg]; exact Nat.ne_of_gt (blk_lt (g := gb509) (o := .cells #[.int .u64 a1_0, .int .u64 a1_1, .bool a1_2] 82 (0, 0)) (BK509.out)) : gb529 ≠ gb509)); have n14_ := aK ((by rw [hg]; exact Nat.ne_of_lt (blk_lt (g := gb510) (o := .cells #[.int .i64 0, .int .i64 0] 33 (0, 0)) (BK510.out)) : gb510 ≠ gb529)); have n15_ := aK ((by rw [hg]; exact Nat.ne_of_gt (blk_lt (g := gb510) (o := .cells #[.int .i64 0, .int .i64 0] 33 (0, 0)) (BK510.out)) : gb529 ≠ gb510)); have n16_ := aK ((by rw [hg]; exact Nat.ne_of_lt (blk_lt (g := gb514) (o := .cells #[.int .u64 t511, .int .u64 t512, .bool t513] 82 (0, 0)) (BK514.out)) : gb514 ≠ gb529)); have n17_ := aK ((by rw [hg]; exact Nat.ne_of_gt (blk_lt (g := gb514) (o := .cells #[.int .u64 t511, .int .u64 t512, .bool t513] 82 (0, 0)) (BK514.out)) : gb529 ≠ gb514)); have n18_ := aK ((by rw [hg]; exact Nat.ne_of_lt (blk_lt (g := gb521) (o := .cells #[.int .u64 t515, .int .u64 t516, .bool t517] 82 (0, 0)) (BK521.out)) : gb521 ≠ gb529)); have n19_ := aK ((by rw [hg]; exact Nat.ne_of_gt (blk_lt (g := gb521) (o := .cells #[.int .u64 t515, .int .u64 t516, .bool t517] 82 (0, 0)) (BK521.out)) : gb529 ≠ gb521)); have n20_ := aK ((by rw [hg]; exact Nat.ne_of_lt (blk_lt (g := gb522) (o := .cells #[.int .u64 t518, .int .u64 t519, .bool t520] 82 (0, 0)) (BK522.out)) : gb522 ≠ gb529)); have n21_ := aK ((by rw [hg]; exact Nat.ne_of_gt (blk_lt (g := gb522) (o := .cells #[.int .u64 t518, .int .u64 t519, .bool t520] 82 (0, 0)) (BK522.out)) : gb529 ≠ gb522)); clear BK508; clear BK509; clear BK510; clear BK514; clear BK521; clear BK522; clear HB; have BK508 := n0_; have BK509 := n1_; have BK510 := n2_; have BK514 := n3_; have BK521 := n4_; have BK522 := n5_; have HB := n6_; have BK529 := n7_; have GW529 := n8_; have GE529 := n9_; have NB508_529 := n10_; have NB529_508 := n11_; have NB509_529 := n12_; have NB529_509 := n13_; have NB510_529 := n14_; have NB529_510 := n15_; have NB514_529 := n16_; have NB529_514 := n17_; have NB521_529 := n18_; have NB529_521 := n19_; have NB522_529 := n20_; have NB529_522 := n21_; clear n0_ n1_ n2_ n3_ n4_ n5_ n6_ n7_ n8_ n9_ n10_ n11_ n12_ n13_ n14_ n15_ n16_ n17_ n18_ n19_ n20_ n21_; clear hb hbox hg) | ((with_reducible refine gate_dst (N := 10) rfl ?_); refine box_event ?hg (N := 10) ?hd (cs := #[.int .u64 0, .int .u64 0, .bool false]) (t := 82) ?hr ?_; (case hd => rfl); (case hg => rfl); (case hr => first | (go_simp; done) | (go_simp; rfl)); intro gb530 hg w40 hbox hb; have n0_ := aK (zB (g := gb508) (o := .cells #[.int .u64 a0_0, .int .u64 a0_1, .bool a0_2] 82 (0, 0)) (BK508.out) hb); have n1_ := aK (zB (g := gb509) (o := .cells #[.int .u64 a1_0, .int .u64 a1_1, .bool a1_2] 82 (0, 0)) (BK509.out) hb); have n2_ := aK (zB (g := gb510) (o := .cells #[.int .i64 0, .int .i64 0] 33 (0, 0)) (BK510.out) hb); have n3_ := aK (zB (g := gb514) (o := .cells #[.int .u64 t511, .int .u64 t512, .bool t513] 82 (0, 0)) (BK514.out) hb); have n4_ := aK (zB (g := gb521) (o := .cells #[.int .u64 t515, .int .u64 t516, .bool t517] 82 (0, 0)) (BK521.out) hb); have n5_ := aK (zB (g := gb522) (o := .cells #[.int .u64 t518, .int .u64 t519, .bool t520] 82 (0, 0)) (BK522.out) hb); have n6_ := aK (zB (g := gb529) (o := .cells #[.int .u64 0, .int .u64 0, .bool false] 82 (0, 0)) (BK529.out) hb); have ⟨n7_, n9_⟩ := zV (w := w) hb hg (by repeat (first | (with_reducible first | exact HB.out | apply yA | apply yN | apply yD | refine yS ?_ GE508.out | refine yS ?_ GE509.out | refine yS ?_ GE510.out | refine yS ?_ GE514.out | refine yS ?_ GE521.out | refine yS ?_ GE522.out | refine yS ?_ GE529.out) | exact HB.out)); have n8_ := aK (hbox); have n10_ := n9_; have n11_ := aK ((by rw [hg]; exact Nat.ne_of_lt (blk_lt (g := gb508) (o := .cells #[.int .u64 a0_0, .int .u64 a0_1, .bool a0_2] 82 (0, 0)) (BK508.out)) : gb508 ≠ gb530)); have n12_ := aK ((by rw [hg]; exact Nat.ne_of_gt (blk_lt (g := gb508) (o := .cells #[.int .u64 a0_0, .int .u64 a0_1, .bool a0_2] 82 (0, 0)) (BK508.out)) : gb530 ≠ gb508)); have n13_ := aK ((by rw [hg]; exact Nat.ne_of_lt (blk_lt (g := gb509) (o := .cells #[.int .u64 a1_0, .int .u64 a1_1, .bool a1_2] 82 (0, 0)) (BK509.out)) : gb509 ≠ gb530)); have n14_ := aK ((by rw [hg]; exact Nat.ne_of_gt (blk_lt (g := gb509) (o := .cells #[.int .u64 a1_0, .int .u64 a1_1, .bool a1_2] 82 (0, 0)) (BK509.out)) : gb530 ≠ gb509)); have n15_ := aK ((by rw [hg]; exact Nat.ne_of_lt (blk_lt (g := gb510) (o := .cells #[.int .i64 0, .int .i64 0] 33 (0, 0)) (BK510.out)) : gb510 ≠ gb530)); have n16_ := aK ((by rw [hg]; exact Nat.ne_of_gt (blk_lt (g := gb510) (o := .cells #[.int .i64 0, .int .i64 0] 33 (0, 0)) (BK510.out)) : gb530 ≠ gb510)); have n17_ := aK ((by rw [hg]; exact Nat.ne_of_lt (blk_lt (g := gb514) (o := .cells #[.int .u64 t511, .int .u64 t512, .bool t513] 82 (0, 0)) (BK514.out)) : gb514 ≠ gb530)); have n18_ := aK ((by rw [hg]; exact Nat.ne_of_gt (blk_lt (g := gb514) (o := .cells #[.int .u64 t511, .int .u64 t512, .bool t513] 82 (0, 0)) (BK514.out)) : gb530 ≠ gb514)); have n19_ := aK ((by rw [hg]; exact Nat.ne_of_lt (blk_lt (g := gb521) (o := .cells #[.int .u64 t515, .int .u64 t516, .bool t517] 82 (0, 0)) (BK521.out)) : gb521 ≠ gb530)); have n20_ := aK ((by rw [hg]; exact Nat.ne_of_gt (blk_lt (g := gb521) (o := .cells #[.int .u64 t515, .int .u64 t516, .bool t517] 82 (0, 0)) (BK521.out)) : gb530 ≠ gb521)); have n21_ := aK ((by rw [hg]; exact Nat.ne_of_lt (blk_lt (g := gb522) (o := .cells #[.int .u64 t518, .int .u64 t519, .bool t520] 82 (0, 0)) (BK522.out)) : gb522 ≠ gb530)); have n22_ := aK ((by rw [hg]; exact Nat.ne_of_gt (blk_lt (g := gb522) (o := .cells #[.int .u64 t518, .int .u64 t519, .bool t520] 82 (0, 0)) (BK522.out)) : gb530 ≠ gb522)); have n23_ := aK ((by rw [hg]; exact Nat.ne_of_lt (blk_lt (g := gb529) (o := .cells #[.int .u64 0, .int .u64 0, .bool false] 82 (0, 0)) (BK529.out)) : gb529 ≠ gb530)); have n24_ := aK ((by rw [hg]; exact Nat.ne_of_gt (blk_lt (g := gb529) (o := .cells #[.int .u64 0, .int .u64 0, .bool false] 82 (0, 0)) (BK529.out)) : gb530 ≠ gb529)); clear BK508; clear BK509; clear BK510; clear BK514; clear BK521; clear BK522; clear BK529; clear HB; have BK508 := n0_; have BK509 := n1_; have BK510 := n2_; have BK514 := n3_; have BK521 := n4_; have BK522 := n5_; have BK529 := n6_; have HB := n7_; have BK530 := n8_; have GW530 := n9_; have GE530 := n10_; have NB508_530 := n11_; have NB530_508 := n12_; have NB509_530 := n13_; have NB530_509 := n14_; have NB510_530 := n15_; have NB530_510 := n16_; have NB514_530 := n17_; have NB530_514 := n18_; have NB521_530 := n19_; have NB530_521 := n20_; have NB522_530 := n21_; have NB530_522 := n22_; have NB529_530 := n23_; have NB530_529 := n24_; clear n0_ n1_ n2_ n3_ n4_ n5_ n6_ n7_ n8_ n9_ n10_ n11_ n12_ n13_ n14_ n15_ n16_ n17_ n18_ n19_ n20_ n21_ n22_ n23_ n24_; clear hb hbox hg; have hnb41 := NB529_508.out; have hnc41 := NB508_529.out; have hnb42 := NB529_509.out; have hnc42 := NB509_529.out; have hnb43 := NB529_510.out; have hnc43 := NB510_529.out; have hnb44 := NB529_514.out; have hnc44 := NB514_529.out; have hnb45 := NB529_521.out; have hnc45 := NB521_529.out; have hnb46 := NB529_522.out; have hnc46 := NB522_529.out; have hnb47 := NB529_530.out; have hnc47 := NB530_529.out; have hcz48_0 := zI BK529 0 rfl; have hcz48_1 := zI BK529 1 rfl; have hcz48_2 := zI BK529 2 rfl; have hfz48_0 := zF BK529.out 0; have hfz48_1 := zF BK529.out 1; have hfz48_2 := zF BK529.out 2; have hnb49 := NB530_508.out; have hnc49 := NB508_530.out; have hnb50 := NB530_509.out; have hnc50 := NB509_530.out; have hnb51 := NB530_510.out; have hnc51 := NB510_530.out; have hnb52 := NB530_514.out; have hnc52 := NB514_530.out; have hnb53 := NB530_521.out; have hnc53 := NB521_530.out; have hnb54 := NB530_522.out; have hnc54 := NB522_530.out; have hcz55_0 := zI BK530 0 rfl; have hcz55_1 := zI BK530 1 rfl; have hcz55_2 := zI BK530 2 rfl; have hfz55_0 := zF BK530.out 0; have hfz55_1 := zF BK530.out 1; have hfz55_2 := zF BK530.out 2))
 (try simp only [Act.put, sA, sZ, sS])
 go_cut [48] (fun v48 wc => ∃ (kq : Nat) (x48_5 : Bool), v48 = .bool x48_5 ∧ Aside0 (gangsawref04_lowest.j0 kq x48_5 a0_0 a0_1 a0_2 t515 t516 t517 t523 t524 t525 = some (r1, r2, r3)) ∧ Aside0 (kq ≤ k) ∧ Aside0 (wc.heap[gb508]? = some (.cells #[.int .u64 a0_0, .int .u64 a0_1, .bool a0_2] 82 (0, 0))) ∧ Aside0 (wc.heap[gb509]? = some (.cells #[.int .u64 a1_0, .int .u64 a1_1, .bool a1_2] 82 (0, 0))) ∧ Aside0 (wc.heap[gb510]? = some (.cells #[.int .i64 0, .int .i64 0] 33 (0, 0))) ∧ Aside0 (wc.heap[gb514]? = some (.cells #[.int .u64 t511, .int .u64 t512, .bool t513] 82 (0, 0))) ∧ Aside0 (wc.heap[gb521]? = some (.cells #[.int .u64 t515, .int .u64 t516, .bool t517] 82 (0, 0))) ∧ Aside0 (wc.heap[gb522]? = some (.cells #[.int .u64 t518, .int .u64 t519, .bool t520] 82 (0, 0))) ∧ Aside0 (wc.heap[gb529]? = some (.cells #[.int .u64 t523, .int .u64 t524, .bool t525] 82 (0, 0))) ∧ Aside0 (wc.heap[gb530]? = some (.cells #[.int .u64 t526, .int .u64 t527, .bool t528] 82 (0, 0))) ∧ Aside0 (Below w.heap.size w wc))
 case first =>
  have H := HC6.out
  clear HC6
  by_cases c56 : t515 > 0
  ·rw [if_pos c56] at H
   have c56b0 : decide (0 < t515) = true := decide_eq_true c56
   clear c56
   (first | rw [c56b0] | (simp only [i64_w, i32_w]; rw [c56b0]) | skip)
   have H' := aK H
   clear H
   have hnb57 := NB521_508.out
   have hnc57 := NB508_521.out
   have hnb58 := NB521_509.out
   have hnc58 := NB509_521.out
   have hnb59 := NB521_510.out
   have hnc59 := NB510_521.out
   have hnb60 := NB521_514.out
   have hnc60 := NB514_521.out
   have hnb61 := NB521_522.out
   have hnc61 := NB522_521.out
   have hnb62 := NB521_529.out
   have hnc62 := NB529_521.out
   have hnb63 := NB521_530.out
   have hnc63 := NB530_521.out
   have hcz64_0 := zI BK521 0 rfl
   have hcz64_1 := zI BK521 1 rfl
   have hcz64_2 := zI BK521 2 rfl
   have hfz64_0 := zF BK521.out 0
   have hfz64_1 := zF BK521.out 1
   have hfz64_2 := zF BK521.out 2
   go_wp2
   go_meet
   case rel => exact ⟨_, (true), (by first | rfl | (simp; done) | (simp [*]; done)), H', ⟨by first | omega | exact Nat.le_refl _⟩, ⟨by refine blk_far ?_ NB508_530.out _; refine blk_far ?_ NB508_530.out _; refine blk_far ?_ NB508_530.out _; refine blk_far ?_ NB508_529.out _; refine blk_far ?_ NB508_529.out _; refine blk_far ?_ NB508_529.out _; exact BK508.out⟩, ⟨by refine blk_far ?_ NB509_530.out _; refine blk_far ?_ NB509_530.out _; refine blk_far ?_ NB509_530.out _; refine blk_far ?_ NB509_529.out _; refine blk_far ?_ NB509_529.out _; refine blk_far ?_ NB509_529.out _; exact BK509.out⟩, ⟨by refine blk_far ?_ NB510_530.out _; refine blk_far ?_ NB510_530.out _; refine blk_far ?_ NB510_530.out _; refine blk_far ?_ NB510_529.out _; refine blk_far ?_ NB510_529.out _; refine blk_far ?_ NB510_529.out _; exact BK510.out⟩, ⟨by refine blk_far ?_ NB514_530.out _; refine blk_far ?_ NB514_530.out _; refine blk_far ?_ NB514_530.out _; refine blk_far ?_ NB514_529.out _; refine blk_far ?_ NB514_529.out _; refine blk_far ?_ NB514_529.out _; exact BK514.out⟩, ⟨by refine blk_far ?_ NB521_530.out _; refine blk_far ?_ NB521_530.out _; refine blk_far ?_ NB521_530.out _; refine blk_far ?_ NB521_529.out _; refine blk_far ?_ NB521_529.out _; refine blk_far ?_ NB521_529.out _; exact BK521.out⟩, ⟨by refine blk_far ?_ NB522_530.out _; refine blk_far ?_ NB522_530.out _; refine blk_far ?_ NB522_530.out _; refine blk_far ?_ NB522_529.out _; refine blk_far ?_ NB522_529.out _; refine blk_far ?_ NB522_529.out _; exact BK522.out⟩, ⟨by refine blk_far ?_ NB529_530.out _; refine blk_far ?_ NB529_530.out _; refine blk_far ?_ NB529_530.out _; refine blk_put (cs := #[.int .u64 t523, .int .u64 t524, .bool false]) ?_ 2 _ rfl; refine blk_put (cs := #[.int .u64 t523, .int .u64 0, .bool false]) ?_ 1 _ rfl; refine blk_put (cs := #[.int .u64 0, .int .u64 0, .bool false]) ?_ 0 _ rfl; exact BK529.out⟩, ⟨by refine blk_put (cs := #[.int .u64 t526, .int .u64 t527, .bool false]) ?_ 2 _ rfl; refine blk_put (cs := #[.int .u64 t526, .int .u64 0, .bool false]) ?_ 1 _ rfl; refine blk_put (cs := #[.int .u64 0, .int .u64 0, .bool false]) ?_ 0 _ rfl; refine blk_far ?_ NB530_529.out _; refine blk_far ?_ NB530_529.out _; refine blk_far ?_ NB530_529.out _; exact BK530.out⟩, ⟨by repeat (first | (with_reducible first | exact HB.out | apply yA | apply yN | apply yD | refine yS ?_ GE508.out | refine yS ?_ GE509.out | refine yS ?_ GE510.out | refine yS ?_ GE514.out | refine yS ?_ GE521.out | refine yS ?_ GE522.out | refine yS ?_ GE529.out | refine yS ?_ GE530.out) | exact HB.out)⟩⟩
  rw [if_neg c56] at H
  have c56b0 : decide (0 < t515) = false := decide_eq_false c56
  clear c56
  (first | rw [c56b0] | (simp only [i64_w, i32_w]; rw [c56b0]) | skip)
  by_cases c65 : t516 ≥ 1000000000000000000
  ·rw [if_pos c65] at H
   have c65b0 : decide (1000000000000000000 ≤ t516) = true := decide_eq_true c65
   clear c65
   have H' := aK H
   clear H
   have hnb66 := NB521_508.out
   have hnc66 := NB508_521.out
   have hnb67 := NB521_509.out
   have hnc67 := NB509_521.out
   have hnb68 := NB521_510.out
   have hnc68 := NB510_521.out
   have hnb69 := NB521_514.out
   have hnc69 := NB514_521.out
   have hnb70 := NB521_522.out
   have hnc70 := NB522_521.out
   have hnb71 := NB521_529.out
   have hnc71 := NB529_521.out
   have hnb72 := NB521_530.out
   have hnc72 := NB530_521.out
   have hcz73_0 := zI BK521 0 rfl
   have hcz73_1 := zI BK521 1 rfl
   have hcz73_2 := zI BK521 2 rfl
   have hfz73_0 := zF BK521.out 0
   have hfz73_1 := zF BK521.out 1
   have hfz73_2 := zF BK521.out 2
   go_wp2
   go_meet
   case rel => exact ⟨_, (true), (by first | rfl | (simp; done) | (simp [*]; done)), H', ⟨by first | omega | exact Nat.le_refl _⟩, ⟨by refine blk_far ?_ NB508_530.out _; refine blk_far ?_ NB508_530.out _; refine blk_far ?_ NB508_530.out _; refine blk_far ?_ NB508_529.out _; refine blk_far ?_ NB508_529.out _; refine blk_far ?_ NB508_529.out _; exact BK508.out⟩, ⟨by refine blk_far ?_ NB509_530.out _; refine blk_far ?_ NB509_530.out _; refine blk_far ?_ NB509_530.out _; refine blk_far ?_ NB509_529.out _; refine blk_far ?_ NB509_529.out _; refine blk_far ?_ NB509_529.out _; exact BK509.out⟩, ⟨by refine blk_far ?_ NB510_530.out _; refine blk_far ?_ NB510_530.out _; refine blk_far ?_ NB510_530.out _; refine blk_far ?_ NB510_529.out _; refine blk_far ?_ NB510_529.out _; refine blk_far ?_ NB510_529.out _; exact BK510.out⟩, ⟨by refine blk_far ?_ NB514_530.out _; refine blk_far ?_ NB514_530.out _; refine blk_far ?_ NB514_530.out _; refine blk_far ?_ NB514_529.out _; refine blk_far ?_ NB514_529.out _; refine blk_far ?_ NB514_529.out _; exact BK514.out⟩, ⟨by refine blk_far ?_ NB521_530.out _; refine blk_far ?_ NB521_530.out _; refine blk_far ?_ NB521_530.out _; refine blk_far ?_ NB521_529.out _; refine blk_far ?_ NB521_529.out _; refine blk_far ?_ NB521_529.out _; exact BK521.out⟩, ⟨by refine blk_far ?_ NB522_530.out _; refine blk_far ?_ NB522_530.out _; refine blk_far ?_ NB522_530.out _; refine blk_far ?_ NB522_529.out _; refine blk_far ?_ NB522_529.out _; refine blk_far ?_ NB522_529.out _; exact BK522.out⟩, ⟨by refine blk_far ?_ NB529_530.out _; refine blk_far ?_ NB529_530.out _; refine blk_far ?_ NB529_530.out _; refine blk_put (cs := #[.int .u64 t523, .int .u64 t524, .bool false]) ?_ 2 _ rfl; refine blk_put (cs := #[.int .u64 t523, .int .u64 0, .bool false]) ?_ 1 _ rfl; refine blk_put (cs := #[.int .u64 0, .int .u64 0, .bool false]) ?_ 0 _ rfl; exact BK529.out⟩, ⟨by refine blk_put (cs := #[.int .u64 t526, .int .u64 t527, .bool false]) ?_ 2 _ rfl; refine blk_put (cs := #[.int .u64 t526, .int .u64 0, .bool false]) ?_ 1 _ rfl; refine blk_put (cs := #[.int .u64 0, .int .u64 0, .bool false]) ?_ 0 _ rfl; refine blk_far ?_ NB530_529.out _; refine blk_far ?_ NB530_529.out _; refine blk_far ?_ NB530_529.out _; exact BK530.out⟩, ⟨by repeat (first | (with_reducible first | exact HB.out | apply yA | apply yN | apply yD | refine yS ?_ GE508.out | refine yS ?_ GE509.out | refine yS ?_ GE510.out | refine yS ?_ GE514.out | refine yS ?_ GE521.out | refine yS ?_ GE522.out | refine yS ?_ GE529.out | refine yS ?_ GE530.out) | exact HB.out)⟩⟩
  rw [if_neg c65] at H
  have c65b0 : decide (1000000000000000000 ≤ t516) = false := decide_eq_false c65
  clear c65
  by_cases c74 : t523 > 0
  ·rw [if_pos c74] at H
   have c74b0 : decide (0 < t523) = true := decide_eq_true c74
   clear c74
   have H' := aK H
   clear H
   have hnb75 := NB521_508.out
   have hnc75 := NB508_521.out
   have hnb76 := NB521_509.out
   have hnc76 := NB509_521.out
   have hnb77 := NB521_510.out
   have hnc77 := NB510_521.out
   have hnb78 := NB521_514.out
   have hnc78 := NB514_521.out
   have hnb79 := NB521_522.out
   have hnc79 := NB522_521.out
   have hnb80 := NB521_529.out
   have hnc80 := NB529_521.out
   have hnb81 := NB521_530.out
   have hnc81 := NB530_521.out
   have hcz82_0 := zI BK521 0 rfl
   have hcz82_1 := zI BK521 1 rfl
   have hcz82_2 := zI BK521 2 rfl
   have hfz82_0 := zF BK521.out 0
   have hfz82_1 := zF BK521.out 1
   have hfz82_2 := zF BK521.out 2
   have hnb83 := NB529_508.out
   have hnc83 := NB508_529.out
   have hnb84 := NB529_509.out
   have hnc84 := NB509_529.out
   have hnb85 := NB529_510.out
   have hnc85 := NB510_529.out
   have hnb86 := NB529_514.out
   have hnc86 := NB514_529.out
   have hnb87 := NB529_522.out
   have hnc87 := NB522_529.out
   have hnb88 := NB529_530.out
   have hnc88 := NB530_529.out
   have hcz89_0 := zI BK529 0 rfl
   have hcz89_1 := zI BK529 1 rfl
   have hcz89_2 := zI BK529 2 rfl
   have hfz89_0 := zF BK529.out 0
   have hfz89_1 := zF BK529.out 1
   have hfz89_2 := zF BK529.out 2
   go_wp2
   go_meet
   case rel => exact ⟨_, (true), (by first | rfl | (simp; done) | (simp [*]; done)), H', ⟨by first | omega | exact Nat.le_refl _⟩, ⟨by refine blk_far ?_ NB508_530.out _; refine blk_far ?_ NB508_530.out _; refine blk_far ?_ NB508_530.out _; refine blk_far ?_ NB508_529.out _; refine blk_far ?_ NB508_529.out _; refine blk_far ?_ NB508_529.out _; exact BK508.out⟩, ⟨by refine blk_far ?_ NB509_530.out _; refine blk_far ?_ NB509_530.out _; refine blk_far ?_ NB509_530.out _; refine blk_far ?_ NB509_529.out _; refine blk_far ?_ NB509_529.out _; refine blk_far ?_ NB509_529.out _; exact BK509.out⟩, ⟨by refine blk_far ?_ NB510_530.out _; refine blk_far ?_ NB510_530.out _; refine blk_far ?_ NB510_530.out _; refine blk_far ?_ NB510_529.out _; refine blk_far ?_ NB510_529.out _; refine blk_far ?_ NB510_529.out _; exact BK510.out⟩, ⟨by refine blk_far ?_ NB514_530.out _; refine blk_far ?_ NB514_530.out _; refine blk_far ?_ NB514_530.out _; refine blk_far ?_ NB514_529.out _; refine blk_far ?_ NB514_529.out _; refine blk_far ?_ NB514_529.out _; exact BK514.out⟩, ⟨by refine blk_far ?_ NB521_530.out _; refine blk_far ?_ NB521_530.out _; refine blk_far ?_ NB521_530.out _; refine blk_far ?_ NB521_529.out _; refine blk_far ?_ NB521_529.out _; refine blk_far ?_ NB521_529.out _; exact BK521.out⟩, ⟨by refine blk_far ?_ NB522_530.out _; refine blk_far ?_ NB522_530.out _; refine blk_far ?_ NB522_530.out _; refine blk_far ?_ NB522_529.out _; refine blk_far ?_ NB522_529.out _; refine blk_far ?_ NB522_529.out _; exact BK522.out⟩, ⟨by refine blk_far ?_ NB529_530.out _; refine blk_far ?_ NB529_530.out _; refine blk_far ?_ NB529_530.out _; refine blk_put (cs := #[.int .u64 t523, .int .u64 t524, .bool false]) ?_ 2 _ rfl; refine blk_put (cs := #[.int .u64 t523, .int .u64 0, .bool false]) ?_ 1 _ rfl; refine blk_put (cs := #[.int .u64 0, .int .u64 0, .bool false]) ?_ 0 _ rfl; exact BK529.out⟩, ⟨by refine blk_put (cs := #[.int .u64 t526, .int .u64 t527, .bool false]) ?_ 2 _ rfl; refine blk_put (cs := #[.int .u64 t526, .int .u64 0, .bool false]) ?_ 1 _ rfl; refine blk_put (cs := #[.int .u64 0, .int .u64 0, .bool false]) ?_ 0 _ rfl; refine blk_far ?_ NB530_529.out _; refine blk_far ?_ NB530_529.out _; refine blk_far ?_ NB530_529.out _; exact BK530.out⟩, ⟨by repeat (first | (with_reducible first | exact HB.out | apply yA | apply yN | apply yD | refine yS ?_ GE508.out | refine yS ?_ GE509.out | refine yS ?_ GE510.out | refine yS ?_ GE514.out | refine yS ?_ GE521.out | refine yS ?_ GE522.out | refine yS ?_ GE529.out | refine yS ?_ GE530.out) | exact HB.out)⟩⟩
  rw [if_neg c74] at H
  have c74b0 : decide (0 < t523) = false := decide_eq_false c74
  clear c74
  have H' := aK H
  clear H
  have hnb90 := NB521_508.out
  have hnc90 := NB508_521.out
  have hnb91 := NB521_509.out
  have hnc91 := NB509_521.out
  have hnb92 := NB521_510.out
  have hnc92 := NB510_521.out
  have hnb93 := NB521_514.out
  have hnc93 := NB514_521.out
  have hnb94 := NB521_522.out
  have hnc94 := NB522_521.out
  have hnb95 := NB521_529.out
  have hnc95 := NB529_521.out
  have hnb96 := NB521_530.out
  have hnc96 := NB530_521.out
  have hcz97_0 := zI BK521 0 rfl
  have hcz97_1 := zI BK521 1 rfl
  have hcz97_2 := zI BK521 2 rfl
  have hfz97_0 := zF BK521.out 0
  have hfz97_1 := zF BK521.out 1
  have hfz97_2 := zF BK521.out 2
  have hnb98 := NB529_508.out
  have hnc98 := NB508_529.out
  have hnb99 := NB529_509.out
  have hnc99 := NB509_529.out
  have hnb100 := NB529_510.out
  have hnc100 := NB510_529.out
  have hnb101 := NB529_514.out
  have hnc101 := NB514_529.out
  have hnb102 := NB529_522.out
  have hnc102 := NB522_529.out
  have hnb103 := NB529_530.out
  have hnc103 := NB530_529.out
  have hcz104_0 := zI BK529 0 rfl
  have hcz104_1 := zI BK529 1 rfl
  have hcz104_2 := zI BK529 2 rfl
  have hfz104_0 := zF BK529.out 0
  have hfz104_1 := zF BK529.out 1
  have hfz104_2 := zF BK529.out 2
  go_wp2
  go_meet
  case rel => exact ⟨_, (decide (t524 ≥ 1000000000000000000)), (by first | rfl | (simp; done) | (simp [*]; done)), H', ⟨by first | omega | exact Nat.le_refl _⟩, ⟨by refine blk_far ?_ NB508_530.out _; refine blk_far ?_ NB508_530.out _; refine blk_far ?_ NB508_530.out _; refine blk_far ?_ NB508_529.out _; refine blk_far ?_ NB508_529.out _; refine blk_far ?_ NB508_529.out _; exact BK508.out⟩, ⟨by refine blk_far ?_ NB509_530.out _; refine blk_far ?_ NB509_530.out _; refine blk_far ?_ NB509_530.out _; refine blk_far ?_ NB509_529.out _; refine blk_far ?_ NB509_529.out _; refine blk_far ?_ NB509_529.out _; exact BK509.out⟩, ⟨by refine blk_far ?_ NB510_530.out _; refine blk_far ?_ NB510_530.out _; refine blk_far ?_ NB510_530.out _; refine blk_far ?_ NB510_529.out _; refine blk_far ?_ NB510_529.out _; refine blk_far ?_ NB510_529.out _; exact BK510.out⟩, ⟨by refine blk_far ?_ NB514_530.out _; refine blk_far ?_ NB514_530.out _; refine blk_far ?_ NB514_530.out _; refine blk_far ?_ NB514_529.out _; refine blk_far ?_ NB514_529.out _; refine blk_far ?_ NB514_529.out _; exact BK514.out⟩, ⟨by refine blk_far ?_ NB521_530.out _; refine blk_far ?_ NB521_530.out _; refine blk_far ?_ NB521_530.out _; refine blk_far ?_ NB521_529.out _; refine blk_far ?_ NB521_529.out _; refine blk_far ?_ NB521_529.out _; exact BK521.out⟩, ⟨by refine blk_far ?_ NB522_530.out _; refine blk_far ?_ NB522_530.out _; refine blk_far ?_ NB522_530.out _; refine blk_far ?_ NB522_529.out _; refine blk_far ?_ NB522_529.out _; refine blk_far ?_ NB522_529.out _; exact BK522.out⟩, ⟨by refine blk_far ?_ NB529_530.out _; refine blk_far ?_ NB529_530.out _; refine blk_far ?_ NB529_530.out _; refine blk_put (cs := #[.int .u64 t523, .int .u64 t524, .bool false]) ?_ 2 _ rfl; refine blk_put (cs := #[.int .u64 t523, .int .u64 0, .bool false]) ?_ 1 _ rfl; refine blk_put (cs := #[.int .u64 0, .int .u64 0, .bool false]) ?_ 0 _ rfl; exact BK529.out⟩, ⟨by refine blk_put (cs := #[.int .u64 t526, .int .u64 t527, .bool false]) ?_ 2 _ rfl; refine blk_put (cs := #[.int .u64 t526, .int .u64 0, .bool false]) ?_ 1 _ rfl; refine blk_put (cs := #[.int .u64 0, .int .u64 0, .bool false]) ?_ 0 _ rfl; refine blk_far ?_ NB530_529.out _; refine blk_far ?_ NB530_529.out _; refine blk_far ?_ NB530_529.out _; exact BK530.out⟩, ⟨by repeat (first | (with_reducible first | exact HB.out | apply yA | apply yN | apply yD | refine yS ?_ GE508.out | refine yS ?_ GE509.out | refine yS ?_ GE510.out | refine yS ?_ GE514.out | refine yS ?_ GE521.out | refine yS ?_ GE522.out | refine yS ?_ GE529.out | refine yS ?_ GE530.out) | exact HB.out)⟩⟩
 case rest =>
  clear HC6
  try clear c1
  try clear c2
  try clear p2
  try clear c3
  try clear c4
  try clear c5
  try clear c6
  try clear c7
  try clear c8
  try clear c9
  try clear c10
  try clear c11
  try clear c13
  try clear c17
  try clear c18
  try clear c19
  try clear c25
  try clear c26
  try clear c27
  try clear c28
  try clear c29
  try clear c31
  try clear c32
  try clear c33
  try clear c34
  try clear c41
  try clear c42
  try clear c43
  try clear c44
  try clear c45
  try clear c46
  try clear c47
  try clear c49
  try clear c50
  try clear c51
  try clear c52
  try clear c53
  try clear c54
  try clear c56
  try clear c56b0
  try clear c57
  try clear c58
  try clear c59
  try clear c60
  try clear c61
  try clear c62
  try clear c63
  try clear c65
  try clear c65b0
  try clear c66
  try clear c67
  try clear c68
  try clear c69
  try clear c70
  try clear c71
  try clear c72
  try clear c74
  try clear c74b0
  try clear c75
  try clear c76
  try clear c77
  try clear c78
  try clear c79
  try clear c80
  try clear c81
  try clear c83
  try clear c84
  try clear c85
  try clear c86
  try clear c87
  try clear c88
  try clear c90
  try clear c91
  try clear c92
  try clear c93
  try clear c94
  try clear c95
  try clear c96
  try clear c98
  try clear c99
  try clear c100
  try clear c101
  try clear c102
  try clear c103
  try clear hcz104_0
  try clear hcz104_1
  try clear hcz104_2
  try clear hcz12_0
  try clear hcz12_1
  try clear hcz12_2
  try clear hcz14_0
  try clear hcz14_1
  try clear hcz14_2
  try clear hcz20_0
  try clear hcz20_1
  try clear hcz20_2
  try clear hcz21_0
  try clear hcz21_1
  try clear hcz21_2
  try clear hcz30_0
  try clear hcz30_1
  try clear hcz30_2
  try clear hcz35_0
  try clear hcz35_1
  try clear hcz35_2
  try clear hcz36_0
  try clear hcz36_1
  try clear hcz36_2
  try clear hcz37_0
  try clear hcz37_1
  try clear hcz37_2
  try clear hcz48_0
  try clear hcz48_1
  try clear hcz48_2
  try clear hcz55_0
  try clear hcz55_1
  try clear hcz55_2
  try clear hcz64_0
  try clear hcz64_1
  try clear hcz64_2
  try clear hcz73_0
  try clear hcz73_1
  try clear hcz73_2
  try clear hcz82_0
  try clear hcz82_1
  try clear hcz82_2
  try clear hcz89_0
  try clear hcz89_1
  try clear hcz89_2
  try clear hcz97_0
  try clear hcz97_1
  try clear hcz97_2
  try clear hfz104_0
  try clear hfz104_1
  try clear hfz104_2
  try clear hfz12_0
  try clear hfz12_1
  try clear hfz12_2
  try clear hfz14_0
  try clear hfz14_1
  try clear hfz14_2
  try clear hfz20_0
  try clear hfz20_1
  try clear hfz20_2
  try clear hfz21_0
  try clear hfz21_1
  try clear hfz21_2
  try clear hfz30_0
  try clear hfz30_1
  try clear hfz30_2
  try clear hfz35_0
  try clear hfz35_1
  try clear hfz35_2
  try clear hfz36_0
  try clear hfz36_1
  try clear hfz36_2
  try clear hfz37_0
  try clear hfz37_1
  try clear hfz37_2
  try clear hfz48_0
  try clear hfz48_1
  try clear hfz48_2
  try clear hfz55_0
  try clear hfz55_1
  try clear hfz55_2
  try clear hfz64_0
  try clear hfz64_1
  try clear hfz64_2
  try clear hfz73_0
  try clear hfz73_1
  try clear hfz73_2
  try clear hfz82_0
  try clear hfz82_1
  try clear hfz82_2
  try clear hfz89_0
  try clear hfz89_1
  try clear hfz89_2
  try clear hfz97_0
  try clear hfz97_1
  try clear hfz97_2
  obtain ⟨kq, x48_5, rfl, HA, HJ5, BK508, BK509, BK510, BK514, BK521, BK522, BK529, BK530, HB⟩ := hcut
  cases kq with
  | zero => exact absurd HA.out (by simp [gangsawref04_lowest.j0])
  | succ kj5 =>
   have H := HA.out
   clear HA
   simp only [gangsawref04_lowest.j0] at H
   by_cases c105 : x48_5 = true
   ·subst c105
    have H1 : (some (0, 0, 6)) = some (r1, r2, r3) := by rw [if_pos rfl] at H; exact H
    clear H
    have H := H1
    clear H1
    simp only [Option.some.injEq, Prod.mk.injEq] at H
    obtain ⟨rfl, rfl, rfl⟩ := H
    have hnb106 := NB510_508.out
    have hnc106 := NB508_510.out
    have hnb107 := NB510_509.out
    have hnc107 := NB509_510.out
    have hnb108 := NB510_514.out
    have hnc108 := NB514_510.out
    have hnb109 := NB510_521.out
    have hnc109 := NB521_510.out
    have hnb110 := NB510_522.out
    have hnc110 := NB522_510.out
    have hnb111 := NB510_529.out
    have hnc111 := NB529_510.out
    have hnb112 := NB510_530.out
    have hnc112 := NB530_510.out
    have hcz113_0 := zI BK510 0 rfl
    have hcz113_1 := zI BK510 1 rfl
    have hfz113_0 := zF BK510.out 0
    have hfz113_1 := zF BK510.out 1
    go_wp2
    refine bodyPost_ret (results_ct rfl _ _ gb510 33 #[.int .i64 0, .int .i64 0] (0, 0) _ rfl (by refine blk_put (cs := #[.int .i64 0, .int .i64 0]) ?_ 1 _ rfl; refine blk_put (cs := #[.int .i64 0, .int .i64 0]) ?_ 0 _ rfl; exact BK510.out) Try.underlying33 rfl (by kernel_rfl)) rfl ?_
    exact ⟨rfl, by repeat (first | (with_reducible first | exact HB.out | apply yA | apply yN | apply yD | refine yS ?_ GE508.out | refine yS ?_ GE509.out | refine yS ?_ GE510.out | refine yS ?_ GE514.out | refine yS ?_ GE521.out | refine yS ?_ GE522.out | refine yS ?_ GE529.out | refine yS ?_ GE530.out) | exact HB.out)⟩
   replace c105 := Bool.eq_false_iff.mpr c105
   subst c105
   have H1 : (if a0_2 = true then (some (wrap64 (-(wrap64 (t516))), wrap64 (t524), 0)) else (some (wrap64 (t516), wrap64 (t524), 0))) = some (r1, r2, r3) := by rw [if_neg (show ¬ (false = true) by decide)] at H; exact H
   clear H
   have H := H1
   clear H1
   by_cases c114 : a0_2 = true
   rotate_left
   ·replace c114 := Bool.eq_false_iff.mpr c114
    subst c114
    have H1 : (some (wrap64 (t516), wrap64 (t524), 0)) = some (r1, r2, r3) := by rw [if_neg (show ¬ (false = true) by decide)] at H; exact H
    clear H
    have H := H1
    clear H1
    simp only [Option.some.injEq, Prod.mk.injEq] at H
    obtain ⟨rfl, rfl, rfl⟩ := H
    have hnb151 := NB521_508.out
    have hnc151 := NB508_521.out
    have hnb152 := NB521_509.out
    have hnc152 := NB509_521.out
    have hnb153 := NB521_510.out
    have hnc153 := NB510_521.out
    have hnb154 := NB521_514.out
    have hnc154 := NB514_521.out
    have hnb155 := NB521_522.out
    have hnc155 := NB522_521.out
    have hnb156 := NB521_529.out
    have hnc156 := NB529_521.out
    have hnb157 := NB521_530.out
    have hnc157 := NB530_521.out
    have hcz158_0 := zI BK521 0 rfl
    have hcz158_1 := zI BK521 1 rfl
    have hcz158_2 := zI BK521 2 rfl
    have hfz158_0 := zF BK521.out 0
    have hfz158_1 := zF BK521.out 1
    have hfz158_2 := zF BK521.out 2
    have hnb159 := NB529_508.out
    have hnc159 := NB508_529.out
    have hnb160 := NB529_509.out
    have hnc160 := NB509_529.out
    have hnb161 := NB529_510.out
    have hnc161 := NB510_529.out
    have hnb162 := NB529_514.out
    have hnc162 := NB514_529.out
    have hnb163 := NB529_522.out
    have hnc163 := NB522_529.out
    have hnb164 := NB529_530.out
    have hnc164 := NB530_529.out
    have hcz165_0 := zI BK529 0 rfl
    have hcz165_1 := zI BK529 1 rfl
    have hcz165_2 := zI BK529 2 rfl
    have hfz165_0 := zF BK529.out 0
    have hfz165_1 := zF BK529.out 1
    have hfz165_2 := zF BK529.out 2
    go_wp2_with (first | ((with_reducible refine gate_dst (N := 11) rfl ?_); refine box_event ?hg (N := 11) ?hd (cs := #[.int .i64 0, .int .i64 0]) (t := 33) ?hr ?_; (case hd => rfl); (case hg => rfl); (case hr => first | (go_simp; done) | (go_simp; rfl)); intro gb531 hg w166 hbox hb; have n0_ := aK (zB (g := gb508) (o := .cells #[.int .u64 a0_0, .int .u64 a0_1, .bool false] 82 (0, 0)) (BK508.out) hb); have n1_ := aK (zB (g := gb509) (o := .cells #[.int .u64 a1_0, .int .u64 a1_1, .bool a1_2] 82 (0, 0)) (BK509.out) hb); have n2_ := aK (zB (g := gb510) (o := .cells #[.int .i64 0, .int .i64 0] 33 (0, 0)) (BK510.out) hb); have n3_ := aK (zB (g := gb514) (o := .cells #[.int .u64 t511, .int .u64 t512, .bool t513] 82 (0, 0)) (BK514.out) hb); have n4_ := aK (zB (g := gb521) (o := .cells #[.int .u64 t515, .int .u64 t516, .bool t517] 82 (0, 0)) (BK521.out) hb); have n5_ := aK (zB (g := gb522) (o := .cells #[.int .u64 t518, .int .u64 t519, .bool t520] 82 (0, 0)) (BK522.out) hb); have n6_ := aK (zB (g := gb529) (o := .cells #[.int .u64 t523, .int .u64 t524, .bool t525] 82 (0, 0)) (BK529.out) hb); have n7_ := aK (zB (g := gb530) (o := .cells #[.int .u64 t526, .int .u64 t527, .bool t528] 82 (0, 0)) (BK530.out) hb); have ⟨n8_, n10_⟩ := zV (w := w) hb hg (by repeat (first | (with_reducible first | exact HB.out | apply yA | apply yN | apply yD | refine yS ?_ GE508.out | refine yS ?_ GE509.out | refine yS ?_ GE510.out | refine yS ?_ GE514.out | refine yS ?_ GE521.out | refine yS ?_ GE522.out | refine yS ?_ GE529.out | refine yS ?_ GE530.out) | exact HB.out)); have n9_ := aK (hbox); have n11_ := n10_; have n12_ := aK ((by rw [hg]; exact Nat.ne_of_lt (blk_lt (g := gb508) (o := .cells #[.int .u64 a0_0, .int .u64 a0_1, .bool false] 82 (0, 0)) (BK508.out)) : gb508 ≠ gb531)); have n13_ := aK ((by rw [hg]; exact Nat.ne_of_gt (blk_lt (g := gb508) (o := .cells #[.int .u64 a0_0, .int .u64 a0_1, .bool false] 82 (0, 0)) (BK508.out)) : gb531 ≠ gb508)); have n14_ := aK ((by rw [hg]; exact Nat.ne_of_lt (blk_lt (g := gb509) (o := .cells #[.int .u64 a1_0, .int .u64 a1_1, .bool a1_2] 82 (0, 0)) (BK509.out)) : gb509 ≠ gb531)); have n15_ := aK ((by rw [hg]; exact Nat.ne_of_gt (blk_lt (g := gb509) (o := .cells #[.int .u64 a1_0, .int .u64 a1_1, .bool a1_2] 82 (0, 0)) (BK509.out)) : gb531 ≠ gb509)); have n16_ := aK ((by rw [hg]; exact Nat.ne_of_lt (blk_lt (g := gb510) (o := .cells #[.int .i64 0, .int .i64 0] 33 (0, 0)) (BK510.out)) : gb510 ≠ gb531)); have n17_ := aK ((by rw [hg]; exact Nat.ne_of_gt (blk_lt (g := gb510) (o := .cells #[.int .i64 0, .int .i64 0] 33 (0, 0)) (BK510.out)) : gb531 ≠ gb510)); have n18_ := aK ((by rw [hg]; exact Nat.ne_of_lt (blk_lt (g := gb514) (o := .cells #[.int .u64 t511, .int .u64 t512, .bool t513] 82 (0, 0)) (BK514.out)) : gb514 ≠ gb531)); have n19_ := aK ((by rw [hg]; exact Nat.ne_of_gt (blk_lt (g := gb514) (o := .cells #[.int .u64 t511, .int .u64 t512, .bool t513] 82 (0, 0)) (BK514.out)) : gb531 ≠ gb514)); have n20_ := aK ((by rw [hg]; exact Nat.ne_of_lt (blk_lt (g := gb521) (o := .cells #[.int .u64 t515, .int .u64 t516, .bool t517] 82 (0, 0)) (BK521.out)) : gb521 ≠ gb531)); have n21_ := aK ((by rw [hg]; exact Nat.ne_of_gt (blk_lt (g := gb521) (o := .cells #[.int .u64 t515, .int .u64 t516, .bool t517] 82 (0, 0)) (BK521.out)) : gb531 ≠ gb521)); have n22_ := aK ((by rw [hg]; exact Nat.ne_of_lt (blk_lt (g := gb522) (o := .cells #[.int .u64 t518, .int .u64 t519, .bool t520] 82 (0, 0)) (BK522.out)) : gb522 ≠ gb531)); have n23_ := aK ((by rw [hg]; exact Nat.ne_of_gt (blk_lt (g := gb522) (o := .cells #[.int .u64 t518, .int .u64 t519, .bool t520] 82 (0, 0)) (BK522.out)) : gb531 ≠ gb522)); have n24_ := aK ((by rw [hg]; exact Nat.ne_of_lt (blk_lt (g := gb529) (o := .cells #[.int .u64 t523, .int .u64 t524, .bool t525] 82 (0, 0)) (BK529.out)) : gb529 ≠ gb531)); have n25_ := aK ((by rw [hg]; exact Nat.ne_of_gt (blk_lt (g := gb529) (o := .cells #[.int .u64 t523, .int .u64 t524, .bool t525] 82 (0, 0)) (BK529.out)) : gb531 ≠ gb529)); have n26_ := aK ((by rw [hg]; exact Nat.ne_of_lt (blk_lt (g := gb530) (o := .cells #[.int .u64 t526, .int .u64 t527, .bool t528] 82 (0, 0)) (BK530.out)) : gb530 ≠ gb531)); have n27_ := aK ((by rw [hg]; exact Nat.ne_of_gt (blk_lt (g := gb530) (o := .cells #[.int .u64 t526, .int .u64 t527, .bool t528] 82 (0, 0)) (BK530.out)) : gb531 ≠ gb530)); clear BK508; clear BK509; clear BK510; clear BK514; clear BK521; clear BK522; clear BK529; clear BK530; clear HB; have BK508 := n0_; have BK509 := n1_; have BK510 := n2_; have BK514 := n3_; have BK521 := n4_; have BK522 := n5_; have BK529 := n6_; have BK530 := n7_; have HB := n8_; have BK531 := n9_; have GW531 := n10_; have GE531 := n11_; have NB508_531 := n12_; have NB531_508 := n13_; have NB509_531 := n14_; have NB531_509 := n15_; have NB510_531 := n16_; have NB531_510 := n17_; have NB514_531 := n18_; have NB531_514 := n19_; have NB521_531 := n20_; have NB531_521 := n21_; have NB522_531 := n22_; have NB531_522 := n23_; have NB529_531 := n24_; have NB531_529 := n25_; have NB530_531 := n26_; have NB531_530 := n27_; clear n0_ n1_ n2_ n3_ n4_ n5_ n6_ n7_ n8_ n9_ n10_ n11_ n12_ n13_ n14_ n15_ n16_ n17_ n18_ n19_ n20_ n21_ n22_ n23_ n24_ n25_ n26_ n27_; clear hb hbox hg; have hnb167 := NB531_508.out; have hnc167 := NB508_531.out; have hnb168 := NB531_509.out; have hnc168 := NB509_531.out; have hnb169 := NB531_510.out; have hnc169 := NB510_531.out; have hnb170 := NB531_514.out; have hnc170 := NB514_531.out; have hnb171 := NB531_521.out; have hnc171 := NB521_531.out; have hnb172 := NB531_522.out; have hnc172 := NB522_531.out; have hnb173 := NB531_529.out; have hnc173 := NB529_531.out; have hnb174 := NB531_530.out; have hnc174 := NB530_531.out; have hcz175_0 := zI BK531 0 rfl; have hcz175_1 := zI BK531 1 rfl; have hfz175_0 := zF BK531.out 0; have hfz175_1 := zF BK531.out 1; have hnb176 := NB508_509.out; have hnc176 := NB509_508.out; have hnb177 := NB508_510.out; have hnc177 := NB510_508.out; have hnb178 := NB508_514.out; have hnc178 := NB514_508.out; have hnb179 := NB508_522.out; have hnc179 := NB522_508.out; have hnb180 := NB508_530.out; have hnc180 := NB530_508.out; have hcz181_0 := zI BK508 0 rfl; have hcz181_1 := zI BK508 1 rfl; have hcz181_2 := zI BK508 2 rfl; have hfz181_0 := zF BK508.out 0; have hfz181_1 := zF BK508.out 1; have hfz181_2 := zF BK508.out 2; have hnb182 := NB510_509.out; have hnc182 := NB509_510.out; have hnb183 := NB510_514.out; have hnc183 := NB514_510.out; have hnb184 := NB510_522.out; have hnc184 := NB522_510.out; have hnb185 := NB510_530.out; have hnc185 := NB530_510.out; have hcz186_0 := zI BK510 0 rfl; have hcz186_1 := zI BK510 1 rfl; have hfz186_0 := zF BK510.out 0; have hfz186_1 := zF BK510.out 1))
    refine bodyPost_ret (results_ct rfl _ _ gb510 33 #[.int .i64 (wrap64 (t516)), .int .i64 (wrap64 (t524))] (0, 0) _ rfl (by refine blk_put (cs := #[.int .i64 (wrap64 (t516)), .int .i64 0]) ?_ 1 _ rfl; refine blk_put (cs := #[.int .i64 0, .int .i64 0]) ?_ 0 _ rfl; refine blk_far ?_ NB510_531.out _; refine blk_far ?_ NB510_531.out _; exact BK510.out) Try.underlying33 rfl (by kernel_rfl)) rfl ?_
    exact ⟨rfl, by repeat (first | (with_reducible first | exact HB.out | apply yA | apply yN | apply yD | refine yS ?_ GE508.out | refine yS ?_ GE509.out | refine yS ?_ GE510.out | refine yS ?_ GE514.out | refine yS ?_ GE521.out | refine yS ?_ GE522.out | refine yS ?_ GE529.out | refine yS ?_ GE530.out | refine yS ?_ GE531.out) | exact HB.out)⟩
   subst c114
   have H1 : (some (wrap64 (-(wrap64 (t516))), wrap64 (t524), 0)) = some (r1, r2, r3) := by rw [if_pos rfl] at H; exact H
   clear H
   have H := H1
   clear H1
   simp only [Option.some.injEq, Prod.mk.injEq] at H
   obtain ⟨rfl, rfl, rfl⟩ := H
   have hnb115 := NB521_508.out
   have hnc115 := NB508_521.out
   have hnb116 := NB521_509.out
   have hnc116 := NB509_521.out
   have hnb117 := NB521_510.out
   have hnc117 := NB510_521.out
   have hnb118 := NB521_514.out
   have hnc118 := NB514_521.out
   have hnb119 := NB521_522.out
   have hnc119 := NB522_521.out
   have hnb120 := NB521_529.out
   have hnc120 := NB529_521.out
   have hnb121 := NB521_530.out
   have hnc121 := NB530_521.out
   have hcz122_0 := zI BK521 0 rfl
   have hcz122_1 := zI BK521 1 rfl
   have hcz122_2 := zI BK521 2 rfl
   have hfz122_0 := zF BK521.out 0
   have hfz122_1 := zF BK521.out 1
   have hfz122_2 := zF BK521.out 2
   have hnb123 := NB529_508.out
   have hnc123 := NB508_529.out
   have hnb124 := NB529_509.out
   have hnc124 := NB509_529.out
   have hnb125 := NB529_510.out
   have hnc125 := NB510_529.out
   have hnb126 := NB529_514.out
   have hnc126 := NB514_529.out
   have hnb127 := NB529_522.out
   have hnc127 := NB522_529.out
   have hnb128 := NB529_530.out
   have hnc128 := NB530_529.out
   have hcz129_0 := zI BK529 0 rfl
   have hcz129_1 := zI BK529 1 rfl
   have hcz129_2 := zI BK529 2 rfl
   have hfz129_0 := zF BK529.out 0
   have hfz129_1 := zF BK529.out 1
   have hfz129_2 := zF BK529.out 2
   go_wp2_with (first | ((with_reducible refine gate_dst (N := 11) rfl ?_); refine box_event ?hg (N := 11) ?hd (cs := #[.int .i64 0, .int .i64 0]) (t := 33) ?hr ?_; (case hd => rfl); (case hg => rfl); (case hr => first | (go_simp; done) | (go_simp; rfl)); intro gb531 hg w130 hbox hb; have n0_ := aK (zB (g := gb508) (o := .cells #[.int .u64 a0_0, .int .u64 a0_1, .bool true] 82 (0, 0)) (BK508.out) hb); have n1_ := aK (zB (g := gb509) (o := .cells #[.int .u64 a1_0, .int .u64 a1_1, .bool a1_2] 82 (0, 0)) (BK509.out) hb); have n2_ := aK (zB (g := gb510) (o := .cells #[.int .i64 0, .int .i64 0] 33 (0, 0)) (BK510.out) hb); have n3_ := aK (zB (g := gb514) (o := .cells #[.int .u64 t511, .int .u64 t512, .bool t513] 82 (0, 0)) (BK514.out) hb); have n4_ := aK (zB (g := gb521) (o := .cells #[.int .u64 t515, .int .u64 t516, .bool t517] 82 (0, 0)) (BK521.out) hb); have n5_ := aK (zB (g := gb522) (o := .cells #[.int .u64 t518, .int .u64 t519, .bool t520] 82 (0, 0)) (BK522.out) hb); have n6_ := aK (zB (g := gb529) (o := .cells #[.int .u64 t523, .int .u64 t524, .bool t525] 82 (0, 0)) (BK529.out) hb); have n7_ := aK (zB (g := gb530) (o := .cells #[.int .u64 t526, .int .u64 t527, .bool t528] 82 (0, 0)) (BK530.out) hb); have ⟨n8_, n10_⟩ := zV (w := w) hb hg (by repeat (first | (with_reducible first | exact HB.out | apply yA | apply yN | apply yD | refine yS ?_ GE508.out | refine yS ?_ GE509.out | refine yS ?_ GE510.out | refine yS ?_ GE514.out | refine yS ?_ GE521.out | refine yS ?_ GE522.out | refine yS ?_ GE529.out | refine yS ?_ GE530.out) | exact HB.out)); have n9_ := aK (hbox); have n11_ := n10_; have n12_ := aK ((by rw [hg]; exact Nat.ne_of_lt (blk_lt (g := gb508) (o := .cells #[.int .u64 a0_0, .int .u64 a0_1, .bool true] 82 (0, 0)) (BK508.out)) : gb508 ≠ gb531)); have n13_ := aK ((by rw [hg]; exact Nat.ne_of_gt (blk_lt (g := gb508) (o := .cells #[.int .u64 a0_0, .int .u64 a0_1, .bool true] 82 (0, 0)) (BK508.out)) : gb531 ≠ gb508)); have n14_ := aK ((by rw [hg]; exact Nat.ne_of_lt (blk_lt (g := gb509) (o := .cells #[.int .u64 a1_0, .int .u64 a1_1, .bool a1_2] 82 (0, 0)) (BK509.out)) : gb509 ≠ gb531)); have n15_ := aK ((by rw [hg]; exact Nat.ne_of_gt (blk_lt (g := gb509) (o := .cells #[.int .u64 a1_0, .int .u64 a1_1, .bool a1_2] 82 (0, 0)) (BK509.out)) : gb531 ≠ gb509)); have n16_ := aK ((by rw [hg]; exact Nat.ne_of_lt (blk_lt (g := gb510) (o := .cells #[.int .i64 0, .int .i64 0] 33 (0, 0)) (BK510.out)) : gb510 ≠ gb531)); have n17_ := aK ((by rw [hg]; exact Nat.ne_of_gt (blk_lt (g := gb510) (o := .cells #[.int .i64 0, .int .i64 0] 33 (0, 0)) (BK510.out)) : gb531 ≠ gb510)); have n18_ := aK ((by rw [hg]; exact Nat.ne_of_lt (blk_lt (g := gb514) (o := .cells #[.int .u64 t511, .int .u64 t512, .bool t513] 82 (0, 0)) (BK514.out)) : gb514 ≠ gb531)); have n19_ := aK ((by rw [hg]; exact Nat.ne_of_gt (blk_lt (g := gb514) (o := .cells #[.int .u64 t511, .int .u64 t512, .bool t513] 82 (0, 0)) (BK514.out)) : gb531 ≠ gb514)); have n20_ := aK ((by rw [hg]; exact Nat.ne_of_lt (blk_lt (g := gb521) (o := .cells #[.int .u64 t515, .int .u64 t516, .bool t517] 82 (0, 0)) (BK521.out)) : gb521 ≠ gb531)); have n21_ := aK ((by rw [hg]; exact Nat.ne_of_gt (blk_lt (g := gb521) (o := .cells #[.int .u64 t515, .int .u64 t516, .bool t517] 82 (0, 0)) (BK521.out)) : gb531 ≠ gb521)); have n22_ := aK ((by rw [hg]; exact Nat.ne_of_lt (blk_lt (g := gb522) (o := .cells #[.int .u64 t518, .int .u64 t519, .bool t520] 82 (0, 0)) (BK522.out)) : gb522 ≠ gb531)); have n23_ := aK ((by rw [hg]; exact Nat.ne_of_gt (blk_lt (g := gb522) (o := .cells #[.int .u64 t518, .int .u64 t519, .bool t520] 82 (0, 0)) (BK522.out)) : gb531 ≠ gb522)); have n24_ := aK ((by rw [hg]; exact Nat.ne_of_lt (blk_lt (g := gb529) (o := .cells #[.int .u64 t523, .int .u64 t524, .bool t525] 82 (0, 0)) (BK529.out)) : gb529 ≠ gb531)); have n25_ := aK ((by rw [hg]; exact Nat.ne_of_gt (blk_lt (g := gb529) (o := .cells #[.int .u64 t523, .int .u64 t524, .bool t525] 82 (0, 0)) (BK529.out)) : gb531 ≠ gb529)); have n26_ := aK ((by rw [hg]; exact Nat.ne_of_lt (blk_lt (g := gb530) (o := .cells #[.int .u64 t526, .int .u64 t527, .bool t528] 82 (0, 0)) (BK530.out)) : gb530 ≠ gb531)); have n27_ := aK ((by rw [hg]; exact Nat.ne_of_gt (blk_lt (g := gb530) (o := .cells #[.int .u64 t526, .int .u64 t527, .bool t528] 82 (0, 0)) (BK530.out)) : gb531 ≠ gb530)); clear BK508; clear BK509; clear BK510; clear BK514; clear BK521; clear BK522; clear BK529; clear BK530; clear HB; have BK508 := n0_; have BK509 := n1_; have BK510 := n2_; have BK514 := n3_; have BK521 := n4_; have BK522 := n5_; have BK529 := n6_; have BK530 := n7_; have HB := n8_; have BK531 := n9_; have GW531 := n10_; have GE531 := n11_; have NB508_531 := n12_; have NB531_508 := n13_; have NB509_531 := n14_; have NB531_509 := n15_; have NB510_531 := n16_; have NB531_510 := n17_; have NB514_531 := n18_; have NB531_514 := n19_; have NB521_531 := n20_; have NB531_521 := n21_; have NB522_531 := n22_; have NB531_522 := n23_; have NB529_531 := n24_; have NB531_529 := n25_; have NB530_531 := n26_; have NB531_530 := n27_; clear n0_ n1_ n2_ n3_ n4_ n5_ n6_ n7_ n8_ n9_ n10_ n11_ n12_ n13_ n14_ n15_ n16_ n17_ n18_ n19_ n20_ n21_ n22_ n23_ n24_ n25_ n26_ n27_; clear hb hbox hg; have hnb131 := NB531_508.out; have hnc131 := NB508_531.out; have hnb132 := NB531_509.out; have hnc132 := NB509_531.out; have hnb133 := NB531_510.out; have hnc133 := NB510_531.out; have hnb134 := NB531_514.out; have hnc134 := NB514_531.out; have hnb135 := NB531_521.out; have hnc135 := NB521_531.out; have hnb136 := NB531_522.out; have hnc136 := NB522_531.out; have hnb137 := NB531_529.out; have hnc137 := NB529_531.out; have hnb138 := NB531_530.out; have hnc138 := NB530_531.out; have hcz139_0 := zI BK531 0 rfl; have hcz139_1 := zI BK531 1 rfl; have hfz139_0 := zF BK531.out 0; have hfz139_1 := zF BK531.out 1; have hnb140 := NB508_509.out; have hnc140 := NB509_508.out; have hnb141 := NB508_510.out; have hnc141 := NB510_508.out; have hnb142 := NB508_514.out; have hnc142 := NB514_508.out; have hnb143 := NB508_522.out; have hnc143 := NB522_508.out; have hnb144 := NB508_530.out; have hnc144 := NB530_508.out; have hcz145_0 := zI BK508 0 rfl; have hcz145_1 := zI BK508 1 rfl; have hcz145_2 := zI BK508 2 rfl; have hfz145_0 := zF BK508.out 0; have hfz145_1 := zF BK508.out 1; have hfz145_2 := zF BK508.out 2; have hnb146 := NB510_509.out; have hnc146 := NB509_510.out; have hnb147 := NB510_514.out; have hnc147 := NB514_510.out; have hnb148 := NB510_522.out; have hnc148 := NB522_510.out; have hnb149 := NB510_530.out; have hnc149 := NB530_510.out; have hcz150_0 := zI BK510 0 rfl; have hcz150_1 := zI BK510 1 rfl; have hfz150_0 := zF BK510.out 0; have hfz150_1 := zF BK510.out 1))
   refine bodyPost_ret (results_ct rfl _ _ gb510 33 #[.int .i64 (wrap64 (-(wrap64 (t516)))), .int .i64 (wrap64 (t524))] (0, 0) _ rfl (by refine blk_put (cs := #[.int .i64 (wrap64 (-(wrap64 (t516)))), .int .i64 0]) ?_ 1 _ rfl; refine blk_put (cs := #[.int .i64 0, .int .i64 0]) ?_ 0 _ rfl; refine blk_far ?_ NB510_531.out _; refine blk_far ?_ NB510_531.out _; refine blk_far ?_ NB510_531.out _; exact BK510.out) Try.underlying33 rfl (by kernel_rfl)) rfl ?_
   exact ⟨rfl, by repeat (first | (with_reducible first | exact HB.out | apply yA | apply yN | apply yD | refine yS ?_ GE508.out | refine yS ?_ GE509.out | refine yS ?_ GE510.out | refine yS ?_ GE514.out | refine yS ?_ GE521.out | refine yS ?_ GE522.out | refine yS ?_ GE529.out | refine yS ?_ GE530.out | refine yS ?_ GE531.out) | exact HB.out)⟩

end Go.Proofs.Ythkpgjjakdbbfaa.P
