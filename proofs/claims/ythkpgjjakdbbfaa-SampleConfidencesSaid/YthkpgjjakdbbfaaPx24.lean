/- What functions of the program return: each contract says so of one function, for every input at which its pure function yields. -/
import Derived.Test.YthkpgjjakdbbfaaPx0
import Derived.Test.YthkpgjjakdbbfaaPx23
namespace Go.Proofs.Ythkpgjjakdbbfaa.P
open Go.RowKit Go.Proofs.YthkpgjjakdbbfaaW.PrintWords Go.Proofs.YthkpgjjakdbbfaaW.PrintLast Go.Proofs.YthkpgjjakdbbfaaW.PrintMore
attribute [local go_sem] max2_int min2_int max_two min_two max_three min_three max_four min_four   -- for this text's walks alone
set_option linter.unusedVariables false
set_option linter.unusedSimpArgs false

def gangsawref04_divide.l0 : Nat → Int → Int → Int → Bool → Int → Int → Bool → Int → Int → Bool → Int → Int → Bool → Option (Int × Int × Bool × Int × Int × Bool)
 | 0, _, _, _, _, _, _, _, _, _, _, _, _, _ => none
 | k + 1, x8, x486000, x486001, x486002, x487000, x487001, x487002, x490000, x490001, x490002, x491000, x491001, x491002 => if x8 ≥ 0 then ((gangsawref04_wide_bit.f x486000 x486001 x486002 x8).bind fun t491 => ((gangsawref04_above.f x487000 x487001 x487002 (Go.bits .or .u64 (IntKind.u64.wrap (x491000 * 2)) (x491001 / 9223372036854775808)) (Go.bits .or .u64 (IntKind.u64.wrap (x491001 * 2)) t491) false).bind fun t492 => (if t492 = true then (gangsawref04_divide.l0 k (wrap64 (x8 - 1)) x486000 x486001 x486002 x487000 x487001 x487002 (Go.bits .or .u64 (IntKind.u64.wrap (x490000 * 2)) (x490001 / 9223372036854775808)) (IntKind.u64.wrap (x490001 * 2)) false (Go.bits .or .u64 (IntKind.u64.wrap (x491000 * 2)) (x491001 / 9223372036854775808)) (Go.bits .or .u64 (IntKind.u64.wrap (x491001 * 2)) t491) false) else ((gangsawref04_plus.f (Go.bits .or .u64 (IntKind.u64.wrap (x491000 * 2)) (x491001 / 9223372036854775808)) (Go.bits .or .u64 (IntKind.u64.wrap (x491001 * 2)) t491) false x487000 x487001 true).bind fun bt493 => (gangsawref04_divide.l0 k (wrap64 (x8 - 1)) x486000 x486001 x486002 x487000 x487001 x487002 (Go.bits .or .u64 (IntKind.u64.wrap (x490000 * 2)) (x490001 / 9223372036854775808)) (Go.bits .or .u64 (IntKind.u64.wrap (x490001 * 2)) 1) false bt493.1 bt493.2.1 bt493.2.2))))) else (some (x490000, x490001, x490002, x491000, x491001, x491002))
def gangsawref04_divide.f (k : Nat) (a0_0 : Int) (a0_1 : Int) (a0_2 : Bool) (a1_0 : Int) (a1_1 : Int) (a1_2 : Bool) : Option (Int × Int × Bool × Int × Int × Bool) := gangsawref04_divide.l0 k 127 a0_0 a0_1 a0_2 a1_0 a1_1 a1_2 0 0 false 0 0 false
def gangsawref04_divide.T5 : Bool × List (List Nat × List Nat) := (true, [([], []), ([0], [0]), ([1], [1]), ([], []), ([3], [3]), ([4], [4]), ([2, 5], [2, 5]), ([], []), ([7], [7]), ([8], [8]), ([], []), ([], []), ([10, 11], [10, 11]), ([9, 12], [9, 12]), ([6, 13], [6, 13]), ([14, 12, 0, 1, 2, 3, 4, 5, 6, 7, 8, 9, 10, 11, 12, 13, 14], [14])])
def gangsawref04_divide.B5 : List Nat := [0, 1, 3, 0, 8, 24, 63, 0, 128, 384, 0, 0, 3072, 8064, 16383, 32767]
theorem gangsawref04_divide.tab5 : rtab .any (opsOf Try.f92 5) = gangsawref04_divide.T5 := by kernel_rfl
theorem gangsawref04_divide.bits5 : waitsOk gangsawref04_divide.T5.2 gangsawref04_divide.B5 = true := by kernel_rfl
set_option maxHeartbeats 8000000 in
set_option maxRecDepth 100000 in
theorem gangsawref04_divide.calls (k : Nat) (a0_0 : Int) (a0_1 : Int) (a0_2 : Bool) (a1_0 : Int) (a1_1 : Int) (a1_2 : Bool) (r1 : Int) (r2 : Int) (r3 : Bool) (r4 : Int) (r5 : Int) (r6 : Bool) (w : World) (h : gangsawref04_divide.f k a0_0 a0_1 a0_2 a1_0 a1_1 a1_2 = some (r1, r2, r3, r4, r5, r6)) :
  Calls Try.prog 92 #[.agg #[.int .u64 a0_0, .int .u64 a0_1, .bool a0_2], .agg #[.int .u64 a1_0, .int .u64 a1_1, .bool a1_2]] w fun e w' => e = .returned (.tuple #[.agg #[.int .u64 r1, .int .u64 r2, .bool r3], .agg #[.int .u64 r4, .int .u64 r5, .bool r6]]) ∧ Below w.heap.size w w' := by
 have hu82 := Try.underlying82
 have HB := aK (Below.refl w.heap.size w)
 have H : (gangsawref04_divide.l0 k 127 a0_0 a0_1 a0_2 a1_0 a1_1 a1_2 0 0 false 0 0 false) = some (r1, r2, r3, r4, r5, r6) := h
 clear h
 have H' := aK H
 clear H
 go_enter Try.func92, Try.ntmps92
 go_wp2_with (first | ((with_reducible refine gate_dst (N := 2) rfl ?_); refine box_event ?hg (N := 2) ?hd (cs := #[.int .u64 a0_0, .int .u64 a0_1, .bool a0_2]) (t := 82) ?hr ?_; (case hd => rfl); (case hg => rfl); (case hr => first | (go_simp; done) | (go_simp; rfl)); intro gb485 hg w3 hbox hb; have ⟨n0_, n2_⟩ := zV (w := w) hb hg (by repeat (first | (with_reducible first | exact HB.out | apply yA | apply yN | apply yD) | exact HB.out)); have n1_ := aK (hbox); have n3_ := n2_; clear HB; have HB := n0_; have BK485 := n1_; have GW485 := n2_; have GE485 := n3_; clear n0_ n1_ n2_ n3_; clear hb hbox hg) | ((with_reducible refine gate_dst (N := 3) rfl ?_); refine box_event ?hg (N := 3) ?hd (cs := #[.int .u64 a1_0, .int .u64 a1_1, .bool a1_2]) (t := 82) ?hr ?_; (case hd => rfl); (case hg => rfl); (case hr => first | (go_simp; done) | (go_simp; rfl)); intro gb486 hg w4 hbox hb; have n0_ := aK (zB (g := gb485) (o := .cells #[.int .u64 a0_0, .int .u64 a0_1, .bool a0_2] 82 (0, 0)) (BK485.out) hb); have ⟨n1_, n3_⟩ := zV (w := w) hb hg (by repeat (first | (with_reducible first | exact HB.out | apply yA | apply yN | apply yD | refine yS ?_ GE485.out) | exact HB.out)); have n2_ := aK (hbox); have n4_ := n3_; have n5_ := aK ((by rw [hg]; exact Nat.ne_of_lt (blk_lt (g := gb485) (o := .cells #[.int .u64 a0_0, .int .u64 a0_1, .bool a0_2] 82 (0, 0)) (BK485.out)) : gb485 ≠ gb486)); have n6_ := aK ((by rw [hg]; exact Nat.ne_of_gt (blk_lt (g := gb485) (o := .cells #[.int .u64 a0_0, .int .u64 a0_1, .bool a0_2] 82 (0, 0)) (BK485.out)) : gb486 ≠ gb485)); clear BK485; clear HB; have BK485 := n0_; have HB := n1_; have BK486 := n2_; have GW486 := n3_; have GE486 := n4_; have NB485_486 := n5_; have NB486_485 := n6_; clear n0_ n1_ n2_ n3_ n4_ n5_ n6_; clear hb hbox hg) | ((with_reducible refine gate_dst (N := 4) rfl ?_); refine box_event ?hg (N := 4) ?hd (cs := #[.int .u64 0, .int .u64 0, .bool false]) (t := 82) ?hr ?_; (case hd => rfl); (case hg => rfl); (case hr => first | (go_simp; done) | (go_simp; rfl)); intro gb487 hg w5 hbox hb; have n0_ := aK (zB (g := gb485) (o := .cells #[.int .u64 a0_0, .int .u64 a0_1, .bool a0_2] 82 (0, 0)) (BK485.out) hb); have n1_ := aK (zB (g := gb486) (o := .cells #[.int .u64 a1_0, .int .u64 a1_1, .bool a1_2] 82 (0, 0)) (BK486.out) hb); have ⟨n2_, n4_⟩ := zV (w := w) hb hg (by repeat (first | (with_reducible first | exact HB.out | apply yA | apply yN | apply yD | refine yS ?_ GE485.out | refine yS ?_ GE486.out) | exact HB.out)); have n3_ := aK (hbox); have n5_ := n4_; have n6_ := aK ((by rw [hg]; exact Nat.ne_of_lt (blk_lt (g := gb485) (o := .cells #[.int .u64 a0_0, .int .u64 a0_1, .bool a0_2] 82 (0, 0)) (BK485.out)) : gb485 ≠ gb487)); have n7_ := aK ((by rw [hg]; exact Nat.ne_of_gt (blk_lt (g := gb485) (o := .cells #[.int .u64 a0_0, .int .u64 a0_1, .bool a0_2] 82 (0, 0)) (BK485.out)) : gb487 ≠ gb485)); have n8_ := aK ((by rw [hg]; exact Nat.ne_of_lt (blk_lt (g := gb486) (o := .cells #[.int .u64 a1_0, .int .u64 a1_1, .bool a1_2] 82 (0, 0)) (BK486.out)) : gb486 ≠ gb487)); have n9_ := aK ((by rw [hg]; exact Nat.ne_of_gt (blk_lt (g := gb486) (o := .cells #[.int .u64 a1_0, .int .u64 a1_1, .bool a1_2] 82 (0, 0)) (BK486.out)) : gb487 ≠ gb486)); clear BK485; clear BK486; clear HB; have BK485 := n0_; have BK486 := n1_; have HB := n2_; have BK487 := n3_; have GW487 := n4_; have GE487 := n5_; have NB485_487 := n6_; have NB487_485 := n7_; have NB486_487 := n8_; have NB487_486 := n9_; clear n0_ n1_ n2_ n3_ n4_ n5_ n6_ n7_ n8_ n9_; clear hb hbox hg) | ((with_reducible refine gate_dst (N := 5) rfl ?_); refine box_event ?hg (N := 5) ?hd (cs := #[.int .u64 0, .int .u64 0, .bool false]) (t := 82) ?hr ?_; (case hd => rfl); (case hg => rfl); (case hr => first | (go_simp; done) | (go_simp; rfl)); intro gb488 hg w6 hbox hb; have n0_ := aK (zB (g := gb485) (o := .cells #[.int .u64 a0_0, .int .u64 a0_1, .bool a0_2] 82 (0, 0)) (BK485.out) hb); have n1_ := aK (zB (g := gb486) (o := .cells #[.int .u64 a1_0, .int .u64 a1_1, .bool a1_2] 82 (0, 0)) (BK486.out) hb); have n2_ := aK (zB (g := gb487) (o := .cells #[.int .u64 0, .int .u64 0, .bool false] 82 (0, 0)) (BK487.out) hb); have ⟨n3_, n5_⟩ := zV (w := w) hb hg (by repeat (first | (with_reducible first | exact HB.out | apply yA | apply yN | apply yD | refine yS ?_ GE485.out | refine yS ?_ GE486.out | refine yS ?_ GE487.out) | exact HB.out)); have n4_ := aK (hbox); have n6_ := n5_; have n7_ := aK ((by rw [hg]; exact Nat.ne_of_lt (blk_lt (g := gb485) (o := .cells #[.int .u64 a0_0, .int .u64 a0_1, .bool a0_2] 82 (0, 0)) (BK485.out)) : gb485 ≠ gb488)); have n8_ := aK ((by rw [hg]; exact Nat.ne_of_gt (blk_lt (g := gb485) (o := .cells #[.int .u64 a0_0, .int .u64 a0_1, .bool a0_2] 82 (0, 0)) (BK485.out)) : gb488 ≠ gb485)); have n9_ := aK ((by rw [hg]; exact Nat.ne_of_lt (blk_lt (g := gb486) (o := .cells #[.int .u64 a1_0, .int .u64 a1_1, .bool a1_2] 82 (0, 0)) (BK486.out)) : gb486 ≠ gb488)); have n10_ := aK ((by rw [hg]; exact Nat.ne_of_gt (blk_lt (g := gb486) (o := .cells #[.int .u64 a1_0, .int .u64 a1_1, .bool a1_2] 82 (0, 0)) (BK486.out)) : gb488 ≠ gb486)); have n11_ := aK ((by rw [hg]; exact Nat.ne_of_lt (blk_lt (g := gb487) (o := .cells #[.int .u64 0, .int .u64 0, .bool false] 82 (0, 0)) (BK487.out)) : gb487 ≠ gb488)); have n12_ := aK ((by rw [hg]; exact Nat.ne_of_gt (blk_lt (g := gb487) (o := .cells #[.int .u64 0, .int .u64 0, .bool false] 82 (0, 0)) (BK487.out)) : gb488 ≠ gb487)); clear BK485; clear BK486; clear BK487; clear HB; have BK485 := n0_; have BK486 := n1_; have BK487 := n2_; have HB := n3_; have BK488 := n4_; have GW488 := n5_; have GE488 := n6_; have NB485_488 := n7_; have NB488_485 := n8_; have NB486_488 := n9_; have NB488_486 := n10_; have NB487_488 := n11_; have NB488_487 := n12_; clear n0_ n1_ n2_ n3_ n4_ n5_ n6_ n7_ n8_ n9_ n10_ n11_ n12_; clear hb hbox hg) | ((with_reducible refine gate_dst (N := 6) rfl ?_); refine box_event ?hg (N := 6) ?hd (cs := #[.int .u64 0, .int .u64 0, .bool false]) (t := 82) ?hr ?_; (case hd => rfl); (case hg => rfl); (case hr => first | (go_simp; done) | (go_simp; rfl)); intro gb489 hg w7 hbox hb; have n0_ := aK (zB (g := gb485) (o := .cells #[.int .u64 a0_0, .int .u64 a0_1, .bool a0_2] 82 (0, 0)) (BK485.out) hb); have n1_ := aK (zB (g := gb486) (o := .cells #[.int .u64 a1_0, .int .u64 a1_1, .bool a1_2] 82 (0, 0)) (BK486.out) hb); have n2_ := aK (zB (g := gb487) (o := .cells #[.int .u64 0, .int .u64 0, .bool false] 82 (0, 0)) (BK487.out) hb); have n3_ := aK (zB (g := gb488) (o := .cells #[.int .u64 0, .int .u64 0, .bool false] 82 (0, 0)) (BK488.out) hb); have ⟨n4_, n6_⟩ := zV (w := w) hb hg (by repeat (first | (with_reducible first | exact HB.out | apply yA | apply yN | apply yD | refine yS ?_ GE485.out | refine yS ?_ GE486.out | refine yS ?_ GE487.out | refine yS ?_ GE488.out) | exact HB.out)); have n5_ := aK (hbox); have n7_ := n6_; have n8_ := aK ((by rw [hg]; exact Nat.ne_of_lt (blk_lt (g := gb485) (o := .cells #[.int .u64 a0_0, .int .u64 a0_1, .bool a0_2] 82 (0, 0)) (BK485.out)) : gb485 ≠ gb489)); have n9_ := aK ((by rw [hg]; exact Nat.ne_of_gt (blk_lt (g := gb485) (o := .cells #[.int .u64 a0_0, .int .u64 a0_1, .bool a0_2] 82 (0, 0)) (BK485.out)) : gb489 ≠ gb485)); have n10_ := aK ((by rw [hg]; exact Nat.ne_of_lt (blk_lt (g := gb486) (o := .cells #[.int .u64 a1_0, .int .u64 a1_1, .bool a1_2] 82 (0, 0)) (BK486.out)) : gb486 ≠ gb489)); have n11_ := aK ((by rw [hg]; exact Nat.ne_of_gt (blk_lt (g := gb486) (o := .cells #[.int .u64 a1_0, .int .u64 a1_1, .bool a1_2] 82 (0, 0)) (BK486.out)) : gb489 ≠ gb486)); have n12_ := aK ((by rw [hg]; exact Nat.ne_of_lt (blk_lt (g := gb487) (o := .cells #[.int .u64 0, .int .u64 0, .bool false] 82 (0, 0)) (BK487.out)) : gb487 ≠ gb489)); have n13_ := aK ((by rw [hg]; exact Nat.ne_of_gt (blk_lt (g := gb487) (o := .cells #[.int .u64 0, .int .u64 0, .bool false] 82 (0, 0)) (BK487.out)) : gb489 ≠ gb487)); have n14_ := aK ((by rw [hg]; exact Nat.ne_of_lt (blk_lt (g := gb488) (o := .cells #[.int .u64 0, .int .u64 0, .bool false] 82 (0, 0)) (BK488.out)) : gb488 ≠ gb489)); have n15_ := aK ((by rw [hg]; exact Nat.ne_of_gt (blk_lt (g := gb488) (o := .cells #[.int .u64 0, .int .u64 0, .bool false] 82 (0, 0)) (BK488.out)) : gb489 ≠ gb488)); clear BK485; clear BK486; clear BK487; clear BK488; clear HB; have BK485 := n0_; have BK486 := n1_; have BK487 := n2_; have BK488 := n3_; have HB := n4_; have BK489 := n5_; have GW489 := n6_; have GE489 := n7_; have NB485_489 := n8_; have NB489_485 := n9_; have NB486_489 := n10_; have NB489_486 := n11_; have NB487_489 := n12_; have NB489_487 := n13_; have NB488_489 := n14_; have NB489_488 := n15_; clear n0_ n1_ n2_ n3_ n4_ n5_ n6_ n7_ n8_ n9_ n10_ n11_ n12_ n13_ n14_ n15_; clear hb hbox hg) | ((with_reducible refine gate_dst (N := 7) rfl ?_); refine box_event ?hg (N := 7) ?hd (cs := #[.int .u64 0, .int .u64 0, .bool false]) (t := 82) ?hr ?_; (case hd => rfl); (case hg => rfl); (case hr => first | (go_simp; done) | (go_simp; rfl)); intro gb490 hg w8 hbox hb; have n0_ := aK (zB (g := gb485) (o := .cells #[.int .u64 a0_0, .int .u64 a0_1, .bool a0_2] 82 (0, 0)) (BK485.out) hb); have n1_ := aK (zB (g := gb486) (o := .cells #[.int .u64 a1_0, .int .u64 a1_1, .bool a1_2] 82 (0, 0)) (BK486.out) hb); have n2_ := aK (zB (g := gb487) (o := .cells #[.int .u64 0, .int .u64 0, .bool false] 82 (0, 0)) (BK487.out) hb); have n3_ := aK (zB (g := gb488) (o := .cells #[.int .u64 0, .int .u64 0, .bool false] 82 (0, 0)) (BK488.out) hb); have n4_ := aK (zB (g := gb489) (o := .cells #[.int .u64 0, .int .u64 0, .bool false] 82 (0, 0)) (BK489.out) hb); have ⟨n5_, n7_⟩ := zV (w := w) hb hg (by repeat (first | (with_reducible first | exact HB.out | apply yA | apply yN | apply yD | refine yS ?_ GE485.out | refine yS ?_ GE486.out | refine yS ?_ GE487.out | refine yS ?_ GE488.out | refine yS ?_ GE489.out) | exact HB.out)); have n6_ := aK (hbox); have n8_ := n7_; have n9_ := aK ((by rw [hg]; exact Nat.ne_of_lt (blk_lt (g := gb485) (o := .cells #[.int .u64 a0_0, .int .u64 a0_1, .bool a0_2] 82 (0, 0)) (BK485.out)) : gb485 ≠ gb490)); have n10_ := aK ((by rw [hg]; exact Nat.ne_of_gt (blk_lt (g := gb485) (o := .cells #[.int .u64 a0_0, .int .u64 a0_1, .bool a0_2] 82 (0, 0)) (BK485.out)) : gb490 ≠ gb485)); have n11_ := aK ((by rw [hg]; exact Nat.ne_of_lt (blk_lt (g := gb486) (o := .cells #[.int .u64 a1_0, .int .u64 a1_1, .bool a1_2] 82 (0, 0)) (BK486.out)) : gb486 ≠ gb490)); have n12_ := aK ((by rw [hg]; exact Nat.ne_of_gt (blk_lt (g := gb486) (o := .cells #[.int .u64 a1_0, .int .u64 a1_1, .bool a1_2] 82 (0, 0)) (BK486.out)) : gb490 ≠ gb486)); have n13_ := aK ((by rw [hg]; exact Nat.ne_of_lt (blk_lt (g := gb487) (o := .cells #[.int .u64 0, .int .u64 0, .bool false] 82 (0, 0)) (BK487.out)) : gb487 ≠ gb490)); have n14_ := aK ((by rw [hg]; exact Nat.ne_of_gt (blk_lt (g := gb487) (o := .cells #[.int .u64 0, .int .u64 0, .bool false] 82 (0, 0)) (BK487.out)) : gb490 ≠ gb487)); have n15_ := aK ((by rw [hg]; exact Nat.ne_of_lt (blk_lt (g := gb488) (o := .cells #[.int .u64 0, .int .u64 0, .bool false] 82 (0, 0)) (BK488.out)) : gb488 ≠ gb490)); have n16_ := aK ((by rw [hg]; exact Nat.ne_of_gt (blk_lt (g := gb488) (o := .cells #[.int .u64 0, .int .u64 0, .bool false] 82 (0, 0)) (BK488.out)) : gb490 ≠ gb488)); have n17_ := aK ((by rw [hg]; exact Nat.ne_of_lt (blk_lt (g := gb489) (o := .cells #[.int .u64 0, .int .u64 0, .bool false] 82 (0, 0)) (BK489.out)) : gb489 ≠ gb490)); have n18_ := aK ((by rw [hg]; exact Nat.ne_of_gt (blk_lt (g := gb489) (o := .cells #[.int .u64 0, .int .u64 0, .bool false] 82 (0, 0)) (BK489.out)) : gb490 ≠ gb489)); clear BK485; clear BK486; clear BK487; clear BK488; clear BK489; clear HB; have BK485 := n0_; have BK486 := n1_; have BK487 := n2_; have BK488 := n3_; have BK489 := n4_; have HB := n5_; have BK490 := n6_; have GW490 := n7_; have GE490 := n8_; have NB485_490 := n9_; have NB490_485 := n10_; have NB486_490 := n11_; have NB490_486 := n12_; have NB487_490 := n13_; have NB490_487 := n14_; have NB488_490 := n15_; have NB490_488 := n16_; have NB489_490 := n17_; have NB490_489 := n18_; clear n0_ n1_ n2_ n3_ n4_ n5_ n6_ n7_ n8_ n9_ n10_ n11_ n12_ n13_ n14_ n15_ n16_ n17_ n18_; clear hb hbox hg; have hnb9 := NB489_485.out; have hnc9 := NB485_489.out; have hnb10 := NB489_486.out; have hnc10 := NB486_489.out; have hnb11 := NB489_487.out; have hnc11 := NB487_489.out; have hnb12 := NB489_488.out; have hnc12 := NB488_489.out; have hnb13 := NB489_490.out; have hnc13 := NB490_489.out; have hcz14_0 := zI BK489 0 rfl; have hcz14_1 := zI BK489 1 rfl; have hcz14_2 := zI BK489 2 rfl; have hfz14_0 := zF BK489.out 0; have hfz14_1 := zF BK489.out 1; have hfz14_2 := zF BK489.out 2; have hnb15 := NB490_485.out; have hnc15 := NB485_490.out; have hnb16 := NB490_486.out; have hnc16 := NB486_490.out; have hnb17 := NB490_487.out; have hnc17 := NB487_490.out; have hnb18 := NB490_488.out; have hnc18 := NB488_490.out; have hcz19_0 := zI BK490 0 rfl; have hcz19_1 := zI BK490 1 rfl; have hcz19_2 := zI BK490 2 rfl; have hfz19_0 := zF BK490.out 0; have hfz19_1 := zF BK490.out 1; have hfz19_2 := zF BK490.out 2))
 go_loopg [8] k (fun kq v8 w' => ∃ (x8_1 : Int) (x490000_1 : Int) (x490001_1 : Int) (x490002_1 : Bool) (x491000_1 : Int) (x491001_1 : Int) (x491002_1 : Bool), v8 = .int .i64 x8_1 ∧ Aside0 (gangsawref04_divide.l0 kq x8_1 a0_0 a0_1 a0_2 a1_0 a1_1 a1_2 x490000_1 x490001_1 x490002_1 x491000_1 x491001_1 x491002_1 = some (r1, r2, r3, r4, r5, r6)) ∧ Aside0 (kq ≤ k) ∧ Aside0 (w'.heap[gb485]? = some (.cells #[.int .u64 a0_0, .int .u64 a0_1, .bool a0_2] 82 (0, 0))) ∧ Aside0 (w'.heap[gb486]? = some (.cells #[.int .u64 a1_0, .int .u64 a1_1, .bool a1_2] 82 (0, 0))) ∧ Aside0 (w'.heap[gb487]? = some (.cells #[.int .u64 0, .int .u64 0, .bool false] 82 (0, 0))) ∧ Aside0 (w'.heap[gb488]? = some (.cells #[.int .u64 0, .int .u64 0, .bool false] 82 (0, 0))) ∧ Aside0 (w'.heap[gb489]? = some (.cells #[.int .u64 x490000_1, .int .u64 x490001_1, .bool x490002_1] 82 (0, 0))) ∧ Aside0 (w'.heap[gb490]? = some (.cells #[.int .u64 x491000_1, .int .u64 x491001_1, .bool x491002_1] 82 (0, 0))) ∧ Aside0 (Below w.heap.size w w'))
 case atStart => exact ⟨(127), (0), (0), (false), (0), (0), (false), (by first | rfl | (simp; done) | (simp [*]; done)), H', ⟨Nat.le_refl _⟩, ⟨by refine blk_far ?_ NB485_490.out _; refine blk_far ?_ NB485_490.out _; refine blk_far ?_ NB485_490.out _; refine blk_far ?_ NB485_489.out _; refine blk_far ?_ NB485_489.out _; refine blk_far ?_ NB485_489.out _; exact BK485.out⟩, ⟨by refine blk_far ?_ NB486_490.out _; refine blk_far ?_ NB486_490.out _; refine blk_far ?_ NB486_490.out _; refine blk_far ?_ NB486_489.out _; refine blk_far ?_ NB486_489.out _; refine blk_far ?_ NB486_489.out _; exact BK486.out⟩, ⟨by refine blk_far ?_ NB487_490.out _; refine blk_far ?_ NB487_490.out _; refine blk_far ?_ NB487_490.out _; refine blk_far ?_ NB487_489.out _; refine blk_far ?_ NB487_489.out _; refine blk_far ?_ NB487_489.out _; exact BK487.out⟩, ⟨by refine blk_far ?_ NB488_490.out _; refine blk_far ?_ NB488_490.out _; refine blk_far ?_ NB488_490.out _; refine blk_far ?_ NB488_489.out _; refine blk_far ?_ NB488_489.out _; refine blk_far ?_ NB488_489.out _; exact BK488.out⟩, ⟨by refine blk_far ?_ NB489_490.out _; refine blk_far ?_ NB489_490.out _; refine blk_far ?_ NB489_490.out _; refine blk_put (cs := #[.int .u64 0, .int .u64 0, .bool false]) ?_ 2 _ rfl; refine blk_put (cs := #[.int .u64 0, .int .u64 0, .bool false]) ?_ 1 _ rfl; refine blk_put (cs := #[.int .u64 0, .int .u64 0, .bool false]) ?_ 0 _ rfl; exact BK489.out⟩, ⟨by refine blk_put (cs := #[.int .u64 0, .int .u64 0, .bool false]) ?_ 2 _ rfl; refine blk_put (cs := #[.int .u64 0, .int .u64 0, .bool false]) ?_ 1 _ rfl; refine blk_put (cs := #[.int .u64 0, .int .u64 0, .bool false]) ?_ 0 _ rfl; refine blk_far ?_ NB490_489.out _; refine blk_far ?_ NB490_489.out _; refine blk_far ?_ NB490_489.out _; exact BK490.out⟩, ⟨by repeat (first | (with_reducible first | exact HB.out | apply yA | apply yN | apply yD | refine yS ?_ GE485.out | refine yS ?_ GE486.out | refine yS ?_ GE487.out | refine yS ?_ GE488.out | refine yS ?_ GE489.out | refine yS ?_ GE490.out) | exact HB.out)⟩⟩
 case round =>
  clear H'
  try clear c1
  try clear p2
  try clear c9
  try clear c10
  try clear c11
  try clear c12
  try clear c13
  try clear c15
  try clear c16
  try clear c17
  try clear c18
  try clear hcz14_0
  try clear hcz14_1
  try clear hcz14_2
  try clear hcz19_0
  try clear hcz19_1
  try clear hcz19_2
  try clear hfz14_0
  try clear hfz14_1
  try clear hfz14_2
  try clear hfz19_0
  try clear hfz19_1
  try clear hfz19_2
  obtain ⟨x8_1, x490000_1, x490001_1, x490002_1, x491000_1, x491001_1, x491002_1, rfl, HA, HK1, BK485, BK486, BK487, BK488, BK489, BK490, HB⟩ := hrel
  cases gk with
  | zero => exact absurd HA.out (by simp [gangsawref04_divide.l0])
  | succ k1 =>
   have H := HA.out
   clear HA
   simp only [gangsawref04_divide.l0] at H
   by_cases c20 : x8_1 ≥ 0
   rotate_left
   ·rw [if_neg c20] at H
    have c20b0 : decide (0 ≤ x8_1) = false := decide_eq_false c20
    clear c20
    simp only [Option.some.injEq, Prod.mk.injEq] at H
    obtain ⟨rfl, rfl, rfl, rfl, rfl, rfl⟩ := H
    try go_wp2
    have n0_ := aK (zD BK485.out)
    have n1_ := aK (zD BK486.out)
    have n2_ := aK (zD BK487.out)
    have n3_ := aK (zD BK488.out)
    have n4_ := aK (zD BK489.out)
    have n5_ := aK (zD BK490.out)
    have n6_ := aK (yD HB.out)
    clear BK485
    clear BK486
    clear BK487
    clear BK488
    clear BK489
    clear BK490
    clear HB
    have BK485 := n0_
    have BK486 := n1_
    have BK487 := n2_
    have BK488 := n3_
    have BK489 := n4_
    have BK490 := n5_
    have HB := n6_
    clear n0_ n1_ n2_ n3_ n4_ n5_ n6_
    refine start_ (n := 4) (S := fun w' => w'.cell? ⟨gb489, 0, none⟩ = some (.int .u64 x490000_1) ∧ w'.cell? ⟨gb489, 1, none⟩ = some (.int .u64 x490001_1) ∧ w'.cell? ⟨gb489, 2, none⟩ = some (.bool x490002_1) ∧ w'.cell? ⟨gb490, 0, none⟩ = some (.int .u64 x491000_1) ∧ w'.cell? ⟨gb490, 1, none⟩ = some (.int .u64 x491001_1) ∧ w'.cell? ⟨gb490, 2, none⟩ = some (.bool x491002_1)) (ds := []) #[false, false, false, false] (by kernel_rfl) rfl rfl ⟨(zC BK489.out 0).trans rfl, (zC BK489.out 1).trans rfl, (zC BK489.out 2).trans rfl, (zC BK490.out 0).trans rfl, (zC BK490.out 1).trans rfl, (zC BK490.out 2).trans rfl⟩ (fun hHeld => ?_)
    generalize wr.drew = w72 at BK485 BK486 BK487 BK488 BK489 BK490 HB hHeld ⊢
    refine take_ (i := 0) (N := some 56) (v := ?_) (a' := ?_) #[true, false, false, false] rfl rfl (by kernel_rfl) (fun _ _ _ h => h) (Or.inl ⟨by rfl, ?_⟩) hHeld ?_ ?_
    rotate_left
    ·rintro w' ⟨s0, s1, s2, s3, s4, s5⟩
     go_simp
     with_reducible rfl
    rotate_left
    ·simp only [Act.put, sA, sZ, sS, i64_w, i32_w]
     rfl
    refine take_ (i := 1) (N := some 57) (v := ?_) (a' := ?_) #[true, true, false, false] rfl rfl (by kernel_rfl) (fun _ _ _ h => h) (Or.inl ⟨by rfl, ?_⟩) hHeld ?_ ?_
    rotate_left
    ·rintro w' ⟨s0, s1, s2, s3, s4, s5⟩
     go_simp
     with_reducible rfl
    rotate_left
    ·simp only [Act.put, sA, sZ, sS, i64_w, i32_w]
     rfl
    refine one_ (i := 2) (N := none) #[true, true, true, false] rfl rfl (by kernel_rfl) (by decide) (fun K hK => ?_)
    have hs73 : w72.cell? ⟨gb487, 0, none⟩ = some (.int .u64 0) := (zC BK487.out 0).trans rfl
    have hfs73 := zF BK487.out 0
    have hns73_0 := NB485_487.out
    have hns73_1 := NB486_487.out
    have hns73_3 := NB488_487.out
    have hns73_4 := NB489_487.out
    have hns73_5 := NB490_487.out
    have hms73_0 := NB487_485.out
    have hms73_1 := NB487_486.out
    have hms73_3 := NB487_488.out
    have hms73_4 := NB487_489.out
    have hms73_5 := NB487_490.out
    have hs74 : w72.cell? ⟨gb487, 1, none⟩ = some (.int .u64 0) := (zC BK487.out 1).trans rfl
    have hfs74 := zF BK487.out 1
    have hns74_0 := NB485_487.out
    have hns74_1 := NB486_487.out
    have hns74_3 := NB488_487.out
    have hns74_4 := NB489_487.out
    have hns74_5 := NB490_487.out
    have hms74_0 := NB487_485.out
    have hms74_1 := NB487_486.out
    have hms74_3 := NB487_488.out
    have hms74_4 := NB487_489.out
    have hms74_5 := NB487_490.out
    have hs75 : w72.cell? ⟨gb487, 2, none⟩ = some (.bool false) := (zC BK487.out 2).trans rfl
    have hfs75 := zF BK487.out 2
    have hns75_0 := NB485_487.out
    have hns75_1 := NB486_487.out
    have hns75_3 := NB488_487.out
    have hns75_4 := NB489_487.out
    have hns75_5 := NB490_487.out
    have hms75_0 := NB487_485.out
    have hms75_1 := NB487_486.out
    have hms75_3 := NB487_488.out
    have hms75_4 := NB487_489.out
    have hms75_5 := NB487_490.out
    refine skip_ (w1 := ?_) (by rfl) rfl ?_ ?_
    rotate_left
    ·go_simp
     rfl
    refine hK.out _ _ ⟨((cell_far (p := ⟨gb487, _, none⟩) NB489_487.out _).trans (((cell_far (p := ⟨gb487, _, none⟩) NB489_487.out _).trans (((cell_far (p := ⟨gb487, _, none⟩) NB489_487.out _).trans (hHeld.1)))))), ((cell_far (p := ⟨gb487, _, none⟩) NB489_487.out _).trans (((cell_far (p := ⟨gb487, _, none⟩) NB489_487.out _).trans (((cell_far (p := ⟨gb487, _, none⟩) NB489_487.out _).trans (hHeld.2.1)))))), ((cell_far (p := ⟨gb487, _, none⟩) NB489_487.out _).trans (((cell_far (p := ⟨gb487, _, none⟩) NB489_487.out _).trans (((cell_far (p := ⟨gb487, _, none⟩) NB489_487.out _).trans (hHeld.2.2.1)))))), ((cell_far (p := ⟨gb487, _, none⟩) NB490_487.out _).trans (((cell_far (p := ⟨gb487, _, none⟩) NB490_487.out _).trans (((cell_far (p := ⟨gb487, _, none⟩) NB490_487.out _).trans (hHeld.2.2.2.1)))))), ((cell_far (p := ⟨gb487, _, none⟩) NB490_487.out _).trans (((cell_far (p := ⟨gb487, _, none⟩) NB490_487.out _).trans (((cell_far (p := ⟨gb487, _, none⟩) NB490_487.out _).trans (hHeld.2.2.2.2.1)))))), ((cell_far (p := ⟨gb487, _, none⟩) NB490_487.out _).trans (((cell_far (p := ⟨gb487, _, none⟩) NB490_487.out _).trans (((cell_far (p := ⟨gb487, _, none⟩) NB490_487.out _).trans (hHeld.2.2.2.2.2))))))⟩ (fun hHeld => ?_)
    clear hK K
    refine one_ (i := 3) (N := none) #[true, true, true, true] rfl rfl (by kernel_rfl) (by decide) (fun K hK => ?_)
    have hs76 : w72.cell? ⟨gb488, 0, none⟩ = some (.int .u64 0) := (zC BK488.out 0).trans rfl
    have hfs76 := zF BK488.out 0
    have hns76_0 := NB485_488.out
    have hns76_1 := NB486_488.out
    have hns76_2 := NB487_488.out
    have hns76_4 := NB489_488.out
    have hns76_5 := NB490_488.out
    have hms76_0 := NB488_485.out
    have hms76_1 := NB488_486.out
    have hms76_2 := NB488_487.out
    have hms76_4 := NB488_489.out
    have hms76_5 := NB488_490.out
    have hs77 : w72.cell? ⟨gb488, 1, none⟩ = some (.int .u64 0) := (zC BK488.out 1).trans rfl
    have hfs77 := zF BK488.out 1
    have hns77_0 := NB485_488.out
    have hns77_1 := NB486_488.out
    have hns77_2 := NB487_488.out
    have hns77_4 := NB489_488.out
    have hns77_5 := NB490_488.out
    have hms77_0 := NB488_485.out
    have hms77_1 := NB488_486.out
    have hms77_2 := NB488_487.out
    have hms77_4 := NB488_489.out
    have hms77_5 := NB488_490.out
    have hs78 : w72.cell? ⟨gb488, 2, none⟩ = some (.bool false) := (zC BK488.out 2).trans rfl
    have hfs78 := zF BK488.out 2
    have hns78_0 := NB485_488.out
    have hns78_1 := NB486_488.out
    have hns78_2 := NB487_488.out
    have hns78_4 := NB489_488.out
    have hns78_5 := NB490_488.out
    have hms78_0 := NB488_485.out
    have hms78_1 := NB488_486.out
    have hms78_2 := NB488_487.out
    have hms78_4 := NB488_489.out
    have hms78_5 := NB488_490.out
    refine skip_ (w1 := ?_) (by rfl) rfl ?_ ?_
    rotate_left
    ·go_simp
     rfl
    refine hK.out _ _ ⟨((cell_far (p := ⟨gb488, _, none⟩) NB489_488.out _).trans (((cell_far (p := ⟨gb488, _, none⟩) NB489_488.out _).trans (((cell_far (p := ⟨gb488, _, none⟩) NB489_488.out _).trans (hHeld.1)))))), ((cell_far (p := ⟨gb488, _, none⟩) NB489_488.out _).trans (((cell_far (p := ⟨gb488, _, none⟩) NB489_488.out _).trans (((cell_far (p := ⟨gb488, _, none⟩) NB489_488.out _).trans (hHeld.2.1)))))), ((cell_far (p := ⟨gb488, _, none⟩) NB489_488.out _).trans (((cell_far (p := ⟨gb488, _, none⟩) NB489_488.out _).trans (((cell_far (p := ⟨gb488, _, none⟩) NB489_488.out _).trans (hHeld.2.2.1)))))), ((cell_far (p := ⟨gb488, _, none⟩) NB490_488.out _).trans (((cell_far (p := ⟨gb488, _, none⟩) NB490_488.out _).trans (((cell_far (p := ⟨gb488, _, none⟩) NB490_488.out _).trans (hHeld.2.2.2.1)))))), ((cell_far (p := ⟨gb488, _, none⟩) NB490_488.out _).trans (((cell_far (p := ⟨gb488, _, none⟩) NB490_488.out _).trans (((cell_far (p := ⟨gb488, _, none⟩) NB490_488.out _).trans (hHeld.2.2.2.2.1)))))), ((cell_far (p := ⟨gb488, _, none⟩) NB490_488.out _).trans (((cell_far (p := ⟨gb488, _, none⟩) NB490_488.out _).trans (((cell_far (p := ⟨gb488, _, none⟩) NB490_488.out _).trans (hHeld.2.2.2.2.2))))))⟩ (fun hHeld => ?_)
    clear hK K
    refine done_ (by kernel_rfl) ?_
    try go_wp2
    refine bodyPost_ret (results_cc rfl _ _ gb487 gb488 82 82 #[.int .u64 x490000_1, .int .u64 x490001_1, .bool x490002_1] #[.int .u64 x491000_1, .int .u64 x491001_1, .bool x491002_1] (0, 0) (0, 0) _ _ rfl (by refine blk_far ?_ NB487_488.out _; refine blk_far ?_ NB487_488.out _; refine blk_far ?_ NB487_488.out _; refine blk_put (cs := #[.int .u64 x490000_1, .int .u64 x490001_1, .bool false]) ?_ 2 _ rfl; refine blk_put (cs := #[.int .u64 x490000_1, .int .u64 0, .bool false]) ?_ 1 _ rfl; refine blk_put (cs := #[.int .u64 0, .int .u64 0, .bool false]) ?_ 0 _ rfl; exact BK487.out) Try.underlying82 rfl (by kernel_rfl) rfl (by refine blk_put (cs := #[.int .u64 x491000_1, .int .u64 x491001_1, .bool false]) ?_ 2 _ rfl; refine blk_put (cs := #[.int .u64 x491000_1, .int .u64 0, .bool false]) ?_ 1 _ rfl; refine blk_put (cs := #[.int .u64 0, .int .u64 0, .bool false]) ?_ 0 _ rfl; refine blk_far ?_ NB488_487.out _; refine blk_far ?_ NB488_487.out _; refine blk_far ?_ NB488_487.out _; exact BK488.out) Try.underlying82 rfl (by kernel_rfl)) rfl ?_
    exact ⟨rfl, by repeat (first | (with_reducible first | exact HB.out | apply yA | apply yN | apply yD | refine yS ?_ GE485.out | refine yS ?_ GE486.out | refine yS ?_ GE487.out | refine yS ?_ GE488.out | refine yS ?_ GE489.out | refine yS ?_ GE490.out) | exact HB.out)⟩
   rw [if_pos c20] at H
   have c20b0 : decide (0 ≤ x8_1) = true := decide_eq_true c20
   clear c20
   replace H := Option.bind_eq_some_iff.mp H
   obtain ⟨t491, A210, H⟩ := H
   replace H : ((gangsawref04_above.f a1_0 a1_1 a1_2 (Go.bits .or .u64 (IntKind.u64.wrap (x491000_1 * 2)) (x491001_1 / 9223372036854775808)) (Go.bits .or .u64 (IntKind.u64.wrap (x491001_1 * 2)) t491) false).bind fun t492 => (if t492 = true then (gangsawref04_divide.l0 k1 (wrap64 (x8_1 - 1)) a0_0 a0_1 a0_2 a1_0 a1_1 a1_2 (Go.bits .or .u64 (IntKind.u64.wrap (x490000_1 * 2)) (x490001_1 / 9223372036854775808)) (IntKind.u64.wrap (x490001_1 * 2)) false (Go.bits .or .u64 (IntKind.u64.wrap (x491000_1 * 2)) (x491001_1 / 9223372036854775808)) (Go.bits .or .u64 (IntKind.u64.wrap (x491001_1 * 2)) t491) false) else ((gangsawref04_plus.f (Go.bits .or .u64 (IntKind.u64.wrap (x491000_1 * 2)) (x491001_1 / 9223372036854775808)) (Go.bits .or .u64 (IntKind.u64.wrap (x491001_1 * 2)) t491) false a1_0 a1_1 true).bind fun bt493 => (gangsawref04_divide.l0 k1 (wrap64 (x8_1 - 1)) a0_0 a0_1 a0_2 a1_0 a1_1 a1_2 (Go.bits .or .u64 (IntKind.u64.wrap (x490000_1 * 2)) (x490001_1 / 9223372036854775808)) (Go.bits .or .u64 (IntKind.u64.wrap (x490001_1 * 2)) 1) false bt493.1 bt493.2.1 bt493.2.2)))) = some (r1, r2, r3, r4, r5, r6) := H
   have A21 := aK A210
   clear A210
   replace H := Option.bind_eq_some_iff.mp H
   obtain ⟨t492, A220, H⟩ := H
   replace H : (if t492 = true then (gangsawref04_divide.l0 k1 (wrap64 (x8_1 - 1)) a0_0 a0_1 a0_2 a1_0 a1_1 a1_2 (Go.bits .or .u64 (IntKind.u64.wrap (x490000_1 * 2)) (x490001_1 / 9223372036854775808)) (IntKind.u64.wrap (x490001_1 * 2)) false (Go.bits .or .u64 (IntKind.u64.wrap (x491000_1 * 2)) (x491001_1 / 9223372036854775808)) (Go.bits .or .u64 (IntKind.u64.wrap (x491001_1 * 2)) t491) false) else ((gangsawref04_plus.f (Go.bits .or .u64 (IntKind.u64.wrap (x491000_1 * 2)) (x491001_1 / 9223372036854775808)) (Go.bits .or .u64 (IntKind.u64.wrap (x491001_1 * 2)) t491) false a1_0 a1_1 true).bind fun bt493 => (gangsawref04_divide.l0 k1 (wrap64 (x8_1 - 1)) a0_0 a0_1 a0_2 a1_0 a1_1 a1_2 (Go.bits .or .u64 (IntKind.u64.wrap (x490000_1 * 2)) (x490001_1 / 9223372036854775808)) (Go.bits .or .u64 (IntKind.u64.wrap (x490001_1 * 2)) 1) false bt493.1 bt493.2.1 bt493.2.2))) = some (r1, r2, r3, r4, r5, r6) := H
   have A22 := aK A220
   clear A220
   by_cases c23 : t492 = true
   ·subst c23
    have H1 : (gangsawref04_divide.l0 k1 (wrap64 (x8_1 - 1)) a0_0 a0_1 a0_2 a1_0 a1_1 a1_2 (Go.bits .or .u64 (IntKind.u64.wrap (x490000_1 * 2)) (x490001_1 / 9223372036854775808)) (IntKind.u64.wrap (x490001_1 * 2)) false (Go.bits .or .u64 (IntKind.u64.wrap (x491000_1 * 2)) (x491001_1 / 9223372036854775808)) (Go.bits .or .u64 (IntKind.u64.wrap (x491001_1 * 2)) t491) false) = some (r1, r2, r3, r4, r5, r6) := by rw [if_pos rfl] at H; exact H
    clear H
    have H := H1
    clear H1
    have H' := aK H
    clear H
    try go_wp2
    have n0_ := aK (zD BK485.out)
    have n1_ := aK (zD BK486.out)
    have n2_ := aK (zD BK487.out)
    have n3_ := aK (zD BK488.out)
    have n4_ := aK (zD BK489.out)
    have n5_ := aK (zD BK490.out)
    have n6_ := aK (yD HB.out)
    clear BK485
    clear BK486
    clear BK487
    clear BK488
    clear BK489
    clear BK490
    clear HB
    have BK485 := n0_
    have BK486 := n1_
    have BK487 := n2_
    have BK488 := n3_
    have BK489 := n4_
    have BK490 := n5_
    have HB := n6_
    clear n0_ n1_ n2_ n3_ n4_ n5_ n6_
    refine start_ (n := 16) (S := fun w' => w'.cell? ⟨gb490, 0, none⟩ = some (.int .u64 x491000_1) ∧ w'.cell? ⟨gb490, 1, none⟩ = some (.int .u64 x491001_1) ∧ w'.cell? ⟨gb490, 2, none⟩ = some (.bool x491002_1) ∧ w'.cell? ⟨gb485, 0, none⟩ = some (.int .u64 a0_0) ∧ w'.cell? ⟨gb485, 1, none⟩ = some (.int .u64 a0_1) ∧ w'.cell? ⟨gb485, 2, none⟩ = some (.bool a0_2)) (ds := [15]) #[false, false, false, false, false, false, false, false, false, false, false, false, false, false, false, false] (by kernel_rfl) rfl rfl ⟨(zC BK490.out 0).trans rfl, (zC BK490.out 1).trans rfl, (zC BK490.out 2).trans rfl, (zC BK485.out 0).trans rfl, (zC BK485.out 1).trans rfl, (zC BK485.out 2).trans rfl⟩ (fun hHeld => ?_); refine with_tabW gangsawref04_divide.tab5 gangsawref04_divide.bits5 (fun HT_ HW_ => ?_)
    generalize wr.drew = w24 at BK485 BK486 BK487 BK488 BK489 BK490 HB hHeld ⊢
    refine pure_ (i := 0) (N := some 15) (v := ?_) (a' := ?_) #[true, false, false, false, false, false, false, false, false, false, false, false, false, false, false, false] rfl rfl (any_of HT_.out (by kernel_rfl)) (fun _ _ _ h => h) (Or.inl ⟨by rfl, ?_⟩) ?_ ?_
    rotate_left
    ·intro w'
     go_simp
     with_reducible rfl
    rotate_left
    ·simp only [Act.put, sA, sZ, sS, i64_w, i32_w]
     rfl
    refine pure_ (i := 3) (N := some 18) (v := ?_) (a' := ?_) #[true, false, false, true, false, false, false, false, false, false, false, false, false, false, false, false] rfl rfl (any_of HT_.out (by kernel_rfl)) (fun _ _ _ h => h) (Or.inl ⟨by rfl, ?_⟩) ?_ ?_
    rotate_left
    ·intro w'
     go_simp
     with_reducible rfl
    rotate_left
    ·simp only [Act.put, sA, sZ, sS, i64_w, i32_w]
     rfl
    refine pure_ (i := 7) (N := some 22) (v := ?_) (a' := ?_) #[true, false, false, true, false, false, false, true, false, false, false, false, false, false, false, false] rfl rfl (any_of HT_.out (by kernel_rfl)) (fun _ _ _ h => h) (Or.inl ⟨by rfl, ?_⟩) ?_ ?_
    rotate_left
    ·intro w'
     go_simp
     with_reducible rfl
    rotate_left
    ·simp only [Act.put, sA, sZ, sS, i64_w, i32_w]
     rfl
    refine pure_ (i := 11) (N := some 26) (v := ?_) (a' := ?_) #[true, false, false, true, false, false, false, true, false, false, false, true, false, false, false, false] rfl rfl (any_of HT_.out (by kernel_rfl)) (fun _ _ _ h => h) (Or.inl ⟨by rfl, ?_⟩) ?_ ?_
    rotate_left
    ·intro w'
     go_simp
     with_reducible rfl
    rotate_left
    ·simp only [Act.put, sA, sZ, sS, i64_w, i32_w]
     rfl
    refine take_ (i := 1) (N := some 16) (v := ?_) (a' := ?_) #[true, true, false, true, false, false, false, true, false, false, false, true, false, false, false, false] rfl rfl (take_ofW HT_.out HW_.out (by kernel_rfl)) (fun _ _ _ h => h) (Or.inl ⟨by rfl, ?_⟩) hHeld ?_ ?_
    rotate_left
    ·rintro w' ⟨s0, s1, s2, s3, s4, s5⟩
     go_simp
     with_reducible rfl
    rotate_left
    ·simp only [Act.put, sA, sZ, sS, i64_w, i32_w]
     rfl
    refine pure_ (i := 2) (N := some 17) (v := ?_) (a' := ?_) #[true, true, true, true, false, false, false, true, false, false, false, true, false, false, false, false] rfl rfl (any_of HT_.out (by kernel_rfl)) (fun _ _ _ h => h) (Or.inl ⟨by rfl, ?_⟩) ?_ ?_
    rotate_left
    ·intro w'
     go_simp
     with_reducible rfl
    rotate_left
    ·simp only [Act.put, sA, sZ, sS, i64_w, i32_w]
     rfl
    refine take_ (i := 4) (N := some 19) (v := ?_) (a' := ?_) #[true, true, true, true, true, false, false, true, false, false, false, true, false, false, false, false] rfl rfl (take_ofW HT_.out HW_.out (by kernel_rfl)) (fun _ _ _ h => h) (Or.inl ⟨by rfl, ?_⟩) hHeld ?_ ?_
    rotate_left
    ·rintro w' ⟨s0, s1, s2, s3, s4, s5⟩
     go_simp
     with_reducible rfl
    rotate_left
    ·simp only [Act.put, sA, sZ, sS, i64_w, i32_w]
     rfl
    refine pure_ (i := 5) (N := some 20) (v := ?_) (a' := ?_) #[true, true, true, true, true, true, false, true, false, false, false, true, false, false, false, false] rfl rfl (any_of HT_.out (by kernel_rfl)) (fun _ _ _ h => h) (Or.inl ⟨by rfl, ?_⟩) ?_ ?_
    rotate_left
    ·intro w'
     go_simp
     with_reducible rfl
    rotate_left
    ·simp only [Act.put, sA, sZ, sS, i64_w, i32_w]
     rfl
    refine pure_ (i := 6) (N := some 21) (v := ?_) (a' := ?_) #[true, true, true, true, true, true, true, true, false, false, false, true, false, false, false, false] rfl rfl (any_of HT_.out (by kernel_rfl)) (fun _ _ _ h => h) (Or.inl ⟨by rfl, ?_⟩) ?_ ?_
    rotate_left
    ·intro w'
     go_simp
     with_reducible rfl
    rotate_left
    ·simp only [Act.put, sA, sZ, sS, i64_w, i32_w]
     rfl
    refine take_ (i := 8) (N := some 23) (v := ?_) (a' := ?_) #[true, true, true, true, true, true, true, true, true, false, false, true, false, false, false, false] rfl rfl (take_ofW HT_.out HW_.out (by kernel_rfl)) (fun _ _ _ h => h) (Or.inl ⟨by rfl, ?_⟩) hHeld ?_ ?_
    rotate_left
    ·rintro w' ⟨s0, s1, s2, s3, s4, s5⟩
     go_simp
     with_reducible rfl
    rotate_left
    ·simp only [Act.put, sA, sZ, sS, i64_w, i32_w]
     rfl
    refine pure_ (i := 9) (N := some 24) (v := ?_) (a' := ?_) #[true, true, true, true, true, true, true, true, true, true, false, true, false, false, false, false] rfl rfl (any_of HT_.out (by kernel_rfl)) (fun _ _ _ h => h) (Or.inl ⟨by rfl, ?_⟩) ?_ ?_
    rotate_left
    ·intro w'
     go_simp
     with_reducible rfl
    rotate_left
    ·simp only [Act.put, sA, sZ, sS, i64_w, i32_w]
     rfl
    refine take_ (i := 10) (N := some 25) (v := ?_) (a' := ?_) #[true, true, true, true, true, true, true, true, true, true, true, true, false, false, false, false] rfl rfl (take_ofW HT_.out HW_.out (by kernel_rfl)) (fun _ _ _ h => h) (Or.inl ⟨by rfl, ?_⟩) hHeld ?_ ?_
    rotate_left
    ·rintro w' ⟨s0, s1, s2, s3, s4, s5⟩
     go_simp
     with_reducible rfl
    rotate_left
    ·simp only [Act.put, sA, sZ, sS, i64_w, i32_w]
     rfl
    refine one_ (i := 12) (N := some 27) #[true, true, true, true, true, true, true, true, true, true, true, true, true, false, false, false] rfl rfl (one_of HT_.out (by kernel_rfl)) (by decide) (fun K hK => ?_)
    refine goes_ Try.func120 (by kernel_rfl) rfl #[.agg #[.int .u64 a0_0, .int .u64 a0_1, .bool a0_2], .int .i64 x8_1] (by rfl) rfl rfl (by (try simp only [List.map_toArray, List.map_cons, List.map_nil]); first | done | rfl | (simp only [List.length_drop, List.length_take]; rfl)) ?_
    with_reducible refine (gangsawref04_wide_bit.calls a0_0 a0_1 a0_2 x8_1 t491 _ A21.out).mono ?_
    rintro e w25 ⟨rfl, hb⟩
    refine ⟨_, rfl, ?_⟩
    have n0_ := aK (zB (g := gb485) (o := .cells #[.int .u64 a0_0, .int .u64 a0_1, .bool a0_2] 82 (0, 0)) (BK485.out) hb)
    have n1_ := aK (zB (g := gb486) (o := .cells #[.int .u64 a1_0, .int .u64 a1_1, .bool a1_2] 82 (0, 0)) (BK486.out) hb)
    have n2_ := aK (zB (g := gb487) (o := .cells #[.int .u64 0, .int .u64 0, .bool false] 82 (0, 0)) (BK487.out) hb)
    have n3_ := aK (zB (g := gb488) (o := .cells #[.int .u64 0, .int .u64 0, .bool false] 82 (0, 0)) (BK488.out) hb)
    have n4_ := aK (zB (g := gb489) (o := .cells #[.int .u64 x490000_1, .int .u64 x490001_1, .bool x490002_1] 82 (0, 0)) (BK489.out) hb)
    have n5_ := aK (zB (g := gb490) (o := .cells #[.int .u64 x491000_1, .int .u64 x491001_1, .bool x491002_1] 82 (0, 0)) (BK490.out) hb)
    have n6_ := aK (yT (by repeat (first | (with_reducible first | exact HB.out | apply yA | apply yN | apply yD | refine yS ?_ GE485.out | refine yS ?_ GE486.out | refine yS ?_ GE487.out | refine yS ?_ GE488.out | refine yS ?_ GE489.out | refine yS ?_ GE490.out) | exact HB.out)) hb)
    clear BK485
    clear BK486
    clear BK487
    clear BK488
    clear BK489
    clear BK490
    clear HB
    have BK485 := n0_
    have BK486 := n1_
    have BK487 := n2_
    have BK488 := n3_
    have BK489 := n4_
    have BK490 := n5_
    have HB := n6_
    clear n0_ n1_ n2_ n3_ n4_ n5_ n6_
    (try clear hb)
    (try clear hb2)
    (try clear hk)
    (try clear hi)
    refine hK.out _ _ ⟨(zC BK490.out 0).trans rfl, (zC BK490.out 1).trans rfl, (zC BK490.out 2).trans rfl, (zC BK485.out 0).trans rfl, (zC BK485.out 1).trans rfl, (zC BK485.out 2).trans rfl⟩ (fun hHeld => ?_)
    clear hK K
    refine norm_ (a' := ?_) ?_ ?_
    rotate_left
    ·show Act.put _ (some 27) _ = _
     simp only [Act.put, sA, sZ, sS, i64_w, i32_w]
     rfl
    refine pure_ (i := 13) (N := some 28) (v := ?_) (a' := ?_) #[true, true, true, true, true, true, true, true, true, true, true, true, true, true, false, false] rfl rfl (any_of HT_.out (by kernel_rfl)) (fun _ _ _ h => h) (Or.inl ⟨by rfl, ?_⟩) ?_ ?_
    rotate_left
    ·intro w'
     go_simp
     with_reducible rfl
    rotate_left
    ·simp only [Act.put, sA, sZ, sS, i64_w, i32_w]
     rfl
    refine pure_ (i := 14) (N := some 29) (v := ?_) (a' := ?_) #[true, true, true, true, true, true, true, true, true, true, true, true, true, true, true, false] rfl rfl (any_of HT_.out (by kernel_rfl)) (fun _ _ _ h => h) (Or.inl ⟨by rfl, ?_⟩) ?_ ?_
    rotate_left
    ·intro w'
     go_simp
     with_reducible rfl
    rotate_left
    ·simp only [Act.put, sA, sZ, sS, i64_w, i32_w]
     rfl
    refine last_ (i := 15) (N := none) #[true, true, true, true, true, true, true, true, true, true, true, true, true, true, true, true] rfl rfl (one_of HT_.out (by kernel_rfl)) (by decide) (fun K hK => ?_)
    have hs26 : w25.cell? ⟨gb490, 0, none⟩ = some (.int .u64 x491000_1) := (zC BK490.out 0).trans rfl
    have hfs26 := zF BK490.out 0
    have hns26_0 := NB485_490.out
    have hns26_1 := NB486_490.out
    have hns26_2 := NB487_490.out
    have hns26_3 := NB488_490.out
    have hns26_4 := NB489_490.out
    have hms26_0 := NB490_485.out
    have hms26_1 := NB490_486.out
    have hms26_2 := NB490_487.out
    have hms26_3 := NB490_488.out
    have hms26_4 := NB490_489.out
    have hs27 : w25.cell? ⟨gb490, 1, none⟩ = some (.int .u64 x491001_1) := (zC BK490.out 1).trans rfl
    have hfs27 := zF BK490.out 1
    have hns27_0 := NB485_490.out
    have hns27_1 := NB486_490.out
    have hns27_2 := NB487_490.out
    have hns27_3 := NB488_490.out
    have hns27_4 := NB489_490.out
    have hms27_0 := NB490_485.out
    have hms27_1 := NB490_486.out
    have hms27_2 := NB490_487.out
    have hms27_3 := NB490_488.out
    have hms27_4 := NB490_489.out
    have hs28 : w25.cell? ⟨gb490, 2, none⟩ = some (.bool x491002_1) := (zC BK490.out 2).trans rfl
    have hfs28 := zF BK490.out 2
    have hns28_0 := NB485_490.out
    have hns28_1 := NB486_490.out
    have hns28_2 := NB487_490.out
    have hns28_3 := NB488_490.out
    have hns28_4 := NB489_490.out
    have hms28_0 := NB490_485.out
    have hms28_1 := NB490_486.out
    have hms28_2 := NB490_487.out
    have hms28_3 := NB490_488.out
    have hms28_4 := NB490_489.out
    refine skip_ (w1 := ?_) (by rfl) rfl ?_ ?_
    rotate_left
    ·go_simp
     rfl
    refine hK.out _ _ ?_
    clear hK K
    refine done_ (done_of HT_.out (by kernel_rfl)) ?_
    have hnb29 := NB489_485.out
    have hnc29 := NB485_489.out
    have hnb30 := NB489_486.out
    have hnc30 := NB486_489.out
    have hnb31 := NB489_487.out
    have hnc31 := NB487_489.out
    have hnb32 := NB489_488.out
    have hnc32 := NB488_489.out
    have hnb33 := NB489_490.out
    have hnc33 := NB490_489.out
    have hcz34_0 := zI BK489 0 rfl
    have hcz34_1 := zI BK489 1 rfl
    have hcz34_2 := zI BK489 2 rfl
    have hfz34_0 := zF BK489.out 0
    have hfz34_1 := zF BK489.out 1
    have hfz34_2 := zF BK489.out 2
    have hnb35 := NB486_485.out
    have hnc35 := NB485_486.out
    have hnb36 := NB486_487.out
    have hnc36 := NB487_486.out
    have hnb37 := NB486_488.out
    have hnc37 := NB488_486.out
    have hnb38 := NB486_490.out
    have hnc38 := NB490_486.out
    have hcz39_0 := zI BK486 0 rfl
    have hcz39_1 := zI BK486 1 rfl
    have hcz39_2 := zI BK486 2 rfl
    have hfz39_0 := zF BK486.out 0
    have hfz39_1 := zF BK486.out 1
    have hfz39_2 := zF BK486.out 2
    have hnb40 := NB490_485.out
    have hnc40 := NB485_490.out
    have hnb41 := NB490_487.out
    have hnc41 := NB487_490.out
    have hnb42 := NB490_488.out
    have hnc42 := NB488_490.out
    have hcz43_0 := zI BK490 0 rfl
    have hcz43_1 := zI BK490 1 rfl
    have hcz43_2 := zI BK490 2 rfl
    have hfz43_0 := zF BK490.out 0
    have hfz43_1 := zF BK490.out 1
    have hfz43_2 := zF BK490.out 2
    try go_wp2_with (first | ((with_reducible refine gate_callee (f := 94) rfl ?_); refine goesL_ (some 43) rfl rfl Try.func94 (by kernel_rfl) rfl #[.agg #[.int .u64 a1_0, .int .u64 a1_1, .bool a1_2], .agg #[.int .u64 (Go.bits .or .u64 (IntKind.u64.wrap (x491000_1 * 2)) (x491001_1 / 9223372036854775808)), .int .u64 (Go.bits .or .u64 (IntKind.u64.wrap (x491001_1 * 2)) t491), .bool false]] rfl (by (try simp only [List.map_toArray, List.map_cons, List.map_nil]); first | done | rfl | (simp only [List.length_drop, List.length_take]; rfl)) ?_; (with_reducible refine (gangsawref04_above.calls a1_0 a1_1 a1_2 (Go.bits .or .u64 (IntKind.u64.wrap (x491000_1 * 2)) (x491001_1 / 9223372036854775808)) (Go.bits .or .u64 (IntKind.u64.wrap (x491001_1 * 2)) t491) false true _ A22.out).mono ?_); rintro e w44 ⟨rfl, hb⟩; refine ⟨_, rfl, ?_⟩; have n0_ := aK (zB (g := gb485) (o := .cells #[.int .u64 a0_0, .int .u64 a0_1, .bool a0_2] 82 (0, 0)) (by refine blk_far ?_ NB485_489.out _; refine blk_far ?_ NB485_489.out _; refine blk_far ?_ NB485_489.out _; refine blk_far ?_ NB485_490.out _; refine blk_far ?_ NB485_490.out _; refine blk_far ?_ NB485_490.out _; exact BK485.out) hb); have n1_ := aK (zB (g := gb486) (o := .cells #[.int .u64 a1_0, .int .u64 a1_1, .bool a1_2] 82 (0, 0)) (by refine blk_far ?_ NB486_489.out _; refine blk_far ?_ NB486_489.out _; refine blk_far ?_ NB486_489.out _; refine blk_far ?_ NB486_490.out _; refine blk_far ?_ NB486_490.out _; refine blk_far ?_ NB486_490.out _; exact BK486.out) hb); have n2_ := aK (zB (g := gb487) (o := .cells #[.int .u64 0, .int .u64 0, .bool false] 82 (0, 0)) (by refine blk_far ?_ NB487_489.out _; refine blk_far ?_ NB487_489.out _; refine blk_far ?_ NB487_489.out _; refine blk_far ?_ NB487_490.out _; refine blk_far ?_ NB487_490.out _; refine blk_far ?_ NB487_490.out _; exact BK487.out) hb); have n3_ := aK (zB (g := gb488) (o := .cells #[.int .u64 0, .int .u64 0, .bool false] 82 (0, 0)) (by refine blk_far ?_ NB488_489.out _; refine blk_far ?_ NB488_489.out _; refine blk_far ?_ NB488_489.out _; refine blk_far ?_ NB488_490.out _; refine blk_far ?_ NB488_490.out _; refine blk_far ?_ NB488_490.out _; exact BK488.out) hb); have n4_ := aK (zB (g := gb489) (o := .cells #[.int .u64 (Go.bits .or .u64 (IntKind.u64.wrap (x490000_1 * 2)) (x490001_1 / 9223372036854775808)), .int .u64 (IntKind.u64.wrap (x490001_1 * 2)), .bool false] 82 (0, 0)) (by refine blk_put (cs := #[.int .u64 (Go.bits .or .u64 (IntKind.u64.wrap (x490000_1 * 2)) (x490001_1 / 9223372036854775808)), .int .u64 (IntKind.u64.wrap (x490001_1 * 2)), .bool x490002_1]) ?_ 2 _ rfl; refine blk_put (cs := #[.int .u64 (Go.bits .or .u64 (IntKind.u64.wrap (x490000_1 * 2)) (x490001_1 / 9223372036854775808)), .int .u64 x490001_1, .bool x490002_1]) ?_ 1 _ rfl; refine blk_put (cs := #[.int .u64 x490000_1, .int .u64 x490001_1, .bool x490002_1]) ?_ 0 _ rfl; refine blk_far ?_ NB489_490.out _; refine blk_far ?_ NB489_490.out _; refine blk_far ?_ NB489_490.out _; exact BK489.out) hb); have n5_ := aK (zB (g := gb490) (o := .cells #[.int .u64 (Go.bits .or .u64 (IntKind.u64.wrap (x491000_1 * 2)) (x491001_1 / 9223372036854775808)), .int .u64 (Go.bits .or .u64 (IntKind.u64.wrap (x491001_1 * 2)) t491), .bool false] 82 (0, 0)) (by refine blk_far ?_ NB490_489.out _; refine blk_far ?_ NB490_489.out _; refine blk_far ?_ NB490_489.out _; refine blk_put (cs := #[.int .u64 (Go.bits .or .u64 (IntKind.u64.wrap (x491000_1 * 2)) (x491001_1 / 9223372036854775808)), .int .u64 (Go.bits .or .u64 (IntKind.u64.wrap (x491001_1 * 2)) t491), .bool x491002_1]) ?_ 2 _ rfl; refine blk_put (cs := #[.int .u64 (Go.bits .or .u64 (IntKind.u64.wrap (x491000_1 * 2)) (x491001_1 / 9223372036854775808)), .int .u64 x491001_1, .bool x491002_1]) ?_ 1 _ rfl; refine blk_put (cs := #[.int .u64 x491000_1, .int .u64 x491001_1, .bool x491002_1]) ?_ 0 _ rfl; exact BK490.out) hb); have n6_ := aK (yT (by repeat (first | (with_reducible first | exact HB.out | apply yA | apply yN | apply yD | refine yS ?_ GE485.out | refine yS ?_ GE486.out | refine yS ?_ GE487.out | refine yS ?_ GE488.out | refine yS ?_ GE489.out | refine yS ?_ GE490.out) | exact HB.out)) hb); clear BK485; clear BK486; clear BK487; clear BK488; clear BK489; clear BK490; clear HB; have BK485 := n0_; have BK486 := n1_; have BK487 := n2_; have BK488 := n3_; have BK489 := n4_; have BK490 := n5_; have HB := n6_; clear n0_ n1_ n2_ n3_ n4_ n5_ n6_; (try clear hb)))
    go_roundg k1
    case measure => have := HK1.out; omega
    case rel => exact ⟨(wrap64 (x8_1 - 1)), (Go.bits .or .u64 (IntKind.u64.wrap (x490000_1 * 2)) (x490001_1 / 9223372036854775808)), (IntKind.u64.wrap (x490001_1 * 2)), (false), (Go.bits .or .u64 (IntKind.u64.wrap (x491000_1 * 2)) (x491001_1 / 9223372036854775808)), (Go.bits .or .u64 (IntKind.u64.wrap (x491001_1 * 2)) t491), (false), (by first | rfl | (simp; done) | (simp [*]; done)), H', ⟨by have := HK1.out; omega⟩, ⟨BK485.out⟩, ⟨BK486.out⟩, ⟨BK487.out⟩, ⟨BK488.out⟩, ⟨BK489.out⟩, ⟨BK490.out⟩, ⟨by repeat (first | (with_reducible first | exact HB.out | apply yA | apply yN | apply yD | refine yS ?_ GE485.out | refine yS ?_ GE486.out | refine yS ?_ GE487.out | refine yS ?_ GE488.out | refine yS ?_ GE489.out | refine yS ?_ GE490.out) | exact HB.out)⟩⟩
   replace c23 := Bool.eq_false_iff.mpr c23
   subst c23
   have H1 : ((gangsawref04_plus.f (Go.bits .or .u64 (IntKind.u64.wrap (x491000_1 * 2)) (x491001_1 / 9223372036854775808)) (Go.bits .or .u64 (IntKind.u64.wrap (x491001_1 * 2)) t491) false a1_0 a1_1 true).bind fun bt493 => (gangsawref04_divide.l0 k1 (wrap64 (x8_1 - 1)) a0_0 a0_1 a0_2 a1_0 a1_1 a1_2 (Go.bits .or .u64 (IntKind.u64.wrap (x490000_1 * 2)) (x490001_1 / 9223372036854775808)) (Go.bits .or .u64 (IntKind.u64.wrap (x490001_1 * 2)) 1) false bt493.1 bt493.2.1 bt493.2.2)) = some (r1, r2, r3, r4, r5, r6) := by rw [if_neg (show ¬ (false = true) by decide)] at H; exact H
   clear H
   have H := H1
   clear H1
   replace H := Option.bind_eq_some_iff.mp H
   obtain ⟨⟨t493, t494, t495⟩, A450, H⟩ := H
   replace H : (gangsawref04_divide.l0 k1 (wrap64 (x8_1 - 1)) a0_0 a0_1 a0_2 a1_0 a1_1 a1_2 (Go.bits .or .u64 (IntKind.u64.wrap (x490000_1 * 2)) (x490001_1 / 9223372036854775808)) (Go.bits .or .u64 (IntKind.u64.wrap (x490001_1 * 2)) 1) false t493 t494 t495) = some (r1, r2, r3, r4, r5, r6) := H
   have A45 := aK A450
   clear A450
   have H' := aK H
   clear H
   try go_wp2
   have n0_ := aK (zD BK485.out)
   have n1_ := aK (zD BK486.out)
   have n2_ := aK (zD BK487.out)
   have n3_ := aK (zD BK488.out)
   have n4_ := aK (zD BK489.out)
   have n5_ := aK (zD BK490.out)
   have n6_ := aK (yD HB.out)
   clear BK485
   clear BK486
   clear BK487
   clear BK488
   clear BK489
   clear BK490
   clear HB
   have BK485 := n0_
   have BK486 := n1_
   have BK487 := n2_
   have BK488 := n3_
   have BK489 := n4_
   have BK490 := n5_
   have HB := n6_
   clear n0_ n1_ n2_ n3_ n4_ n5_ n6_
   refine start_ (n := 16) (S := fun w' => w'.cell? ⟨gb490, 0, none⟩ = some (.int .u64 x491000_1) ∧ w'.cell? ⟨gb490, 1, none⟩ = some (.int .u64 x491001_1) ∧ w'.cell? ⟨gb490, 2, none⟩ = some (.bool x491002_1) ∧ w'.cell? ⟨gb485, 0, none⟩ = some (.int .u64 a0_0) ∧ w'.cell? ⟨gb485, 1, none⟩ = some (.int .u64 a0_1) ∧ w'.cell? ⟨gb485, 2, none⟩ = some (.bool a0_2)) (ds := [15]) #[false, false, false, false, false, false, false, false, false, false, false, false, false, false, false, false] (by kernel_rfl) rfl rfl ⟨(zC BK490.out 0).trans rfl, (zC BK490.out 1).trans rfl, (zC BK490.out 2).trans rfl, (zC BK485.out 0).trans rfl, (zC BK485.out 1).trans rfl, (zC BK485.out 2).trans rfl⟩ (fun hHeld => ?_); refine with_tabW gangsawref04_divide.tab5 gangsawref04_divide.bits5 (fun HT_ HW_ => ?_)
   generalize wr.drew = w46 at BK485 BK486 BK487 BK488 BK489 BK490 HB hHeld ⊢
   refine pure_ (i := 0) (N := some 15) (v := ?_) (a' := ?_) #[true, false, false, false, false, false, false, false, false, false, false, false, false, false, false, false] rfl rfl (any_of HT_.out (by kernel_rfl)) (fun _ _ _ h => h) (Or.inl ⟨by rfl, ?_⟩) ?_ ?_
   rotate_left
   ·intro w'
    go_simp
    with_reducible rfl
   rotate_left
   ·simp only [Act.put, sA, sZ, sS, i64_w, i32_w]
    rfl
   refine pure_ (i := 3) (N := some 18) (v := ?_) (a' := ?_) #[true, false, false, true, false, false, false, false, false, false, false, false, false, false, false, false] rfl rfl (any_of HT_.out (by kernel_rfl)) (fun _ _ _ h => h) (Or.inl ⟨by rfl, ?_⟩) ?_ ?_
   rotate_left
   ·intro w'
    go_simp
    with_reducible rfl
   rotate_left
   ·simp only [Act.put, sA, sZ, sS, i64_w, i32_w]
    rfl
   refine pure_ (i := 7) (N := some 22) (v := ?_) (a' := ?_) #[true, false, false, true, false, false, false, true, false, false, false, false, false, false, false, false] rfl rfl (any_of HT_.out (by kernel_rfl)) (fun _ _ _ h => h) (Or.inl ⟨by rfl, ?_⟩) ?_ ?_
   rotate_left
   ·intro w'
    go_simp
    with_reducible rfl
   rotate_left
   ·simp only [Act.put, sA, sZ, sS, i64_w, i32_w]
    rfl
   refine pure_ (i := 11) (N := some 26) (v := ?_) (a' := ?_) #[true, false, false, true, false, false, false, true, false, false, false, true, false, false, false, false] rfl rfl (any_of HT_.out (by kernel_rfl)) (fun _ _ _ h => h) (Or.inl ⟨by rfl, ?_⟩) ?_ ?_
   rotate_left
   ·intro w'
    go_simp
    with_reducible rfl
   rotate_left
   ·simp only [Act.put, sA, sZ, sS, i64_w, i32_w]
    rfl
   refine take_ (i := 1) (N := some 16) (v := ?_) (a' := ?_) #[true, true, false, true, false, false, false, true, false, false, false, true, false, false, false, false] rfl rfl (take_ofW HT_.out HW_.out (by kernel_rfl)) (fun _ _ _ h => h) (Or.inl ⟨by rfl, ?_⟩) hHeld ?_ ?_
   rotate_left
   ·rintro w' ⟨s0, s1, s2, s3, s4, s5⟩
    go_simp
    with_reducible rfl
   rotate_left
   ·simp only [Act.put, sA, sZ, sS, i64_w, i32_w]
    rfl
   refine pure_ (i := 2) (N := some 17) (v := ?_) (a' := ?_) #[true, true, true, true, false, false, false, true, false, false, false, true, false, false, false, false] rfl rfl (any_of HT_.out (by kernel_rfl)) (fun _ _ _ h => h) (Or.inl ⟨by rfl, ?_⟩) ?_ ?_
   rotate_left
   ·intro w'
    go_simp
    with_reducible rfl
   rotate_left
   ·simp only [Act.put, sA, sZ, sS, i64_w, i32_w]
    rfl
   refine take_ (i := 4) (N := some 19) (v := ?_) (a' := ?_) #[true, true, true, true, true, false, false, true, false, false, false, true, false, false, false, false] rfl rfl (take_ofW HT_.out HW_.out (by kernel_rfl)) (fun _ _ _ h => h) (Or.inl ⟨by rfl, ?_⟩) hHeld ?_ ?_
   rotate_left
   ·rintro w' ⟨s0, s1, s2, s3, s4, s5⟩
    go_simp
    with_reducible rfl
   rotate_left
   ·simp only [Act.put, sA, sZ, sS, i64_w, i32_w]
    rfl
   refine pure_ (i := 5) (N := some 20) (v := ?_) (a' := ?_) #[true, true, true, true, true, true, false, true, false, false, false, true, false, false, false, false] rfl rfl (any_of HT_.out (by kernel_rfl)) (fun _ _ _ h => h) (Or.inl ⟨by rfl, ?_⟩) ?_ ?_
   rotate_left
   ·intro w'
    go_simp
    with_reducible rfl
   rotate_left
   ·simp only [Act.put, sA, sZ, sS, i64_w, i32_w]
    rfl
   refine pure_ (i := 6) (N := some 21) (v := ?_) (a' := ?_) #[true, true, true, true, true, true, true, true, false, false, false, true, false, false, false, false] rfl rfl (any_of HT_.out (by kernel_rfl)) (fun _ _ _ h => h) (Or.inl ⟨by rfl, ?_⟩) ?_ ?_
   rotate_left
   ·intro w'
    go_simp
    with_reducible rfl
   rotate_left
   ·simp only [Act.put, sA, sZ, sS, i64_w, i32_w]
    rfl
   refine take_ (i := 8) (N := some 23) (v := ?_) (a' := ?_) #[true, true, true, true, true, true, true, true, true, false, false, true, false, false, false, false] rfl rfl (take_ofW HT_.out HW_.out (by kernel_rfl)) (fun _ _ _ h => h) (Or.inl ⟨by rfl, ?_⟩) hHeld ?_ ?_
   rotate_left
   ·rintro w' ⟨s0, s1, s2, s3, s4, s5⟩
    go_simp
    with_reducible rfl
   rotate_left
   ·simp only [Act.put, sA, sZ, sS, i64_w, i32_w]
    rfl
   refine pure_ (i := 9) (N := some 24) (v := ?_) (a' := ?_) #[true, true, true, true, true, true, true, true, true, true, false, true, false, false, false, false] rfl rfl (any_of HT_.out (by kernel_rfl)) (fun _ _ _ h => h) (Or.inl ⟨by rfl, ?_⟩) ?_ ?_
   rotate_left
   ·intro w'
    go_simp
    with_reducible rfl
   rotate_left
   ·simp only [Act.put, sA, sZ, sS, i64_w, i32_w]
    rfl
   refine take_ (i := 10) (N := some 25) (v := ?_) (a' := ?_) #[true, true, true, true, true, true, true, true, true, true, true, true, false, false, false, false] rfl rfl (take_ofW HT_.out HW_.out (by kernel_rfl)) (fun _ _ _ h => h) (Or.inl ⟨by rfl, ?_⟩) hHeld ?_ ?_
   rotate_left
   ·rintro w' ⟨s0, s1, s2, s3, s4, s5⟩
    go_simp
    with_reducible rfl
   rotate_left
   ·simp only [Act.put, sA, sZ, sS, i64_w, i32_w]
    rfl
   refine one_ (i := 12) (N := some 27) #[true, true, true, true, true, true, true, true, true, true, true, true, true, false, false, false] rfl rfl (one_of HT_.out (by kernel_rfl)) (by decide) (fun K hK => ?_)
   refine goes_ Try.func120 (by kernel_rfl) rfl #[.agg #[.int .u64 a0_0, .int .u64 a0_1, .bool a0_2], .int .i64 x8_1] (by rfl) rfl rfl (by (try simp only [List.map_toArray, List.map_cons, List.map_nil]); first | done | rfl | (simp only [List.length_drop, List.length_take]; rfl)) ?_
   with_reducible refine (gangsawref04_wide_bit.calls a0_0 a0_1 a0_2 x8_1 t491 _ A21.out).mono ?_
   rintro e w47 ⟨rfl, hb⟩
   refine ⟨_, rfl, ?_⟩
   have n0_ := aK (zB (g := gb485) (o := .cells #[.int .u64 a0_0, .int .u64 a0_1, .bool a0_2] 82 (0, 0)) (BK485.out) hb)
   have n1_ := aK (zB (g := gb486) (o := .cells #[.int .u64 a1_0, .int .u64 a1_1, .bool a1_2] 82 (0, 0)) (BK486.out) hb)
   have n2_ := aK (zB (g := gb487) (o := .cells #[.int .u64 0, .int .u64 0, .bool false] 82 (0, 0)) (BK487.out) hb)
   have n3_ := aK (zB (g := gb488) (o := .cells #[.int .u64 0, .int .u64 0, .bool false] 82 (0, 0)) (BK488.out) hb)
   have n4_ := aK (zB (g := gb489) (o := .cells #[.int .u64 x490000_1, .int .u64 x490001_1, .bool x490002_1] 82 (0, 0)) (BK489.out) hb)
   have n5_ := aK (zB (g := gb490) (o := .cells #[.int .u64 x491000_1, .int .u64 x491001_1, .bool x491002_1] 82 (0, 0)) (BK490.out) hb)
   have n6_ := aK (yT (by repeat (first | (with_reducible first | exact HB.out | apply yA | apply yN | apply yD | refine yS ?_ GE485.out | refine yS ?_ GE486.out | refine yS ?_ GE487.out | refine yS ?_ GE488.out | refine yS ?_ GE489.out | refine yS ?_ GE490.out) | exact HB.out)) hb)
   clear BK485
   clear BK486
   clear BK487
   clear BK488
   clear BK489
   clear BK490
   clear HB
   have BK485 := n0_
   have BK486 := n1_
   have BK487 := n2_
   have BK488 := n3_
   have BK489 := n4_
   have BK490 := n5_
   have HB := n6_
   clear n0_ n1_ n2_ n3_ n4_ n5_ n6_
   (try clear hb)
   (try clear hb2)
   (try clear hk)
   (try clear hi)
   refine hK.out _ _ ⟨(zC BK490.out 0).trans rfl, (zC BK490.out 1).trans rfl, (zC BK490.out 2).trans rfl, (zC BK485.out 0).trans rfl, (zC BK485.out 1).trans rfl, (zC BK485.out 2).trans rfl⟩ (fun hHeld => ?_)
   clear hK K
   refine norm_ (a' := ?_) ?_ ?_
   rotate_left
   ·show Act.put _ (some 27) _ = _
    simp only [Act.put, sA, sZ, sS, i64_w, i32_w]
    rfl
   refine pure_ (i := 13) (N := some 28) (v := ?_) (a' := ?_) #[true, true, true, true, true, true, true, true, true, true, true, true, true, true, false, false] rfl rfl (any_of HT_.out (by kernel_rfl)) (fun _ _ _ h => h) (Or.inl ⟨by rfl, ?_⟩) ?_ ?_
   rotate_left
   ·intro w'
    go_simp
    with_reducible rfl
   rotate_left
   ·simp only [Act.put, sA, sZ, sS, i64_w, i32_w]
    rfl
   refine pure_ (i := 14) (N := some 29) (v := ?_) (a' := ?_) #[true, true, true, true, true, true, true, true, true, true, true, true, true, true, true, false] rfl rfl (any_of HT_.out (by kernel_rfl)) (fun _ _ _ h => h) (Or.inl ⟨by rfl, ?_⟩) ?_ ?_
   rotate_left
   ·intro w'
    go_simp
    with_reducible rfl
   rotate_left
   ·simp only [Act.put, sA, sZ, sS, i64_w, i32_w]
    rfl
   refine last_ (i := 15) (N := none) #[true, true, true, true, true, true, true, true, true, true, true, true, true, true, true, true] rfl rfl (one_of HT_.out (by kernel_rfl)) (by decide) (fun K hK => ?_)
   have hs48 : w47.cell? ⟨gb490, 0, none⟩ = some (.int .u64 x491000_1) := (zC BK490.out 0).trans rfl
   have hfs48 := zF BK490.out 0
   have hns48_0 := NB485_490.out
   have hns48_1 := NB486_490.out
   have hns48_2 := NB487_490.out
   have hns48_3 := NB488_490.out
   have hns48_4 := NB489_490.out
   have hms48_0 := NB490_485.out
   have hms48_1 := NB490_486.out
   have hms48_2 := NB490_487.out
   have hms48_3 := NB490_488.out
   have hms48_4 := NB490_489.out
   have hs49 : w47.cell? ⟨gb490, 1, none⟩ = some (.int .u64 x491001_1) := (zC BK490.out 1).trans rfl
   have hfs49 := zF BK490.out 1
   have hns49_0 := NB485_490.out
   have hns49_1 := NB486_490.out
   have hns49_2 := NB487_490.out
   have hns49_3 := NB488_490.out
   have hns49_4 := NB489_490.out
   have hms49_0 := NB490_485.out
   have hms49_1 := NB490_486.out
   have hms49_2 := NB490_487.out
   have hms49_3 := NB490_488.out
   have hms49_4 := NB490_489.out
   have hs50 : w47.cell? ⟨gb490, 2, none⟩ = some (.bool x491002_1) := (zC BK490.out 2).trans rfl
   have hfs50 := zF BK490.out 2
   have hns50_0 := NB485_490.out
   have hns50_1 := NB486_490.out
   have hns50_2 := NB487_490.out
   have hns50_3 := NB488_490.out
   have hns50_4 := NB489_490.out
   have hms50_0 := NB490_485.out
   have hms50_1 := NB490_486.out
   have hms50_2 := NB490_487.out
   have hms50_3 := NB490_488.out
   have hms50_4 := NB490_489.out
   refine skip_ (w1 := ?_) (by rfl) rfl ?_ ?_
   rotate_left
   ·go_simp
    rfl
   refine hK.out _ _ ?_
   clear hK K
   refine done_ (done_of HT_.out (by kernel_rfl)) ?_
   have hnb51 := NB489_485.out
   have hnc51 := NB485_489.out
   have hnb52 := NB489_486.out
   have hnc52 := NB486_489.out
   have hnb53 := NB489_487.out
   have hnc53 := NB487_489.out
   have hnb54 := NB489_488.out
   have hnc54 := NB488_489.out
   have hnb55 := NB489_490.out
   have hnc55 := NB490_489.out
   have hcz56_0 := zI BK489 0 rfl
   have hcz56_1 := zI BK489 1 rfl
   have hcz56_2 := zI BK489 2 rfl
   have hfz56_0 := zF BK489.out 0
   have hfz56_1 := zF BK489.out 1
   have hfz56_2 := zF BK489.out 2
   have hnb57 := NB486_485.out
   have hnc57 := NB485_486.out
   have hnb58 := NB486_487.out
   have hnc58 := NB487_486.out
   have hnb59 := NB486_488.out
   have hnc59 := NB488_486.out
   have hnb60 := NB486_490.out
   have hnc60 := NB490_486.out
   have hcz61_0 := zI BK486 0 rfl
   have hcz61_1 := zI BK486 1 rfl
   have hcz61_2 := zI BK486 2 rfl
   have hfz61_0 := zF BK486.out 0
   have hfz61_1 := zF BK486.out 1
   have hfz61_2 := zF BK486.out 2
   have hnb62 := NB490_485.out
   have hnc62 := NB485_490.out
   have hnb63 := NB490_487.out
   have hnc63 := NB487_490.out
   have hnb64 := NB490_488.out
   have hnc64 := NB488_490.out
   have hcz65_0 := zI BK490 0 rfl
   have hcz65_1 := zI BK490 1 rfl
   have hcz65_2 := zI BK490 2 rfl
   have hfz65_0 := zF BK490.out 0
   have hfz65_1 := zF BK490.out 1
   have hfz65_2 := zF BK490.out 2
   try go_wp2_with (first | ((with_reducible refine gate_callee (f := 94) rfl ?_); refine goesL_ (some 43) rfl rfl Try.func94 (by kernel_rfl) rfl #[.agg #[.int .u64 a1_0, .int .u64 a1_1, .bool a1_2], .agg #[.int .u64 (Go.bits .or .u64 (IntKind.u64.wrap (x491000_1 * 2)) (x491001_1 / 9223372036854775808)), .int .u64 (Go.bits .or .u64 (IntKind.u64.wrap (x491001_1 * 2)) t491), .bool false]] rfl (by (try simp only [List.map_toArray, List.map_cons, List.map_nil]); first | done | rfl | (simp only [List.length_drop, List.length_take]; rfl)) ?_; (with_reducible refine (gangsawref04_above.calls a1_0 a1_1 a1_2 (Go.bits .or .u64 (IntKind.u64.wrap (x491000_1 * 2)) (x491001_1 / 9223372036854775808)) (Go.bits .or .u64 (IntKind.u64.wrap (x491001_1 * 2)) t491) false false _ A22.out).mono ?_); rintro e w66 ⟨rfl, hb⟩; refine ⟨_, rfl, ?_⟩; have n0_ := aK (zB (g := gb485) (o := .cells #[.int .u64 a0_0, .int .u64 a0_1, .bool a0_2] 82 (0, 0)) (by refine blk_far ?_ NB485_489.out _; refine blk_far ?_ NB485_489.out _; refine blk_far ?_ NB485_489.out _; refine blk_far ?_ NB485_490.out _; refine blk_far ?_ NB485_490.out _; refine blk_far ?_ NB485_490.out _; exact BK485.out) hb); have n1_ := aK (zB (g := gb486) (o := .cells #[.int .u64 a1_0, .int .u64 a1_1, .bool a1_2] 82 (0, 0)) (by refine blk_far ?_ NB486_489.out _; refine blk_far ?_ NB486_489.out _; refine blk_far ?_ NB486_489.out _; refine blk_far ?_ NB486_490.out _; refine blk_far ?_ NB486_490.out _; refine blk_far ?_ NB486_490.out _; exact BK486.out) hb); have n2_ := aK (zB (g := gb487) (o := .cells #[.int .u64 0, .int .u64 0, .bool false] 82 (0, 0)) (by refine blk_far ?_ NB487_489.out _; refine blk_far ?_ NB487_489.out _; refine blk_far ?_ NB487_489.out _; refine blk_far ?_ NB487_490.out _; refine blk_far ?_ NB487_490.out _; refine blk_far ?_ NB487_490.out _; exact BK487.out) hb); have n3_ := aK (zB (g := gb488) (o := .cells #[.int .u64 0, .int .u64 0, .bool false] 82 (0, 0)) (by refine blk_far ?_ NB488_489.out _; refine blk_far ?_ NB488_489.out _; refine blk_far ?_ NB488_489.out _; refine blk_far ?_ NB488_490.out _; refine blk_far ?_ NB488_490.out _; refine blk_far ?_ NB488_490.out _; exact BK488.out) hb); have n4_ := aK (zB (g := gb489) (o := .cells #[.int .u64 (Go.bits .or .u64 (IntKind.u64.wrap (x490000_1 * 2)) (x490001_1 / 9223372036854775808)), .int .u64 (IntKind.u64.wrap (x490001_1 * 2)), .bool false] 82 (0, 0)) (by refine blk_put (cs := #[.int .u64 (Go.bits .or .u64 (IntKind.u64.wrap (x490000_1 * 2)) (x490001_1 / 9223372036854775808)), .int .u64 (IntKind.u64.wrap (x490001_1 * 2)), .bool x490002_1]) ?_ 2 _ rfl; refine blk_put (cs := #[.int .u64 (Go.bits .or .u64 (IntKind.u64.wrap (x490000_1 * 2)) (x490001_1 / 9223372036854775808)), .int .u64 x490001_1, .bool x490002_1]) ?_ 1 _ rfl; refine blk_put (cs := #[.int .u64 x490000_1, .int .u64 x490001_1, .bool x490002_1]) ?_ 0 _ rfl; refine blk_far ?_ NB489_490.out _; refine blk_far ?_ NB489_490.out _; refine blk_far ?_ NB489_490.out _; exact BK489.out) hb); have n5_ := aK (zB (g := gb490) (o := .cells #[.int .u64 (Go.bits .or .u64 (IntKind.u64.wrap (x491000_1 * 2)) (x491001_1 / 9223372036854775808)), .int .u64 (Go.bits .or .u64 (IntKind.u64.wrap (x491001_1 * 2)) t491), .bool false] 82 (0, 0)) (by refine blk_far ?_ NB490_489.out _; refine blk_far ?_ NB490_489.out _; refine blk_far ?_ NB490_489.out _; refine blk_put (cs := #[.int .u64 (Go.bits .or .u64 (IntKind.u64.wrap (x491000_1 * 2)) (x491001_1 / 9223372036854775808)), .int .u64 (Go.bits .or .u64 (IntKind.u64.wrap (x491001_1 * 2)) t491), .bool x491002_1]) ?_ 2 _ rfl; refine blk_put (cs := #[.int .u64 (Go.bits .or .u64 (IntKind.u64.wrap (x491000_1 * 2)) (x491001_1 / 9223372036854775808)), .int .u64 x491001_1, .bool x491002_1]) ?_ 1 _ rfl; refine blk_put (cs := #[.int .u64 x491000_1, .int .u64 x491001_1, .bool x491002_1]) ?_ 0 _ rfl; exact BK490.out) hb); have n6_ := aK (yT (by repeat (first | (with_reducible first | exact HB.out | apply yA | apply yN | apply yD | refine yS ?_ GE485.out | refine yS ?_ GE486.out | refine yS ?_ GE487.out | refine yS ?_ GE488.out | refine yS ?_ GE489.out | refine yS ?_ GE490.out) | exact HB.out)) hb); clear BK485; clear BK486; clear BK487; clear BK488; clear BK489; clear BK490; clear HB; have BK485 := n0_; have BK486 := n1_; have BK487 := n2_; have BK488 := n3_; have BK489 := n4_; have BK490 := n5_; have HB := n6_; clear n0_ n1_ n2_ n3_ n4_ n5_ n6_; (try clear hb); have hcz67_0 := zI BK490 0 rfl; have hcz67_1 := zI BK490 1 rfl; have hcz67_2 := zI BK490 2 rfl; have hfz67_0 := zF BK490.out 0; have hfz67_1 := zF BK490.out 1; have hfz67_2 := zF BK490.out 2; have hcz68_0 := zI BK486 0 rfl; have hcz68_1 := zI BK486 1 rfl; have hcz68_2 := zI BK486 2 rfl; have hfz68_0 := zF BK486.out 0; have hfz68_1 := zF BK486.out 1; have hfz68_2 := zF BK486.out 2) | ((with_reducible refine gate_callee (f := 73) rfl ?_); refine goesL_ (some 51) rfl rfl Try.func73 (by kernel_rfl) rfl #[.agg #[.int .u64 (Go.bits .or .u64 (IntKind.u64.wrap (x491000_1 * 2)) (x491001_1 / 9223372036854775808)), .int .u64 (Go.bits .or .u64 (IntKind.u64.wrap (x491001_1 * 2)) t491), .bool false], .agg #[.int .u64 a1_0, .int .u64 a1_1, .bool true]] rfl (by (try simp only [List.map_toArray, List.map_cons, List.map_nil]); first | done | rfl | (simp only [List.length_drop, List.length_take]; rfl)) ?_; (with_reducible refine (gangsawref04_plus.calls (Go.bits .or .u64 (IntKind.u64.wrap (x491000_1 * 2)) (x491001_1 / 9223372036854775808)) (Go.bits .or .u64 (IntKind.u64.wrap (x491001_1 * 2)) t491) false a1_0 a1_1 true t493 t494 t495 _ A45.out).mono ?_); rintro e w69 ⟨rfl, hb⟩; refine ⟨_, rfl, ?_⟩; have n0_ := aK (zB (g := gb485) (o := .cells #[.int .u64 a0_0, .int .u64 a0_1, .bool a0_2] 82 (0, 0)) (BK485.out) hb); have n1_ := aK (zB (g := gb486) (o := .cells #[.int .u64 a1_0, .int .u64 a1_1, .bool a1_2] 82 (0, 0)) (BK486.out) hb); have n2_ := aK (zB (g := gb487) (o := .cells #[.int .u64 0, .int .u64 0, .bool false] 82 (0, 0)) (BK487.out) hb); have n3_ := aK (zB (g := gb488) (o := .cells #[.int .u64 0, .int .u64 0, .bool false] 82 (0, 0)) (BK488.out) hb); have n4_ := aK (zB (g := gb489) (o := .cells #[.int .u64 (Go.bits .or .u64 (IntKind.u64.wrap (x490000_1 * 2)) (x490001_1 / 9223372036854775808)), .int .u64 (IntKind.u64.wrap (x490001_1 * 2)), .bool false] 82 (0, 0)) (BK489.out) hb); have n5_ := aK (zB (g := gb490) (o := .cells #[.int .u64 (Go.bits .or .u64 (IntKind.u64.wrap (x491000_1 * 2)) (x491001_1 / 9223372036854775808)), .int .u64 (Go.bits .or .u64 (IntKind.u64.wrap (x491001_1 * 2)) t491), .bool false] 82 (0, 0)) (BK490.out) hb); have n6_ := aK (yT (by repeat (first | (with_reducible first | exact HB.out | apply yA | apply yN | apply yD | refine yS ?_ GE485.out | refine yS ?_ GE486.out | refine yS ?_ GE487.out | refine yS ?_ GE488.out | refine yS ?_ GE489.out | refine yS ?_ GE490.out) | exact HB.out)) hb); clear BK485; clear BK486; clear BK487; clear BK488; clear BK489; clear BK490; clear HB; have BK485 := n0_; have BK486 := n1_; have BK487 := n2_; have BK488 := n3_; have BK489 := n4_; have BK490 := n5_; have HB := n6_; clear n0_ n1_ n2_ n3_ n4_ n5_ n6_; (try clear hb); have hcz70_0 := zI BK490 0 rfl; have hcz70_1 := zI BK490 1 rfl; have hcz70_2 := zI BK490 2 rfl; have hfz70_0 := zF BK490.out 0; have hfz70_1 := zF BK490.out 1; have hfz70_2 := zF BK490.out 2; have hcz71_0 := zI BK489 0 rfl; have hcz71_1 := zI BK489 1 rfl; have hcz71_2 := zI BK489 2 rfl; have hfz71_0 := zF BK489.out 0; have hfz71_1 := zF BK489.out 1; have hfz71_2 := zF BK489.out 2))
   go_roundg k1
   case measure => have := HK1.out; omega
   case rel => exact ⟨(wrap64 (x8_1 - 1)), (Go.bits .or .u64 (IntKind.u64.wrap (x490000_1 * 2)) (x490001_1 / 9223372036854775808)), (Go.bits .or .u64 (IntKind.u64.wrap (x490001_1 * 2)) 1), (false), (t493), (t494), (t495), (by first | rfl | (simp; done) | (simp [*]; done)), H', ⟨by have := HK1.out; omega⟩, ⟨by refine blk_far ?_ NB485_489.out _; refine blk_far ?_ NB485_490.out _; refine blk_far ?_ NB485_490.out _; refine blk_far ?_ NB485_490.out _; exact BK485.out⟩, ⟨by refine blk_far ?_ NB486_489.out _; refine blk_far ?_ NB486_490.out _; refine blk_far ?_ NB486_490.out _; refine blk_far ?_ NB486_490.out _; exact BK486.out⟩, ⟨by refine blk_far ?_ NB487_489.out _; refine blk_far ?_ NB487_490.out _; refine blk_far ?_ NB487_490.out _; refine blk_far ?_ NB487_490.out _; exact BK487.out⟩, ⟨by refine blk_far ?_ NB488_489.out _; refine blk_far ?_ NB488_490.out _; refine blk_far ?_ NB488_490.out _; refine blk_far ?_ NB488_490.out _; exact BK488.out⟩, ⟨by refine blk_put (cs := #[.int .u64 (Go.bits .or .u64 (IntKind.u64.wrap (x490000_1 * 2)) (x490001_1 / 9223372036854775808)), .int .u64 (IntKind.u64.wrap (x490001_1 * 2)), .bool false]) ?_ 1 _ rfl; refine blk_far ?_ NB489_490.out _; refine blk_far ?_ NB489_490.out _; refine blk_far ?_ NB489_490.out _; exact BK489.out⟩, ⟨by refine blk_far ?_ NB490_489.out _; refine blk_put (cs := #[.int .u64 t493, .int .u64 t494, .bool false]) ?_ 2 _ rfl; refine blk_put (cs := #[.int .u64 t493, .int .u64 (Go.bits .or .u64 (IntKind.u64.wrap (x491001_1 * 2)) t491), .bool false]) ?_ 1 _ rfl; refine blk_put (cs := #[.int .u64 (Go.bits .or .u64 (IntKind.u64.wrap (x491000_1 * 2)) (x491001_1 / 9223372036854775808)), .int .u64 (Go.bits .or .u64 (IntKind.u64.wrap (x491001_1 * 2)) t491), .bool false]) ?_ 0 _ rfl; exact BK490.out⟩, ⟨by repeat (first | (with_reducible first | exact HB.out | apply yA | apply yN | apply yD | refine yS ?_ GE485.out | refine yS ?_ GE486.out | refine yS ?_ GE487.out | refine yS ?_ GE488.out | refine yS ?_ GE489.out | refine yS ?_ GE490.out) | exact HB.out)⟩⟩

end Go.Proofs.Ythkpgjjakdbbfaa.P
