/- What functions of the program return: each contract says so of one function, for every input at which its pure function yields. -/
import Derived.Test.YthkpgjjakdbbfaaPx0
import Derived.Test.YthkpgjjakdbbfaaPx7
import Derived.Test.YthkpgjjakdbbfaaPx8
import Derived.Test.YthkpgjjakdbbfaaPx9
namespace Go.Proofs.Ythkpgjjakdbbfaa.P
open Go.RowKit Go.Proofs.YthkpgjjakdbbfaaW.PrintWords Go.Proofs.YthkpgjjakdbbfaaW.PrintLast Go.Proofs.YthkpgjjakdbbfaaW.PrintMore
attribute [local go_sem] max2_int min2_int max_two min_two max_three min_three max_four min_four   -- for this text's walks alone
set_option linter.unusedVariables false
set_option linter.unusedSimpArgs false

def fraction_Cmp.j0 : Nat → Int → Int → Bool → Int → Int → Bool → Int → Int → Option (Int)
 | 0, _, _, _, _, _, _, _, _ => none
 | k + 1, x7, x8, x195000, x195001, x195002, x196000, x196001, x196002 => if x7 = x8 then (if x7 < 0 then ((fraction_compare.f k x196000 x196001 x196002 x195000 x195001 x195002).bind fun t198 => (some t198)) else ((fraction_compare.f k x195000 x195001 x195002 x196000 x196001 x196002).bind fun t199 => (some t199))) else ((cmp_Compare_int.f x7 x8).bind fun t200 => (some t200))
def fraction_Cmp.f (k : Nat) (a0_0 : Int) (a0_1 : Int) (a1_0 : Int) (a1_1 : Int) : Option (Int) := (fraction_valid.f k (([(⟨a0_0, a0_1⟩ : S33), (⟨a1_0, a1_1⟩ : S33)] : List (S33)))).bind fun t187 => (if t187 = true then ((fraction_product.f a0_0 a1_1).bind fun bt188 => ((fraction_product.f a1_0 a0_1).bind fun bt191 => ((fraction_sign.f a0_0 a0_1).bind fun t196 => ((fraction_sign.f a1_0 a1_1).bind fun t197 => (fraction_Cmp.j0 k t196 t197 bt188.1 bt188.2.1 bt188.2.2 bt191.1 bt191.2.1 bt191.2.2))))) else (some 0))
def fraction_Cmp.T3 : Bool × List (List Nat × List Nat) := (true, [([], []), ([0], [0]), ([], []), ([2], [2]), ([1, 3], [1, 3]), ([], []), ([5], [5]), ([], []), ([7], [7]), ([6, 8, 4], [6, 8]), ([], []), ([], []), ([10, 4, 9, 0, 1, 2, 3, 4, 10, 11], [4, 10]), ([11, 9, 12, 0, 1, 2, 3, 4, 5, 6, 7, 8, 9, 10, 11, 12], [9, 11])])
def fraction_Cmp.B3 : List Nat := [0, 1, 0, 4, 15, 0, 32, 0, 128, 511, 0, 0, 4095, 8191]
theorem fraction_Cmp.tab3 : rtab .any (opsOf Try.f31 3) = fraction_Cmp.T3 := by kernel_rfl
theorem fraction_Cmp.bits3 : waitsOk fraction_Cmp.T3.2 fraction_Cmp.B3 = true := by kernel_rfl
set_option maxHeartbeats 8000000 in
set_option maxRecDepth 100000 in
theorem fraction_Cmp.calls (k : Nat) (a0_0 : Int) (a0_1 : Int) (a1_0 : Int) (a1_1 : Int) (r : Int) (w : World) (h : fraction_Cmp.f k a0_0 a0_1 a1_0 a1_1 = some r) :
  Calls Try.prog 31 #[.agg #[.int .i64 a0_0, .int .i64 a0_1], .agg #[.int .i64 a1_0, .int .i64 a1_1]] w fun e w' => e = .returned (.int .i64 r) ∧ Below w.heap.size w w' := by
 have hu33 := Try.underlying33
 have hu71 := Try.underlying71
 have HB := aK (Below.refl w.heap.size w)
 have H : ((fraction_valid.f k (([(⟨a0_0, a0_1⟩ : S33), (⟨a1_0, a1_1⟩ : S33)] : List (S33)))).bind fun t187 => (if t187 = true then ((fraction_product.f a0_0 a1_1).bind fun bt188 => ((fraction_product.f a1_0 a0_1).bind fun bt191 => ((fraction_sign.f a0_0 a0_1).bind fun t196 => ((fraction_sign.f a1_0 a1_1).bind fun t197 => (fraction_Cmp.j0 k t196 t197 bt188.1 bt188.2.1 bt188.2.2 bt191.1 bt191.2.1 bt191.2.2))))) else (some 0))) = some r := h
 clear h
 obtain ⟨y184, hy184⟩ : ∃ y_ : List (S33), y_ = (([(⟨a0_0, a0_1⟩ : S33), (⟨a1_0, a1_1⟩ : S33)] : List (S33))) := ⟨_, rfl⟩
 replace H : ((fraction_valid.f k y184).bind fun t187 => (if t187 = true then ((fraction_product.f a0_0 a1_1).bind fun bt188 => ((fraction_product.f a1_0 a0_1).bind fun bt191 => ((fraction_sign.f a0_0 a0_1).bind fun t196 => ((fraction_sign.f a1_0 a1_1).bind fun t197 => (fraction_Cmp.j0 k t196 t197 bt188.1 bt188.2.1 bt188.2.2 bt191.1 bt191.2.1 bt191.2.2))))) else (some 0))) = some r := by first | (rw [hy184]; with_reducible exact H) | (have H2_ := (Option.bind_some _ _).symm.trans H; rw [hy184]; with_reducible exact H2_) | (have H2_ := (Option.bind_some _ _).symm.trans H; with_reducible exact H2_) | with_reducible exact H | (rw [hy184]; exact H) | exact H
 have Ny184 := aK hy184
 clear hy184
 replace H := Option.bind_eq_some_iff.mp H
 obtain ⟨t187, A30, H⟩ := H
 replace H : (if t187 = true then ((fraction_product.f a0_0 a1_1).bind fun bt188 => ((fraction_product.f a1_0 a0_1).bind fun bt191 => ((fraction_sign.f a0_0 a0_1).bind fun t196 => ((fraction_sign.f a1_0 a1_1).bind fun t197 => (fraction_Cmp.j0 k t196 t197 bt188.1 bt188.2.1 bt188.2.2 bt191.1 bt191.2.1 bt191.2.2))))) else (some 0)) = some r := H
 have A3 := aK A30
 clear A30
 by_cases c4 : t187 = true
 rotate_left
 ·replace c4 := Bool.eq_false_iff.mpr c4
  subst c4
  have H1 : (some 0) = some r := by rw [if_neg (show ¬ (false = true) by decide)] at H; exact H
  clear H
  have H := H1
  clear H1
  obtain rfl := Option.some.inj H
  simp only [Option.some.injEq, Prod.mk.injEq] at H
  obtain ⟨rfl⟩ := H
  go_enter Try.func31, Try.ntmps31
  go_wp2_with (first | ((with_reducible refine gate_dst (N := 2) rfl ?_); refine box_event ?hg (N := 2) ?hd (cs := #[.int .i64 a0_0, .int .i64 a0_1]) (t := 33) ?hr ?_; (case hd => rfl); (case hg => rfl); (case hr => first | (go_simp; done) | (go_simp; rfl)); intro gb182 hg w56 hbox hb; have n0_ := aK (yT (HB.out) hb); have n1_ := aK (hbox); have n2_ := aK ((by rw [hg]; exact (yZ (HB.out)) : w.heap.size ≤ gb182)); have n3_ := n2_; clear HB; have HB := n0_; have BK182 := n1_; have GW182 := n2_; have GE182 := n3_; clear n0_ n1_ n2_ n3_; clear hb hbox hg) | ((with_reducible refine gate_dst (N := 3) rfl ?_); refine box_event ?hg (N := 3) ?hd (cs := #[.int .i64 a1_0, .int .i64 a1_1]) (t := 33) ?hr ?_; (case hd => rfl); (case hg => rfl); (case hr => first | (go_simp; done) | (go_simp; rfl)); intro gb183 hg w57 hbox hb; have n0_ := aK (zB (g := gb182) (o := .cells #[.int .i64 a0_0, .int .i64 a0_1] 33 (0, 0)) (BK182.out) hb); have n1_ := aK (yT (HB.out) hb); have n2_ := aK (hbox); have n3_ := aK ((by rw [hg]; exact (yZ (HB.out)) : w.heap.size ≤ gb183)); have n4_ := n3_; have n5_ := aK ((by rw [hg]; exact Nat.ne_of_lt (blk_lt (g := gb182) (o := .cells #[.int .i64 a0_0, .int .i64 a0_1] 33 (0, 0)) (BK182.out)) : gb182 ≠ gb183)); have n6_ := aK ((by rw [hg]; exact Nat.ne_of_gt (blk_lt (g := gb182) (o := .cells #[.int .i64 a0_0, .int .i64 a0_1] 33 (0, 0)) (BK182.out)) : gb183 ≠ gb182)); clear BK182; clear HB; have BK182 := n0_; have HB := n1_; have BK183 := n2_; have GW183 := n3_; have GE183 := n4_; have NB182_183 := n5_; have NB183_182 := n6_; clear n0_ n1_ n2_ n3_ n4_ n5_ n6_; clear hb hbox hg; have hnb58 := NB182_183.out; have hnc58 := NB183_182.out; have hcz59_0 := zI BK182 0 rfl; have hcz59_1 := zI BK182 1 rfl; have hfz59_0 := zF BK182.out 0; have hfz59_1 := zF BK182.out 1; have hcz60_0 := zI BK183 0 rfl; have hcz60_1 := zI BK183 1 rfl; have hfz60_0 := zF BK183.out 0; have hfz60_1 := zF BK183.out 1) | ((with_reducible refine gate_dst (N := 11) rfl ?_); refine Kd.R_lit k33 _ 33 ?hg (N := 11) ?hd (xs := ([(⟨a0_0, a0_1⟩ : S33), (⟨a1_0, a1_1⟩ : S33)] : List (S33))) (inner := [.int .i64 a0_0, .int .i64 a0_1, .int .i64 a1_0, .int .i64 a1_1]) (ok := fun _ => True) (okp := fun _ => True) ?hr ?hp (fun _ hk => hk) trivial (Below.refl _ _) (Nat.le_refl _) (by simp) ?_; (case hd => rfl); (case hg => rfl); (case hr => first | (go_simp; done) | (go_simp; rfl)); (case hp => exact (Reps.c2 (show Kd.M k33 _ _ _ (⟨a0_0, a0_1⟩ : S33) [.int .i64 a0_0, .int .i64 a0_1] from (k33_mkM _ _ _ (⟨a0_0, a0_1⟩ : S33) )) (Reps.c2 (show Kd.M k33 _ _ _ (⟨a1_0, a1_1⟩ : S33) [.int .i64 a1_0, .int .i64 a1_1] from (k33_mkM _ _ _ (⟨a1_0, a1_1⟩ : S33) )) (Reps.none _ _)))); intro v185 w61 ho62 hb hg_ hnew_; clear hg_ hnew_; (first | rw [← Ny184.out] at ho62 | (simp only [Int.reduceToNat] at ho62; rw [← Ny184.out] at ho62)); have n0_ := aK (Kd.R_lower (Kd.R_newB (Kd.R_newB ho62 (g := gb182) (o := .cells #[.int .i64 a0_0, .int .i64 a0_1] 33 (0, 0)) (BK182.out)) (g := gb183) (o := .cells #[.int .i64 a1_0, .int .i64 a1_1] 33 (0, 0)) (BK183.out)) (yZ (HB.out))); have n1_ := aK (zB (g := gb182) (o := .cells #[.int .i64 a0_0, .int .i64 a0_1] 33 (0, 0)) (BK182.out) hb); have n2_ := aK (zB (g := gb183) (o := .cells #[.int .i64 a1_0, .int .i64 a1_1] 33 (0, 0)) (BK183.out) hb); have n3_ := aK (yT (HB.out) hb); clear BK182; clear BK183; clear HB; have HO186 := n0_; have BK182 := n1_; have BK183 := n2_; have HB := n3_; clear n0_ n1_ n2_ n3_; clear hb ho62; obtain ⟨Ao63, co63, eo63⟩ := Kd.R_slice HO186.out; subst eo63) | ((with_reducible refine gate_callee (f := 54) rfl ?_); refine goesL_ (some 12) rfl rfl Try.func54 (by kernel_rfl) rfl #[.slice Ao63 y184.length co63] rfl (by (try simp only [List.map_toArray, List.map_cons, List.map_nil]); first | done | rfl | (simp only [List.length_drop, List.length_take]; rfl)) ?_; (with_reducible refine (fraction_valid.calls k _ _ y184 false _ ?side1 ?side2 A3.out).mono ?_); (case side1 => repeat (first | exact (Kd.R_reads' HO186.out).2.2 | (with_reducible refine Kd.C_alloc ?_ _) | (with_reducible refine Kd.C_drewN ?_ _) | (with_reducible refine Kd.C_drew ?_))); (case side2 => exact (Kd.R_reads' HO186.out).2.1); rintro e w64 ⟨rfl, hb⟩; refine ⟨_, rfl, ?_⟩; have n0_ := aK (Kd.R_below (HO186.out) hb); have n1_ := aK (zB (g := gb182) (o := .cells #[.int .i64 a0_0, .int .i64 a0_1] 33 (0, 0)) (BK182.out) hb); have n2_ := aK (zB (g := gb183) (o := .cells #[.int .i64 a1_0, .int .i64 a1_1] 33 (0, 0)) (BK183.out) hb); have n3_ := aK (yT (HB.out) hb); clear HO186; clear BK182; clear BK183; clear HB; have HO186 := n0_; have BK182 := n1_; have BK183 := n2_; have HB := n3_; clear n0_ n1_ n2_ n3_; (try clear hb)))
  go_ret
  exact ⟨rfl, HB.out⟩
 subst c4
 have H1 : ((fraction_product.f a0_0 a1_1).bind fun bt188 => ((fraction_product.f a1_0 a0_1).bind fun bt191 => ((fraction_sign.f a0_0 a0_1).bind fun t196 => ((fraction_sign.f a1_0 a1_1).bind fun t197 => (fraction_Cmp.j0 k t196 t197 bt188.1 bt188.2.1 bt188.2.2 bt191.1 bt191.2.1 bt191.2.2))))) = some r := by rw [if_pos rfl] at H; exact H
 clear H
 have H := H1
 clear H1
 replace H := Option.bind_eq_some_iff.mp H
 obtain ⟨⟨t188, t189, t190⟩, A50, H⟩ := H
 replace H : ((fraction_product.f a1_0 a0_1).bind fun bt191 => ((fraction_sign.f a0_0 a0_1).bind fun t196 => ((fraction_sign.f a1_0 a1_1).bind fun t197 => (fraction_Cmp.j0 k t196 t197 t188 t189 t190 bt191.1 bt191.2.1 bt191.2.2)))) = some r := H
 have A5 := aK A50
 clear A50
 replace H := Option.bind_eq_some_iff.mp H
 obtain ⟨⟨t191, t192, t193⟩, A60, H⟩ := H
 replace H : ((fraction_sign.f a0_0 a0_1).bind fun t196 => ((fraction_sign.f a1_0 a1_1).bind fun t197 => (fraction_Cmp.j0 k t196 t197 t188 t189 t190 t191 t192 t193))) = some r := H
 have A6 := aK A60
 clear A60
 have HC7 := aK H
 clear H
 go_enter Try.func31, Try.ntmps31
 try go_wp2_with (first | ((with_reducible refine gate_dst (N := 2) rfl ?_); refine box_event ?hg (N := 2) ?hd (cs := #[.int .i64 a0_0, .int .i64 a0_1]) (t := 33) ?hr ?_; (case hd => rfl); (case hg => rfl); (case hr => first | (go_simp; done) | (go_simp; rfl)); intro gb182 hg w8 hbox hb; have n0_ := aK (yT (HB.out) hb); have n1_ := aK (hbox); have n2_ := aK ((by rw [hg]; exact (yZ (HB.out)) : w.heap.size ≤ gb182)); have n3_ := n2_; clear HB; have HB := n0_; have BK182 := n1_; have GW182 := n2_; have GE182 := n3_; clear n0_ n1_ n2_ n3_; clear hb hbox hg) | ((with_reducible refine gate_dst (N := 3) rfl ?_); refine box_event ?hg (N := 3) ?hd (cs := #[.int .i64 a1_0, .int .i64 a1_1]) (t := 33) ?hr ?_; (case hd => rfl); (case hg => rfl); (case hr => first | (go_simp; done) | (go_simp; rfl)); intro gb183 hg w9 hbox hb; have n0_ := aK (zB (g := gb182) (o := .cells #[.int .i64 a0_0, .int .i64 a0_1] 33 (0, 0)) (BK182.out) hb); have n1_ := aK (yT (HB.out) hb); have n2_ := aK (hbox); have n3_ := aK ((by rw [hg]; exact (yZ (HB.out)) : w.heap.size ≤ gb183)); have n4_ := n3_; have n5_ := aK ((by rw [hg]; exact Nat.ne_of_lt (blk_lt (g := gb182) (o := .cells #[.int .i64 a0_0, .int .i64 a0_1] 33 (0, 0)) (BK182.out)) : gb182 ≠ gb183)); have n6_ := aK ((by rw [hg]; exact Nat.ne_of_gt (blk_lt (g := gb182) (o := .cells #[.int .i64 a0_0, .int .i64 a0_1] 33 (0, 0)) (BK182.out)) : gb183 ≠ gb182)); clear BK182; clear HB; have BK182 := n0_; have HB := n1_; have BK183 := n2_; have GW183 := n3_; have GE183 := n4_; have NB182_183 := n5_; have NB183_182 := n6_; clear n0_ n1_ n2_ n3_ n4_ n5_ n6_; clear hb hbox hg; have hnb10 := NB182_183.out; have hnc10 := NB183_182.out; have hcz11_0 := zI BK182 0 rfl; have hcz11_1 := zI BK182 1 rfl; have hfz11_0 := zF BK182.out 0; have hfz11_1 := zF BK182.out 1; have hcz12_0 := zI BK183 0 rfl; have hcz12_1 := zI BK183 1 rfl; have hfz12_0 := zF BK183.out 0; have hfz12_1 := zF BK183.out 1) | ((with_reducible refine gate_dst (N := 11) rfl ?_); refine Kd.R_lit k33 _ 33 ?hg (N := 11) ?hd (xs := ([(⟨a0_0, a0_1⟩ : S33), (⟨a1_0, a1_1⟩ : S33)] : List (S33))) (inner := [.int .i64 a0_0, .int .i64 a0_1, .int .i64 a1_0, .int .i64 a1_1]) (ok := fun _ => True) (okp := fun _ => True) ?hr ?hp (fun _ hk => hk) trivial (Below.refl _ _) (Nat.le_refl _) (by simp) ?_; (case hd => rfl); (case hg => rfl); (case hr => first | (go_simp; done) | (go_simp; rfl)); (case hp => exact (Reps.c2 (show Kd.M k33 _ _ _ (⟨a0_0, a0_1⟩ : S33) [.int .i64 a0_0, .int .i64 a0_1] from (k33_mkM _ _ _ (⟨a0_0, a0_1⟩ : S33) )) (Reps.c2 (show Kd.M k33 _ _ _ (⟨a1_0, a1_1⟩ : S33) [.int .i64 a1_0, .int .i64 a1_1] from (k33_mkM _ _ _ (⟨a1_0, a1_1⟩ : S33) )) (Reps.none _ _)))); intro v185 w13 ho14 hb hg_ hnew_; clear hg_ hnew_; (first | rw [← Ny184.out] at ho14 | (simp only [Int.reduceToNat] at ho14; rw [← Ny184.out] at ho14)); have n0_ := aK (Kd.R_lower (Kd.R_newB (Kd.R_newB ho14 (g := gb182) (o := .cells #[.int .i64 a0_0, .int .i64 a0_1] 33 (0, 0)) (BK182.out)) (g := gb183) (o := .cells #[.int .i64 a1_0, .int .i64 a1_1] 33 (0, 0)) (BK183.out)) (yZ (HB.out))); have n1_ := aK (zB (g := gb182) (o := .cells #[.int .i64 a0_0, .int .i64 a0_1] 33 (0, 0)) (BK182.out) hb); have n2_ := aK (zB (g := gb183) (o := .cells #[.int .i64 a1_0, .int .i64 a1_1] 33 (0, 0)) (BK183.out) hb); have n3_ := aK (yT (HB.out) hb); clear BK182; clear BK183; clear HB; have HO186 := n0_; have BK182 := n1_; have BK183 := n2_; have HB := n3_; clear n0_ n1_ n2_ n3_; clear hb ho14; obtain ⟨Ao15, co15, eo15⟩ := Kd.R_slice HO186.out; subst eo15) | ((with_reducible refine gate_callee (f := 54) rfl ?_); refine goesL_ (some 12) rfl rfl Try.func54 (by kernel_rfl) rfl #[.slice Ao15 y184.length co15] rfl (by (try simp only [List.map_toArray, List.map_cons, List.map_nil]); first | done | rfl | (simp only [List.length_drop, List.length_take]; rfl)) ?_; (with_reducible refine (fraction_valid.calls k _ _ y184 true _ ?side1 ?side2 A3.out).mono ?_); (case side1 => repeat (first | exact (Kd.R_reads' HO186.out).2.2 | (with_reducible refine Kd.C_alloc ?_ _) | (with_reducible refine Kd.C_drewN ?_ _) | (with_reducible refine Kd.C_drew ?_))); (case side2 => exact (Kd.R_reads' HO186.out).2.1); rintro e w16 ⟨rfl, hb⟩; refine ⟨_, rfl, ?_⟩; have n0_ := aK (Kd.R_below (HO186.out) hb); have n1_ := aK (zB (g := gb182) (o := .cells #[.int .i64 a0_0, .int .i64 a0_1] 33 (0, 0)) (BK182.out) hb); have n2_ := aK (zB (g := gb183) (o := .cells #[.int .i64 a1_0, .int .i64 a1_1] 33 (0, 0)) (BK183.out) hb); have n3_ := aK (yT (HB.out) hb); clear HO186; clear BK182; clear BK183; clear HB; have HO186 := n0_; have BK182 := n1_; have BK183 := n2_; have HB := n3_; clear n0_ n1_ n2_ n3_; (try clear hb)))
 have n0_ := aK (Kd.R_drew HO186.out)
 have n1_ := aK (zD BK182.out)
 have n2_ := aK (zD BK183.out)
 have n3_ := aK (yD HB.out)
 clear HO186
 clear BK182
 clear BK183
 clear HB
 have HO186 := n0_
 have BK182 := n1_
 have BK183 := n2_
 have HB := n3_
 clear n0_ n1_ n2_ n3_
 refine start_ (n := 14) (S := fun w' => w'.cell? ⟨gb182, 0, none⟩ = some (.int .i64 a0_0) ∧ w'.cell? ⟨gb182, 1, none⟩ = some (.int .i64 a0_1) ∧ w'.cell? ⟨gb183, 0, none⟩ = some (.int .i64 a1_0) ∧ w'.cell? ⟨gb183, 1, none⟩ = some (.int .i64 a1_1)) (ds := []) #[false, false, false, false, false, false, false, false, false, false, false, false, false, false] (by kernel_rfl) rfl rfl ⟨(zC BK182.out 0).trans rfl, (zC BK182.out 1).trans rfl, (zC BK183.out 0).trans rfl, (zC BK183.out 1).trans rfl⟩ (fun hHeld => ?_); refine with_tabW fraction_Cmp.tab3 fraction_Cmp.bits3 (fun HT_ HW_ => ?_)
 generalize w16.drew = w17 at HO186 BK182 BK183 HB hHeld ⊢
 refine pure_ (i := 0) (N := some 14) (v := ?_) (a' := ?_) #[true, false, false, false, false, false, false, false, false, false, false, false, false, false] rfl rfl (any_of HT_.out (by kernel_rfl)) (fun _ _ _ h => h) (Or.inl ⟨by rfl, ?_⟩) ?_ ?_
 rotate_left
 ·intro w'
  go_simp
  with_reducible rfl
 rotate_left
 ·simp only [Act.put, sA, sZ, sS, i64_w, i32_w]
  rfl
 refine pure_ (i := 2) (N := some 16) (v := ?_) (a' := ?_) #[true, false, true, false, false, false, false, false, false, false, false, false, false, false] rfl rfl (any_of HT_.out (by kernel_rfl)) (fun _ _ _ h => h) (Or.inl ⟨by rfl, ?_⟩) ?_ ?_
 rotate_left
 ·intro w'
  go_simp
  with_reducible rfl
 rotate_left
 ·simp only [Act.put, sA, sZ, sS, i64_w, i32_w]
  rfl
 refine pure_ (i := 5) (N := some 19) (v := ?_) (a' := ?_) #[true, false, true, false, false, true, false, false, false, false, false, false, false, false] rfl rfl (any_of HT_.out (by kernel_rfl)) (fun _ _ _ h => h) (Or.inl ⟨by rfl, ?_⟩) ?_ ?_
 rotate_left
 ·intro w'
  go_simp
  with_reducible rfl
 rotate_left
 ·simp only [Act.put, sA, sZ, sS, i64_w, i32_w]
  rfl
 refine pure_ (i := 7) (N := some 21) (v := ?_) (a' := ?_) #[true, false, true, false, false, true, false, true, false, false, false, false, false, false] rfl rfl (any_of HT_.out (by kernel_rfl)) (fun _ _ _ h => h) (Or.inl ⟨by rfl, ?_⟩) ?_ ?_
 rotate_left
 ·intro w'
  go_simp
  with_reducible rfl
 rotate_left
 ·simp only [Act.put, sA, sZ, sS, i64_w, i32_w]
  rfl
 refine take_ (i := 1) (N := some 15) (v := ?_) (a' := ?_) #[true, true, true, false, false, true, false, true, false, false, false, false, false, false] rfl rfl (take_ofW HT_.out HW_.out (by kernel_rfl)) (fun _ _ _ h => h) (Or.inl ⟨by rfl, ?_⟩) hHeld ?_ ?_
 rotate_left
 ·rintro w' ⟨s0, s1, s2, s3⟩
  go_simp
  with_reducible rfl
 rotate_left
 ·simp only [Act.put, sA, sZ, sS, i64_w, i32_w]
  rfl
 refine take_ (i := 3) (N := some 17) (v := ?_) (a' := ?_) #[true, true, true, true, false, true, false, true, false, false, false, false, false, false] rfl rfl (take_ofW HT_.out HW_.out (by kernel_rfl)) (fun _ _ _ h => h) (Or.inl ⟨by rfl, ?_⟩) hHeld ?_ ?_
 rotate_left
 ·rintro w' ⟨s0, s1, s2, s3⟩
  go_simp
  with_reducible rfl
 rotate_left
 ·simp only [Act.put, sA, sZ, sS, i64_w, i32_w]
  rfl
 refine take_ (i := 6) (N := some 20) (v := ?_) (a' := ?_) #[true, true, true, true, false, true, true, true, false, false, false, false, false, false] rfl rfl (take_ofW HT_.out HW_.out (by kernel_rfl)) (fun _ _ _ h => h) (Or.inl ⟨by rfl, ?_⟩) hHeld ?_ ?_
 rotate_left
 ·rintro w' ⟨s0, s1, s2, s3⟩
  go_simp
  with_reducible rfl
 rotate_left
 ·simp only [Act.put, sA, sZ, sS, i64_w, i32_w]
  rfl
 refine take_ (i := 8) (N := some 22) (v := ?_) (a' := ?_) #[true, true, true, true, false, true, true, true, true, false, false, false, false, false] rfl rfl (take_ofW HT_.out HW_.out (by kernel_rfl)) (fun _ _ _ h => h) (Or.inl ⟨by rfl, ?_⟩) hHeld ?_ ?_
 rotate_left
 ·rintro w' ⟨s0, s1, s2, s3⟩
  go_simp
  with_reducible rfl
 rotate_left
 ·simp only [Act.put, sA, sZ, sS, i64_w, i32_w]
  rfl
 refine join_ (σ := Nat × Nat) 2 #[true, true, true, true, true, true, true, true, true, true, true, true, false, false] (fun s_ => [(18, .agg #[.bool t188, .int .u64 t189, .int .u64 t190]), (23, .agg #[.bool t191, .int .u64 t192, .int .u64 t193]), (5, .pointer (some ⟨s_.1, 0, none⟩)), (6, .pointer (some ⟨s_.2, 0, none⟩))]) (fun s_ w' => (w'.cell? ⟨gb182, 0, none⟩ = some (.int .i64 a0_0) ∧ w'.cell? ⟨gb182, 1, none⟩ = some (.int .i64 a0_1) ∧ w'.cell? ⟨gb183, 0, none⟩ = some (.int .i64 a1_0) ∧ w'.cell? ⟨gb183, 1, none⟩ = some (.int .i64 a1_1)) ∧ (Kd.R k33 33 w' w.heap.size (fun k_ => k_ ≠ gb182 ∧ k_ ≠ gb183) (.slice Ao15 y184.length co15) y184) ∧ (w'.heap[gb182]? = some (.cells #[.int .i64 a0_0, .int .i64 a0_1] 33 (0, 0))) ∧ (w'.heap[gb183]? = some (.cells #[.int .i64 a1_0, .int .i64 a1_1] 33 (0, 0))) ∧ (w'.heap[s_.1]? = some (.cells #[.bool false, .int .u64 0, .int .u64 0] 71 (0, 0))) ∧ (w'.heap[s_.2]? = some (.cells #[.bool false, .int .u64 0, .int .u64 0] 71 (0, 0))) ∧ (w.heap.size ≤ s_.1) ∧ (w.heap.size ≤ s_.1) ∧ (gb182 ≠ s_.1) ∧ (s_.1 ≠ gb182) ∧ (gb183 ≠ s_.1) ∧ (s_.1 ≠ gb183) ∧ (s_.2 ≠ s_.1) ∧ (s_.1 ≠ s_.2) ∧ (w.heap.size ≤ s_.2) ∧ (w.heap.size ≤ s_.2) ∧ (gb182 ≠ s_.2) ∧ (s_.2 ≠ gb182) ∧ (gb183 ≠ s_.2) ∧ (s_.2 ≠ gb183) ∧ (Below w.heap.size w w')) ?_ ?_
 rotate_left
 ·intro hJ4_9_10_11
  refine join_ (σ := Nat) 3 #[true, true, true, true, true, true, true, true, true, true, true, false, false, false] (fun s_ => [(18, .agg #[.bool t188, .int .u64 t189, .int .u64 t190]), (23, .agg #[.bool t191, .int .u64 t192, .int .u64 t193]), (5, .pointer (some ⟨s_, 0, none⟩))]) (fun s_ w' => (w'.cell? ⟨gb182, 0, none⟩ = some (.int .i64 a0_0) ∧ w'.cell? ⟨gb182, 1, none⟩ = some (.int .i64 a0_1) ∧ w'.cell? ⟨gb183, 0, none⟩ = some (.int .i64 a1_0) ∧ w'.cell? ⟨gb183, 1, none⟩ = some (.int .i64 a1_1)) ∧ (Kd.R k33 33 w' w.heap.size (fun k_ => k_ ≠ gb182 ∧ k_ ≠ gb183) (.slice Ao15 y184.length co15) y184) ∧ (w'.heap[gb182]? = some (.cells #[.int .i64 a0_0, .int .i64 a0_1] 33 (0, 0))) ∧ (w'.heap[gb183]? = some (.cells #[.int .i64 a1_0, .int .i64 a1_1] 33 (0, 0))) ∧ (w'.heap[s_]? = some (.cells #[.bool false, .int .u64 0, .int .u64 0] 71 (0, 0))) ∧ (w.heap.size ≤ s_) ∧ (w.heap.size ≤ s_) ∧ (gb182 ≠ s_) ∧ (s_ ≠ gb182) ∧ (gb183 ≠ s_) ∧ (s_ ≠ gb183) ∧ (Below w.heap.size w w')) ?_ ?_
  rotate_left
  ·intro hJ4_9_10
   refine join_ (σ := Nat) 3 #[true, true, true, true, true, true, true, true, true, true, false, true, false, false] (fun s_ => [(18, .agg #[.bool t188, .int .u64 t189, .int .u64 t190]), (23, .agg #[.bool t191, .int .u64 t192, .int .u64 t193]), (6, .pointer (some ⟨s_, 0, none⟩))]) (fun s_ w' => (w'.cell? ⟨gb182, 0, none⟩ = some (.int .i64 a0_0) ∧ w'.cell? ⟨gb182, 1, none⟩ = some (.int .i64 a0_1) ∧ w'.cell? ⟨gb183, 0, none⟩ = some (.int .i64 a1_0) ∧ w'.cell? ⟨gb183, 1, none⟩ = some (.int .i64 a1_1)) ∧ (Kd.R k33 33 w' w.heap.size (fun k_ => k_ ≠ gb182 ∧ k_ ≠ gb183) (.slice Ao15 y184.length co15) y184) ∧ (w'.heap[gb182]? = some (.cells #[.int .i64 a0_0, .int .i64 a0_1] 33 (0, 0))) ∧ (w'.heap[gb183]? = some (.cells #[.int .i64 a1_0, .int .i64 a1_1] 33 (0, 0))) ∧ (w'.heap[s_]? = some (.cells #[.bool false, .int .u64 0, .int .u64 0] 71 (0, 0))) ∧ (w.heap.size ≤ s_) ∧ (w.heap.size ≤ s_) ∧ (gb182 ≠ s_) ∧ (s_ ≠ gb182) ∧ (gb183 ≠ s_) ∧ (s_ ≠ gb183) ∧ (Below w.heap.size w w')) ?_ ?_
   rotate_left
   ·intro hJ4_9_11
    refine join_ (σ := Nat × Nat) 3 #[true, true, true, true, true, true, true, true, true, false, true, true, false, false] (fun s_ => [(18, .agg #[.bool t188, .int .u64 t189, .int .u64 t190]), (5, .pointer (some ⟨s_.1, 0, none⟩)), (6, .pointer (some ⟨s_.2, 0, none⟩))]) (fun s_ w' => (w'.cell? ⟨gb182, 0, none⟩ = some (.int .i64 a0_0) ∧ w'.cell? ⟨gb182, 1, none⟩ = some (.int .i64 a0_1) ∧ w'.cell? ⟨gb183, 0, none⟩ = some (.int .i64 a1_0) ∧ w'.cell? ⟨gb183, 1, none⟩ = some (.int .i64 a1_1)) ∧ (Kd.R k33 33 w' w.heap.size (fun k_ => k_ ≠ gb182 ∧ k_ ≠ gb183) (.slice Ao15 y184.length co15) y184) ∧ (w'.heap[gb182]? = some (.cells #[.int .i64 a0_0, .int .i64 a0_1] 33 (0, 0))) ∧ (w'.heap[gb183]? = some (.cells #[.int .i64 a1_0, .int .i64 a1_1] 33 (0, 0))) ∧ (w'.heap[s_.1]? = some (.cells #[.bool false, .int .u64 0, .int .u64 0] 71 (0, 0))) ∧ (w'.heap[s_.2]? = some (.cells #[.bool false, .int .u64 0, .int .u64 0] 71 (0, 0))) ∧ (w.heap.size ≤ s_.1) ∧ (w.heap.size ≤ s_.1) ∧ (gb182 ≠ s_.1) ∧ (s_.1 ≠ gb182) ∧ (gb183 ≠ s_.1) ∧ (s_.1 ≠ gb183) ∧ (s_.2 ≠ s_.1) ∧ (s_.1 ≠ s_.2) ∧ (w.heap.size ≤ s_.2) ∧ (w.heap.size ≤ s_.2) ∧ (gb182 ≠ s_.2) ∧ (s_.2 ≠ gb182) ∧ (gb183 ≠ s_.2) ∧ (s_.2 ≠ gb183) ∧ (Below w.heap.size w w')) ?_ ?_
    rotate_left
    ·intro hJ4_10_11
     refine join_ (σ := Unit) 4 #[true, true, true, true, true, true, true, true, true, true, false, false, false, false] (fun s_ => [(18, .agg #[.bool t188, .int .u64 t189, .int .u64 t190]), (23, .agg #[.bool t191, .int .u64 t192, .int .u64 t193])]) (fun s_ w' => (w'.cell? ⟨gb182, 0, none⟩ = some (.int .i64 a0_0) ∧ w'.cell? ⟨gb182, 1, none⟩ = some (.int .i64 a0_1) ∧ w'.cell? ⟨gb183, 0, none⟩ = some (.int .i64 a1_0) ∧ w'.cell? ⟨gb183, 1, none⟩ = some (.int .i64 a1_1)) ∧ (Kd.R k33 33 w' w.heap.size (fun k_ => k_ ≠ gb182 ∧ k_ ≠ gb183) (.slice Ao15 y184.length co15) y184) ∧ (w'.heap[gb182]? = some (.cells #[.int .i64 a0_0, .int .i64 a0_1] 33 (0, 0))) ∧ (w'.heap[gb183]? = some (.cells #[.int .i64 a1_0, .int .i64 a1_1] 33 (0, 0))) ∧ (Below w.heap.size w w')) ?_ ?_
     rotate_left
     ·intro hJ4_9
      refine join_ (σ := Nat) 4 #[true, true, true, true, true, true, true, true, true, false, true, false, false, false] (fun s_ => [(18, .agg #[.bool t188, .int .u64 t189, .int .u64 t190]), (5, .pointer (some ⟨s_, 0, none⟩))]) (fun s_ w' => (w'.cell? ⟨gb182, 0, none⟩ = some (.int .i64 a0_0) ∧ w'.cell? ⟨gb182, 1, none⟩ = some (.int .i64 a0_1) ∧ w'.cell? ⟨gb183, 0, none⟩ = some (.int .i64 a1_0) ∧ w'.cell? ⟨gb183, 1, none⟩ = some (.int .i64 a1_1)) ∧ (Kd.R k33 33 w' w.heap.size (fun k_ => k_ ≠ gb182 ∧ k_ ≠ gb183) (.slice Ao15 y184.length co15) y184) ∧ (w'.heap[gb182]? = some (.cells #[.int .i64 a0_0, .int .i64 a0_1] 33 (0, 0))) ∧ (w'.heap[gb183]? = some (.cells #[.int .i64 a1_0, .int .i64 a1_1] 33 (0, 0))) ∧ (w'.heap[s_]? = some (.cells #[.bool false, .int .u64 0, .int .u64 0] 71 (0, 0))) ∧ (w.heap.size ≤ s_) ∧ (w.heap.size ≤ s_) ∧ (gb182 ≠ s_) ∧ (s_ ≠ gb182) ∧ (gb183 ≠ s_) ∧ (s_ ≠ gb183) ∧ (Below w.heap.size w w')) ?_ ?_
      rotate_left
      ·intro hJ4_10
       refine join_ (σ := Nat) 4 #[true, true, true, true, true, true, true, true, true, false, false, true, false, false] (fun s_ => [(18, .agg #[.bool t188, .int .u64 t189, .int .u64 t190]), (6, .pointer (some ⟨s_, 0, none⟩))]) (fun s_ w' => (w'.cell? ⟨gb182, 0, none⟩ = some (.int .i64 a0_0) ∧ w'.cell? ⟨gb182, 1, none⟩ = some (.int .i64 a0_1) ∧ w'.cell? ⟨gb183, 0, none⟩ = some (.int .i64 a1_0) ∧ w'.cell? ⟨gb183, 1, none⟩ = some (.int .i64 a1_1)) ∧ (Kd.R k33 33 w' w.heap.size (fun k_ => k_ ≠ gb182 ∧ k_ ≠ gb183) (.slice Ao15 y184.length co15) y184) ∧ (w'.heap[gb182]? = some (.cells #[.int .i64 a0_0, .int .i64 a0_1] 33 (0, 0))) ∧ (w'.heap[gb183]? = some (.cells #[.int .i64 a1_0, .int .i64 a1_1] 33 (0, 0))) ∧ (w'.heap[s_]? = some (.cells #[.bool false, .int .u64 0, .int .u64 0] 71 (0, 0))) ∧ (w.heap.size ≤ s_) ∧ (w.heap.size ≤ s_) ∧ (gb182 ≠ s_) ∧ (s_ ≠ gb182) ∧ (gb183 ≠ s_) ∧ (s_ ≠ gb183) ∧ (Below w.heap.size w w')) ?_ ?_
       rotate_left
       ·intro hJ4_11
        refine join_ (σ := Nat × Nat) 4 #[true, true, true, true, false, true, true, true, true, false, true, true, false, false] (fun s_ => [(5, .pointer (some ⟨s_.1, 0, none⟩)), (6, .pointer (some ⟨s_.2, 0, none⟩))]) (fun s_ w' => (w'.cell? ⟨gb182, 0, none⟩ = some (.int .i64 a0_0) ∧ w'.cell? ⟨gb182, 1, none⟩ = some (.int .i64 a0_1) ∧ w'.cell? ⟨gb183, 0, none⟩ = some (.int .i64 a1_0) ∧ w'.cell? ⟨gb183, 1, none⟩ = some (.int .i64 a1_1)) ∧ (Kd.R k33 33 w' w.heap.size (fun k_ => k_ ≠ gb182 ∧ k_ ≠ gb183) (.slice Ao15 y184.length co15) y184) ∧ (w'.heap[gb182]? = some (.cells #[.int .i64 a0_0, .int .i64 a0_1] 33 (0, 0))) ∧ (w'.heap[gb183]? = some (.cells #[.int .i64 a1_0, .int .i64 a1_1] 33 (0, 0))) ∧ (w'.heap[s_.1]? = some (.cells #[.bool false, .int .u64 0, .int .u64 0] 71 (0, 0))) ∧ (w'.heap[s_.2]? = some (.cells #[.bool false, .int .u64 0, .int .u64 0] 71 (0, 0))) ∧ (w.heap.size ≤ s_.1) ∧ (w.heap.size ≤ s_.1) ∧ (gb182 ≠ s_.1) ∧ (s_.1 ≠ gb182) ∧ (gb183 ≠ s_.1) ∧ (s_.1 ≠ gb183) ∧ (s_.2 ≠ s_.1) ∧ (s_.1 ≠ s_.2) ∧ (w.heap.size ≤ s_.2) ∧ (w.heap.size ≤ s_.2) ∧ (gb182 ≠ s_.2) ∧ (s_.2 ≠ gb182) ∧ (gb183 ≠ s_.2) ∧ (s_.2 ≠ gb183) ∧ (Below w.heap.size w w')) ?_ ?_
        rotate_left
        ·intro hJ10_11
         refine join_ (σ := Unit) 5 #[true, true, true, true, true, true, true, true, true, false, false, false, false, false] (fun s_ => [(18, .agg #[.bool t188, .int .u64 t189, .int .u64 t190])]) (fun s_ w' => (w'.cell? ⟨gb182, 0, none⟩ = some (.int .i64 a0_0) ∧ w'.cell? ⟨gb182, 1, none⟩ = some (.int .i64 a0_1) ∧ w'.cell? ⟨gb183, 0, none⟩ = some (.int .i64 a1_0) ∧ w'.cell? ⟨gb183, 1, none⟩ = some (.int .i64 a1_1)) ∧ (Kd.R k33 33 w' w.heap.size (fun k_ => k_ ≠ gb182 ∧ k_ ≠ gb183) (.slice Ao15 y184.length co15) y184) ∧ (w'.heap[gb182]? = some (.cells #[.int .i64 a0_0, .int .i64 a0_1] 33 (0, 0))) ∧ (w'.heap[gb183]? = some (.cells #[.int .i64 a1_0, .int .i64 a1_1] 33 (0, 0))) ∧ (Below w.heap.size w w')) ?_ ?_
         rotate_left
         ·intro hJ4
          refine join_ (σ := Nat) 5 #[true, true, true, true, false, true, true, true, true, false, true, false, false, false] (fun s_ => [(5, .pointer (some ⟨s_, 0, none⟩))]) (fun s_ w' => (w'.cell? ⟨gb182, 0, none⟩ = some (.int .i64 a0_0) ∧ w'.cell? ⟨gb182, 1, none⟩ = some (.int .i64 a0_1) ∧ w'.cell? ⟨gb183, 0, none⟩ = some (.int .i64 a1_0) ∧ w'.cell? ⟨gb183, 1, none⟩ = some (.int .i64 a1_1)) ∧ (Kd.R k33 33 w' w.heap.size (fun k_ => k_ ≠ gb182 ∧ k_ ≠ gb183) (.slice Ao15 y184.length co15) y184) ∧ (w'.heap[gb182]? = some (.cells #[.int .i64 a0_0, .int .i64 a0_1] 33 (0, 0))) ∧ (w'.heap[gb183]? = some (.cells #[.int .i64 a1_0, .int .i64 a1_1] 33 (0, 0))) ∧ (w'.heap[s_]? = some (.cells #[.bool false, .int .u64 0, .int .u64 0] 71 (0, 0))) ∧ (w.heap.size ≤ s_) ∧ (w.heap.size ≤ s_) ∧ (gb182 ≠ s_) ∧ (s_ ≠ gb182) ∧ (gb183 ≠ s_) ∧ (s_ ≠ gb183) ∧ (Below w.heap.size w w')) ?_ ?_
          rotate_left
          ·intro hJ10
           refine join_ (σ := Nat) 5 #[true, true, true, true, false, true, true, true, true, false, false, true, false, false] (fun s_ => [(6, .pointer (some ⟨s_, 0, none⟩))]) (fun s_ w' => (w'.cell? ⟨gb182, 0, none⟩ = some (.int .i64 a0_0) ∧ w'.cell? ⟨gb182, 1, none⟩ = some (.int .i64 a0_1) ∧ w'.cell? ⟨gb183, 0, none⟩ = some (.int .i64 a1_0) ∧ w'.cell? ⟨gb183, 1, none⟩ = some (.int .i64 a1_1)) ∧ (Kd.R k33 33 w' w.heap.size (fun k_ => k_ ≠ gb182 ∧ k_ ≠ gb183) (.slice Ao15 y184.length co15) y184) ∧ (w'.heap[gb182]? = some (.cells #[.int .i64 a0_0, .int .i64 a0_1] 33 (0, 0))) ∧ (w'.heap[gb183]? = some (.cells #[.int .i64 a1_0, .int .i64 a1_1] 33 (0, 0))) ∧ (w'.heap[s_]? = some (.cells #[.bool false, .int .u64 0, .int .u64 0] 71 (0, 0))) ∧ (w.heap.size ≤ s_) ∧ (w.heap.size ≤ s_) ∧ (gb182 ≠ s_) ∧ (s_ ≠ gb182) ∧ (gb183 ≠ s_) ∧ (s_ ≠ gb183) ∧ (Below w.heap.size w w')) ?_ ?_
           rotate_left
           ·intro hJ11
            refine three_ (i := 4) (j := 10) (k := 11) (Ni := some 18) (Nj := some 5) (Nk := some 6) #[true, true, true, true, true, true, true, true, true, false, false, false, false, false] #[true, true, true, true, false, true, true, true, true, false, true, false, false, false] #[true, true, true, true, false, true, true, true, true, false, false, true, false, false] rfl rfl rfl rfl rfl rfl (three_of HT_.out (by kernel_rfl)) (by decide) (by decide) (by decide) (fun K hK => ?_) (fun K hK => ?_) (fun K hK => ?_)
            ·skip
             refine goes_ Try.func56 (by kernel_rfl) rfl #[.int .i64 a0_0, .int .i64 a1_1] (by rfl) rfl rfl (by (try simp only [List.map_toArray, List.map_cons, List.map_nil]); first | done | rfl | (simp only [List.length_drop, List.length_take]; rfl)) ?_
             with_reducible refine (fraction_product.calls a0_0 a1_1 t188 t189 t190 _ A5.out).mono ?_
             rintro e w18 ⟨rfl, hb⟩
             refine ⟨_, rfl, ?_⟩
             have n0_ := aK (Kd.R_below (HO186.out) hb)
             have n1_ := aK (zB (g := gb182) (o := .cells #[.int .i64 a0_0, .int .i64 a0_1] 33 (0, 0)) (BK182.out) hb)
             have n2_ := aK (zB (g := gb183) (o := .cells #[.int .i64 a1_0, .int .i64 a1_1] 33 (0, 0)) (BK183.out) hb)
             have n3_ := aK (yT (by repeat (first | (with_reducible first | exact HB.out | apply yA | apply yN | apply yD | refine yS ?_ GE182.out | refine yS ?_ GE183.out) | exact HB.out)) hb)
             clear HO186
             clear BK182
             clear BK183
             clear HB
             have HO186 := n0_
             have BK182 := n1_
             have BK183 := n2_
             have HB := n3_
             clear n0_ n1_ n2_ n3_
             (try clear hb)
             (try clear hb2)
             (try clear hk)
             (try clear hi)
             refine hK.out _ _ ⟨(zC BK182.out 0).trans rfl, (zC BK182.out 1).trans rfl, (zC BK183.out 0).trans rfl, (zC BK183.out 1).trans rfl⟩ (fun hHeld => ?_)
             clear hK K
             refine norm_ (a' := ?_) ?_ ?_
             rotate_left
             ·show Act.put _ (some 18) _ = _
              simp only [Act.put, sA, sZ, sS, i64_w, i32_w]
              rfl
             exact norm_ (by first | (simp only [putAll, Act.put, sA, sZ, sS]; done) | (simp only [putAll, Act.put, sA, sZ, sS]; rfl)) (hJ4 () _ ⟨hHeld, (by (with_reducible repeat (first | apply Kd.R_alloc | apply Kd.R_drewN | apply Kd.R_drew)); exact Kd.R_mono HO186.out (fun _ hk => ⟨hk.1.2, hk.2⟩)), (BK182.out), (BK183.out), (by repeat (first | (with_reducible first | exact HB.out | apply yA | apply yN | apply yD | refine yS ?_ GE182.out | refine yS ?_ GE183.out) | exact HB.out))⟩)
            ·skip
             refine box_step ?hg (N := 5) ?hd (cs := #[.bool false, .int .u64 0, .int .u64 0]) (t := 71) ?hr ?_; (case hd => rfl); (case hg => rfl); (case hr => first | (go_simp; done) | (go_simp; rfl))
             intro gb194 hg w18 hbox hb
             have n0_ := aK (Kd.R_below (HO186.out) hb)
             have n1_ := aK (zB (g := gb182) (o := .cells #[.int .i64 a0_0, .int .i64 a0_1] 33 (0, 0)) (BK182.out) hb)
             have n2_ := aK (zB (g := gb183) (o := .cells #[.int .i64 a1_0, .int .i64 a1_1] 33 (0, 0)) (BK183.out) hb)
             have n3_ := aK (yT (by repeat (first | (with_reducible first | exact HB.out | apply yA | apply yN | apply yD | refine yS ?_ GE182.out | refine yS ?_ GE183.out) | exact HB.out)) hb)
             have n4_ := aK (hbox)
             have n5_ := aK ((by rw [hg]; exact (yZ (by repeat (first | (with_reducible first | exact HB.out | apply yA | apply yN | apply yD | refine yS ?_ GE182.out | refine yS ?_ GE183.out) | exact HB.out))) : w.heap.size ≤ gb194))
             have n6_ := aK ((by rw [hg]; exact (yZ (by repeat (first | (with_reducible first | exact HB.out | apply yA | apply yN | apply yD | refine yS ?_ GE182.out | refine yS ?_ GE183.out) | exact HB.out))) : w.heap.size ≤ gb194))
             have n7_ := aK ((by rw [hg]; exact Nat.ne_of_lt (blk_lt (g := gb182) (o := .cells #[.int .i64 a0_0, .int .i64 a0_1] 33 (0, 0)) (BK182.out)) : gb182 ≠ gb194))
             have n8_ := aK ((by rw [hg]; exact Nat.ne_of_gt (blk_lt (g := gb182) (o := .cells #[.int .i64 a0_0, .int .i64 a0_1] 33 (0, 0)) (BK182.out)) : gb194 ≠ gb182))
             have n9_ := aK ((by rw [hg]; exact Nat.ne_of_lt (blk_lt (g := gb183) (o := .cells #[.int .i64 a1_0, .int .i64 a1_1] 33 (0, 0)) (BK183.out)) : gb183 ≠ gb194))
             have n10_ := aK ((by rw [hg]; exact Nat.ne_of_gt (blk_lt (g := gb183) (o := .cells #[.int .i64 a1_0, .int .i64 a1_1] 33 (0, 0)) (BK183.out)) : gb194 ≠ gb183))
             clear HO186
             clear BK182
             clear BK183
             clear HB
             have HO186 := n0_
             have BK182 := n1_
             have BK183 := n2_
             have HB := n3_
             have BK194 := n4_
             have GW194 := n5_
             have GE194 := n6_
             have NB182_194 := n7_
             have NB194_182 := n8_
             have NB183_194 := n9_
             have NB194_183 := n10_
             clear n0_ n1_ n2_ n3_ n4_ n5_ n6_ n7_ n8_ n9_ n10_
             clear hb hbox hg
             refine hK.out _ _ ⟨(zC BK182.out 0).trans rfl, (zC BK182.out 1).trans rfl, (zC BK183.out 0).trans rfl, (zC BK183.out 1).trans rfl⟩ (fun hHeld => ?_)
             clear hK K
             refine norm_ (a' := ?_) ?_ ?_
             rotate_left
             ·show Act.put _ (some 5) _ = _
              simp only [Act.put, sA, sZ, sS, i64_w, i32_w]
              rfl
             exact norm_ (by first | (simp only [putAll, Act.put, sA, sZ, sS]; done) | (simp only [putAll, Act.put, sA, sZ, sS]; rfl)) (hJ10 (gb194) _ ⟨hHeld, (by (with_reducible repeat (first | apply Kd.R_alloc | apply Kd.R_drewN | apply Kd.R_drew)); exact Kd.R_mono HO186.out (fun _ hk => ⟨hk.1.2, hk.2⟩)), (BK182.out), (BK183.out), (BK194.out), GW194.out, GE194.out, NB182_194.out, NB194_182.out, NB183_194.out, NB194_183.out, (by repeat (first | (with_reducible first | exact HB.out | apply yA | apply yN | apply yD | refine yS ?_ GE182.out | refine yS ?_ GE183.out | refine yS ?_ GE194.out) | exact HB.out))⟩)
            ·skip
             refine box_step ?hg (N := 6) ?hd (cs := #[.bool false, .int .u64 0, .int .u64 0]) (t := 71) ?hr ?_; (case hd => rfl); (case hg => rfl); (case hr => first | (go_simp; done) | (go_simp; rfl))
             intro gb195 hg w18 hbox hb
             have n0_ := aK (Kd.R_below (HO186.out) hb)
             have n1_ := aK (zB (g := gb182) (o := .cells #[.int .i64 a0_0, .int .i64 a0_1] 33 (0, 0)) (BK182.out) hb)
             have n2_ := aK (zB (g := gb183) (o := .cells #[.int .i64 a1_0, .int .i64 a1_1] 33 (0, 0)) (BK183.out) hb)
             have n3_ := aK (yT (by repeat (first | (with_reducible first | exact HB.out | apply yA | apply yN | apply yD | refine yS ?_ GE182.out | refine yS ?_ GE183.out) | exact HB.out)) hb)
             have n4_ := aK (hbox)
             have n5_ := aK ((by rw [hg]; exact (yZ (by repeat (first | (with_reducible first | exact HB.out | apply yA | apply yN | apply yD | refine yS ?_ GE182.out | refine yS ?_ GE183.out) | exact HB.out))) : w.heap.size ≤ gb195))
             have n6_ := aK ((by rw [hg]; exact (yZ (by repeat (first | (with_reducible first | exact HB.out | apply yA | apply yN | apply yD | refine yS ?_ GE182.out | refine yS ?_ GE183.out) | exact HB.out))) : w.heap.size ≤ gb195))
             have n7_ := aK ((by rw [hg]; exact Nat.ne_of_lt (blk_lt (g := gb182) (o := .cells #[.int .i64 a0_0, .int .i64 a0_1] 33 (0, 0)) (BK182.out)) : gb182 ≠ gb195))
             have n8_ := aK ((by rw [hg]; exact Nat.ne_of_gt (blk_lt (g := gb182) (o := .cells #[.int .i64 a0_0, .int .i64 a0_1] 33 (0, 0)) (BK182.out)) : gb195 ≠ gb182))
             have n9_ := aK ((by rw [hg]; exact Nat.ne_of_lt (blk_lt (g := gb183) (o := .cells #[.int .i64 a1_0, .int .i64 a1_1] 33 (0, 0)) (BK183.out)) : gb183 ≠ gb195))
             have n10_ := aK ((by rw [hg]; exact Nat.ne_of_gt (blk_lt (g := gb183) (o := .cells #[.int .i64 a1_0, .int .i64 a1_1] 33 (0, 0)) (BK183.out)) : gb195 ≠ gb183))
             clear HO186
             clear BK182
             clear BK183
             clear HB
             have HO186 := n0_
             have BK182 := n1_
             have BK183 := n2_
             have HB := n3_
             have BK195 := n4_
             have GW195 := n5_
             have GE195 := n6_
             have NB182_195 := n7_
             have NB195_182 := n8_
             have NB183_195 := n9_
             have NB195_183 := n10_
             clear n0_ n1_ n2_ n3_ n4_ n5_ n6_ n7_ n8_ n9_ n10_
             clear hb hbox hg
             refine hK.out _ _ ⟨(zC BK182.out 0).trans rfl, (zC BK182.out 1).trans rfl, (zC BK183.out 0).trans rfl, (zC BK183.out 1).trans rfl⟩ (fun hHeld => ?_)
             clear hK K
             refine norm_ (a' := ?_) ?_ ?_
             rotate_left
             ·show Act.put _ (some 6) _ = _
              simp only [Act.put, sA, sZ, sS, i64_w, i32_w]
              rfl
             exact norm_ (by first | (simp only [putAll, Act.put, sA, sZ, sS]; done) | (simp only [putAll, Act.put, sA, sZ, sS]; rfl)) (hJ11 (gb195) _ ⟨hHeld, (by (with_reducible repeat (first | apply Kd.R_alloc | apply Kd.R_drewN | apply Kd.R_drew)); exact Kd.R_mono HO186.out (fun _ hk => ⟨hk.1.2, hk.2⟩)), (BK182.out), (BK183.out), (BK195.out), GW195.out, GE195.out, NB182_195.out, NB195_182.out, NB183_195.out, NB195_183.out, (by repeat (first | (with_reducible first | exact HB.out | apply yA | apply yN | apply yD | refine yS ?_ GE182.out | refine yS ?_ GE183.out | refine yS ?_ GE195.out) | exact HB.out))⟩)
           ·skip
            rintro gb195 w19 ⟨hS_, h0_, h1_, h2_, h3_, h4_, h5_, h6_, h7_, h8_, h9_, h10_⟩
            have n0_ : Aside0 (Kd.R k33 33 w19 w.heap.size (fun k_ => k_ ≠ gb182 ∧ k_ ≠ gb183) (.slice Ao15 y184.length co15) y184) := ⟨h0_⟩
            have n1_ : Aside0 (w19.heap[gb182]? = some (.cells #[.int .i64 a0_0, .int .i64 a0_1] 33 (0, 0))) := ⟨h1_⟩
            have n2_ : Aside0 (w19.heap[gb183]? = some (.cells #[.int .i64 a1_0, .int .i64 a1_1] 33 (0, 0))) := ⟨h2_⟩
            have n3_ : Aside0 (w19.heap[gb195]? = some (.cells #[.bool false, .int .u64 0, .int .u64 0] 71 (0, 0))) := ⟨h3_⟩
            have n4_ : Aside0 (w.heap.size ≤ gb195) := ⟨h4_⟩
            have n5_ : Aside0 (w.heap.size ≤ gb195) := ⟨h5_⟩
            have n6_ : Aside0 (gb182 ≠ gb195) := ⟨h6_⟩
            have n7_ : Aside0 (gb195 ≠ gb182) := ⟨h7_⟩
            have n8_ : Aside0 (gb183 ≠ gb195) := ⟨h8_⟩
            have n9_ : Aside0 (gb195 ≠ gb183) := ⟨h9_⟩
            have n10_ : Aside0 (Below w.heap.size w w19) := ⟨h10_⟩
            clear HO186
            clear BK182
            clear BK183
            clear HB
            clear h0_ h1_ h2_ h3_ h4_ h5_ h6_ h7_ h8_ h9_ h10_
            have HO186 := n0_
            have BK182 := n1_
            have BK183 := n2_
            have BK195 := n3_
            have GW195 := n4_
            have GE195 := n5_
            have NB182_195 := n6_
            have NB195_182 := n7_
            have NB183_195 := n8_
            have NB195_183 := n9_
            have HB := n10_
            clear n0_ n1_ n2_ n3_ n4_ n5_ n6_ n7_ n8_ n9_ n10_
            have hHeld : w19.cell? ⟨gb182, 0, none⟩ = some (.int .i64 a0_0) ∧ w19.cell? ⟨gb182, 1, none⟩ = some (.int .i64 a0_1) ∧ w19.cell? ⟨gb183, 0, none⟩ = some (.int .i64 a1_0) ∧ w19.cell? ⟨gb183, 1, none⟩ = some (.int .i64 a1_1) := hS_
            refine norm_ (a' := ?_) ?_ ?_
            rotate_left
            ·simp only [putAll, Act.put, sA, sZ, sS]
             rfl
            refine two_ (i := 4) (j := 10) (Ni := some 18) (Nj := some 5) #[true, true, true, true, true, true, true, true, true, false, false, true, false, false] #[true, true, true, true, false, true, true, true, true, false, true, true, false, false] rfl rfl rfl rfl (two_of HT_.out (by kernel_rfl)) (by decide) (by decide) (fun K hK => ?_) (fun K hK => ?_)
            ·skip
             refine goes_ Try.func56 (by kernel_rfl) rfl #[.int .i64 a0_0, .int .i64 a1_1] (by rfl) rfl rfl (by (try simp only [List.map_toArray, List.map_cons, List.map_nil]); first | done | rfl | (simp only [List.length_drop, List.length_take]; rfl)) ?_
             with_reducible refine (fraction_product.calls a0_0 a1_1 t188 t189 t190 _ A5.out).mono ?_
             rintro e w20 ⟨rfl, hb⟩
             refine ⟨_, rfl, ?_⟩
             have n0_ := aK (Kd.R_below (HO186.out) hb)
             have n1_ := aK (zB (g := gb182) (o := .cells #[.int .i64 a0_0, .int .i64 a0_1] 33 (0, 0)) (BK182.out) hb)
             have n2_ := aK (zB (g := gb183) (o := .cells #[.int .i64 a1_0, .int .i64 a1_1] 33 (0, 0)) (BK183.out) hb)
             have n3_ := aK (zB (g := gb195) (o := .cells #[.bool false, .int .u64 0, .int .u64 0] 71 (0, 0)) (BK195.out) hb)
             have n4_ := aK (yT (by repeat (first | (with_reducible first | exact HB.out | apply yA | apply yN | apply yD | refine yS ?_ GE182.out | refine yS ?_ GE183.out | refine yS ?_ GE195.out) | exact HB.out)) hb)
             clear HO186
             clear BK182
             clear BK183
             clear BK195
             clear HB
             have HO186 := n0_
             have BK182 := n1_
             have BK183 := n2_
             have BK195 := n3_
             have HB := n4_
             clear n0_ n1_ n2_ n3_ n4_
             (try clear hb)
             (try clear hb2)
             (try clear hk)
             (try clear hi)
             refine hK.out _ _ ⟨(zC BK182.out 0).trans rfl, (zC BK182.out 1).trans rfl, (zC BK183.out 0).trans rfl, (zC BK183.out 1).trans rfl⟩ (fun hHeld => ?_)
             clear hK K
             refine norm_ (a' := ?_) ?_ ?_
             rotate_left
             ·show Act.put _ (some 18) _ = _
              simp only [Act.put, sA, sZ, sS, i64_w, i32_w]
              rfl
             exact norm_ (by first | (simp only [putAll, Act.put, sA, sZ, sS]; done) | (simp only [putAll, Act.put, sA, sZ, sS]; rfl)) (hJ4_11 (gb195) _ ⟨hHeld, (HO186.out), (BK182.out), (BK183.out), (BK195.out), GW195.out, GE195.out, NB182_195.out, NB195_182.out, NB183_195.out, NB195_183.out, (by repeat (first | (with_reducible first | exact HB.out | apply yA | apply yN | apply yD | refine yS ?_ GE182.out | refine yS ?_ GE183.out | refine yS ?_ GE195.out) | exact HB.out))⟩)
            ·skip
             refine box_step ?hg (N := 5) ?hd (cs := #[.bool false, .int .u64 0, .int .u64 0]) (t := 71) ?hr ?_; (case hd => rfl); (case hg => rfl); (case hr => first | (go_simp; done) | (go_simp; rfl))
             intro gb194 hg w20 hbox hb
             have n0_ := aK (Kd.R_below (HO186.out) hb)
             have n1_ := aK (zB (g := gb182) (o := .cells #[.int .i64 a0_0, .int .i64 a0_1] 33 (0, 0)) (BK182.out) hb)
             have n2_ := aK (zB (g := gb183) (o := .cells #[.int .i64 a1_0, .int .i64 a1_1] 33 (0, 0)) (BK183.out) hb)
             have n3_ := aK (zB (g := gb195) (o := .cells #[.bool false, .int .u64 0, .int .u64 0] 71 (0, 0)) (BK195.out) hb)
             have n4_ := aK (yT (by repeat (first | (with_reducible first | exact HB.out | apply yA | apply yN | apply yD | refine yS ?_ GE182.out | refine yS ?_ GE183.out | refine yS ?_ GE195.out) | exact HB.out)) hb)
             have n5_ := aK (hbox)
             have n6_ := aK ((by rw [hg]; exact (yZ (by repeat (first | (with_reducible first | exact HB.out | apply yA | apply yN | apply yD | refine yS ?_ GE182.out | refine yS ?_ GE183.out | refine yS ?_ GE195.out) | exact HB.out))) : w.heap.size ≤ gb194))
             have n7_ := aK ((by rw [hg]; exact (yZ (by repeat (first | (with_reducible first | exact HB.out | apply yA | apply yN | apply yD | refine yS ?_ GE182.out | refine yS ?_ GE183.out | refine yS ?_ GE195.out) | exact HB.out))) : w.heap.size ≤ gb194))
             have n8_ := aK ((by rw [hg]; exact Nat.ne_of_lt (blk_lt (g := gb182) (o := .cells #[.int .i64 a0_0, .int .i64 a0_1] 33 (0, 0)) (BK182.out)) : gb182 ≠ gb194))
             have n9_ := aK ((by rw [hg]; exact Nat.ne_of_gt (blk_lt (g := gb182) (o := .cells #[.int .i64 a0_0, .int .i64 a0_1] 33 (0, 0)) (BK182.out)) : gb194 ≠ gb182))
             have n10_ := aK ((by rw [hg]; exact Nat.ne_of_lt (blk_lt (g := gb183) (o := .cells #[.int .i64 a1_0, .int .i64 a1_1] 33 (0, 0)) (BK183.out)) : gb183 ≠ gb194))
             have n11_ := aK ((by rw [hg]; exact Nat.ne_of_gt (blk_lt (g := gb183) (o := .cells #[.int .i64 a1_0, .int .i64 a1_1] 33 (0, 0)) (BK183.out)) : gb194 ≠ gb183))
             have n12_ := aK ((by rw [hg]; exact Nat.ne_of_lt (blk_lt (g := gb195) (o := .cells #[.bool false, .int .u64 0, .int .u64 0] 71 (0, 0)) (BK195.out)) : gb195 ≠ gb194))
             have n13_ := aK ((by rw [hg]; exact Nat.ne_of_gt (blk_lt (g := gb195) (o := .cells #[.bool false, .int .u64 0, .int .u64 0] 71 (0, 0)) (BK195.out)) : gb194 ≠ gb195))
             clear HO186
             clear BK182
             clear BK183
             clear BK195
             clear HB
             have HO186 := n0_
             have BK182 := n1_
             have BK183 := n2_
             have BK195 := n3_
             have HB := n4_
             have BK194 := n5_
             have GW194 := n6_
             have GE194 := n7_
             have NB182_194 := n8_
             have NB194_182 := n9_
             have NB183_194 := n10_
             have NB194_183 := n11_
             have NB195_194 := n12_
             have NB194_195 := n13_
             clear n0_ n1_ n2_ n3_ n4_ n5_ n6_ n7_ n8_ n9_ n10_ n11_ n12_ n13_
             clear hb hbox hg
             refine hK.out _ _ ⟨(zC BK182.out 0).trans rfl, (zC BK182.out 1).trans rfl, (zC BK183.out 0).trans rfl, (zC BK183.out 1).trans rfl⟩ (fun hHeld => ?_)
             clear hK K
             refine norm_ (a' := ?_) ?_ ?_
             rotate_left
             ·show Act.put _ (some 5) _ = _
              simp only [Act.put, sA, sZ, sS, i64_w, i32_w]
              rfl
             exact norm_ (by first | (simp only [putAll, Act.put, sA, sZ, sS]; done) | (simp only [putAll, Act.put, sA, sZ, sS]; rfl)) (hJ10_11 (gb194, gb195) _ ⟨hHeld, (HO186.out), (BK182.out), (BK183.out), (BK194.out), (BK195.out), GW194.out, GE194.out, NB182_194.out, NB194_182.out, NB183_194.out, NB194_183.out, NB195_194.out, NB194_195.out, GW195.out, GE195.out, NB182_195.out, NB195_182.out, NB183_195.out, NB195_183.out, (by repeat (first | (with_reducible first | exact HB.out | apply yA | apply yN | apply yD | refine yS ?_ GE182.out | refine yS ?_ GE183.out | refine yS ?_ GE195.out | refine yS ?_ GE194.out) | exact HB.out))⟩)
          ·skip
           rintro gb194 w19 ⟨hS_, h0_, h1_, h2_, h3_, h4_, h5_, h6_, h7_, h8_, h9_, h10_⟩
           have n0_ : Aside0 (Kd.R k33 33 w19 w.heap.size (fun k_ => k_ ≠ gb182 ∧ k_ ≠ gb183) (.slice Ao15 y184.length co15) y184) := ⟨h0_⟩
           have n1_ : Aside0 (w19.heap[gb182]? = some (.cells #[.int .i64 a0_0, .int .i64 a0_1] 33 (0, 0))) := ⟨h1_⟩
           have n2_ : Aside0 (w19.heap[gb183]? = some (.cells #[.int .i64 a1_0, .int .i64 a1_1] 33 (0, 0))) := ⟨h2_⟩
           have n3_ : Aside0 (w19.heap[gb194]? = some (.cells #[.bool false, .int .u64 0, .int .u64 0] 71 (0, 0))) := ⟨h3_⟩
           have n4_ : Aside0 (w.heap.size ≤ gb194) := ⟨h4_⟩
           have n5_ : Aside0 (w.heap.size ≤ gb194) := ⟨h5_⟩
           have n6_ : Aside0 (gb182 ≠ gb194) := ⟨h6_⟩
           have n7_ : Aside0 (gb194 ≠ gb182) := ⟨h7_⟩
           have n8_ : Aside0 (gb183 ≠ gb194) := ⟨h8_⟩
           have n9_ : Aside0 (gb194 ≠ gb183) := ⟨h9_⟩
           have n10_ : Aside0 (Below w.heap.size w w19) := ⟨h10_⟩
           clear HO186
           clear BK182
           clear BK183
           clear HB
           clear h0_ h1_ h2_ h3_ h4_ h5_ h6_ h7_ h8_ h9_ h10_
           have HO186 := n0_
           have BK182 := n1_
           have BK183 := n2_
           have BK194 := n3_
           have GW194 := n4_
           have GE194 := n5_
           have NB182_194 := n6_
           have NB194_182 := n7_
           have NB183_194 := n8_
           have NB194_183 := n9_
           have HB := n10_
           clear n0_ n1_ n2_ n3_ n4_ n5_ n6_ n7_ n8_ n9_ n10_
           have hHeld : w19.cell? ⟨gb182, 0, none⟩ = some (.int .i64 a0_0) ∧ w19.cell? ⟨gb182, 1, none⟩ = some (.int .i64 a0_1) ∧ w19.cell? ⟨gb183, 0, none⟩ = some (.int .i64 a1_0) ∧ w19.cell? ⟨gb183, 1, none⟩ = some (.int .i64 a1_1) := hS_
           refine norm_ (a' := ?_) ?_ ?_
           rotate_left
           ·simp only [putAll, Act.put, sA, sZ, sS]
            rfl
           refine two_ (i := 4) (j := 11) (Ni := some 18) (Nj := some 6) #[true, true, true, true, true, true, true, true, true, false, true, false, false, false] #[true, true, true, true, false, true, true, true, true, false, true, true, false, false] rfl rfl rfl rfl (two_of HT_.out (by kernel_rfl)) (by decide) (by decide) (fun K hK => ?_) (fun K hK => ?_)
           ·skip
            refine goes_ Try.func56 (by kernel_rfl) rfl #[.int .i64 a0_0, .int .i64 a1_1] (by rfl) rfl rfl (by (try simp only [List.map_toArray, List.map_cons, List.map_nil]); first | done | rfl | (simp only [List.length_drop, List.length_take]; rfl)) ?_
            with_reducible refine (fraction_product.calls a0_0 a1_1 t188 t189 t190 _ A5.out).mono ?_
            rintro e w20 ⟨rfl, hb⟩
            refine ⟨_, rfl, ?_⟩
            have n0_ := aK (Kd.R_below (HO186.out) hb)
            have n1_ := aK (zB (g := gb182) (o := .cells #[.int .i64 a0_0, .int .i64 a0_1] 33 (0, 0)) (BK182.out) hb)
            have n2_ := aK (zB (g := gb183) (o := .cells #[.int .i64 a1_0, .int .i64 a1_1] 33 (0, 0)) (BK183.out) hb)
            have n3_ := aK (zB (g := gb194) (o := .cells #[.bool false, .int .u64 0, .int .u64 0] 71 (0, 0)) (BK194.out) hb)
            have n4_ := aK (yT (by repeat (first | (with_reducible first | exact HB.out | apply yA | apply yN | apply yD | refine yS ?_ GE182.out | refine yS ?_ GE183.out | refine yS ?_ GE194.out) | exact HB.out)) hb)
            clear HO186
            clear BK182
            clear BK183
            clear BK194
            clear HB
            have HO186 := n0_
            have BK182 := n1_
            have BK183 := n2_
            have BK194 := n3_
            have HB := n4_
            clear n0_ n1_ n2_ n3_ n4_
            (try clear hb)
            (try clear hb2)
            (try clear hk)
            (try clear hi)
            refine hK.out _ _ ⟨(zC BK182.out 0).trans rfl, (zC BK182.out 1).trans rfl, (zC BK183.out 0).trans rfl, (zC BK183.out 1).trans rfl⟩ (fun hHeld => ?_)
            clear hK K
            refine norm_ (a' := ?_) ?_ ?_
            rotate_left
            ·show Act.put _ (some 18) _ = _
             simp only [Act.put, sA, sZ, sS, i64_w, i32_w]
             rfl
            exact norm_ (by first | (simp only [putAll, Act.put, sA, sZ, sS]; done) | (simp only [putAll, Act.put, sA, sZ, sS]; rfl)) (hJ4_10 (gb194) _ ⟨hHeld, (HO186.out), (BK182.out), (BK183.out), (BK194.out), GW194.out, GE194.out, NB182_194.out, NB194_182.out, NB183_194.out, NB194_183.out, (by repeat (first | (with_reducible first | exact HB.out | apply yA | apply yN | apply yD | refine yS ?_ GE182.out | refine yS ?_ GE183.out | refine yS ?_ GE194.out) | exact HB.out))⟩)
           ·skip
            refine box_step ?hg (N := 6) ?hd (cs := #[.bool false, .int .u64 0, .int .u64 0]) (t := 71) ?hr ?_; (case hd => rfl); (case hg => rfl); (case hr => first | (go_simp; done) | (go_simp; rfl))
            intro gb195 hg w20 hbox hb
            have n0_ := aK (Kd.R_below (HO186.out) hb)
            have n1_ := aK (zB (g := gb182) (o := .cells #[.int .i64 a0_0, .int .i64 a0_1] 33 (0, 0)) (BK182.out) hb)
            have n2_ := aK (zB (g := gb183) (o := .cells #[.int .i64 a1_0, .int .i64 a1_1] 33 (0, 0)) (BK183.out) hb)
            have n3_ := aK (zB (g := gb194) (o := .cells #[.bool false, .int .u64 0, .int .u64 0] 71 (0, 0)) (BK194.out) hb)
            have n4_ := aK (yT (by repeat (first | (with_reducible first | exact HB.out | apply yA | apply yN | apply yD | refine yS ?_ GE182.out | refine yS ?_ GE183.out | refine yS ?_ GE194.out) | exact HB.out)) hb)
            have n5_ := aK (hbox)
            have n6_ := aK ((by rw [hg]; exact (yZ (by repeat (first | (with_reducible first | exact HB.out | apply yA | apply yN | apply yD | refine yS ?_ GE182.out | refine yS ?_ GE183.out | refine yS ?_ GE194.out) | exact HB.out))) : w.heap.size ≤ gb195))
            have n7_ := aK ((by rw [hg]; exact (yZ (by repeat (first | (with_reducible first | exact HB.out | apply yA | apply yN | apply yD | refine yS ?_ GE182.out | refine yS ?_ GE183.out | refine yS ?_ GE194.out) | exact HB.out))) : w.heap.size ≤ gb195))
            have n8_ := aK ((by rw [hg]; exact Nat.ne_of_lt (blk_lt (g := gb182) (o := .cells #[.int .i64 a0_0, .int .i64 a0_1] 33 (0, 0)) (BK182.out)) : gb182 ≠ gb195))
            have n9_ := aK ((by rw [hg]; exact Nat.ne_of_gt (blk_lt (g := gb182) (o := .cells #[.int .i64 a0_0, .int .i64 a0_1] 33 (0, 0)) (BK182.out)) : gb195 ≠ gb182))
            have n10_ := aK ((by rw [hg]; exact Nat.ne_of_lt (blk_lt (g := gb183) (o := .cells #[.int .i64 a1_0, .int .i64 a1_1] 33 (0, 0)) (BK183.out)) : gb183 ≠ gb195))
            have n11_ := aK ((by rw [hg]; exact Nat.ne_of_gt (blk_lt (g := gb183) (o := .cells #[.int .i64 a1_0, .int .i64 a1_1] 33 (0, 0)) (BK183.out)) : gb195 ≠ gb183))
            have n12_ := aK ((by rw [hg]; exact Nat.ne_of_lt (blk_lt (g := gb194) (o := .cells #[.bool false, .int .u64 0, .int .u64 0] 71 (0, 0)) (BK194.out)) : gb194 ≠ gb195))
            have n13_ := aK ((by rw [hg]; exact Nat.ne_of_gt (blk_lt (g := gb194) (o := .cells #[.bool false, .int .u64 0, .int .u64 0] 71 (0, 0)) (BK194.out)) : gb195 ≠ gb194))
            clear HO186
            clear BK182
            clear BK183
            clear BK194
            clear HB
            have HO186 := n0_
            have BK182 := n1_
            have BK183 := n2_
            have BK194 := n3_
            have HB := n4_
            have BK195 := n5_
            have GW195 := n6_
            have GE195 := n7_
            have NB182_195 := n8_
            have NB195_182 := n9_
            have NB183_195 := n10_
            have NB195_183 := n11_
            have NB194_195 := n12_
            have NB195_194 := n13_
            clear n0_ n1_ n2_ n3_ n4_ n5_ n6_ n7_ n8_ n9_ n10_ n11_ n12_ n13_
            clear hb hbox hg
            refine hK.out _ _ ⟨(zC BK182.out 0).trans rfl, (zC BK182.out 1).trans rfl, (zC BK183.out 0).trans rfl, (zC BK183.out 1).trans rfl⟩ (fun hHeld => ?_)
            clear hK K
            refine norm_ (a' := ?_) ?_ ?_
            rotate_left
            ·show Act.put _ (some 6) _ = _
             simp only [Act.put, sA, sZ, sS, i64_w, i32_w]
             rfl
            exact norm_ (by first | (simp only [putAll, Act.put, sA, sZ, sS]; done) | (simp only [putAll, Act.put, sA, sZ, sS]; rfl)) (hJ10_11 (gb194, gb195) _ ⟨hHeld, (HO186.out), (BK182.out), (BK183.out), (BK194.out), (BK195.out), GW194.out, GE194.out, NB182_194.out, NB194_182.out, NB183_194.out, NB194_183.out, NB195_194.out, NB194_195.out, GW195.out, GE195.out, NB182_195.out, NB195_182.out, NB183_195.out, NB195_183.out, (by repeat (first | (with_reducible first | exact HB.out | apply yA | apply yN | apply yD | refine yS ?_ GE182.out | refine yS ?_ GE183.out | refine yS ?_ GE194.out | refine yS ?_ GE195.out) | exact HB.out))⟩)
         ·skip
          rintro _ w19 ⟨hS_, h0_, h1_, h2_, h3_⟩
          have n0_ : Aside0 (Kd.R k33 33 w19 w.heap.size (fun k_ => k_ ≠ gb182 ∧ k_ ≠ gb183) (.slice Ao15 y184.length co15) y184) := ⟨h0_⟩
          have n1_ : Aside0 (w19.heap[gb182]? = some (.cells #[.int .i64 a0_0, .int .i64 a0_1] 33 (0, 0))) := ⟨h1_⟩
          have n2_ : Aside0 (w19.heap[gb183]? = some (.cells #[.int .i64 a1_0, .int .i64 a1_1] 33 (0, 0))) := ⟨h2_⟩
          have n3_ : Aside0 (Below w.heap.size w w19) := ⟨h3_⟩
          clear HO186
          clear BK182
          clear BK183
          clear HB
          clear h0_ h1_ h2_ h3_
          have HO186 := n0_
          have BK182 := n1_
          have BK183 := n2_
          have HB := n3_
          clear n0_ n1_ n2_ n3_
          have hHeld : w19.cell? ⟨gb182, 0, none⟩ = some (.int .i64 a0_0) ∧ w19.cell? ⟨gb182, 1, none⟩ = some (.int .i64 a0_1) ∧ w19.cell? ⟨gb183, 0, none⟩ = some (.int .i64 a1_0) ∧ w19.cell? ⟨gb183, 1, none⟩ = some (.int .i64 a1_1) := hS_
          refine norm_ (a' := ?_) ?_ ?_
          rotate_left
          ·simp only [putAll, Act.put, sA, sZ, sS]
           rfl
          refine three_ (i := 9) (j := 10) (k := 11) (Ni := some 23) (Nj := some 5) (Nk := some 6) #[true, true, true, true, true, true, true, true, true, true, false, false, false, false] #[true, true, true, true, true, true, true, true, true, false, true, false, false, false] #[true, true, true, true, true, true, true, true, true, false, false, true, false, false] rfl rfl rfl rfl rfl rfl (three_of HT_.out (by kernel_rfl)) (by decide) (by decide) (by decide) (fun K hK => ?_) (fun K hK => ?_) (fun K hK => ?_)
          ·skip
           refine goes_ Try.func56 (by kernel_rfl) rfl #[.int .i64 a1_0, .int .i64 a0_1] (by rfl) rfl rfl (by (try simp only [List.map_toArray, List.map_cons, List.map_nil]); first | done | rfl | (simp only [List.length_drop, List.length_take]; rfl)) ?_
           with_reducible refine (fraction_product.calls a1_0 a0_1 t191 t192 t193 _ A6.out).mono ?_
           rintro e w20 ⟨rfl, hb⟩
           refine ⟨_, rfl, ?_⟩
           have n0_ := aK (Kd.R_below (HO186.out) hb)
           have n1_ := aK (zB (g := gb182) (o := .cells #[.int .i64 a0_0, .int .i64 a0_1] 33 (0, 0)) (BK182.out) hb)
           have n2_ := aK (zB (g := gb183) (o := .cells #[.int .i64 a1_0, .int .i64 a1_1] 33 (0, 0)) (BK183.out) hb)
           have n3_ := aK (yT (by repeat (first | (with_reducible first | exact HB.out | apply yA | apply yN | apply yD | refine yS ?_ GE182.out | refine yS ?_ GE183.out) | exact HB.out)) hb)
           clear HO186
           clear BK182
           clear BK183
           clear HB
           have HO186 := n0_
           have BK182 := n1_
           have BK183 := n2_
           have HB := n3_
           clear n0_ n1_ n2_ n3_
           (try clear hb)
           (try clear hb2)
           (try clear hk)
           (try clear hi)
           refine hK.out _ _ ⟨(zC BK182.out 0).trans rfl, (zC BK182.out 1).trans rfl, (zC BK183.out 0).trans rfl, (zC BK183.out 1).trans rfl⟩ (fun hHeld => ?_)
           clear hK K
           refine norm_ (a' := ?_) ?_ ?_
           rotate_left
           ·show Act.put _ (some 23) _ = _
            simp only [Act.put, sA, sZ, sS, i64_w, i32_w]
            rfl
           exact norm_ (by first | (simp only [putAll, Act.put, sA, sZ, sS]; done) | (simp only [putAll, Act.put, sA, sZ, sS]; rfl)) (hJ4_9 () _ ⟨hHeld, (HO186.out), (BK182.out), (BK183.out), (by repeat (first | (with_reducible first | exact HB.out | apply yA | apply yN | apply yD | refine yS ?_ GE182.out | refine yS ?_ GE183.out) | exact HB.out))⟩)
          ·skip
           refine box_step ?hg (N := 5) ?hd (cs := #[.bool false, .int .u64 0, .int .u64 0]) (t := 71) ?hr ?_; (case hd => rfl); (case hg => rfl); (case hr => first | (go_simp; done) | (go_simp; rfl))
           intro gb194 hg w20 hbox hb
           have n0_ := aK (Kd.R_below (HO186.out) hb)
           have n1_ := aK (zB (g := gb182) (o := .cells #[.int .i64 a0_0, .int .i64 a0_1] 33 (0, 0)) (BK182.out) hb)
           have n2_ := aK (zB (g := gb183) (o := .cells #[.int .i64 a1_0, .int .i64 a1_1] 33 (0, 0)) (BK183.out) hb)
           have n3_ := aK (yT (by repeat (first | (with_reducible first | exact HB.out | apply yA | apply yN | apply yD | refine yS ?_ GE182.out | refine yS ?_ GE183.out) | exact HB.out)) hb)
           have n4_ := aK (hbox)
           have n5_ := aK ((by rw [hg]; exact (yZ (by repeat (first | (with_reducible first | exact HB.out | apply yA | apply yN | apply yD | refine yS ?_ GE182.out | refine yS ?_ GE183.out) | exact HB.out))) : w.heap.size ≤ gb194))
           have n6_ := aK ((by rw [hg]; exact (yZ (by repeat (first | (with_reducible first | exact HB.out | apply yA | apply yN | apply yD | refine yS ?_ GE182.out | refine yS ?_ GE183.out) | exact HB.out))) : w.heap.size ≤ gb194))
           have n7_ := aK ((by rw [hg]; exact Nat.ne_of_lt (blk_lt (g := gb182) (o := .cells #[.int .i64 a0_0, .int .i64 a0_1] 33 (0, 0)) (BK182.out)) : gb182 ≠ gb194))
           have n8_ := aK ((by rw [hg]; exact Nat.ne_of_gt (blk_lt (g := gb182) (o := .cells #[.int .i64 a0_0, .int .i64 a0_1] 33 (0, 0)) (BK182.out)) : gb194 ≠ gb182))
           have n9_ := aK ((by rw [hg]; exact Nat.ne_of_lt (blk_lt (g := gb183) (o := .cells #[.int .i64 a1_0, .int .i64 a1_1] 33 (0, 0)) (BK183.out)) : gb183 ≠ gb194))
           have n10_ := aK ((by rw [hg]; exact Nat.ne_of_gt (blk_lt (g := gb183) (o := .cells #[.int .i64 a1_0, .int .i64 a1_1] 33 (0, 0)) (BK183.out)) : gb194 ≠ gb183))
           clear HO186
           clear BK182
           clear BK183
           clear HB
           have HO186 := n0_
           have BK182 := n1_
           have BK183 := n2_
           have HB := n3_
           have BK194 := n4_
           have GW194 := n5_
           have GE194 := n6_
           have NB182_194 := n7_
           have NB194_182 := n8_
           have NB183_194 := n9_
           have NB194_183 := n10_
           clear n0_ n1_ n2_ n3_ n4_ n5_ n6_ n7_ n8_ n9_ n10_
           clear hb hbox hg
           refine hK.out _ _ ⟨(zC BK182.out 0).trans rfl, (zC BK182.out 1).trans rfl, (zC BK183.out 0).trans rfl, (zC BK183.out 1).trans rfl⟩ (fun hHeld => ?_)
           clear hK K
           refine norm_ (a' := ?_) ?_ ?_
           rotate_left
           ·show Act.put _ (some 5) _ = _
            simp only [Act.put, sA, sZ, sS, i64_w, i32_w]
            rfl
           exact norm_ (by first | (simp only [putAll, Act.put, sA, sZ, sS]; done) | (simp only [putAll, Act.put, sA, sZ, sS]; rfl)) (hJ4_10 (gb194) _ ⟨hHeld, (HO186.out), (BK182.out), (BK183.out), (BK194.out), GW194.out, GE194.out, NB182_194.out, NB194_182.out, NB183_194.out, NB194_183.out, (by repeat (first | (with_reducible first | exact HB.out | apply yA | apply yN | apply yD | refine yS ?_ GE182.out | refine yS ?_ GE183.out | refine yS ?_ GE194.out) | exact HB.out))⟩)
          ·skip
           refine box_step ?hg (N := 6) ?hd (cs := #[.bool false, .int .u64 0, .int .u64 0]) (t := 71) ?hr ?_; (case hd => rfl); (case hg => rfl); (case hr => first | (go_simp; done) | (go_simp; rfl))
           intro gb195 hg w20 hbox hb
           have n0_ := aK (Kd.R_below (HO186.out) hb)
           have n1_ := aK (zB (g := gb182) (o := .cells #[.int .i64 a0_0, .int .i64 a0_1] 33 (0, 0)) (BK182.out) hb)
           have n2_ := aK (zB (g := gb183) (o := .cells #[.int .i64 a1_0, .int .i64 a1_1] 33 (0, 0)) (BK183.out) hb)
           have n3_ := aK (yT (by repeat (first | (with_reducible first | exact HB.out | apply yA | apply yN | apply yD | refine yS ?_ GE182.out | refine yS ?_ GE183.out) | exact HB.out)) hb)
           have n4_ := aK (hbox)
           have n5_ := aK ((by rw [hg]; exact (yZ (by repeat (first | (with_reducible first | exact HB.out | apply yA | apply yN | apply yD | refine yS ?_ GE182.out | refine yS ?_ GE183.out) | exact HB.out))) : w.heap.size ≤ gb195))
           have n6_ := aK ((by rw [hg]; exact (yZ (by repeat (first | (with_reducible first | exact HB.out | apply yA | apply yN | apply yD | refine yS ?_ GE182.out | refine yS ?_ GE183.out) | exact HB.out))) : w.heap.size ≤ gb195))
           have n7_ := aK ((by rw [hg]; exact Nat.ne_of_lt (blk_lt (g := gb182) (o := .cells #[.int .i64 a0_0, .int .i64 a0_1] 33 (0, 0)) (BK182.out)) : gb182 ≠ gb195))
           have n8_ := aK ((by rw [hg]; exact Nat.ne_of_gt (blk_lt (g := gb182) (o := .cells #[.int .i64 a0_0, .int .i64 a0_1] 33 (0, 0)) (BK182.out)) : gb195 ≠ gb182))
           have n9_ := aK ((by rw [hg]; exact Nat.ne_of_lt (blk_lt (g := gb183) (o := .cells #[.int .i64 a1_0, .int .i64 a1_1] 33 (0, 0)) (BK183.out)) : gb183 ≠ gb195))
           have n10_ := aK ((by rw [hg]; exact Nat.ne_of_gt (blk_lt (g := gb183) (o := .cells #[.int .i64 a1_0, .int .i64 a1_1] 33 (0, 0)) (BK183.out)) : gb195 ≠ gb183))
           clear HO186
           clear BK182
           clear BK183
           clear HB
           have HO186 := n0_
           have BK182 := n1_
           have BK183 := n2_
           have HB := n3_
           have BK195 := n4_
           have GW195 := n5_
           have GE195 := n6_
           have NB182_195 := n7_
           have NB195_182 := n8_
           have NB183_195 := n9_
           have NB195_183 := n10_
           clear n0_ n1_ n2_ n3_ n4_ n5_ n6_ n7_ n8_ n9_ n10_
           clear hb hbox hg
           refine hK.out _ _ ⟨(zC BK182.out 0).trans rfl, (zC BK182.out 1).trans rfl, (zC BK183.out 0).trans rfl, (zC BK183.out 1).trans rfl⟩ (fun hHeld => ?_)
           clear hK K
           refine norm_ (a' := ?_) ?_ ?_
           rotate_left
           ·show Act.put _ (some 6) _ = _
            simp only [Act.put, sA, sZ, sS, i64_w, i32_w]
            rfl
           exact norm_ (by first | (simp only [putAll, Act.put, sA, sZ, sS]; done) | (simp only [putAll, Act.put, sA, sZ, sS]; rfl)) (hJ4_11 (gb195) _ ⟨hHeld, (HO186.out), (BK182.out), (BK183.out), (BK195.out), GW195.out, GE195.out, NB182_195.out, NB195_182.out, NB183_195.out, NB195_183.out, (by repeat (first | (with_reducible first | exact HB.out | apply yA | apply yN | apply yD | refine yS ?_ GE182.out | refine yS ?_ GE183.out | refine yS ?_ GE195.out) | exact HB.out))⟩)
        ·skip
         rintro ⟨gb194, gb195⟩ w20 ⟨hS_, h0_, h1_, h2_, h3_, h4_, h5_, h6_, h7_, h8_, h9_, h10_, h11_, h12_, h13_, h14_, h15_, h16_, h17_, h18_, h19_⟩
         have n0_ : Aside0 (Kd.R k33 33 w20 w.heap.size (fun k_ => k_ ≠ gb182 ∧ k_ ≠ gb183) (.slice Ao15 y184.length co15) y184) := ⟨h0_⟩
         have n1_ : Aside0 (w20.heap[gb182]? = some (.cells #[.int .i64 a0_0, .int .i64 a0_1] 33 (0, 0))) := ⟨h1_⟩
         have n2_ : Aside0 (w20.heap[gb183]? = some (.cells #[.int .i64 a1_0, .int .i64 a1_1] 33 (0, 0))) := ⟨h2_⟩
         have n3_ : Aside0 (w20.heap[gb194]? = some (.cells #[.bool false, .int .u64 0, .int .u64 0] 71 (0, 0))) := ⟨h3_⟩
         have n4_ : Aside0 (w20.heap[gb195]? = some (.cells #[.bool false, .int .u64 0, .int .u64 0] 71 (0, 0))) := ⟨h4_⟩
         have n5_ : Aside0 (w.heap.size ≤ gb194) := ⟨h5_⟩
         have n6_ : Aside0 (w.heap.size ≤ gb194) := ⟨h6_⟩
         have n7_ : Aside0 (gb182 ≠ gb194) := ⟨h7_⟩
         have n8_ : Aside0 (gb194 ≠ gb182) := ⟨h8_⟩
         have n9_ : Aside0 (gb183 ≠ gb194) := ⟨h9_⟩
         have n10_ : Aside0 (gb194 ≠ gb183) := ⟨h10_⟩
         have n11_ : Aside0 (gb195 ≠ gb194) := ⟨h11_⟩
         have n12_ : Aside0 (gb194 ≠ gb195) := ⟨h12_⟩
         have n13_ : Aside0 (w.heap.size ≤ gb195) := ⟨h13_⟩
         have n14_ : Aside0 (w.heap.size ≤ gb195) := ⟨h14_⟩
         have n15_ : Aside0 (gb182 ≠ gb195) := ⟨h15_⟩
         have n16_ : Aside0 (gb195 ≠ gb182) := ⟨h16_⟩
         have n17_ : Aside0 (gb183 ≠ gb195) := ⟨h17_⟩
         have n18_ : Aside0 (gb195 ≠ gb183) := ⟨h18_⟩
         have n19_ : Aside0 (Below w.heap.size w w20) := ⟨h19_⟩
         clear HO186
         clear BK182
         clear BK183
         clear HB
         clear h0_ h1_ h2_ h3_ h4_ h5_ h6_ h7_ h8_ h9_ h10_ h11_ h12_ h13_ h14_ h15_ h16_ h17_ h18_ h19_
         have HO186 := n0_
         have BK182 := n1_
         have BK183 := n2_
         have BK194 := n3_
         have BK195 := n4_
         have GW194 := n5_
         have GE194 := n6_
         have NB182_194 := n7_
         have NB194_182 := n8_
         have NB183_194 := n9_
         have NB194_183 := n10_
         have NB195_194 := n11_
         have NB194_195 := n12_
         have GW195 := n13_
         have GE195 := n14_
         have NB182_195 := n15_
         have NB195_182 := n16_
         have NB183_195 := n17_
         have NB195_183 := n18_
         have HB := n19_
         clear n0_ n1_ n2_ n3_ n4_ n5_ n6_ n7_ n8_ n9_ n10_ n11_ n12_ n13_ n14_ n15_ n16_ n17_ n18_ n19_
         have hHeld : w20.cell? ⟨gb182, 0, none⟩ = some (.int .i64 a0_0) ∧ w20.cell? ⟨gb182, 1, none⟩ = some (.int .i64 a0_1) ∧ w20.cell? ⟨gb183, 0, none⟩ = some (.int .i64 a1_0) ∧ w20.cell? ⟨gb183, 1, none⟩ = some (.int .i64 a1_1) := hS_
         refine norm_ (a' := ?_) ?_ ?_
         rotate_left
         ·simp only [putAll, Act.put, sA, sZ, sS]
          rfl
         refine one_ (i := 4) (N := some 18) #[true, true, true, true, true, true, true, true, true, false, true, true, false, false] rfl rfl (one_of HT_.out (by kernel_rfl)) (by decide) (fun K hK => ?_)
         refine goes_ Try.func56 (by kernel_rfl) rfl #[.int .i64 a0_0, .int .i64 a1_1] (by rfl) rfl rfl (by (try simp only [List.map_toArray, List.map_cons, List.map_nil]); first | done | rfl | (simp only [List.length_drop, List.length_take]; rfl)) ?_
         with_reducible refine (fraction_product.calls a0_0 a1_1 t188 t189 t190 _ A5.out).mono ?_
         rintro e w21 ⟨rfl, hb⟩
         refine ⟨_, rfl, ?_⟩
         have n0_ := aK (Kd.R_below (HO186.out) hb)
         have n1_ := aK (zB (g := gb182) (o := .cells #[.int .i64 a0_0, .int .i64 a0_1] 33 (0, 0)) (BK182.out) hb)
         have n2_ := aK (zB (g := gb183) (o := .cells #[.int .i64 a1_0, .int .i64 a1_1] 33 (0, 0)) (BK183.out) hb)
         have n3_ := aK (zB (g := gb194) (o := .cells #[.bool false, .int .u64 0, .int .u64 0] 71 (0, 0)) (BK194.out) hb)
         have n4_ := aK (zB (g := gb195) (o := .cells #[.bool false, .int .u64 0, .int .u64 0] 71 (0, 0)) (BK195.out) hb)
         have n5_ := aK (yT (by repeat (first | (with_reducible first | exact HB.out | apply yA | apply yN | apply yD | refine yS ?_ GE182.out | refine yS ?_ GE183.out | refine yS ?_ GE194.out | refine yS ?_ GE195.out) | exact HB.out)) hb)
         clear HO186
         clear BK182
         clear BK183
         clear BK194
         clear BK195
         clear HB
         have HO186 := n0_
         have BK182 := n1_
         have BK183 := n2_
         have BK194 := n3_
         have BK195 := n4_
         have HB := n5_
         clear n0_ n1_ n2_ n3_ n4_ n5_
         (try clear hb)
         (try clear hb2)
         (try clear hk)
         (try clear hi)
         refine hK.out _ _ ⟨(zC BK182.out 0).trans rfl, (zC BK182.out 1).trans rfl, (zC BK183.out 0).trans rfl, (zC BK183.out 1).trans rfl⟩ (fun hHeld => ?_)
         clear hK K
         refine norm_ (a' := ?_) ?_ ?_
         rotate_left
         ·show Act.put _ (some 18) _ = _
          simp only [Act.put, sA, sZ, sS, i64_w, i32_w]
          rfl
         exact norm_ (by first | (simp only [putAll, Act.put, sA, sZ, sS]; done) | (simp only [putAll, Act.put, sA, sZ, sS]; rfl)) (hJ4_10_11 (gb194, gb195) _ ⟨hHeld, (HO186.out), (BK182.out), (BK183.out), (BK194.out), (BK195.out), GW194.out, GE194.out, NB182_194.out, NB194_182.out, NB183_194.out, NB194_183.out, NB195_194.out, NB194_195.out, GW195.out, GE195.out, NB182_195.out, NB195_182.out, NB183_195.out, NB195_183.out, (by repeat (first | (with_reducible first | exact HB.out | apply yA | apply yN | apply yD | refine yS ?_ GE182.out | refine yS ?_ GE183.out | refine yS ?_ GE194.out | refine yS ?_ GE195.out) | exact HB.out))⟩)
       ·skip
        rintro gb195 w20 ⟨hS_, h0_, h1_, h2_, h3_, h4_, h5_, h6_, h7_, h8_, h9_, h10_⟩
        have n0_ : Aside0 (Kd.R k33 33 w20 w.heap.size (fun k_ => k_ ≠ gb182 ∧ k_ ≠ gb183) (.slice Ao15 y184.length co15) y184) := ⟨h0_⟩
        have n1_ : Aside0 (w20.heap[gb182]? = some (.cells #[.int .i64 a0_0, .int .i64 a0_1] 33 (0, 0))) := ⟨h1_⟩
        have n2_ : Aside0 (w20.heap[gb183]? = some (.cells #[.int .i64 a1_0, .int .i64 a1_1] 33 (0, 0))) := ⟨h2_⟩
        have n3_ : Aside0 (w20.heap[gb195]? = some (.cells #[.bool false, .int .u64 0, .int .u64 0] 71 (0, 0))) := ⟨h3_⟩
        have n4_ : Aside0 (w.heap.size ≤ gb195) := ⟨h4_⟩
        have n5_ : Aside0 (w.heap.size ≤ gb195) := ⟨h5_⟩
        have n6_ : Aside0 (gb182 ≠ gb195) := ⟨h6_⟩
        have n7_ : Aside0 (gb195 ≠ gb182) := ⟨h7_⟩
        have n8_ : Aside0 (gb183 ≠ gb195) := ⟨h8_⟩
        have n9_ : Aside0 (gb195 ≠ gb183) := ⟨h9_⟩
        have n10_ : Aside0 (Below w.heap.size w w20) := ⟨h10_⟩
        clear HO186
        clear BK182
        clear BK183
        clear HB
        clear h0_ h1_ h2_ h3_ h4_ h5_ h6_ h7_ h8_ h9_ h10_
        have HO186 := n0_
        have BK182 := n1_
        have BK183 := n2_
        have BK195 := n3_
        have GW195 := n4_
        have GE195 := n5_
        have NB182_195 := n6_
        have NB195_182 := n7_
        have NB183_195 := n8_
        have NB195_183 := n9_
        have HB := n10_
        clear n0_ n1_ n2_ n3_ n4_ n5_ n6_ n7_ n8_ n9_ n10_
        have hHeld : w20.cell? ⟨gb182, 0, none⟩ = some (.int .i64 a0_0) ∧ w20.cell? ⟨gb182, 1, none⟩ = some (.int .i64 a0_1) ∧ w20.cell? ⟨gb183, 0, none⟩ = some (.int .i64 a1_0) ∧ w20.cell? ⟨gb183, 1, none⟩ = some (.int .i64 a1_1) := hS_
        refine norm_ (a' := ?_) ?_ ?_
        rotate_left
        ·simp only [putAll, Act.put, sA, sZ, sS]
         rfl
        refine two_ (i := 9) (j := 10) (Ni := some 23) (Nj := some 5) #[true, true, true, true, true, true, true, true, true, true, false, true, false, false] #[true, true, true, true, true, true, true, true, true, false, true, true, false, false] rfl rfl rfl rfl (two_of HT_.out (by kernel_rfl)) (by decide) (by decide) (fun K hK => ?_) (fun K hK => ?_)
        ·skip
         refine goes_ Try.func56 (by kernel_rfl) rfl #[.int .i64 a1_0, .int .i64 a0_1] (by rfl) rfl rfl (by (try simp only [List.map_toArray, List.map_cons, List.map_nil]); first | done | rfl | (simp only [List.length_drop, List.length_take]; rfl)) ?_
         with_reducible refine (fraction_product.calls a1_0 a0_1 t191 t192 t193 _ A6.out).mono ?_
         rintro e w21 ⟨rfl, hb⟩
         refine ⟨_, rfl, ?_⟩
         have n0_ := aK (Kd.R_below (HO186.out) hb)
         have n1_ := aK (zB (g := gb182) (o := .cells #[.int .i64 a0_0, .int .i64 a0_1] 33 (0, 0)) (BK182.out) hb)
         have n2_ := aK (zB (g := gb183) (o := .cells #[.int .i64 a1_0, .int .i64 a1_1] 33 (0, 0)) (BK183.out) hb)
         have n3_ := aK (zB (g := gb195) (o := .cells #[.bool false, .int .u64 0, .int .u64 0] 71 (0, 0)) (BK195.out) hb)
         have n4_ := aK (yT (by repeat (first | (with_reducible first | exact HB.out | apply yA | apply yN | apply yD | refine yS ?_ GE182.out | refine yS ?_ GE183.out | refine yS ?_ GE195.out) | exact HB.out)) hb)
         clear HO186
         clear BK182
         clear BK183
         clear BK195
         clear HB
         have HO186 := n0_
         have BK182 := n1_
         have BK183 := n2_
         have BK195 := n3_
         have HB := n4_
         clear n0_ n1_ n2_ n3_ n4_
         (try clear hb)
         (try clear hb2)
         (try clear hk)
         (try clear hi)
         refine hK.out _ _ ⟨(zC BK182.out 0).trans rfl, (zC BK182.out 1).trans rfl, (zC BK183.out 0).trans rfl, (zC BK183.out 1).trans rfl⟩ (fun hHeld => ?_)
         clear hK K
         refine norm_ (a' := ?_) ?_ ?_
         rotate_left
         ·show Act.put _ (some 23) _ = _
          simp only [Act.put, sA, sZ, sS, i64_w, i32_w]
          rfl
         exact norm_ (by first | (simp only [putAll, Act.put, sA, sZ, sS]; done) | (simp only [putAll, Act.put, sA, sZ, sS]; rfl)) (hJ4_9_11 (gb195) _ ⟨hHeld, (HO186.out), (BK182.out), (BK183.out), (BK195.out), GW195.out, GE195.out, NB182_195.out, NB195_182.out, NB183_195.out, NB195_183.out, (by repeat (first | (with_reducible first | exact HB.out | apply yA | apply yN | apply yD | refine yS ?_ GE182.out | refine yS ?_ GE183.out | refine yS ?_ GE195.out) | exact HB.out))⟩)
        ·skip
         refine box_step ?hg (N := 5) ?hd (cs := #[.bool false, .int .u64 0, .int .u64 0]) (t := 71) ?hr ?_; (case hd => rfl); (case hg => rfl); (case hr => first | (go_simp; done) | (go_simp; rfl))
         intro gb194 hg w21 hbox hb
         have n0_ := aK (Kd.R_below (HO186.out) hb)
         have n1_ := aK (zB (g := gb182) (o := .cells #[.int .i64 a0_0, .int .i64 a0_1] 33 (0, 0)) (BK182.out) hb)
         have n2_ := aK (zB (g := gb183) (o := .cells #[.int .i64 a1_0, .int .i64 a1_1] 33 (0, 0)) (BK183.out) hb)
         have n3_ := aK (zB (g := gb195) (o := .cells #[.bool false, .int .u64 0, .int .u64 0] 71 (0, 0)) (BK195.out) hb)
         have n4_ := aK (yT (by repeat (first | (with_reducible first | exact HB.out | apply yA | apply yN | apply yD | refine yS ?_ GE182.out | refine yS ?_ GE183.out | refine yS ?_ GE195.out) | exact HB.out)) hb)
         have n5_ := aK (hbox)
         have n6_ := aK ((by rw [hg]; exact (yZ (by repeat (first | (with_reducible first | exact HB.out | apply yA | apply yN | apply yD | refine yS ?_ GE182.out | refine yS ?_ GE183.out | refine yS ?_ GE195.out) | exact HB.out))) : w.heap.size ≤ gb194))
         have n7_ := aK ((by rw [hg]; exact (yZ (by repeat (first | (with_reducible first | exact HB.out | apply yA | apply yN | apply yD | refine yS ?_ GE182.out | refine yS ?_ GE183.out | refine yS ?_ GE195.out) | exact HB.out))) : w.heap.size ≤ gb194))
         have n8_ := aK ((by rw [hg]; exact Nat.ne_of_lt (blk_lt (g := gb182) (o := .cells #[.int .i64 a0_0, .int .i64 a0_1] 33 (0, 0)) (BK182.out)) : gb182 ≠ gb194))
         have n9_ := aK ((by rw [hg]; exact Nat.ne_of_gt (blk_lt (g := gb182) (o := .cells #[.int .i64 a0_0, .int .i64 a0_1] 33 (0, 0)) (BK182.out)) : gb194 ≠ gb182))
         have n10_ := aK ((by rw [hg]; exact Nat.ne_of_lt (blk_lt (g := gb183) (o := .cells #[.int .i64 a1_0, .int .i64 a1_1] 33 (0, 0)) (BK183.out)) : gb183 ≠ gb194))
         have n11_ := aK ((by rw [hg]; exact Nat.ne_of_gt (blk_lt (g := gb183) (o := .cells #[.int .i64 a1_0, .int .i64 a1_1] 33 (0, 0)) (BK183.out)) : gb194 ≠ gb183))
         have n12_ := aK ((by rw [hg]; exact Nat.ne_of_lt (blk_lt (g := gb195) (o := .cells #[.bool false, .int .u64 0, .int .u64 0] 71 (0, 0)) (BK195.out)) : gb195 ≠ gb194))
         have n13_ := aK ((by rw [hg]; exact Nat.ne_of_gt (blk_lt (g := gb195) (o := .cells #[.bool false, .int .u64 0, .int .u64 0] 71 (0, 0)) (BK195.out)) : gb194 ≠ gb195))
         clear HO186
         clear BK182
         clear BK183
         clear BK195
         clear HB
         have HO186 := n0_
         have BK182 := n1_
         have BK183 := n2_
         have BK195 := n3_
         have HB := n4_
         have BK194 := n5_
         have GW194 := n6_
         have GE194 := n7_
         have NB182_194 := n8_
         have NB194_182 := n9_
         have NB183_194 := n10_
         have NB194_183 := n11_
         have NB195_194 := n12_
         have NB194_195 := n13_
         clear n0_ n1_ n2_ n3_ n4_ n5_ n6_ n7_ n8_ n9_ n10_ n11_ n12_ n13_
         clear hb hbox hg
         refine hK.out _ _ ⟨(zC BK182.out 0).trans rfl, (zC BK182.out 1).trans rfl, (zC BK183.out 0).trans rfl, (zC BK183.out 1).trans rfl⟩ (fun hHeld => ?_)
         clear hK K
         refine norm_ (a' := ?_) ?_ ?_
         rotate_left
         ·show Act.put _ (some 5) _ = _
          simp only [Act.put, sA, sZ, sS, i64_w, i32_w]
          rfl
         exact norm_ (by first | (simp only [putAll, Act.put, sA, sZ, sS]; done) | (simp only [putAll, Act.put, sA, sZ, sS]; rfl)) (hJ4_10_11 (gb194, gb195) _ ⟨hHeld, (HO186.out), (BK182.out), (BK183.out), (BK194.out), (BK195.out), GW194.out, GE194.out, NB182_194.out, NB194_182.out, NB183_194.out, NB194_183.out, NB195_194.out, NB194_195.out, GW195.out, GE195.out, NB182_195.out, NB195_182.out, NB183_195.out, NB195_183.out, (by repeat (first | (with_reducible first | exact HB.out | apply yA | apply yN | apply yD | refine yS ?_ GE182.out | refine yS ?_ GE183.out | refine yS ?_ GE195.out | refine yS ?_ GE194.out) | exact HB.out))⟩)
      ·skip
       rintro gb194 w20 ⟨hS_, h0_, h1_, h2_, h3_, h4_, h5_, h6_, h7_, h8_, h9_, h10_⟩
       have n0_ : Aside0 (Kd.R k33 33 w20 w.heap.size (fun k_ => k_ ≠ gb182 ∧ k_ ≠ gb183) (.slice Ao15 y184.length co15) y184) := ⟨h0_⟩
       have n1_ : Aside0 (w20.heap[gb182]? = some (.cells #[.int .i64 a0_0, .int .i64 a0_1] 33 (0, 0))) := ⟨h1_⟩
       have n2_ : Aside0 (w20.heap[gb183]? = some (.cells #[.int .i64 a1_0, .int .i64 a1_1] 33 (0, 0))) := ⟨h2_⟩
       have n3_ : Aside0 (w20.heap[gb194]? = some (.cells #[.bool false, .int .u64 0, .int .u64 0] 71 (0, 0))) := ⟨h3_⟩
       have n4_ : Aside0 (w.heap.size ≤ gb194) := ⟨h4_⟩
       have n5_ : Aside0 (w.heap.size ≤ gb194) := ⟨h5_⟩
       have n6_ : Aside0 (gb182 ≠ gb194) := ⟨h6_⟩
       have n7_ : Aside0 (gb194 ≠ gb182) := ⟨h7_⟩
       have n8_ : Aside0 (gb183 ≠ gb194) := ⟨h8_⟩
       have n9_ : Aside0 (gb194 ≠ gb183) := ⟨h9_⟩
       have n10_ : Aside0 (Below w.heap.size w w20) := ⟨h10_⟩
       clear HO186
       clear BK182
       clear BK183
       clear HB
       clear h0_ h1_ h2_ h3_ h4_ h5_ h6_ h7_ h8_ h9_ h10_
       have HO186 := n0_
       have BK182 := n1_
       have BK183 := n2_
       have BK194 := n3_
       have GW194 := n4_
       have GE194 := n5_
       have NB182_194 := n6_
       have NB194_182 := n7_
       have NB183_194 := n8_
       have NB194_183 := n9_
       have HB := n10_
       clear n0_ n1_ n2_ n3_ n4_ n5_ n6_ n7_ n8_ n9_ n10_
       have hHeld : w20.cell? ⟨gb182, 0, none⟩ = some (.int .i64 a0_0) ∧ w20.cell? ⟨gb182, 1, none⟩ = some (.int .i64 a0_1) ∧ w20.cell? ⟨gb183, 0, none⟩ = some (.int .i64 a1_0) ∧ w20.cell? ⟨gb183, 1, none⟩ = some (.int .i64 a1_1) := hS_
       refine norm_ (a' := ?_) ?_ ?_
       rotate_left
       ·simp only [putAll, Act.put, sA, sZ, sS]
        rfl
       refine two_ (i := 9) (j := 11) (Ni := some 23) (Nj := some 6) #[true, true, true, true, true, true, true, true, true, true, true, false, false, false] #[true, true, true, true, true, true, true, true, true, false, true, true, false, false] rfl rfl rfl rfl (two_of HT_.out (by kernel_rfl)) (by decide) (by decide) (fun K hK => ?_) (fun K hK => ?_)
       ·skip
        refine goes_ Try.func56 (by kernel_rfl) rfl #[.int .i64 a1_0, .int .i64 a0_1] (by rfl) rfl rfl (by (try simp only [List.map_toArray, List.map_cons, List.map_nil]); first | done | rfl | (simp only [List.length_drop, List.length_take]; rfl)) ?_
        with_reducible refine (fraction_product.calls a1_0 a0_1 t191 t192 t193 _ A6.out).mono ?_
        rintro e w21 ⟨rfl, hb⟩
        refine ⟨_, rfl, ?_⟩
        have n0_ := aK (Kd.R_below (HO186.out) hb)
        have n1_ := aK (zB (g := gb182) (o := .cells #[.int .i64 a0_0, .int .i64 a0_1] 33 (0, 0)) (BK182.out) hb)
        have n2_ := aK (zB (g := gb183) (o := .cells #[.int .i64 a1_0, .int .i64 a1_1] 33 (0, 0)) (BK183.out) hb)
        have n3_ := aK (zB (g := gb194) (o := .cells #[.bool false, .int .u64 0, .int .u64 0] 71 (0, 0)) (BK194.out) hb)
        have n4_ := aK (yT (by repeat (first | (with_reducible first | exact HB.out | apply yA | apply yN | apply yD | refine yS ?_ GE182.out | refine yS ?_ GE183.out | refine yS ?_ GE194.out) | exact HB.out)) hb)
        clear HO186
        clear BK182
        clear BK183
        clear BK194
        clear HB
        have HO186 := n0_
        have BK182 := n1_
        have BK183 := n2_
        have BK194 := n3_
        have HB := n4_
        clear n0_ n1_ n2_ n3_ n4_
        (try clear hb)
        (try clear hb2)
        (try clear hk)
        (try clear hi)
        refine hK.out _ _ ⟨(zC BK182.out 0).trans rfl, (zC BK182.out 1).trans rfl, (zC BK183.out 0).trans rfl, (zC BK183.out 1).trans rfl⟩ (fun hHeld => ?_)
        clear hK K
        refine norm_ (a' := ?_) ?_ ?_
        rotate_left
        ·show Act.put _ (some 23) _ = _
         simp only [Act.put, sA, sZ, sS, i64_w, i32_w]
         rfl
        exact norm_ (by first | (simp only [putAll, Act.put, sA, sZ, sS]; done) | (simp only [putAll, Act.put, sA, sZ, sS]; rfl)) (hJ4_9_10 (gb194) _ ⟨hHeld, (HO186.out), (BK182.out), (BK183.out), (BK194.out), GW194.out, GE194.out, NB182_194.out, NB194_182.out, NB183_194.out, NB194_183.out, (by repeat (first | (with_reducible first | exact HB.out | apply yA | apply yN | apply yD | refine yS ?_ GE182.out | refine yS ?_ GE183.out | refine yS ?_ GE194.out) | exact HB.out))⟩)
       ·skip
        refine box_step ?hg (N := 6) ?hd (cs := #[.bool false, .int .u64 0, .int .u64 0]) (t := 71) ?hr ?_; (case hd => rfl); (case hg => rfl); (case hr => first | (go_simp; done) | (go_simp; rfl))
        intro gb195 hg w21 hbox hb
        have n0_ := aK (Kd.R_below (HO186.out) hb)
        have n1_ := aK (zB (g := gb182) (o := .cells #[.int .i64 a0_0, .int .i64 a0_1] 33 (0, 0)) (BK182.out) hb)
        have n2_ := aK (zB (g := gb183) (o := .cells #[.int .i64 a1_0, .int .i64 a1_1] 33 (0, 0)) (BK183.out) hb)
        have n3_ := aK (zB (g := gb194) (o := .cells #[.bool false, .int .u64 0, .int .u64 0] 71 (0, 0)) (BK194.out) hb)
        have n4_ := aK (yT (by repeat (first | (with_reducible first | exact HB.out | apply yA | apply yN | apply yD | refine yS ?_ GE182.out | refine yS ?_ GE183.out | refine yS ?_ GE194.out) | exact HB.out)) hb)
        have n5_ := aK (hbox)
        have n6_ := aK ((by rw [hg]; exact (yZ (by repeat (first | (with_reducible first | exact HB.out | apply yA | apply yN | apply yD | refine yS ?_ GE182.out | refine yS ?_ GE183.out | refine yS ?_ GE194.out) | exact HB.out))) : w.heap.size ≤ gb195))
        have n7_ := aK ((by rw [hg]; exact (yZ (by repeat (first | (with_reducible first | exact HB.out | apply yA | apply yN | apply yD | refine yS ?_ GE182.out | refine yS ?_ GE183.out | refine yS ?_ GE194.out) | exact HB.out))) : w.heap.size ≤ gb195))
        have n8_ := aK ((by rw [hg]; exact Nat.ne_of_lt (blk_lt (g := gb182) (o := .cells #[.int .i64 a0_0, .int .i64 a0_1] 33 (0, 0)) (BK182.out)) : gb182 ≠ gb195))
        have n9_ := aK ((by rw [hg]; exact Nat.ne_of_gt (blk_lt (g := gb182) (o := .cells #[.int .i64 a0_0, .int .i64 a0_1] 33 (0, 0)) (BK182.out)) : gb195 ≠ gb182))
        have n10_ := aK ((by rw [hg]; exact Nat.ne_of_lt (blk_lt (g := gb183) (o := .cells #[.int .i64 a1_0, .int .i64 a1_1] 33 (0, 0)) (BK183.out)) : gb183 ≠ gb195))
        have n11_ := aK ((by rw [hg]; exact Nat.ne_of_gt (blk_lt (g := gb183) (o := .cells #[.int .i64 a1_0, .int .i64 a1_1] 33 (0, 0)) (BK183.out)) : gb195 ≠ gb183))
        have n12_ := aK ((by rw [hg]; exact Nat.ne_of_lt (blk_lt (g := gb194) (o := .cells #[.bool false, .int .u64 0, .int .u64 0] 71 (0, 0)) (BK194.out)) : gb194 ≠ gb195))
        have n13_ := aK ((by rw [hg]; exact Nat.ne_of_gt (blk_lt (g := gb194) (o := .cells #[.bool false, .int .u64 0, .int .u64 0] 71 (0, 0)) (BK194.out)) : gb195 ≠ gb194))
        clear HO186
        clear BK182
        clear BK183
        clear BK194
        clear HB
        have HO186 := n0_
        have BK182 := n1_
        have BK183 := n2_
        have BK194 := n3_
        have HB := n4_
        have BK195 := n5_
        have GW195 := n6_
        have GE195 := n7_
        have NB182_195 := n8_
        have NB195_182 := n9_
        have NB183_195 := n10_
        have NB195_183 := n11_
        have NB194_195 := n12_
        have NB195_194 := n13_
        clear n0_ n1_ n2_ n3_ n4_ n5_ n6_ n7_ n8_ n9_ n10_ n11_ n12_ n13_
        clear hb hbox hg
        refine hK.out _ _ ⟨(zC BK182.out 0).trans rfl, (zC BK182.out 1).trans rfl, (zC BK183.out 0).trans rfl, (zC BK183.out 1).trans rfl⟩ (fun hHeld => ?_)
        clear hK K
        refine norm_ (a' := ?_) ?_ ?_
        rotate_left
        ·show Act.put _ (some 6) _ = _
         simp only [Act.put, sA, sZ, sS, i64_w, i32_w]
         rfl
        exact norm_ (by first | (simp only [putAll, Act.put, sA, sZ, sS]; done) | (simp only [putAll, Act.put, sA, sZ, sS]; rfl)) (hJ4_10_11 (gb194, gb195) _ ⟨hHeld, (HO186.out), (BK182.out), (BK183.out), (BK194.out), (BK195.out), GW194.out, GE194.out, NB182_194.out, NB194_182.out, NB183_194.out, NB194_183.out, NB195_194.out, NB194_195.out, GW195.out, GE195.out, NB182_195.out, NB195_182.out, NB183_195.out, NB195_183.out, (by repeat (first | (with_reducible first | exact HB.out | apply yA | apply yN | apply yD | refine yS ?_ GE182.out | refine yS ?_ GE183.out | refine yS ?_ GE194.out | refine yS ?_ GE195.out) | exact HB.out))⟩)
     ·skip
      rintro _ w20 ⟨hS_, h0_, h1_, h2_, h3_⟩
      have n0_ : Aside0 (Kd.R k33 33 w20 w.heap.size (fun k_ => k_ ≠ gb182 ∧ k_ ≠ gb183) (.slice Ao15 y184.length co15) y184) := ⟨h0_⟩
      have n1_ : Aside0 (w20.heap[gb182]? = some (.cells #[.int .i64 a0_0, .int .i64 a0_1] 33 (0, 0))) := ⟨h1_⟩
      have n2_ : Aside0 (w20.heap[gb183]? = some (.cells #[.int .i64 a1_0, .int .i64 a1_1] 33 (0, 0))) := ⟨h2_⟩
      have n3_ : Aside0 (Below w.heap.size w w20) := ⟨h3_⟩
      clear HO186
      clear BK182
      clear BK183
      clear HB
      clear h0_ h1_ h2_ h3_
      have HO186 := n0_
      have BK182 := n1_
      have BK183 := n2_
      have HB := n3_
      clear n0_ n1_ n2_ n3_
      have hHeld : w20.cell? ⟨gb182, 0, none⟩ = some (.int .i64 a0_0) ∧ w20.cell? ⟨gb182, 1, none⟩ = some (.int .i64 a0_1) ∧ w20.cell? ⟨gb183, 0, none⟩ = some (.int .i64 a1_0) ∧ w20.cell? ⟨gb183, 1, none⟩ = some (.int .i64 a1_1) := hS_
      refine norm_ (a' := ?_) ?_ ?_
      rotate_left
      ·simp only [putAll, Act.put, sA, sZ, sS]
       rfl
      refine two_ (i := 10) (j := 11) (Ni := some 5) (Nj := some 6) #[true, true, true, true, true, true, true, true, true, true, true, false, false, false] #[true, true, true, true, true, true, true, true, true, true, false, true, false, false] rfl rfl rfl rfl (two_of HT_.out (by kernel_rfl)) (by decide) (by decide) (fun K hK => ?_) (fun K hK => ?_)
      ·skip
       refine box_step ?hg (N := 5) ?hd (cs := #[.bool false, .int .u64 0, .int .u64 0]) (t := 71) ?hr ?_; (case hd => rfl); (case hg => rfl); (case hr => first | (go_simp; done) | (go_simp; rfl))
       intro gb194 hg w21 hbox hb
       have n0_ := aK (Kd.R_below (HO186.out) hb)
       have n1_ := aK (zB (g := gb182) (o := .cells #[.int .i64 a0_0, .int .i64 a0_1] 33 (0, 0)) (BK182.out) hb)
       have n2_ := aK (zB (g := gb183) (o := .cells #[.int .i64 a1_0, .int .i64 a1_1] 33 (0, 0)) (BK183.out) hb)
       have n3_ := aK (yT (by repeat (first | (with_reducible first | exact HB.out | apply yA | apply yN | apply yD | refine yS ?_ GE182.out | refine yS ?_ GE183.out) | exact HB.out)) hb)
       have n4_ := aK (hbox)
       have n5_ := aK ((by rw [hg]; exact (yZ (by repeat (first | (with_reducible first | exact HB.out | apply yA | apply yN | apply yD | refine yS ?_ GE182.out | refine yS ?_ GE183.out) | exact HB.out))) : w.heap.size ≤ gb194))
       have n6_ := aK ((by rw [hg]; exact (yZ (by repeat (first | (with_reducible first | exact HB.out | apply yA | apply yN | apply yD | refine yS ?_ GE182.out | refine yS ?_ GE183.out) | exact HB.out))) : w.heap.size ≤ gb194))
       have n7_ := aK ((by rw [hg]; exact Nat.ne_of_lt (blk_lt (g := gb182) (o := .cells #[.int .i64 a0_0, .int .i64 a0_1] 33 (0, 0)) (BK182.out)) : gb182 ≠ gb194))
       have n8_ := aK ((by rw [hg]; exact Nat.ne_of_gt (blk_lt (g := gb182) (o := .cells #[.int .i64 a0_0, .int .i64 a0_1] 33 (0, 0)) (BK182.out)) : gb194 ≠ gb182))
       have n9_ := aK ((by rw [hg]; exact Nat.ne_of_lt (blk_lt (g := gb183) (o := .cells #[.int .i64 a1_0, .int .i64 a1_1] 33 (0, 0)) (BK183.out)) : gb183 ≠ gb194))
       have n10_ := aK ((by rw [hg]; exact Nat.ne_of_gt (blk_lt (g := gb183) (o := .cells #[.int .i64 a1_0, .int .i64 a1_1] 33 (0, 0)) (BK183.out)) : gb194 ≠ gb183))
       clear HO186
       clear BK182
       clear BK183
       clear HB
       have HO186 := n0_
       have BK182 := n1_
       have BK183 := n2_
       have HB := n3_
       have BK194 := n4_
       have GW194 := n5_
       have GE194 := n6_
       have NB182_194 := n7_
       have NB194_182 := n8_
       have NB183_194 := n9_
       have NB194_183 := n10_
       clear n0_ n1_ n2_ n3_ n4_ n5_ n6_ n7_ n8_ n9_ n10_
       clear hb hbox hg
       refine hK.out _ _ ⟨(zC BK182.out 0).trans rfl, (zC BK182.out 1).trans rfl, (zC BK183.out 0).trans rfl, (zC BK183.out 1).trans rfl⟩ (fun hHeld => ?_)
       clear hK K
       refine norm_ (a' := ?_) ?_ ?_
       rotate_left
       ·show Act.put _ (some 5) _ = _
        simp only [Act.put, sA, sZ, sS, i64_w, i32_w]
        rfl
       exact norm_ (by first | (simp only [putAll, Act.put, sA, sZ, sS]; done) | (simp only [putAll, Act.put, sA, sZ, sS]; rfl)) (hJ4_9_10 (gb194) _ ⟨hHeld, (HO186.out), (BK182.out), (BK183.out), (BK194.out), GW194.out, GE194.out, NB182_194.out, NB194_182.out, NB183_194.out, NB194_183.out, (by repeat (first | (with_reducible first | exact HB.out | apply yA | apply yN | apply yD | refine yS ?_ GE182.out | refine yS ?_ GE183.out | refine yS ?_ GE194.out) | exact HB.out))⟩)
      ·skip
       refine box_step ?hg (N := 6) ?hd (cs := #[.bool false, .int .u64 0, .int .u64 0]) (t := 71) ?hr ?_; (case hd => rfl); (case hg => rfl); (case hr => first | (go_simp; done) | (go_simp; rfl))
       intro gb195 hg w21 hbox hb
       have n0_ := aK (Kd.R_below (HO186.out) hb)
       have n1_ := aK (zB (g := gb182) (o := .cells #[.int .i64 a0_0, .int .i64 a0_1] 33 (0, 0)) (BK182.out) hb)
       have n2_ := aK (zB (g := gb183) (o := .cells #[.int .i64 a1_0, .int .i64 a1_1] 33 (0, 0)) (BK183.out) hb)
       have n3_ := aK (yT (by repeat (first | (with_reducible first | exact HB.out | apply yA | apply yN | apply yD | refine yS ?_ GE182.out | refine yS ?_ GE183.out) | exact HB.out)) hb)
       have n4_ := aK (hbox)
       have n5_ := aK ((by rw [hg]; exact (yZ (by repeat (first | (with_reducible first | exact HB.out | apply yA | apply yN | apply yD | refine yS ?_ GE182.out | refine yS ?_ GE183.out) | exact HB.out))) : w.heap.size ≤ gb195))
       have n6_ := aK ((by rw [hg]; exact (yZ (by repeat (first | (with_reducible first | exact HB.out | apply yA | apply yN | apply yD | refine yS ?_ GE182.out | refine yS ?_ GE183.out) | exact HB.out))) : w.heap.size ≤ gb195))
       have n7_ := aK ((by rw [hg]; exact Nat.ne_of_lt (blk_lt (g := gb182) (o := .cells #[.int .i64 a0_0, .int .i64 a0_1] 33 (0, 0)) (BK182.out)) : gb182 ≠ gb195))
       have n8_ := aK ((by rw [hg]; exact Nat.ne_of_gt (blk_lt (g := gb182) (o := .cells #[.int .i64 a0_0, .int .i64 a0_1] 33 (0, 0)) (BK182.out)) : gb195 ≠ gb182))
       have n9_ := aK ((by rw [hg]; exact Nat.ne_of_lt (blk_lt (g := gb183) (o := .cells #[.int .i64 a1_0, .int .i64 a1_1] 33 (0, 0)) (BK183.out)) : gb183 ≠ gb195))
       have n10_ := aK ((by rw [hg]; exact Nat.ne_of_gt (blk_lt (g := gb183) (o := .cells #[.int .i64 a1_0, .int .i64 a1_1] 33 (0, 0)) (BK183.out)) : gb195 ≠ gb183))
       clear HO186
       clear BK182
       clear BK183
       clear HB
       have HO186 := n0_
       have BK182 := n1_
       have BK183 := n2_
       have HB := n3_
       have BK195 := n4_
       have GW195 := n5_
       have GE195 := n6_
       have NB182_195 := n7_
       have NB195_182 := n8_
       have NB183_195 := n9_
       have NB195_183 := n10_
       clear n0_ n1_ n2_ n3_ n4_ n5_ n6_ n7_ n8_ n9_ n10_
       clear hb hbox hg
       refine hK.out _ _ ⟨(zC BK182.out 0).trans rfl, (zC BK182.out 1).trans rfl, (zC BK183.out 0).trans rfl, (zC BK183.out 1).trans rfl⟩ (fun hHeld => ?_)
       clear hK K
       refine norm_ (a' := ?_) ?_ ?_
       rotate_left
       ·show Act.put _ (some 6) _ = _
        simp only [Act.put, sA, sZ, sS, i64_w, i32_w]
        rfl
       exact norm_ (by first | (simp only [putAll, Act.put, sA, sZ, sS]; done) | (simp only [putAll, Act.put, sA, sZ, sS]; rfl)) (hJ4_9_11 (gb195) _ ⟨hHeld, (HO186.out), (BK182.out), (BK183.out), (BK195.out), GW195.out, GE195.out, NB182_195.out, NB195_182.out, NB183_195.out, NB195_183.out, (by repeat (first | (with_reducible first | exact HB.out | apply yA | apply yN | apply yD | refine yS ?_ GE182.out | refine yS ?_ GE183.out | refine yS ?_ GE195.out) | exact HB.out))⟩)
    ·skip
     rintro ⟨gb194, gb195⟩ w21 ⟨hS_, h0_, h1_, h2_, h3_, h4_, h5_, h6_, h7_, h8_, h9_, h10_, h11_, h12_, h13_, h14_, h15_, h16_, h17_, h18_, h19_⟩
     have n0_ : Aside0 (Kd.R k33 33 w21 w.heap.size (fun k_ => k_ ≠ gb182 ∧ k_ ≠ gb183) (.slice Ao15 y184.length co15) y184) := ⟨h0_⟩
     have n1_ : Aside0 (w21.heap[gb182]? = some (.cells #[.int .i64 a0_0, .int .i64 a0_1] 33 (0, 0))) := ⟨h1_⟩
     have n2_ : Aside0 (w21.heap[gb183]? = some (.cells #[.int .i64 a1_0, .int .i64 a1_1] 33 (0, 0))) := ⟨h2_⟩
     have n3_ : Aside0 (w21.heap[gb194]? = some (.cells #[.bool false, .int .u64 0, .int .u64 0] 71 (0, 0))) := ⟨h3_⟩
     have n4_ : Aside0 (w21.heap[gb195]? = some (.cells #[.bool false, .int .u64 0, .int .u64 0] 71 (0, 0))) := ⟨h4_⟩
     have n5_ : Aside0 (w.heap.size ≤ gb194) := ⟨h5_⟩
     have n6_ : Aside0 (w.heap.size ≤ gb194) := ⟨h6_⟩
     have n7_ : Aside0 (gb182 ≠ gb194) := ⟨h7_⟩
     have n8_ : Aside0 (gb194 ≠ gb182) := ⟨h8_⟩
     have n9_ : Aside0 (gb183 ≠ gb194) := ⟨h9_⟩
     have n10_ : Aside0 (gb194 ≠ gb183) := ⟨h10_⟩
     have n11_ : Aside0 (gb195 ≠ gb194) := ⟨h11_⟩
     have n12_ : Aside0 (gb194 ≠ gb195) := ⟨h12_⟩
     have n13_ : Aside0 (w.heap.size ≤ gb195) := ⟨h13_⟩
     have n14_ : Aside0 (w.heap.size ≤ gb195) := ⟨h14_⟩
     have n15_ : Aside0 (gb182 ≠ gb195) := ⟨h15_⟩
     have n16_ : Aside0 (gb195 ≠ gb182) := ⟨h16_⟩
     have n17_ : Aside0 (gb183 ≠ gb195) := ⟨h17_⟩
     have n18_ : Aside0 (gb195 ≠ gb183) := ⟨h18_⟩
     have n19_ : Aside0 (Below w.heap.size w w21) := ⟨h19_⟩
     clear HO186
     clear BK182
     clear BK183
     clear HB
     clear h0_ h1_ h2_ h3_ h4_ h5_ h6_ h7_ h8_ h9_ h10_ h11_ h12_ h13_ h14_ h15_ h16_ h17_ h18_ h19_
     have HO186 := n0_
     have BK182 := n1_
     have BK183 := n2_
     have BK194 := n3_
     have BK195 := n4_
     have GW194 := n5_
     have GE194 := n6_
     have NB182_194 := n7_
     have NB194_182 := n8_
     have NB183_194 := n9_
     have NB194_183 := n10_
     have NB195_194 := n11_
     have NB194_195 := n12_
     have GW195 := n13_
     have GE195 := n14_
     have NB182_195 := n15_
     have NB195_182 := n16_
     have NB183_195 := n17_
     have NB195_183 := n18_
     have HB := n19_
     clear n0_ n1_ n2_ n3_ n4_ n5_ n6_ n7_ n8_ n9_ n10_ n11_ n12_ n13_ n14_ n15_ n16_ n17_ n18_ n19_
     have hHeld : w21.cell? ⟨gb182, 0, none⟩ = some (.int .i64 a0_0) ∧ w21.cell? ⟨gb182, 1, none⟩ = some (.int .i64 a0_1) ∧ w21.cell? ⟨gb183, 0, none⟩ = some (.int .i64 a1_0) ∧ w21.cell? ⟨gb183, 1, none⟩ = some (.int .i64 a1_1) := hS_
     refine norm_ (a' := ?_) ?_ ?_
     rotate_left
     ·simp only [putAll, Act.put, sA, sZ, sS]
      rfl
     refine one_ (i := 9) (N := some 23) #[true, true, true, true, true, true, true, true, true, true, true, true, false, false] rfl rfl (one_of HT_.out (by kernel_rfl)) (by decide) (fun K hK => ?_)
     refine goes_ Try.func56 (by kernel_rfl) rfl #[.int .i64 a1_0, .int .i64 a0_1] (by rfl) rfl rfl (by (try simp only [List.map_toArray, List.map_cons, List.map_nil]); first | done | rfl | (simp only [List.length_drop, List.length_take]; rfl)) ?_
     with_reducible refine (fraction_product.calls a1_0 a0_1 t191 t192 t193 _ A6.out).mono ?_
     rintro e w22 ⟨rfl, hb⟩
     refine ⟨_, rfl, ?_⟩
     have n0_ := aK (Kd.R_below (HO186.out) hb)
     have n1_ := aK (zB (g := gb182) (o := .cells #[.int .i64 a0_0, .int .i64 a0_1] 33 (0, 0)) (BK182.out) hb)
     have n2_ := aK (zB (g := gb183) (o := .cells #[.int .i64 a1_0, .int .i64 a1_1] 33 (0, 0)) (BK183.out) hb)
     have n3_ := aK (zB (g := gb194) (o := .cells #[.bool false, .int .u64 0, .int .u64 0] 71 (0, 0)) (BK194.out) hb)
     have n4_ := aK (zB (g := gb195) (o := .cells #[.bool false, .int .u64 0, .int .u64 0] 71 (0, 0)) (BK195.out) hb)
     have n5_ := aK (yT (by repeat (first | (with_reducible first | exact HB.out | apply yA | apply yN | apply yD | refine yS ?_ GE182.out | refine yS ?_ GE183.out | refine yS ?_ GE194.out | refine yS ?_ GE195.out) | exact HB.out)) hb)
     clear HO186
     clear BK182
     clear BK183
     clear BK194
     clear BK195
     clear HB
     have HO186 := n0_
     have BK182 := n1_
     have BK183 := n2_
     have BK194 := n3_
     have BK195 := n4_
     have HB := n5_
     clear n0_ n1_ n2_ n3_ n4_ n5_
     (try clear hb)
     (try clear hb2)
     (try clear hk)
     (try clear hi)
     refine hK.out _ _ ⟨(zC BK182.out 0).trans rfl, (zC BK182.out 1).trans rfl, (zC BK183.out 0).trans rfl, (zC BK183.out 1).trans rfl⟩ (fun hHeld => ?_)
     clear hK K
     refine norm_ (a' := ?_) ?_ ?_
     rotate_left
     ·show Act.put _ (some 23) _ = _
      simp only [Act.put, sA, sZ, sS, i64_w, i32_w]
      rfl
     exact norm_ (by first | (simp only [putAll, Act.put, sA, sZ, sS]; done) | (simp only [putAll, Act.put, sA, sZ, sS]; rfl)) (hJ4_9_10_11 (gb194, gb195) _ ⟨hHeld, (HO186.out), (BK182.out), (BK183.out), (BK194.out), (BK195.out), GW194.out, GE194.out, NB182_194.out, NB194_182.out, NB183_194.out, NB194_183.out, NB195_194.out, NB194_195.out, GW195.out, GE195.out, NB182_195.out, NB195_182.out, NB183_195.out, NB195_183.out, (by repeat (first | (with_reducible first | exact HB.out | apply yA | apply yN | apply yD | refine yS ?_ GE182.out | refine yS ?_ GE183.out | refine yS ?_ GE194.out | refine yS ?_ GE195.out) | exact HB.out))⟩)
   ·skip
    rintro gb195 w21 ⟨hS_, h0_, h1_, h2_, h3_, h4_, h5_, h6_, h7_, h8_, h9_, h10_⟩
    have n0_ : Aside0 (Kd.R k33 33 w21 w.heap.size (fun k_ => k_ ≠ gb182 ∧ k_ ≠ gb183) (.slice Ao15 y184.length co15) y184) := ⟨h0_⟩
    have n1_ : Aside0 (w21.heap[gb182]? = some (.cells #[.int .i64 a0_0, .int .i64 a0_1] 33 (0, 0))) := ⟨h1_⟩
    have n2_ : Aside0 (w21.heap[gb183]? = some (.cells #[.int .i64 a1_0, .int .i64 a1_1] 33 (0, 0))) := ⟨h2_⟩
    have n3_ : Aside0 (w21.heap[gb195]? = some (.cells #[.bool false, .int .u64 0, .int .u64 0] 71 (0, 0))) := ⟨h3_⟩
    have n4_ : Aside0 (w.heap.size ≤ gb195) := ⟨h4_⟩
    have n5_ : Aside0 (w.heap.size ≤ gb195) := ⟨h5_⟩
    have n6_ : Aside0 (gb182 ≠ gb195) := ⟨h6_⟩
    have n7_ : Aside0 (gb195 ≠ gb182) := ⟨h7_⟩
    have n8_ : Aside0 (gb183 ≠ gb195) := ⟨h8_⟩
    have n9_ : Aside0 (gb195 ≠ gb183) := ⟨h9_⟩
    have n10_ : Aside0 (Below w.heap.size w w21) := ⟨h10_⟩
    clear HO186
    clear BK182
    clear BK183
    clear HB
    clear h0_ h1_ h2_ h3_ h4_ h5_ h6_ h7_ h8_ h9_ h10_
    have HO186 := n0_
    have BK182 := n1_
    have BK183 := n2_
    have BK195 := n3_
    have GW195 := n4_
    have GE195 := n5_
    have NB182_195 := n6_
    have NB195_182 := n7_
    have NB183_195 := n8_
    have NB195_183 := n9_
    have HB := n10_
    clear n0_ n1_ n2_ n3_ n4_ n5_ n6_ n7_ n8_ n9_ n10_
    have hHeld : w21.cell? ⟨gb182, 0, none⟩ = some (.int .i64 a0_0) ∧ w21.cell? ⟨gb182, 1, none⟩ = some (.int .i64 a0_1) ∧ w21.cell? ⟨gb183, 0, none⟩ = some (.int .i64 a1_0) ∧ w21.cell? ⟨gb183, 1, none⟩ = some (.int .i64 a1_1) := hS_
    refine norm_ (a' := ?_) ?_ ?_
    rotate_left
    ·simp only [putAll, Act.put, sA, sZ, sS]
     rfl
    refine one_ (i := 10) (N := some 5) #[true, true, true, true, true, true, true, true, true, true, true, true, false, false] rfl rfl (one_of HT_.out (by kernel_rfl)) (by decide) (fun K hK => ?_)
    refine box_step ?hg (N := 5) ?hd (cs := #[.bool false, .int .u64 0, .int .u64 0]) (t := 71) ?hr ?_; (case hd => rfl); (case hg => rfl); (case hr => first | (go_simp; done) | (go_simp; rfl))
    intro gb194 hg w22 hbox hb
    have n0_ := aK (Kd.R_below (HO186.out) hb)
    have n1_ := aK (zB (g := gb182) (o := .cells #[.int .i64 a0_0, .int .i64 a0_1] 33 (0, 0)) (BK182.out) hb)
    have n2_ := aK (zB (g := gb183) (o := .cells #[.int .i64 a1_0, .int .i64 a1_1] 33 (0, 0)) (BK183.out) hb)
    have n3_ := aK (zB (g := gb195) (o := .cells #[.bool false, .int .u64 0, .int .u64 0] 71 (0, 0)) (BK195.out) hb)
    have n4_ := aK (yT (by repeat (first | (with_reducible first | exact HB.out | apply yA | apply yN | apply yD | refine yS ?_ GE182.out | refine yS ?_ GE183.out | refine yS ?_ GE195.out) | exact HB.out)) hb)
    have n5_ := aK (hbox)
    have n6_ := aK ((by rw [hg]; exact (yZ (by repeat (first | (with_reducible first | exact HB.out | apply yA | apply yN | apply yD | refine yS ?_ GE182.out | refine yS ?_ GE183.out | refine yS ?_ GE195.out) | exact HB.out))) : w.heap.size ≤ gb194))
    have n7_ := aK ((by rw [hg]; exact (yZ (by repeat (first | (with_reducible first | exact HB.out | apply yA | apply yN | apply yD | refine yS ?_ GE182.out | refine yS ?_ GE183.out | refine yS ?_ GE195.out) | exact HB.out))) : w.heap.size ≤ gb194))
    have n8_ := aK ((by rw [hg]; exact Nat.ne_of_lt (blk_lt (g := gb182) (o := .cells #[.int .i64 a0_0, .int .i64 a0_1] 33 (0, 0)) (BK182.out)) : gb182 ≠ gb194))
    have n9_ := aK ((by rw [hg]; exact Nat.ne_of_gt (blk_lt (g := gb182) (o := .cells #[.int .i64 a0_0, .int .i64 a0_1] 33 (0, 0)) (BK182.out)) : gb194 ≠ gb182))
    have n10_ := aK ((by rw [hg]; exact Nat.ne_of_lt (blk_lt (g := gb183) (o := .cells #[.int .i64 a1_0, .int .i64 a1_1] 33 (0, 0)) (BK183.out)) : gb183 ≠ gb194))
    have n11_ := aK ((by rw [hg]; exact Nat.ne_of_gt (blk_lt (g := gb183) (o := .cells #[.int .i64 a1_0, .int .i64 a1_1] 33 (0, 0)) (BK183.out)) : gb194 ≠ gb183))
    have n12_ := aK ((by rw [hg]; exact Nat.ne_of_lt (blk_lt (g := gb195) (o := .cells #[.bool false, .int .u64 0, .int .u64 0] 71 (0, 0)) (BK195.out)) : gb195 ≠ gb194))
    have n13_ := aK ((by rw [hg]; exact Nat.ne_of_gt (blk_lt (g := gb195) (o := .cells #[.bool false, .int .u64 0, .int .u64 0] 71 (0, 0)) (BK195.out)) : gb194 ≠ gb195))
    clear HO186
    clear BK182
    clear BK183
    clear BK195
    clear HB
    have HO186 := n0_
    have BK182 := n1_
    have BK183 := n2_
    have BK195 := n3_
    have HB := n4_
    have BK194 := n5_
    have GW194 := n6_
    have GE194 := n7_
    have NB182_194 := n8_
    have NB194_182 := n9_
    have NB183_194 := n10_
    have NB194_183 := n11_
    have NB195_194 := n12_
    have NB194_195 := n13_
    clear n0_ n1_ n2_ n3_ n4_ n5_ n6_ n7_ n8_ n9_ n10_ n11_ n12_ n13_
    clear hb hbox hg
    refine hK.out _ _ ⟨(zC BK182.out 0).trans rfl, (zC BK182.out 1).trans rfl, (zC BK183.out 0).trans rfl, (zC BK183.out 1).trans rfl⟩ (fun hHeld => ?_)
    clear hK K
    refine norm_ (a' := ?_) ?_ ?_
    rotate_left
    ·show Act.put _ (some 5) _ = _
     simp only [Act.put, sA, sZ, sS, i64_w, i32_w]
     rfl
    exact norm_ (by first | (simp only [putAll, Act.put, sA, sZ, sS]; done) | (simp only [putAll, Act.put, sA, sZ, sS]; rfl)) (hJ4_9_10_11 (gb194, gb195) _ ⟨hHeld, (HO186.out), (BK182.out), (BK183.out), (BK194.out), (BK195.out), GW194.out, GE194.out, NB182_194.out, NB194_182.out, NB183_194.out, NB194_183.out, NB195_194.out, NB194_195.out, GW195.out, GE195.out, NB182_195.out, NB195_182.out, NB183_195.out, NB195_183.out, (by repeat (first | (with_reducible first | exact HB.out | apply yA | apply yN | apply yD | refine yS ?_ GE182.out | refine yS ?_ GE183.out | refine yS ?_ GE195.out | refine yS ?_ GE194.out) | exact HB.out))⟩)
  ·skip
   rintro gb194 w21 ⟨hS_, h0_, h1_, h2_, h3_, h4_, h5_, h6_, h7_, h8_, h9_, h10_⟩
   have n0_ : Aside0 (Kd.R k33 33 w21 w.heap.size (fun k_ => k_ ≠ gb182 ∧ k_ ≠ gb183) (.slice Ao15 y184.length co15) y184) := ⟨h0_⟩
   have n1_ : Aside0 (w21.heap[gb182]? = some (.cells #[.int .i64 a0_0, .int .i64 a0_1] 33 (0, 0))) := ⟨h1_⟩
   have n2_ : Aside0 (w21.heap[gb183]? = some (.cells #[.int .i64 a1_0, .int .i64 a1_1] 33 (0, 0))) := ⟨h2_⟩
   have n3_ : Aside0 (w21.heap[gb194]? = some (.cells #[.bool false, .int .u64 0, .int .u64 0] 71 (0, 0))) := ⟨h3_⟩
   have n4_ : Aside0 (w.heap.size ≤ gb194) := ⟨h4_⟩
   have n5_ : Aside0 (w.heap.size ≤ gb194) := ⟨h5_⟩
   have n6_ : Aside0 (gb182 ≠ gb194) := ⟨h6_⟩
   have n7_ : Aside0 (gb194 ≠ gb182) := ⟨h7_⟩
   have n8_ : Aside0 (gb183 ≠ gb194) := ⟨h8_⟩
   have n9_ : Aside0 (gb194 ≠ gb183) := ⟨h9_⟩
   have n10_ : Aside0 (Below w.heap.size w w21) := ⟨h10_⟩
   clear HO186
   clear BK182
   clear BK183
   clear HB
   clear h0_ h1_ h2_ h3_ h4_ h5_ h6_ h7_ h8_ h9_ h10_
   have HO186 := n0_
   have BK182 := n1_
   have BK183 := n2_
   have BK194 := n3_
   have GW194 := n4_
   have GE194 := n5_
   have NB182_194 := n6_
   have NB194_182 := n7_
   have NB183_194 := n8_
   have NB194_183 := n9_
   have HB := n10_
   clear n0_ n1_ n2_ n3_ n4_ n5_ n6_ n7_ n8_ n9_ n10_
   have hHeld : w21.cell? ⟨gb182, 0, none⟩ = some (.int .i64 a0_0) ∧ w21.cell? ⟨gb182, 1, none⟩ = some (.int .i64 a0_1) ∧ w21.cell? ⟨gb183, 0, none⟩ = some (.int .i64 a1_0) ∧ w21.cell? ⟨gb183, 1, none⟩ = some (.int .i64 a1_1) := hS_
   refine norm_ (a' := ?_) ?_ ?_
   rotate_left
   ·simp only [putAll, Act.put, sA, sZ, sS]
    rfl
   refine one_ (i := 11) (N := some 6) #[true, true, true, true, true, true, true, true, true, true, true, true, false, false] rfl rfl (one_of HT_.out (by kernel_rfl)) (by decide) (fun K hK => ?_)
   refine box_step ?hg (N := 6) ?hd (cs := #[.bool false, .int .u64 0, .int .u64 0]) (t := 71) ?hr ?_; (case hd => rfl); (case hg => rfl); (case hr => first | (go_simp; done) | (go_simp; rfl))
   intro gb195 hg w22 hbox hb
   have n0_ := aK (Kd.R_below (HO186.out) hb)
   have n1_ := aK (zB (g := gb182) (o := .cells #[.int .i64 a0_0, .int .i64 a0_1] 33 (0, 0)) (BK182.out) hb)
   have n2_ := aK (zB (g := gb183) (o := .cells #[.int .i64 a1_0, .int .i64 a1_1] 33 (0, 0)) (BK183.out) hb)
   have n3_ := aK (zB (g := gb194) (o := .cells #[.bool false, .int .u64 0, .int .u64 0] 71 (0, 0)) (BK194.out) hb)
   have n4_ := aK (yT (by repeat (first | (with_reducible first | exact HB.out | apply yA | apply yN | apply yD | refine yS ?_ GE182.out | refine yS ?_ GE183.out | refine yS ?_ GE194.out) | exact HB.out)) hb)
   have n5_ := aK (hbox)
   have n6_ := aK ((by rw [hg]; exact (yZ (by repeat (first | (with_reducible first | exact HB.out | apply yA | apply yN | apply yD | refine yS ?_ GE182.out | refine yS ?_ GE183.out | refine yS ?_ GE194.out) | exact HB.out))) : w.heap.size ≤ gb195))
   have n7_ := aK ((by rw [hg]; exact (yZ (by repeat (first | (with_reducible first | exact HB.out | apply yA | apply yN | apply yD | refine yS ?_ GE182.out | refine yS ?_ GE183.out | refine yS ?_ GE194.out) | exact HB.out))) : w.heap.size ≤ gb195))
   have n8_ := aK ((by rw [hg]; exact Nat.ne_of_lt (blk_lt (g := gb182) (o := .cells #[.int .i64 a0_0, .int .i64 a0_1] 33 (0, 0)) (BK182.out)) : gb182 ≠ gb195))
   have n9_ := aK ((by rw [hg]; exact Nat.ne_of_gt (blk_lt (g := gb182) (o := .cells #[.int .i64 a0_0, .int .i64 a0_1] 33 (0, 0)) (BK182.out)) : gb195 ≠ gb182))
   have n10_ := aK ((by rw [hg]; exact Nat.ne_of_lt (blk_lt (g := gb183) (o := .cells #[.int .i64 a1_0, .int .i64 a1_1] 33 (0, 0)) (BK183.out)) : gb183 ≠ gb195))
   have n11_ := aK ((by rw [hg]; exact Nat.ne_of_gt (blk_lt (g := gb183) (o := .cells #[.int .i64 a1_0, .int .i64 a1_1] 33 (0, 0)) (BK183.out)) : gb195 ≠ gb183))
   have n12_ := aK ((by rw [hg]; exact Nat.ne_of_lt (blk_lt (g := gb194) (o := .cells #[.bool false, .int .u64 0, .int .u64 0] 71 (0, 0)) (BK194.out)) : gb194 ≠ gb195))
   have n13_ := aK ((by rw [hg]; exact Nat.ne_of_gt (blk_lt (g := gb194) (o := .cells #[.bool false, .int .u64 0, .int .u64 0] 71 (0, 0)) (BK194.out)) : gb195 ≠ gb194))
   clear HO186
   clear BK182
   clear BK183
   clear BK194
   clear HB
   have HO186 := n0_
   have BK182 := n1_
   have BK183 := n2_
   have BK194 := n3_
   have HB := n4_
   have BK195 := n5_
   have GW195 := n6_
   have GE195 := n7_
   have NB182_195 := n8_
   have NB195_182 := n9_
   have NB183_195 := n10_
   have NB195_183 := n11_
   have NB194_195 := n12_
   have NB195_194 := n13_
   clear n0_ n1_ n2_ n3_ n4_ n5_ n6_ n7_ n8_ n9_ n10_ n11_ n12_ n13_
   clear hb hbox hg
   refine hK.out _ _ ⟨(zC BK182.out 0).trans rfl, (zC BK182.out 1).trans rfl, (zC BK183.out 0).trans rfl, (zC BK183.out 1).trans rfl⟩ (fun hHeld => ?_)
   clear hK K
   refine norm_ (a' := ?_) ?_ ?_
   rotate_left
   ·show Act.put _ (some 6) _ = _
    simp only [Act.put, sA, sZ, sS, i64_w, i32_w]
    rfl
   exact norm_ (by first | (simp only [putAll, Act.put, sA, sZ, sS]; done) | (simp only [putAll, Act.put, sA, sZ, sS]; rfl)) (hJ4_9_10_11 (gb194, gb195) _ ⟨hHeld, (HO186.out), (BK182.out), (BK183.out), (BK194.out), (BK195.out), GW194.out, GE194.out, NB182_194.out, NB194_182.out, NB183_194.out, NB194_183.out, NB195_194.out, NB194_195.out, GW195.out, GE195.out, NB182_195.out, NB195_182.out, NB183_195.out, NB195_183.out, (by repeat (first | (with_reducible first | exact HB.out | apply yA | apply yN | apply yD | refine yS ?_ GE182.out | refine yS ?_ GE183.out | refine yS ?_ GE194.out | refine yS ?_ GE195.out) | exact HB.out))⟩)
 rintro ⟨gb194, gb195⟩ w22 ⟨hS_, h0_, h1_, h2_, h3_, h4_, h5_, h6_, h7_, h8_, h9_, h10_, h11_, h12_, h13_, h14_, h15_, h16_, h17_, h18_, h19_⟩
 have n0_ : Aside0 (Kd.R k33 33 w22 w.heap.size (fun k_ => k_ ≠ gb182 ∧ k_ ≠ gb183) (.slice Ao15 y184.length co15) y184) := ⟨h0_⟩
 have n1_ : Aside0 (w22.heap[gb182]? = some (.cells #[.int .i64 a0_0, .int .i64 a0_1] 33 (0, 0))) := ⟨h1_⟩
 have n2_ : Aside0 (w22.heap[gb183]? = some (.cells #[.int .i64 a1_0, .int .i64 a1_1] 33 (0, 0))) := ⟨h2_⟩
 have n3_ : Aside0 (w22.heap[gb194]? = some (.cells #[.bool false, .int .u64 0, .int .u64 0] 71 (0, 0))) := ⟨h3_⟩
 have n4_ : Aside0 (w22.heap[gb195]? = some (.cells #[.bool false, .int .u64 0, .int .u64 0] 71 (0, 0))) := ⟨h4_⟩
 have n5_ : Aside0 (w.heap.size ≤ gb194) := ⟨h5_⟩
 have n6_ : Aside0 (w.heap.size ≤ gb194) := ⟨h6_⟩
 have n7_ : Aside0 (gb182 ≠ gb194) := ⟨h7_⟩
 have n8_ : Aside0 (gb194 ≠ gb182) := ⟨h8_⟩
 have n9_ : Aside0 (gb183 ≠ gb194) := ⟨h9_⟩
 have n10_ : Aside0 (gb194 ≠ gb183) := ⟨h10_⟩
 have n11_ : Aside0 (gb195 ≠ gb194) := ⟨h11_⟩
 have n12_ : Aside0 (gb194 ≠ gb195) := ⟨h12_⟩
 have n13_ : Aside0 (w.heap.size ≤ gb195) := ⟨h13_⟩
 have n14_ : Aside0 (w.heap.size ≤ gb195) := ⟨h14_⟩
 have n15_ : Aside0 (gb182 ≠ gb195) := ⟨h15_⟩
 have n16_ : Aside0 (gb195 ≠ gb182) := ⟨h16_⟩
 have n17_ : Aside0 (gb183 ≠ gb195) := ⟨h17_⟩
 have n18_ : Aside0 (gb195 ≠ gb183) := ⟨h18_⟩
 have n19_ : Aside0 (Below w.heap.size w w22) := ⟨h19_⟩
 clear HO186
 clear BK182
 clear BK183
 clear HB
 clear h0_ h1_ h2_ h3_ h4_ h5_ h6_ h7_ h8_ h9_ h10_ h11_ h12_ h13_ h14_ h15_ h16_ h17_ h18_ h19_
 have HO186 := n0_
 have BK182 := n1_
 have BK183 := n2_
 have BK194 := n3_
 have BK195 := n4_
 have GW194 := n5_
 have GE194 := n6_
 have NB182_194 := n7_
 have NB194_182 := n8_
 have NB183_194 := n9_
 have NB194_183 := n10_
 have NB195_194 := n11_
 have NB194_195 := n12_
 have GW195 := n13_
 have GE195 := n14_
 have NB182_195 := n15_
 have NB195_182 := n16_
 have NB183_195 := n17_
 have NB195_183 := n18_
 have HB := n19_
 clear n0_ n1_ n2_ n3_ n4_ n5_ n6_ n7_ n8_ n9_ n10_ n11_ n12_ n13_ n14_ n15_ n16_ n17_ n18_ n19_
 have hHeld : w22.cell? ⟨gb182, 0, none⟩ = some (.int .i64 a0_0) ∧ w22.cell? ⟨gb182, 1, none⟩ = some (.int .i64 a0_1) ∧ w22.cell? ⟨gb183, 0, none⟩ = some (.int .i64 a1_0) ∧ w22.cell? ⟨gb183, 1, none⟩ = some (.int .i64 a1_1) := hS_
 refine norm_ (a' := ?_) ?_ ?_
 rotate_left
 ·simp only [putAll, Act.put, sA, sZ, sS]
  rfl
 refine one_ (i := 12) (N := none) #[true, true, true, true, true, true, true, true, true, true, true, true, true, false] rfl rfl (one_of HT_.out (by kernel_rfl)) (by decide) (fun K hK => ?_)
 have hs23 : w22.cell? ⟨gb194, 0, none⟩ = some (.bool false) := (zC BK194.out 0).trans rfl
 have hfs23 := zF BK194.out 0
 have hns23_0 := NB182_194.out
 have hns23_1 := NB183_194.out
 have hns23_3 := NB195_194.out
 have hms23_0 := NB194_182.out
 have hms23_1 := NB194_183.out
 have hms23_3 := NB194_195.out
 have hs24 : w22.cell? ⟨gb194, 1, none⟩ = some (.int .u64 0) := (zC BK194.out 1).trans rfl
 have hfs24 := zF BK194.out 1
 have hns24_0 := NB182_194.out
 have hns24_1 := NB183_194.out
 have hns24_3 := NB195_194.out
 have hms24_0 := NB194_182.out
 have hms24_1 := NB194_183.out
 have hms24_3 := NB194_195.out
 have hs25 : w22.cell? ⟨gb194, 2, none⟩ = some (.int .u64 0) := (zC BK194.out 2).trans rfl
 have hfs25 := zF BK194.out 2
 have hns25_0 := NB182_194.out
 have hns25_1 := NB183_194.out
 have hns25_3 := NB195_194.out
 have hms25_0 := NB194_182.out
 have hms25_1 := NB194_183.out
 have hms25_3 := NB194_195.out
 refine skip_ (w1 := ?_) (by rfl) rfl ?_ ?_
 rotate_left
 ·go_simp
  rfl
 refine hK.out _ _ ⟨((cell_far (p := ⟨gb194, _, none⟩) NB182_194.out _).trans (((cell_far (p := ⟨gb194, _, none⟩) NB182_194.out _).trans (((cell_far (p := ⟨gb194, _, none⟩) NB182_194.out _).trans (hHeld.1)))))), ((cell_far (p := ⟨gb194, _, none⟩) NB182_194.out _).trans (((cell_far (p := ⟨gb194, _, none⟩) NB182_194.out _).trans (((cell_far (p := ⟨gb194, _, none⟩) NB182_194.out _).trans (hHeld.2.1)))))), ((cell_far (p := ⟨gb194, _, none⟩) NB183_194.out _).trans (((cell_far (p := ⟨gb194, _, none⟩) NB183_194.out _).trans (((cell_far (p := ⟨gb194, _, none⟩) NB183_194.out _).trans (hHeld.2.2.1)))))), ((cell_far (p := ⟨gb194, _, none⟩) NB183_194.out _).trans (((cell_far (p := ⟨gb194, _, none⟩) NB183_194.out _).trans (((cell_far (p := ⟨gb194, _, none⟩) NB183_194.out _).trans (hHeld.2.2.2))))))⟩ (fun hHeld => ?_)
 clear hK K
 refine one_ (i := 13) (N := none) #[true, true, true, true, true, true, true, true, true, true, true, true, true, true] rfl rfl (one_of HT_.out (by kernel_rfl)) (by decide) (fun K hK => ?_)
 have hs26 : w22.cell? ⟨gb195, 0, none⟩ = some (.bool false) := (zC BK195.out 0).trans rfl
 have hfs26 := zF BK195.out 0
 have hns26_0 := NB182_195.out
 have hns26_1 := NB183_195.out
 have hns26_2 := NB194_195.out
 have hms26_0 := NB195_182.out
 have hms26_1 := NB195_183.out
 have hms26_2 := NB195_194.out
 have hs27 : w22.cell? ⟨gb195, 1, none⟩ = some (.int .u64 0) := (zC BK195.out 1).trans rfl
 have hfs27 := zF BK195.out 1
 have hns27_0 := NB182_195.out
 have hns27_1 := NB183_195.out
 have hns27_2 := NB194_195.out
 have hms27_0 := NB195_182.out
 have hms27_1 := NB195_183.out
 have hms27_2 := NB195_194.out
 have hs28 : w22.cell? ⟨gb195, 2, none⟩ = some (.int .u64 0) := (zC BK195.out 2).trans rfl
 have hfs28 := zF BK195.out 2
 have hns28_0 := NB182_195.out
 have hns28_1 := NB183_195.out
 have hns28_2 := NB194_195.out
 have hms28_0 := NB195_182.out
 have hms28_1 := NB195_183.out
 have hms28_2 := NB195_194.out
 refine skip_ (w1 := ?_) (by rfl) rfl ?_ ?_
 rotate_left
 ·go_simp
  rfl
 refine hK.out _ _ ⟨((cell_far (p := ⟨gb195, _, none⟩) NB182_195.out _).trans (((cell_far (p := ⟨gb195, _, none⟩) NB182_195.out _).trans (((cell_far (p := ⟨gb195, _, none⟩) NB182_195.out _).trans (hHeld.1)))))), ((cell_far (p := ⟨gb195, _, none⟩) NB182_195.out _).trans (((cell_far (p := ⟨gb195, _, none⟩) NB182_195.out _).trans (((cell_far (p := ⟨gb195, _, none⟩) NB182_195.out _).trans (hHeld.2.1)))))), ((cell_far (p := ⟨gb195, _, none⟩) NB183_195.out _).trans (((cell_far (p := ⟨gb195, _, none⟩) NB183_195.out _).trans (((cell_far (p := ⟨gb195, _, none⟩) NB183_195.out _).trans (hHeld.2.2.1)))))), ((cell_far (p := ⟨gb195, _, none⟩) NB183_195.out _).trans (((cell_far (p := ⟨gb195, _, none⟩) NB183_195.out _).trans (((cell_far (p := ⟨gb195, _, none⟩) NB183_195.out _).trans (hHeld.2.2.2))))))⟩ (fun hHeld => ?_)
 clear hK K
 refine done_ (done_of HT_.out (by kernel_rfl)) ?_
 go_upto_region 4 with (fail)
 go_cut [7, 8] (fun v7 v8 wc => ∃ (kq : Nat) (x7_6 : Int) (x8_6 : Int), v7 = .int .i64 x7_6 ∧ v8 = .int .i64 x8_6 ∧ Aside0 (fraction_Cmp.j0 kq x7_6 x8_6 t188 t189 t190 t191 t192 t193 = some r) ∧ Aside0 (kq ≤ k) ∧ Aside0 (wc.heap[gb182]? = some (.cells #[.int .i64 a0_0, .int .i64 a0_1] 33 (0, 0))) ∧ Aside0 (wc.heap[gb183]? = some (.cells #[.int .i64 a1_0, .int .i64 a1_1] 33 (0, 0))) ∧ Aside0 (wc.heap[gb194]? = some (.cells #[.bool t188, .int .u64 t189, .int .u64 t190] 71 (0, 0))) ∧ Aside0 (wc.heap[gb195]? = some (.cells #[.bool t191, .int .u64 t192, .int .u64 t193] 71 (0, 0))) ∧ Aside0 (Below w.heap.size w wc))
 case first =>
  have H := HC7.out
  clear HC7
  replace H := Option.bind_eq_some_iff.mp H
  obtain ⟨t196, A290, H⟩ := H
  replace H : ((fraction_sign.f a1_0 a1_1).bind fun t197 => (fraction_Cmp.j0 k t196 t197 t188 t189 t190 t191 t192 t193)) = some r := H
  have A29 := aK A290
  clear A290
  replace H := Option.bind_eq_some_iff.mp H
  obtain ⟨t197, A300, H⟩ := H
  replace H : (fraction_Cmp.j0 k t196 t197 t188 t189 t190 t191 t192 t193) = some r := H
  have A30 := aK A300
  clear A300
  have H' := aK H
  clear H
  try go_wp2
  have n0_ : Aside0 (Kd.R k33 33 ((((((w22.setCell ⟨gb194, 0, none⟩ (.bool t188)).setCell ⟨gb194, 1, none⟩ (.int .u64 t189)).setCell ⟨gb194, 2, none⟩ (.int .u64 t190)).setCell ⟨gb195, 0, none⟩ (.bool t191)).setCell ⟨gb195, 1, none⟩ (.int .u64 t192)).setCell ⟨gb195, 2, none⟩ (.int .u64 t193)) w.heap.size (fun k_ => k_ ≠ gb182 ∧ k_ ≠ gb183) (.slice Ao15 y184.length co15) y184) := ⟨by (with_reducible repeat (first | apply Kd.R_alloc | apply Kd.R_drewN | apply Kd.R_drew)); exact Kd.R_mono (Kd.R_far (p := ⟨gb195, 2, none⟩) (Kd.R_far (p := ⟨gb195, 1, none⟩) (Kd.R_far (p := ⟨gb195, 0, none⟩) (Kd.R_far (p := ⟨gb194, 2, none⟩) (Kd.R_far (p := ⟨gb194, 1, none⟩) (Kd.R_far (p := ⟨gb194, 0, none⟩) (Kd.R_types (Kd.R_types HO186.out BK194.out (by decide)) BK195.out (by decide)) (fun _ hk => hk.1.2) (.bool t188)) (fun _ hk => hk.1.2) (.int .u64 t189)) (fun _ hk => hk.1.2) (.int .u64 t190)) (fun _ hk => hk.2) (.bool t191)) (fun _ hk => hk.2) (.int .u64 t192)) (fun _ hk => hk.2) (.int .u64 t193)) (fun _ hk => ⟨hk.1.1.1, hk.1.1.2⟩)⟩
  have n1_ : Aside0 (((((((w22.setCell ⟨gb194, 0, none⟩ (.bool t188)).setCell ⟨gb194, 1, none⟩ (.int .u64 t189)).setCell ⟨gb194, 2, none⟩ (.int .u64 t190)).setCell ⟨gb195, 0, none⟩ (.bool t191)).setCell ⟨gb195, 1, none⟩ (.int .u64 t192)).setCell ⟨gb195, 2, none⟩ (.int .u64 t193)).heap[gb182]? = some (.cells #[.int .i64 a0_0, .int .i64 a0_1] 33 (0, 0))) := ⟨by refine blk_far ?_ NB182_195.out _; refine blk_far ?_ NB182_195.out _; refine blk_far ?_ NB182_195.out _; refine blk_far ?_ NB182_194.out _; refine blk_far ?_ NB182_194.out _; refine blk_far ?_ NB182_194.out _; exact BK182.out⟩
  have n2_ : Aside0 (((((((w22.setCell ⟨gb194, 0, none⟩ (.bool t188)).setCell ⟨gb194, 1, none⟩ (.int .u64 t189)).setCell ⟨gb194, 2, none⟩ (.int .u64 t190)).setCell ⟨gb195, 0, none⟩ (.bool t191)).setCell ⟨gb195, 1, none⟩ (.int .u64 t192)).setCell ⟨gb195, 2, none⟩ (.int .u64 t193)).heap[gb183]? = some (.cells #[.int .i64 a1_0, .int .i64 a1_1] 33 (0, 0))) := ⟨by refine blk_far ?_ NB183_195.out _; refine blk_far ?_ NB183_195.out _; refine blk_far ?_ NB183_195.out _; refine blk_far ?_ NB183_194.out _; refine blk_far ?_ NB183_194.out _; refine blk_far ?_ NB183_194.out _; exact BK183.out⟩
  have n3_ : Aside0 (((((((w22.setCell ⟨gb194, 0, none⟩ (.bool t188)).setCell ⟨gb194, 1, none⟩ (.int .u64 t189)).setCell ⟨gb194, 2, none⟩ (.int .u64 t190)).setCell ⟨gb195, 0, none⟩ (.bool t191)).setCell ⟨gb195, 1, none⟩ (.int .u64 t192)).setCell ⟨gb195, 2, none⟩ (.int .u64 t193)).heap[gb194]? = some (.cells #[.bool t188, .int .u64 t189, .int .u64 t190] 71 (0, 0))) := ⟨by refine blk_far ?_ NB194_195.out _; refine blk_far ?_ NB194_195.out _; refine blk_far ?_ NB194_195.out _; refine blk_put (cs := #[.bool t188, .int .u64 t189, .int .u64 0]) ?_ 2 _ rfl; refine blk_put (cs := #[.bool t188, .int .u64 0, .int .u64 0]) ?_ 1 _ rfl; refine blk_put (cs := #[.bool false, .int .u64 0, .int .u64 0]) ?_ 0 _ rfl; exact BK194.out⟩
  have n4_ : Aside0 (((((((w22.setCell ⟨gb194, 0, none⟩ (.bool t188)).setCell ⟨gb194, 1, none⟩ (.int .u64 t189)).setCell ⟨gb194, 2, none⟩ (.int .u64 t190)).setCell ⟨gb195, 0, none⟩ (.bool t191)).setCell ⟨gb195, 1, none⟩ (.int .u64 t192)).setCell ⟨gb195, 2, none⟩ (.int .u64 t193)).heap[gb195]? = some (.cells #[.bool t191, .int .u64 t192, .int .u64 t193] 71 (0, 0))) := ⟨by refine blk_put (cs := #[.bool t191, .int .u64 t192, .int .u64 0]) ?_ 2 _ rfl; refine blk_put (cs := #[.bool t191, .int .u64 0, .int .u64 0]) ?_ 1 _ rfl; refine blk_put (cs := #[.bool false, .int .u64 0, .int .u64 0]) ?_ 0 _ rfl; refine blk_far ?_ NB195_194.out _; refine blk_far ?_ NB195_194.out _; refine blk_far ?_ NB195_194.out _; exact BK195.out⟩
  have n5_ : Aside0 (Below w.heap.size w ((((((w22.setCell ⟨gb194, 0, none⟩ (.bool t188)).setCell ⟨gb194, 1, none⟩ (.int .u64 t189)).setCell ⟨gb194, 2, none⟩ (.int .u64 t190)).setCell ⟨gb195, 0, none⟩ (.bool t191)).setCell ⟨gb195, 1, none⟩ (.int .u64 t192)).setCell ⟨gb195, 2, none⟩ (.int .u64 t193))) := ⟨by repeat (first | (with_reducible first | exact HB.out | apply yA | apply yN | apply yD | refine yS ?_ GE182.out | refine yS ?_ GE183.out | refine yS ?_ GE194.out | refine yS ?_ GE195.out) | exact HB.out)⟩
  (try clear HO186)
  (try clear BK182)
  (try clear BK183)
  (try clear BK194)
  (try clear BK195)
  (try clear HB)
  generalize ((((((w22.setCell ⟨gb194, 0, none⟩ (.bool t188)).setCell ⟨gb194, 1, none⟩ (.int .u64 t189)).setCell ⟨gb194, 2, none⟩ (.int .u64 t190)).setCell ⟨gb195, 0, none⟩ (.bool t191)).setCell ⟨gb195, 1, none⟩ (.int .u64 t192)).setCell ⟨gb195, 2, none⟩ (.int .u64 t193)) = w31 at n0_ n1_ n2_ n3_ n4_ n5_ ⊢
  have HO186 := n0_
  have BK182 := n1_
  have BK183 := n2_
  have BK194 := n3_
  have BK195 := n4_
  have HB := n5_
  clear n0_ n1_ n2_ n3_ n4_ n5_
  have n0_ := aK (Kd.R_drew HO186.out)
  have n1_ := aK (zD BK182.out)
  have n2_ := aK (zD BK183.out)
  have n3_ := aK (zD BK194.out)
  have n4_ := aK (zD BK195.out)
  have n5_ := aK (yD HB.out)
  clear HO186
  clear BK182
  clear BK183
  clear BK194
  clear BK195
  clear HB
  have HO186 := n0_
  have BK182 := n1_
  have BK183 := n2_
  have BK194 := n3_
  have BK195 := n4_
  have HB := n5_
  clear n0_ n1_ n2_ n3_ n4_ n5_
  refine start_ (n := 6) (S := fun w' => w'.cell? ⟨gb182, 0, none⟩ = some (.int .i64 a0_0) ∧ w'.cell? ⟨gb182, 1, none⟩ = some (.int .i64 a0_1) ∧ w'.cell? ⟨gb183, 0, none⟩ = some (.int .i64 a1_0) ∧ w'.cell? ⟨gb183, 1, none⟩ = some (.int .i64 a1_1)) (ds := []) #[false, false, false, false, false, false] (by kernel_rfl) rfl rfl ⟨(zC BK182.out 0).trans rfl, (zC BK182.out 1).trans rfl, (zC BK183.out 0).trans rfl, (zC BK183.out 1).trans rfl⟩ (fun hHeld => ?_)
  generalize w31.drew = w32 at HO186 BK182 BK183 BK194 BK195 HB hHeld ⊢
  refine take_ (i := 0) (N := some 24) (v := ?_) (a' := ?_) #[true, false, false, false, false, false] rfl rfl (by kernel_rfl) (fun _ _ _ h => h) (Or.inl ⟨by rfl, ?_⟩) hHeld ?_ ?_
  rotate_left
  ·rintro w' ⟨s0, s1, s2, s3⟩
   go_simp
   with_reducible rfl
  rotate_left
  ·simp only [Act.put, sA, sZ, sS, i64_w, i32_w]
   rfl
  refine take_ (i := 2) (N := some 26) (v := ?_) (a' := ?_) #[true, false, true, false, false, false] rfl rfl (by kernel_rfl) (fun _ _ _ h => h) (Or.inl ⟨by rfl, ?_⟩) hHeld ?_ ?_
  rotate_left
  ·rintro w' ⟨s0, s1, s2, s3⟩
   go_simp
   with_reducible rfl
  rotate_left
  ·simp only [Act.put, sA, sZ, sS, i64_w, i32_w]
   rfl
  refine one_ (i := 1) (N := some 25) #[true, true, true, false, false, false] rfl rfl (by kernel_rfl) (by decide) (fun K hK => ?_)
  refine goes_ Try.func57 (by kernel_rfl) rfl #[.agg #[.int .i64 a0_0, .int .i64 a0_1]] (by rfl) rfl rfl (by (try simp only [List.map_toArray, List.map_cons, List.map_nil]); first | done | rfl | (simp only [List.length_drop, List.length_take]; rfl)) ?_
  with_reducible refine (fraction_sign.calls a0_0 a0_1 t196 _ A29.out).mono ?_
  rintro e w33 ⟨rfl, hb⟩
  refine ⟨_, rfl, ?_⟩
  have n0_ := aK (Kd.R_below (HO186.out) hb)
  have n1_ := aK (zB (g := gb182) (o := .cells #[.int .i64 a0_0, .int .i64 a0_1] 33 (0, 0)) (BK182.out) hb)
  have n2_ := aK (zB (g := gb183) (o := .cells #[.int .i64 a1_0, .int .i64 a1_1] 33 (0, 0)) (BK183.out) hb)
  have n3_ := aK (zB (g := gb194) (o := .cells #[.bool t188, .int .u64 t189, .int .u64 t190] 71 (0, 0)) (BK194.out) hb)
  have n4_ := aK (zB (g := gb195) (o := .cells #[.bool t191, .int .u64 t192, .int .u64 t193] 71 (0, 0)) (BK195.out) hb)
  have n5_ := aK (yT (HB.out) hb)
  clear HO186
  clear BK182
  clear BK183
  clear BK194
  clear BK195
  clear HB
  have HO186 := n0_
  have BK182 := n1_
  have BK183 := n2_
  have BK194 := n3_
  have BK195 := n4_
  have HB := n5_
  clear n0_ n1_ n2_ n3_ n4_ n5_
  (try clear hb)
  (try clear hb2)
  (try clear hk)
  (try clear hi)
  refine hK.out _ _ ⟨(zC BK182.out 0).trans rfl, (zC BK182.out 1).trans rfl, (zC BK183.out 0).trans rfl, (zC BK183.out 1).trans rfl⟩ (fun hHeld => ?_)
  clear hK K
  refine norm_ (a' := ?_) ?_ ?_
  rotate_left
  ·show Act.put _ (some 25) _ = _
   simp only [Act.put, sA, sZ, sS, i64_w, i32_w]
   rfl
  refine one_ (i := 3) (N := some 27) #[true, true, true, true, false, false] rfl rfl (by kernel_rfl) (by decide) (fun K hK => ?_)
  refine goes_ Try.func57 (by kernel_rfl) rfl #[.agg #[.int .i64 a1_0, .int .i64 a1_1]] (by rfl) rfl rfl (by (try simp only [List.map_toArray, List.map_cons, List.map_nil]); first | done | rfl | (simp only [List.length_drop, List.length_take]; rfl)) ?_
  with_reducible refine (fraction_sign.calls a1_0 a1_1 t197 _ A30.out).mono ?_
  rintro e w34 ⟨rfl, hb⟩
  refine ⟨_, rfl, ?_⟩
  have n0_ := aK (Kd.R_below (HO186.out) hb)
  have n1_ := aK (zB (g := gb182) (o := .cells #[.int .i64 a0_0, .int .i64 a0_1] 33 (0, 0)) (BK182.out) hb)
  have n2_ := aK (zB (g := gb183) (o := .cells #[.int .i64 a1_0, .int .i64 a1_1] 33 (0, 0)) (BK183.out) hb)
  have n3_ := aK (zB (g := gb194) (o := .cells #[.bool t188, .int .u64 t189, .int .u64 t190] 71 (0, 0)) (BK194.out) hb)
  have n4_ := aK (zB (g := gb195) (o := .cells #[.bool t191, .int .u64 t192, .int .u64 t193] 71 (0, 0)) (BK195.out) hb)
  have n5_ := aK (yT (HB.out) hb)
  clear HO186
  clear BK182
  clear BK183
  clear BK194
  clear BK195
  clear HB
  have HO186 := n0_
  have BK182 := n1_
  have BK183 := n2_
  have BK194 := n3_
  have BK195 := n4_
  have HB := n5_
  clear n0_ n1_ n2_ n3_ n4_ n5_
  (try clear hb)
  (try clear hb2)
  (try clear hk)
  (try clear hi)
  refine hK.out _ _ ⟨(zC BK182.out 0).trans rfl, (zC BK182.out 1).trans rfl, (zC BK183.out 0).trans rfl, (zC BK183.out 1).trans rfl⟩ (fun hHeld => ?_)
  clear hK K
  refine norm_ (a' := ?_) ?_ ?_
  rotate_left
  ·show Act.put _ (some 27) _ = _
   simp only [Act.put, sA, sZ, sS, i64_w, i32_w]
   rfl
  refine pure_ (i := 4) (N := some 7) (v := ?_) (a' := ?_) #[true, true, true, true, true, false] rfl rfl (by kernel_rfl) (fun _ _ _ h => h) (Or.inl ⟨by rfl, ?_⟩) ?_ ?_
  rotate_left
  ·intro w'
   go_simp
   with_reducible rfl
  rotate_left
  ·simp only [Act.put, sA, sZ, sS, i64_w, i32_w]
   rfl
  refine pure_ (i := 5) (N := some 8) (v := ?_) (a' := ?_) #[true, true, true, true, true, true] rfl rfl (by kernel_rfl) (fun _ _ _ h => h) (Or.inl ⟨by rfl, ?_⟩) ?_ ?_
  rotate_left
  ·intro w'
   go_simp
   with_reducible rfl
  rotate_left
  ·simp only [Act.put, sA, sZ, sS, i64_w, i32_w]
   rfl
  refine done_ (by kernel_rfl) ?_
  try go_wp2
  go_meet
  case rel => exact ⟨_, (t196), (t197), (by first | rfl | (simp; done) | (simp [*]; done)), (by first | rfl | (simp; done) | (simp [*]; done)), H', ⟨by first | omega | exact Nat.le_refl _⟩, ⟨BK182.out⟩, ⟨BK183.out⟩, ⟨BK194.out⟩, ⟨BK195.out⟩, ⟨HB.out⟩⟩
 case rest =>
  clear HC7
  try clear p2
  try clear c5
  obtain ⟨kq, x7_6, x8_6, rfl, rfl, HA, HJ6, BK182, BK183, BK194, BK195, HB⟩ := hcut
  cases kq with
  | zero => exact absurd HA.out (by simp [fraction_Cmp.j0])
  | succ kj6 =>
   have H := HA.out
   clear HA
   simp only [fraction_Cmp.j0] at H
   by_cases c35 : x7_6 = x8_6
   rotate_left
   ·rw [if_neg c35] at H
    have c35b0 : (x7_6 == x8_6) = false := beq_eq_false_iff_ne.mpr c35
    have c35b1 : (x7_6 != x8_6) = true := bne_iff_ne.mpr c35
    replace H := Option.bind_eq_some_iff.mp H
    obtain ⟨t200, A550, H⟩ := H
    replace H : (some t200) = some r := H
    have A55 := aK A550
    clear A550
    obtain rfl := Option.some.inj H
    simp only [Option.some.injEq, Prod.mk.injEq] at H
    obtain ⟨rfl⟩ := H
    go_wp2_with (first | ((with_reducible refine gate_callee (f := 58) rfl ?_); refine goesL_ (some 34) rfl rfl Try.func58 (by kernel_rfl) rfl #[.int .i64 x7_6, .int .i64 x8_6] rfl (by (try simp only [List.map_toArray, List.map_cons, List.map_nil]); first | done | rfl | (simp only [List.length_drop, List.length_take]; rfl)) ?_; (with_reducible refine (cmp_Compare_int.calls x7_6 x8_6 t200 _ A55.out).mono ?_); rintro e w' ⟨rfl, ⟨nd, rfl⟩⟩; refine ⟨_, rfl, ?_⟩))
    go_ret
    exact ⟨rfl, by repeat (first | (with_reducible first | exact HB.out | apply yA | apply yN | apply yD | refine yS ?_ GE182.out | refine yS ?_ GE183.out | refine yS ?_ GE194.out | refine yS ?_ GE195.out) | exact HB.out)⟩
   rw [if_pos c35] at H
   have c35b0 : (x7_6 == x8_6) = true := beq_iff_eq.mpr c35
   have c35b1 : (x7_6 != x8_6) = false := bne_eq_false_iff_eq.mpr c35
   clear c35
   by_cases c36 : x7_6 < 0
   ·rw [if_pos c36] at H
    have c36b0 : decide (x7_6 < 0) = true := decide_eq_true c36
    clear c36
    replace H := Option.bind_eq_some_iff.mp H
    obtain ⟨t198, A370, H⟩ := H
    replace H : (some t198) = some r := H
    have A37 := aK A370
    clear A370
    obtain rfl := Option.some.inj H
    simp only [Option.some.injEq, Prod.mk.injEq] at H
    obtain ⟨rfl⟩ := H
    have hnb38 := NB195_182.out
    have hnc38 := NB182_195.out
    have hnb39 := NB195_183.out
    have hnc39 := NB183_195.out
    have hnb40 := NB195_194.out
    have hnc40 := NB194_195.out
    have hcz41_0 := zI BK195 0 rfl
    have hcz41_1 := zI BK195 1 rfl
    have hcz41_2 := zI BK195 2 rfl
    have hfz41_0 := zF BK195.out 0
    have hfz41_1 := zF BK195.out 1
    have hfz41_2 := zF BK195.out 2
    have hnb42 := NB194_182.out
    have hnc42 := NB182_194.out
    have hnb43 := NB194_183.out
    have hnc43 := NB183_194.out
    have hcz44_0 := zI BK194 0 rfl
    have hcz44_1 := zI BK194 1 rfl
    have hcz44_2 := zI BK194 2 rfl
    have hfz44_0 := zF BK194.out 0
    have hfz44_1 := zF BK194.out 1
    have hfz44_2 := zF BK194.out 2
    go_wp2_with (first | ((with_reducible refine gate_callee (f := 59) rfl ?_); refine goesL_ (some 40) rfl rfl Try.func59 (by kernel_rfl) rfl #[.agg #[.bool t191, .int .u64 t192, .int .u64 t193], .agg #[.bool t188, .int .u64 t189, .int .u64 t190]] rfl (by (try simp only [List.map_toArray, List.map_cons, List.map_nil]); first | done | rfl | (simp only [List.length_drop, List.length_take]; rfl)) ?_; (with_reducible refine (fraction_compare.calls kj6 t191 t192 t193 t188 t189 t190 t198 _ A37.out).mono ?_); rintro e w45 ⟨rfl, hb⟩; refine ⟨_, rfl, ?_⟩; have n0_ := aK (zB (g := gb182) (o := .cells #[.int .i64 a0_0, .int .i64 a0_1] 33 (0, 0)) (BK182.out) hb); have n1_ := aK (zB (g := gb183) (o := .cells #[.int .i64 a1_0, .int .i64 a1_1] 33 (0, 0)) (BK183.out) hb); have n2_ := aK (zB (g := gb194) (o := .cells #[.bool t188, .int .u64 t189, .int .u64 t190] 71 (0, 0)) (BK194.out) hb); have n3_ := aK (zB (g := gb195) (o := .cells #[.bool t191, .int .u64 t192, .int .u64 t193] 71 (0, 0)) (BK195.out) hb); have n4_ := aK (yT (HB.out) hb); clear BK182; clear BK183; clear BK194; clear BK195; clear HB; have BK182 := n0_; have BK183 := n1_; have BK194 := n2_; have BK195 := n3_; have HB := n4_; clear n0_ n1_ n2_ n3_ n4_; (try clear hb)))
    go_ret
    exact ⟨rfl, HB.out⟩
   rw [if_neg c36] at H
   have c36b0 : decide (x7_6 < 0) = false := decide_eq_false c36
   clear c36
   replace H := Option.bind_eq_some_iff.mp H
   obtain ⟨t199, A460, H⟩ := H
   replace H : (some t199) = some r := H
   have A46 := aK A460
   clear A460
   obtain rfl := Option.some.inj H
   simp only [Option.some.injEq, Prod.mk.injEq] at H
   obtain ⟨rfl⟩ := H
   have hnb47 := NB194_182.out
   have hnc47 := NB182_194.out
   have hnb48 := NB194_183.out
   have hnc48 := NB183_194.out
   have hnb49 := NB194_195.out
   have hnc49 := NB195_194.out
   have hcz50_0 := zI BK194 0 rfl
   have hcz50_1 := zI BK194 1 rfl
   have hcz50_2 := zI BK194 2 rfl
   have hfz50_0 := zF BK194.out 0
   have hfz50_1 := zF BK194.out 1
   have hfz50_2 := zF BK194.out 2
   have hnb51 := NB195_182.out
   have hnc51 := NB182_195.out
   have hnb52 := NB195_183.out
   have hnc52 := NB183_195.out
   have hcz53_0 := zI BK195 0 rfl
   have hcz53_1 := zI BK195 1 rfl
   have hcz53_2 := zI BK195 2 rfl
   have hfz53_0 := zF BK195.out 0
   have hfz53_1 := zF BK195.out 1
   have hfz53_2 := zF BK195.out 2
   go_wp2_with (first | ((with_reducible refine gate_callee (f := 59) rfl ?_); refine goesL_ (some 43) rfl rfl Try.func59 (by kernel_rfl) rfl #[.agg #[.bool t188, .int .u64 t189, .int .u64 t190], .agg #[.bool t191, .int .u64 t192, .int .u64 t193]] rfl (by (try simp only [List.map_toArray, List.map_cons, List.map_nil]); first | done | rfl | (simp only [List.length_drop, List.length_take]; rfl)) ?_; (with_reducible refine (fraction_compare.calls kj6 t188 t189 t190 t191 t192 t193 t199 _ A46.out).mono ?_); rintro e w54 ⟨rfl, hb⟩; refine ⟨_, rfl, ?_⟩; have n0_ := aK (zB (g := gb182) (o := .cells #[.int .i64 a0_0, .int .i64 a0_1] 33 (0, 0)) (BK182.out) hb); have n1_ := aK (zB (g := gb183) (o := .cells #[.int .i64 a1_0, .int .i64 a1_1] 33 (0, 0)) (BK183.out) hb); have n2_ := aK (zB (g := gb194) (o := .cells #[.bool t188, .int .u64 t189, .int .u64 t190] 71 (0, 0)) (BK194.out) hb); have n3_ := aK (zB (g := gb195) (o := .cells #[.bool t191, .int .u64 t192, .int .u64 t193] 71 (0, 0)) (BK195.out) hb); have n4_ := aK (yT (HB.out) hb); clear BK182; clear BK183; clear BK194; clear BK195; clear HB; have BK182 := n0_; have BK183 := n1_; have BK194 := n2_; have BK195 := n3_; have HB := n4_; clear n0_ n1_ n2_ n3_ n4_; (try clear hb)))
   go_ret
   exact ⟨rfl, HB.out⟩

end Go.Proofs.Ythkpgjjakdbbfaa.P
