/- What functions of the program return: each contract says so of one function, for every input at which its pure function yields. -/
import Derived.Test.YtnaahepnabmibaaGreatDoorPx0
import Derived.Test.YtnaahepnabmibaaGreatDoorAwk
import Derived.Test.YtnaahepnabmibaaGreatDoorPx2
import Derived.Test.YtnaahepnabmibaaGreatDoorPx3
import Derived.Test.YtnaahepnabmibaaGreatDoorPx5
import Derived.Test.YtnaahepnabmibaaGreatDoorPx6
import Derived.Test.YtnaahepnabmibaaGreatDoorPx7
import Derived.Test.YtnaahepnabmibaaGreatDoorItoa
namespace Go.Proofs.YtnaahepnabmibaaGreatDoor.P
open Go.Proofs.YtnaahepnabmibaaGreatDoor.Awk Go.RowKit Go.Proofs.YtnaahepnabmibaaGreatDoorW.PrintWords Go.Proofs.YtnaahepnabmibaaGreatDoorW.PrintLast Go.Proofs.YtnaahepnabmibaaGreatDoorW.PrintMore
attribute [local go_sem] max2_int min2_int max_two min_two max_three min_three max_four min_four   -- for this text's walks alone
set_option linter.unusedVariables false
set_option linter.unusedSimpArgs false

open Go.Proofs.YtnaahepnabmibaaGreatDoor.Itoa
def gangsawref30_Make.l0 : Nat → Int → Int → Int → List (S35) → Int → ByteArray → Int → Int → Int → Int → Int → Int → Int → Int → Int → Int → Option ((List (S35)) × (List (S32)) × Int)
 | 0, _, _, _, _, _, _, _, _, _, _, _, _, _, _, _, _ => none
 | k + 1, x9, x10, x11, x13, x14, x145000, x145001, x145002, x145003, x145004, x145005, x145006, x146000, x146001, x146002, x146003 => if x14 < x11 then (if x145000.size + 1 ≤ 9223372036854775807 then ((strconv_Itoa.f (wrap64 (x146003 + x14))).bind fun t162 => (if (x145000 ++ (⟨#[95]⟩ : ByteArray)).size + t162.size ≤ 9223372036854775807 then ((gangsawref09_Name.f k ((x145000 ++ (⟨#[95]⟩ : ByteArray)) ++ t162)).bind fun t163 => (if t163 = true then ((gangsawref30_between.f x145001 x145002 x145003 x145004 x145005 x145006 x146000 (wrap64 (x9 + (wrap64 (x14 * (wrap64 (x146001 + x146002)))))) (wrap64 ((wrap64 (x9 + (wrap64 (x14 * (wrap64 (x146001 + x146002)))))) + x146001))).bind fun bt164 => (if x13.length < 977343669134 then (gangsawref30_Make.l0 k x9 x10 x11 (x13 ++ [(⟨(x145000 ++ (⟨#[95]⟩ : ByteArray)) ++ t162, x145000, wrap64 (x146003 + x14), (⟨(⟨bt164.1, bt164.2.1, bt164.2.2.1⟩ : S30), (⟨bt164.2.2.2.1, bt164.2.2.2.2.1, bt164.2.2.2.2.2⟩ : S30)⟩ : S32), 0, ([] : List Int), ([] : List Int)⟩ : S35)]) (wrap64 (x14 + 1)) x145000 x145001 x145002 x145003 x145004 x145005 x145006 x146000 x146001 x146002 x146003) else (none))) else (some (([] : List (S35)), ([] : List (S32)), 4)))) else (none))) else (none)) else (if (wrap64 (x9 + (wrap64 (x11 * (wrap64 (x146001 + x146002)))))) < x10 then ((gangsawref30_between.f x145001 x145002 x145003 x145004 x145005 x145006 x146000 (wrap64 (x9 + (wrap64 (x11 * (wrap64 (x146001 + x146002)))))) x10).bind fun bt153 => (if ([] : List (S32)).length < 2932031007402 then (some (x13, (([] : List (S32)) ++ [(⟨(⟨bt153.1, bt153.2.1, bt153.2.2.1⟩ : S30), (⟨bt153.2.2.2.1, bt153.2.2.2.2.1, bt153.2.2.2.2.2⟩ : S30)⟩ : S32)]), 0)) else (none))) else (some (x13, ([] : List (S32)), 0)))
def gangsawref30_Make.f (k : Nat) (a0_0 : ByteArray) (a0_1 : Int) (a0_2 : Int) (a0_3 : Int) (a0_4 : Int) (a0_5 : Int) (a0_6 : Int) (a1_0 : Int) (a1_1 : Int) (a1_2 : Int) (a1_3 : Int) : Option ((List (S35)) × (List (S32)) × Int) := (gangsawref30_Check.f a1_0 a1_1 a1_2 a1_3).bind fun t146 => (if t146 = 0 then ((gangsawref09_Name.f k a0_0).bind fun t147 => (if t147 = true then ((gangsawref06_Check.f k a0_1 a0_2 a0_3 a0_4 a0_5 a0_6).bind fun t148 => (if t148 = 0 then ((gangsawref06_At.f a0_1 a0_2 a0_3 a1_0).bind fun t149 => ((gangsawref06_At.f a0_4 a0_5 a0_6 a1_0).bind fun t150 => ((gangsawref30_Count.f k a1_0 a1_1 a1_2 a1_3 (wrap64 (t150 - t149))).bind fun bt151 => (if bt151.1 = 0 then (some (([] : List (S35)), ([] : List (S32)), 9)) else (if bt151.1 > 256 then (some (([] : List (S35)), ([] : List (S32)), 7)) else (if (wrap64 ((wrap64 (a1_3 + bt151.1)) - 1)) > 1000000 then (some (([] : List (S35)), ([] : List (S32)), 6)) else (gangsawref30_Make.l0 k t149 t150 bt151.1 ([] : List (S35)) 0 a0_0 a0_1 a0_2 a0_3 a0_4 a0_5 a0_6 a1_0 a1_1 a1_2 a1_3))))))) else (some (([] : List (S35)), ([] : List (S32)), t148)))) else (some (([] : List (S35)), ([] : List (S32)), 4)))) else (some (([] : List (S35)), ([] : List (S32)), t146)))
theorem gangsawref30_Make.mono_l : ∀ k, (∀ y0 y1 y2 y3 y4 y5 y6 y7 y8 y9 y10 y11 y12 y13 y14 y15, LeO (gangsawref30_Make.l0 k y0 y1 y2 y3 y4 y5 y6 y7 y8 y9 y10 y11 y12 y13 y14 y15) (gangsawref30_Make.l0 (k + 1) y0 y1 y2 y3 y4 y5 y6 y7 y8 y9 y10 y11 y12 y13 y14 y15))
 | 0 => fun _ _ _ _ _ _ _ _ _ _ _ _ _ _ _ _ r h => by simp [gangsawref30_Make.l0] at h
 | k + 1 => by
  have ih0 := gangsawref30_Make.mono_l k
  ·intro y0 y1 y2 y3 y4 y5 y6 y7 y8 y9 y10 y11 y12 y13 y14 y15
   unfold gangsawref30_Make.l0
   repeat' first
   | (with_reducible exact ih0 _ _ _ _ _ _ _ _ _ _ _ _ _ _ _ _)
   | (with_reducible exact gangsawref06_Check.mono _ _ _ _ _ _ _)
   | (with_reducible exact gangsawref09_Name.mono _ _)
   | (with_reducible exact gangsawref30_Count.mono _ _ _ _ _ _)
   | (with_reducible exact LeO.refl _)
   | (with_reducible exact LeO.none _)
   | (with_reducible refine LeO.ite ?_ ?_)
   | (with_reducible refine LeO.bind ?_ (fun _ => ?_))
   | exact ih0 _ _ _ _ _ _ _ _ _ _ _ _ _ _ _ _
   | exact gangsawref06_Check.mono _ _ _ _ _ _ _
   | exact gangsawref09_Name.mono _ _
   | exact gangsawref30_Count.mono _ _ _ _ _ _
   | exact LeO.none _
   | refine LeO.ite ?_ ?_
   | refine LeO.bind ?_ (fun _ => ?_)
theorem gangsawref30_Make.mono : ∀ a0 a1 a2 a3 a4 a5 a6 a7 a8 a9 a10 k, LeO (gangsawref30_Make.f k a0 a1 a2 a3 a4 a5 a6 a7 a8 a9 a10) (gangsawref30_Make.f (k + 1) a0 a1 a2 a3 a4 a5 a6 a7 a8 a9 a10) := by
 intro a0 a1 a2 a3 a4 a5 a6 a7 a8 a9 a10 k
 have ih0 := gangsawref30_Make.mono_l k
 unfold gangsawref30_Make.f
 repeat' first
   | (with_reducible exact ih0 _ _ _ _ _ _ _ _ _ _ _ _ _ _ _ _)
   | (with_reducible exact gangsawref06_Check.mono _ _ _ _ _ _ _)
   | (with_reducible exact gangsawref09_Name.mono _ _)
   | (with_reducible exact gangsawref30_Count.mono _ _ _ _ _ _)
   | (with_reducible exact LeO.refl _)
   | (with_reducible exact LeO.none _)
   | (with_reducible refine LeO.ite ?_ ?_)
   | (with_reducible refine LeO.bind ?_ (fun _ => ?_))
   | exact ih0 _ _ _ _ _ _ _ _ _ _ _ _ _ _ _ _
   | exact gangsawref06_Check.mono _ _ _ _ _ _ _
   | exact gangsawref09_Name.mono _ _
   | exact gangsawref30_Count.mono _ _ _ _ _ _
   | exact LeO.none _
   | refine LeO.ite ?_ ?_
   | refine LeO.bind ?_ (fun _ => ?_)
def gangsawref30_Make.T9 : Bool × List (List Nat × List Nat) := (true, [([], []), ([0], [0]), ([1], [1]), ([], []), ([3], [3]), ([2, 4], [2, 4]), ([], []), ([6], [6]), ([7], [7]), ([], []), ([9], [9]), ([8, 10, 5], [8, 10]), ([5, 11, 0, 1, 2, 3, 4, 5], [5]), ([11, 12, 0, 1, 2, 3, 4, 5, 6, 7, 8, 9, 10, 11, 12], [11])])
def gangsawref30_Make.B9 : List Nat := [0, 1, 3, 0, 8, 31, 0, 64, 192, 0, 512, 2047, 4095, 8191]
theorem gangsawref30_Make.tab9 : rtab .any (opsOf Tryz.f22 9) = gangsawref30_Make.T9 := by kernel_rfl
theorem gangsawref30_Make.bits9 : waitsOk gangsawref30_Make.T9.2 gangsawref30_Make.B9 = true := by kernel_rfl
def gangsawref30_Make.T21 : Bool × List (List Nat × List Nat) := (true, [([], []), ([0], [0]), ([1], [1]), ([], []), ([3], [3]), ([], []), ([4, 5], [4, 5]), ([6], [6]), ([2, 7], [2, 7]), ([8, 7, 0, 1, 2, 3, 4, 5, 6, 7, 8], [8])])
def gangsawref30_Make.B21 : List Nat := [0, 1, 3, 0, 8, 0, 56, 120, 255, 511]
theorem gangsawref30_Make.tab21 : rtab .any (opsOf Tryz.f22 21) = gangsawref30_Make.T21 := by kernel_rfl
theorem gangsawref30_Make.bits21 : waitsOk gangsawref30_Make.T21.2 gangsawref30_Make.B21 = true := by kernel_rfl
def gangsawref30_Make.T25 : Bool × List (List Nat × List Nat) := (true, [([], []), ([], []), ([], []), ([2], [2]), ([], []), ([4], [4]), ([], []), ([5, 6], [5, 6]), ([], []), ([8], [8]), ([], []), ([10], [10]), ([], []), ([], []), ([], []), ([14], [14]), ([13, 15], [13, 15]), ([9, 11, 12, 16], [9, 11, 12, 16]), ([1, 3, 7, 17], [1, 3, 7, 17]), ([18], [18]), ([0, 19, 17], [0, 19]), ([20, 20, 0, 1, 2, 3, 4, 5, 6, 7, 8, 9, 10, 11, 12, 13, 14, 15, 16, 17, 18, 19, 20], [0, 20])])
def gangsawref30_Make.B25 : List Nat := [0, 0, 0, 4, 0, 16, 0, 112, 0, 256, 0, 1024, 0, 0, 0, 16384, 57344, 130816, 262142, 524286, 1048575, 2097151]
theorem gangsawref30_Make.tab25 : rtab .any (opsOf Tryz.f22 25) = gangsawref30_Make.T25 := by kernel_rfl
theorem gangsawref30_Make.bits25 : waitsOk gangsawref30_Make.T25.2 gangsawref30_Make.B25 = true := by kernel_rfl
set_option maxHeartbeats 8000000 in
set_option maxRecDepth 100000 in
theorem gangsawref30_Make.calls (k : Nat) (a0_0 : ByteArray) (a0_1 : Int) (a0_2 : Int) (a0_3 : Int) (a0_4 : Int) (a0_5 : Int) (a0_6 : Int) (a1_0 : Int) (a1_1 : Int) (a1_2 : Int) (a1_3 : Int) (r1 : List (S35)) (r2 : List (S32)) (r3 : Int) (w : World) {w0 : World} (hf0 : LaidAt w0) (hb0 : Below w0.heap.size w0 w) (h : gangsawref30_Make.f k a0_0 a0_1 a0_2 a0_3 a0_4 a0_5 a0_6 a1_0 a1_1 a1_2 a1_3 = some (r1, r2, r3)) :
  Calls Tryz.prog 22 #[.agg #[.string a0_0, .int .i64 a0_1, .int .i64 a0_2, .int .i64 a0_3, .int .i64 a0_4, .int .i64 a0_5, .int .i64 a0_6], .agg #[.int .i64 a1_0, .int .i64 a1_1, .int .i64 a1_2, .int .i64 a1_3]] w fun e w' => ∃ v0_ v1_ : Value, e = .returned (.tuple #[v0_, v1_, .int .i64 r3]) ∧ Kd.S k35 35 w' w.heap.size (fun _ => True) v0_ r1 ∧ Kd.R k32 32 w' w.heap.size (fun _ => True) v1_ r2 ∧ Below w.heap.size w w' := by
 have HLD := aK (hf0.below hb0)
 clear hf0 hb0
 have hu45 := Tryz.underlying45
 have hu47 := Tryz.underlying47
 have hu32 := Tryz.underlying32
 have hu30 := Tryz.underlying30
 have hu35 := Tryz.underlying35
 have HB := aK (Below.refl w.heap.size w)
 have H : ((gangsawref30_Check.f a1_0 a1_1 a1_2 a1_3).bind fun t146 => (if t146 = 0 then ((gangsawref09_Name.f k a0_0).bind fun t147 => (if t147 = true then ((gangsawref06_Check.f k a0_1 a0_2 a0_3 a0_4 a0_5 a0_6).bind fun t148 => (if t148 = 0 then ((gangsawref06_At.f a0_1 a0_2 a0_3 a1_0).bind fun t149 => ((gangsawref06_At.f a0_4 a0_5 a0_6 a1_0).bind fun t150 => ((gangsawref30_Count.f k a1_0 a1_1 a1_2 a1_3 (wrap64 (t150 - t149))).bind fun bt151 => (if bt151.1 = 0 then (some (([] : List (S35)), ([] : List (S32)), 9)) else (if bt151.1 > 256 then (some (([] : List (S35)), ([] : List (S32)), 7)) else (if (wrap64 ((wrap64 (a1_3 + bt151.1)) - 1)) > 1000000 then (some (([] : List (S35)), ([] : List (S32)), 6)) else (gangsawref30_Make.l0 k t149 t150 bt151.1 ([] : List (S35)) 0 a0_0 a0_1 a0_2 a0_3 a0_4 a0_5 a0_6 a1_0 a1_1 a1_2 a1_3))))))) else (some (([] : List (S35)), ([] : List (S32)), t148)))) else (some (([] : List (S35)), ([] : List (S32)), 4)))) else (some (([] : List (S35)), ([] : List (S32)), t146)))) = some (r1, r2, r3) := h
 clear h
 replace H := Option.bind_eq_some_iff.mp H
 obtain ⟨t146, A30, H⟩ := H
 replace H : (if t146 = 0 then ((gangsawref09_Name.f k a0_0).bind fun t147 => (if t147 = true then ((gangsawref06_Check.f k a0_1 a0_2 a0_3 a0_4 a0_5 a0_6).bind fun t148 => (if t148 = 0 then ((gangsawref06_At.f a0_1 a0_2 a0_3 a1_0).bind fun t149 => ((gangsawref06_At.f a0_4 a0_5 a0_6 a1_0).bind fun t150 => ((gangsawref30_Count.f k a1_0 a1_1 a1_2 a1_3 (wrap64 (t150 - t149))).bind fun bt151 => (if bt151.1 = 0 then (some (([] : List (S35)), ([] : List (S32)), 9)) else (if bt151.1 > 256 then (some (([] : List (S35)), ([] : List (S32)), 7)) else (if (wrap64 ((wrap64 (a1_3 + bt151.1)) - 1)) > 1000000 then (some (([] : List (S35)), ([] : List (S32)), 6)) else (gangsawref30_Make.l0 k t149 t150 bt151.1 ([] : List (S35)) 0 a0_0 a0_1 a0_2 a0_3 a0_4 a0_5 a0_6 a1_0 a1_1 a1_2 a1_3))))))) else (some (([] : List (S35)), ([] : List (S32)), t148)))) else (some (([] : List (S35)), ([] : List (S32)), 4)))) else (some (([] : List (S35)), ([] : List (S32)), t146))) = some (r1, r2, r3) := H
 have A3 := aK A30
 clear A30
 by_cases c4 : t146 = 0
 rotate_left
 ·rw [if_neg c4] at H
  have c4b0 : (t146 == 0) = false := beq_eq_false_iff_ne.mpr c4
  have c4b1 : (t146 != 0) = true := bne_iff_ne.mpr c4
  simp only [Option.some.injEq, Prod.mk.injEq] at H
  obtain ⟨rfl, rfl, rfl⟩ := H
  go_enter Tryz.func22, Tryz.ntmps22
  go_wp2_with (first | ((with_reducible refine gate_dst (N := 2) rfl ?_); refine box_event ?hg (N := 2) ?hd (cs := #[.string a0_0, .int .i64 a0_1, .int .i64 a0_2, .int .i64 a0_3, .int .i64 a0_4, .int .i64 a0_5, .int .i64 a0_6]) (t := 45) ?hr ?_; (case hd => rfl); (case hg => rfl); (case hr => first | (go_simp; done) | (go_simp; rfl)); intro gb144 hg w105 hbox hb; have n0_ := aK (yT (HB.out) hb); have n1_ := aK (hbox); have n2_ := aK ((by rw [hg]; exact (yZ (HB.out)) : w.heap.size ≤ gb144)); have n3_ := n2_; clear HB; have HB := n0_; have BK144 := n1_; have GW144 := n2_; have GE144 := n3_; clear n0_ n1_ n2_ n3_; clear hb hbox hg) | ((with_reducible refine gate_dst (N := 3) rfl ?_); refine box_event ?hg (N := 3) ?hd (cs := #[.int .i64 a1_0, .int .i64 a1_1, .int .i64 a1_2, .int .i64 a1_3]) (t := 47) ?hr ?_; (case hd => rfl); (case hg => rfl); (case hr => first | (go_simp; done) | (go_simp; rfl)); intro gb145 hg w106 hbox hb; have n0_ := aK (zB (g := gb144) (o := .cells #[.string a0_0, .int .i64 a0_1, .int .i64 a0_2, .int .i64 a0_3, .int .i64 a0_4, .int .i64 a0_5, .int .i64 a0_6] 45 (0, 0)) (BK144.out) hb); have n1_ := aK (yT (HB.out) hb); have n2_ := aK (hbox); have n3_ := aK ((by rw [hg]; exact (yZ (HB.out)) : w.heap.size ≤ gb145)); have n4_ := n3_; have n5_ := aK ((by rw [hg]; exact Nat.ne_of_lt (blk_lt (g := gb144) (o := .cells #[.string a0_0, .int .i64 a0_1, .int .i64 a0_2, .int .i64 a0_3, .int .i64 a0_4, .int .i64 a0_5, .int .i64 a0_6] 45 (0, 0)) (BK144.out)) : gb144 ≠ gb145)); have n6_ := aK ((by rw [hg]; exact Nat.ne_of_gt (blk_lt (g := gb144) (o := .cells #[.string a0_0, .int .i64 a0_1, .int .i64 a0_2, .int .i64 a0_3, .int .i64 a0_4, .int .i64 a0_5, .int .i64 a0_6] 45 (0, 0)) (BK144.out)) : gb145 ≠ gb144)); clear BK144; clear HB; have BK144 := n0_; have HB := n1_; have BK145 := n2_; have GW145 := n3_; have GE145 := n4_; have NB144_145 := n5_; have NB145_144 := n6_; clear n0_ n1_ n2_ n3_ n4_ n5_ n6_; clear hb hbox hg; have hnb107 := NB145_144.out; have hnc107 := NB144_145.out; have hcz108_0 := zI BK145 0 rfl; have hcz108_1 := zI BK145 1 rfl; have hcz108_2 := zI BK145 2 rfl; have hcz108_3 := zI BK145 3 rfl; have hfz108_0 := zF BK145.out 0; have hfz108_1 := zF BK145.out 1; have hfz108_2 := zF BK145.out 2; have hfz108_3 := zF BK145.out 3) | ((with_reducible refine gate_callee (f := 24) rfl ?_); refine goesL_ (some 20) rfl rfl Tryz.func24 (by kernel_rfl) rfl #[.agg #[.int .i64 a1_0, .int .i64 a1_1, .int .i64 a1_2, .int .i64 a1_3]] rfl (by (try simp only [List.map_toArray, List.map_cons, List.map_nil]); first | done | rfl | (simp only [List.length_drop, List.length_take]; rfl)) ?_; (with_reducible refine (gangsawref30_Check.calls a1_0 a1_1 a1_2 a1_3 t146 _ A3.out).mono ?_); rintro e w109 ⟨rfl, hb⟩; refine ⟨_, rfl, ?_⟩; have n0_ := aK (zB (g := gb144) (o := .cells #[.string a0_0, .int .i64 a0_1, .int .i64 a0_2, .int .i64 a0_3, .int .i64 a0_4, .int .i64 a0_5, .int .i64 a0_6] 45 (0, 0)) (BK144.out) hb); have n1_ := aK (zB (g := gb145) (o := .cells #[.int .i64 a1_0, .int .i64 a1_1, .int .i64 a1_2, .int .i64 a1_3] 47 (0, 0)) (BK145.out) hb); have n2_ := aK (yT (HB.out) hb); clear BK144; clear BK145; clear HB; have BK144 := n0_; have BK145 := n1_; have HB := n2_; clear n0_ n1_ n2_; (try clear hb)))
  go_ret3
  exact ⟨_, _, rfl, by first | exact Kd.S_nil _ _ _ _ _ | exact Kd.N_nil _ _ _ _ _ | exact Kd.V_nil _ _ _ _ _ | exact Kd.Q_nil _ _ _ _ _ | exact Kd.R_nil _ _ _ _ _, by first | exact Kd.R_nil _ _ _ _ _ | exact Kd.N_nil _ _ _ _ _ | exact Kd.V_nil _ _ _ _ _ | exact Kd.Q_nil _ _ _ _ _ | exact Kd.S_nil _ _ _ _ _, HB.out⟩
 rw [if_pos c4] at H
 have c4b0 : (t146 == 0) = true := beq_iff_eq.mpr c4
 have c4b1 : (t146 != 0) = false := bne_eq_false_iff_eq.mpr c4
 clear c4
 replace H := Option.bind_eq_some_iff.mp H
 obtain ⟨t147, A50, H⟩ := H
 replace H : (if t147 = true then ((gangsawref06_Check.f k a0_1 a0_2 a0_3 a0_4 a0_5 a0_6).bind fun t148 => (if t148 = 0 then ((gangsawref06_At.f a0_1 a0_2 a0_3 a1_0).bind fun t149 => ((gangsawref06_At.f a0_4 a0_5 a0_6 a1_0).bind fun t150 => ((gangsawref30_Count.f k a1_0 a1_1 a1_2 a1_3 (wrap64 (t150 - t149))).bind fun bt151 => (if bt151.1 = 0 then (some (([] : List (S35)), ([] : List (S32)), 9)) else (if bt151.1 > 256 then (some (([] : List (S35)), ([] : List (S32)), 7)) else (if (wrap64 ((wrap64 (a1_3 + bt151.1)) - 1)) > 1000000 then (some (([] : List (S35)), ([] : List (S32)), 6)) else (gangsawref30_Make.l0 k t149 t150 bt151.1 ([] : List (S35)) 0 a0_0 a0_1 a0_2 a0_3 a0_4 a0_5 a0_6 a1_0 a1_1 a1_2 a1_3))))))) else (some (([] : List (S35)), ([] : List (S32)), t148)))) else (some (([] : List (S35)), ([] : List (S32)), 4))) = some (r1, r2, r3) := H
 have A5 := aK A50
 clear A50
 by_cases c6 : t147 = true
 rotate_left
 ·replace c6 := Bool.eq_false_iff.mpr c6
  subst c6
  have H1 : (some (([] : List (S35)), ([] : List (S32)), 4)) = some (r1, r2, r3) := by rw [if_neg (show ¬ (false = true) by decide)] at H; exact H
  clear H
  have H := H1
  clear H1
  simp only [Option.some.injEq, Prod.mk.injEq] at H
  obtain ⟨rfl, rfl, rfl⟩ := H
  go_enter Tryz.func22, Tryz.ntmps22
  go_wp2_with (first | ((with_reducible refine gate_dst (N := 2) rfl ?_); refine box_event ?hg (N := 2) ?hd (cs := #[.string a0_0, .int .i64 a0_1, .int .i64 a0_2, .int .i64 a0_3, .int .i64 a0_4, .int .i64 a0_5, .int .i64 a0_6]) (t := 45) ?hr ?_; (case hd => rfl); (case hg => rfl); (case hr => first | (go_simp; done) | (go_simp; rfl)); intro gb144 hg w99 hbox hb; have ⟨n0_, n2_⟩ := zV (w := w) hb hg (by repeat (first | (with_reducible first | exact HB.out | apply yA | apply yN | apply yD) | exact HB.out)); have n1_ := aK (hbox); have n3_ := n2_; clear HB; have HB := n0_; have BK144 := n1_; have GW144 := n2_; have GE144 := n3_; clear n0_ n1_ n2_ n3_; clear hb hbox hg) | ((with_reducible refine gate_dst (N := 3) rfl ?_); refine box_event ?hg (N := 3) ?hd (cs := #[.int .i64 a1_0, .int .i64 a1_1, .int .i64 a1_2, .int .i64 a1_3]) (t := 47) ?hr ?_; (case hd => rfl); (case hg => rfl); (case hr => first | (go_simp; done) | (go_simp; rfl)); intro gb145 hg w100 hbox hb; have n0_ := aK (zB (g := gb144) (o := .cells #[.string a0_0, .int .i64 a0_1, .int .i64 a0_2, .int .i64 a0_3, .int .i64 a0_4, .int .i64 a0_5, .int .i64 a0_6] 45 (0, 0)) (BK144.out) hb); have ⟨n1_, n3_⟩ := zV (w := w) hb hg (by repeat (first | (with_reducible first | exact HB.out | apply yA | apply yN | apply yD | refine yS ?_ GE144.out) | exact HB.out)); have n2_ := aK (hbox); have n4_ := n3_; have n5_ := aK ((by rw [hg]; exact Nat.ne_of_lt (blk_lt (g := gb144) (o := .cells #[.string a0_0, .int .i64 a0_1, .int .i64 a0_2, .int .i64 a0_3, .int .i64 a0_4, .int .i64 a0_5, .int .i64 a0_6] 45 (0, 0)) (BK144.out)) : gb144 ≠ gb145)); have n6_ := aK ((by rw [hg]; exact Nat.ne_of_gt (blk_lt (g := gb144) (o := .cells #[.string a0_0, .int .i64 a0_1, .int .i64 a0_2, .int .i64 a0_3, .int .i64 a0_4, .int .i64 a0_5, .int .i64 a0_6] 45 (0, 0)) (BK144.out)) : gb145 ≠ gb144)); clear BK144; clear HB; have BK144 := n0_; have HB := n1_; have BK145 := n2_; have GW145 := n3_; have GE145 := n4_; have NB144_145 := n5_; have NB145_144 := n6_; clear n0_ n1_ n2_ n3_ n4_ n5_ n6_; clear hb hbox hg; have hnb101 := NB145_144.out; have hnc101 := NB144_145.out; have hcz102_0 := zI BK145 0 rfl; have hcz102_1 := zI BK145 1 rfl; have hcz102_2 := zI BK145 2 rfl; have hcz102_3 := zI BK145 3 rfl; have hfz102_0 := zF BK145.out 0; have hfz102_1 := zF BK145.out 1; have hfz102_2 := zF BK145.out 2; have hfz102_3 := zF BK145.out 3) | ((with_reducible refine gate_callee (f := 24) rfl ?_); refine goesL_ (some 20) rfl rfl Tryz.func24 (by kernel_rfl) rfl #[.agg #[.int .i64 a1_0, .int .i64 a1_1, .int .i64 a1_2, .int .i64 a1_3]] rfl (by (try simp only [List.map_toArray, List.map_cons, List.map_nil]); first | done | rfl | (simp only [List.length_drop, List.length_take]; rfl)) ?_; (with_reducible refine (gangsawref30_Check.calls a1_0 a1_1 a1_2 a1_3 t146 _ A3.out).mono ?_); rintro e w103 ⟨rfl, hb⟩; refine ⟨_, rfl, ?_⟩; have n0_ := aK (zB (g := gb144) (o := .cells #[.string a0_0, .int .i64 a0_1, .int .i64 a0_2, .int .i64 a0_3, .int .i64 a0_4, .int .i64 a0_5, .int .i64 a0_6] 45 (0, 0)) (BK144.out) hb); have n1_ := aK (zB (g := gb145) (o := .cells #[.int .i64 a1_0, .int .i64 a1_1, .int .i64 a1_2, .int .i64 a1_3] 47 (0, 0)) (BK145.out) hb); have n2_ := aK (yT (by repeat (first | (with_reducible first | exact HB.out | apply yA | apply yN | apply yD | refine yS ?_ GE144.out | refine yS ?_ GE145.out) | exact HB.out)) hb); clear BK144; clear BK145; clear HB; have BK144 := n0_; have BK145 := n1_; have HB := n2_; clear n0_ n1_ n2_; (try clear hb); have hcz104_0 := zI BK144 0 rfl; have hcz104_1 := zI BK144 1 rfl; have hcz104_2 := zI BK144 2 rfl; have hcz104_3 := zI BK144 3 rfl; have hcz104_4 := zI BK144 4 rfl; have hcz104_5 := zI BK144 5 rfl; have hcz104_6 := zI BK144 6 rfl; have hfz104_0 := zF BK144.out 0; have hfz104_1 := zF BK144.out 1; have hfz104_2 := zF BK144.out 2; have hfz104_3 := zF BK144.out 3; have hfz104_4 := zF BK144.out 4; have hfz104_5 := zF BK144.out 5; have hfz104_6 := zF BK144.out 6) | ((with_reducible refine gate_callee (f := 62) rfl ?_); refine goesL_ (some 26) rfl rfl Tryz.func62 (by kernel_rfl) rfl #[.string a0_0] rfl (by (try simp only [List.map_toArray, List.map_cons, List.map_nil]); first | done | rfl | (simp only [List.length_drop, List.length_take]; rfl)) ?_; (with_reducible refine (gangsawref09_Name.calls k a0_0 false _ A5.out).mono ?_); rintro e w' ⟨rfl, ⟨nd, rfl⟩⟩; refine ⟨_, rfl, ?_⟩))
  go_ret3
  exact ⟨_, _, rfl, by first | exact Kd.S_nil _ _ _ _ _ | exact Kd.N_nil _ _ _ _ _ | exact Kd.V_nil _ _ _ _ _ | exact Kd.Q_nil _ _ _ _ _ | exact Kd.R_nil _ _ _ _ _, by first | exact Kd.R_nil _ _ _ _ _ | exact Kd.N_nil _ _ _ _ _ | exact Kd.V_nil _ _ _ _ _ | exact Kd.Q_nil _ _ _ _ _ | exact Kd.S_nil _ _ _ _ _, by repeat (first | (with_reducible first | exact HB.out | apply yA | apply yN | apply yD | refine yS ?_ GE144.out | refine yS ?_ GE145.out) | exact HB.out)⟩
 subst c6
 have H1 : ((gangsawref06_Check.f k a0_1 a0_2 a0_3 a0_4 a0_5 a0_6).bind fun t148 => (if t148 = 0 then ((gangsawref06_At.f a0_1 a0_2 a0_3 a1_0).bind fun t149 => ((gangsawref06_At.f a0_4 a0_5 a0_6 a1_0).bind fun t150 => ((gangsawref30_Count.f k a1_0 a1_1 a1_2 a1_3 (wrap64 (t150 - t149))).bind fun bt151 => (if bt151.1 = 0 then (some (([] : List (S35)), ([] : List (S32)), 9)) else (if bt151.1 > 256 then (some (([] : List (S35)), ([] : List (S32)), 7)) else (if (wrap64 ((wrap64 (a1_3 + bt151.1)) - 1)) > 1000000 then (some (([] : List (S35)), ([] : List (S32)), 6)) else (gangsawref30_Make.l0 k t149 t150 bt151.1 ([] : List (S35)) 0 a0_0 a0_1 a0_2 a0_3 a0_4 a0_5 a0_6 a1_0 a1_1 a1_2 a1_3))))))) else (some (([] : List (S35)), ([] : List (S32)), t148)))) = some (r1, r2, r3) := by rw [if_pos rfl] at H; exact H
 clear H
 have H := H1
 clear H1
 replace H := Option.bind_eq_some_iff.mp H
 obtain ⟨t148, A70, H⟩ := H
 replace H : (if t148 = 0 then ((gangsawref06_At.f a0_1 a0_2 a0_3 a1_0).bind fun t149 => ((gangsawref06_At.f a0_4 a0_5 a0_6 a1_0).bind fun t150 => ((gangsawref30_Count.f k a1_0 a1_1 a1_2 a1_3 (wrap64 (t150 - t149))).bind fun bt151 => (if bt151.1 = 0 then (some (([] : List (S35)), ([] : List (S32)), 9)) else (if bt151.1 > 256 then (some (([] : List (S35)), ([] : List (S32)), 7)) else (if (wrap64 ((wrap64 (a1_3 + bt151.1)) - 1)) > 1000000 then (some (([] : List (S35)), ([] : List (S32)), 6)) else (gangsawref30_Make.l0 k t149 t150 bt151.1 ([] : List (S35)) 0 a0_0 a0_1 a0_2 a0_3 a0_4 a0_5 a0_6 a1_0 a1_1 a1_2 a1_3))))))) else (some (([] : List (S35)), ([] : List (S32)), t148))) = some (r1, r2, r3) := H
 have A7 := aK A70
 clear A70
 by_cases c8 : t148 = 0
 rotate_left
 ·rw [if_neg c8] at H
  have c8b0 : (t148 == 0) = false := beq_eq_false_iff_ne.mpr c8
  have c8b1 : (t148 != 0) = true := bne_iff_ne.mpr c8
  simp only [Option.some.injEq, Prod.mk.injEq] at H
  obtain ⟨rfl, rfl, rfl⟩ := H
  go_enter Tryz.func22, Tryz.ntmps22
  go_wp2_with (first | ((with_reducible refine gate_dst (N := 2) rfl ?_); refine box_event ?hg (N := 2) ?hd (cs := #[.string a0_0, .int .i64 a0_1, .int .i64 a0_2, .int .i64 a0_3, .int .i64 a0_4, .int .i64 a0_5, .int .i64 a0_6]) (t := 45) ?hr ?_; (case hd => rfl); (case hg => rfl); (case hr => first | (go_simp; done) | (go_simp; rfl)); intro gb144 hg w92 hbox hb; have ⟨n0_, n2_⟩ := zV (w := w) hb hg (by repeat (first | (with_reducible first | exact HB.out | apply yA | apply yN | apply yD) | exact HB.out)); have n1_ := aK (hbox); have n3_ := n2_; clear HB; have HB := n0_; have BK144 := n1_; have GW144 := n2_; have GE144 := n3_; clear n0_ n1_ n2_ n3_; clear hb hbox hg) | ((with_reducible refine gate_dst (N := 3) rfl ?_); refine box_event ?hg (N := 3) ?hd (cs := #[.int .i64 a1_0, .int .i64 a1_1, .int .i64 a1_2, .int .i64 a1_3]) (t := 47) ?hr ?_; (case hd => rfl); (case hg => rfl); (case hr => first | (go_simp; done) | (go_simp; rfl)); intro gb145 hg w93 hbox hb; have n0_ := aK (zB (g := gb144) (o := .cells #[.string a0_0, .int .i64 a0_1, .int .i64 a0_2, .int .i64 a0_3, .int .i64 a0_4, .int .i64 a0_5, .int .i64 a0_6] 45 (0, 0)) (by exact BK144.out) hb); have ⟨n1_, n3_⟩ := zV (w := w) hb hg (by repeat (first | (with_reducible first | exact HB.out | apply yA | apply yN | apply yD | refine yS ?_ GE144.out) | exact HB.out)); have n2_ := aK (hbox); have n4_ := n3_; have n5_ := aK ((by rw [hg]; exact Nat.ne_of_lt (blk_lt (g := gb144) (o := .cells #[.string a0_0, .int .i64 a0_1, .int .i64 a0_2, .int .i64 a0_3, .int .i64 a0_4, .int .i64 a0_5, .int .i64 a0_6] 45 (0, 0)) (by exact BK144.out)) : gb144 ≠ gb145)); have n6_ := aK ((by rw [hg]; exact Nat.ne_of_gt (blk_lt (g := gb144) (o := .cells #[.string a0_0, .int .i64 a0_1, .int .i64 a0_2, .int .i64 a0_3, .int .i64 a0_4, .int .i64 a0_5, .int .i64 a0_6] 45 (0, 0)) (by exact BK144.out)) : gb145 ≠ gb144)); clear BK144; clear HB; have BK144 := n0_; have HB := n1_; have BK145 := n2_; have GW145 := n3_; have GE145 := n4_; have NB144_145 := n5_; have NB145_144 := n6_; clear n0_ n1_ n2_ n3_ n4_ n5_ n6_; clear hb hbox hg; have hnb94 := NB145_144.out; have hnc94 := NB144_145.out; have hcz95_0 := zI BK145 0 rfl; have hcz95_1 := zI BK145 1 rfl; have hcz95_2 := zI BK145 2 rfl; have hcz95_3 := zI BK145 3 rfl; have hfz95_0 := zF BK145.out 0; have hfz95_1 := zF BK145.out 1; have hfz95_2 := zF BK145.out 2; have hfz95_3 := zF BK145.out 3) | ((with_reducible refine gate_callee (f := 24) rfl ?_); refine goesL_ (some 20) rfl rfl Tryz.func24 (by kernel_rfl) rfl #[.agg #[.int .i64 a1_0, .int .i64 a1_1, .int .i64 a1_2, .int .i64 a1_3]] rfl (by (try simp only [List.map_toArray, List.map_cons, List.map_nil]); first | done | rfl | (simp only [List.length_drop, List.length_take]; rfl)) ?_; (with_reducible refine (gangsawref30_Check.calls a1_0 a1_1 a1_2 a1_3 t146 _ A3.out).mono ?_); rintro e w96 ⟨rfl, hb⟩; refine ⟨_, rfl, ?_⟩; have n0_ := aK (zB (g := gb144) (o := .cells #[.string a0_0, .int .i64 a0_1, .int .i64 a0_2, .int .i64 a0_3, .int .i64 a0_4, .int .i64 a0_5, .int .i64 a0_6] 45 (0, 0)) (by exact BK144.out) hb); have n1_ := aK (zB (g := gb145) (o := .cells #[.int .i64 a1_0, .int .i64 a1_1, .int .i64 a1_2, .int .i64 a1_3] 47 (0, 0)) (by exact BK145.out) hb); have n2_ := aK (yT (by repeat (first | (with_reducible first | exact HB.out | apply yA | apply yN | apply yD | refine yS ?_ GE144.out | refine yS ?_ GE145.out) | exact HB.out)) hb); clear BK144; clear BK145; clear HB; have BK144 := n0_; have BK145 := n1_; have HB := n2_; clear n0_ n1_ n2_; (try clear hb); have hcz97_0 := zI BK144 0 rfl; have hcz97_1 := zI BK144 1 rfl; have hcz97_2 := zI BK144 2 rfl; have hcz97_3 := zI BK144 3 rfl; have hcz97_4 := zI BK144 4 rfl; have hcz97_5 := zI BK144 5 rfl; have hcz97_6 := zI BK144 6 rfl; have hfz97_0 := zF BK144.out 0; have hfz97_1 := zF BK144.out 1; have hfz97_2 := zF BK144.out 2; have hfz97_3 := zF BK144.out 3; have hfz97_4 := zF BK144.out 4; have hfz97_5 := zF BK144.out 5; have hfz97_6 := zF BK144.out 6) | ((with_reducible refine gate_callee (f := 62) rfl ?_); refine goesL_ (some 26) rfl rfl Tryz.func62 (by kernel_rfl) rfl #[.string a0_0] rfl (by (try simp only [List.map_toArray, List.map_cons, List.map_nil]); first | done | rfl | (simp only [List.length_drop, List.length_take]; rfl)) ?_; (with_reducible refine (gangsawref09_Name.calls k a0_0 true _ A5.out).mono ?_); rintro e w' ⟨rfl, ⟨nd, rfl⟩⟩; refine ⟨_, rfl, ?_⟩) | ((with_reducible refine gate_callee (f := 63) rfl ?_); refine goesL_ (some 30) rfl rfl Tryz.func63 (by kernel_rfl) rfl #[.agg #[.int .i64 a0_1, .int .i64 a0_2, .int .i64 a0_3, .int .i64 a0_4, .int .i64 a0_5, .int .i64 a0_6]] rfl (by (try simp only [List.map_toArray, List.map_cons, List.map_nil]); first | done | rfl | (simp only [List.length_drop, List.length_take]; rfl)) ?_; (with_reducible refine (gangsawref06_Check.calls k a0_1 a0_2 a0_3 a0_4 a0_5 a0_6 t148 _ A7.out).mono ?_); rintro e w98 ⟨rfl, hb⟩; refine ⟨_, rfl, ?_⟩; have n0_ := aK (zB (g := gb144) (o := .cells #[.string a0_0, .int .i64 a0_1, .int .i64 a0_2, .int .i64 a0_3, .int .i64 a0_4, .int .i64 a0_5, .int .i64 a0_6] 45 (0, 0)) (by exact BK144.out) hb); have n1_ := aK (zB (g := gb145) (o := .cells #[.int .i64 a1_0, .int .i64 a1_1, .int .i64 a1_2, .int .i64 a1_3] 47 (0, 0)) (by exact BK145.out) hb); have n2_ := aK (yT (by repeat (first | (with_reducible first | exact HB.out | apply yA | apply yN | apply yD | refine yS ?_ GE144.out | refine yS ?_ GE145.out) | exact HB.out)) hb); clear BK144; clear BK145; clear HB; have BK144 := n0_; have BK145 := n1_; have HB := n2_; clear n0_ n1_ n2_; (try clear hb)))
  go_ret3
  exact ⟨_, _, rfl, by first | exact Kd.S_nil _ _ _ _ _ | exact Kd.N_nil _ _ _ _ _ | exact Kd.V_nil _ _ _ _ _ | exact Kd.Q_nil _ _ _ _ _ | exact Kd.R_nil _ _ _ _ _, by first | exact Kd.R_nil _ _ _ _ _ | exact Kd.N_nil _ _ _ _ _ | exact Kd.V_nil _ _ _ _ _ | exact Kd.Q_nil _ _ _ _ _ | exact Kd.S_nil _ _ _ _ _, HB.out⟩
 rw [if_pos c8] at H
 have c8b0 : (t148 == 0) = true := beq_iff_eq.mpr c8
 have c8b1 : (t148 != 0) = false := bne_eq_false_iff_eq.mpr c8
 clear c8
 replace H := Option.bind_eq_some_iff.mp H
 obtain ⟨t149, A90, H⟩ := H
 replace H : ((gangsawref06_At.f a0_4 a0_5 a0_6 a1_0).bind fun t150 => ((gangsawref30_Count.f k a1_0 a1_1 a1_2 a1_3 (wrap64 (t150 - t149))).bind fun bt151 => (if bt151.1 = 0 then (some (([] : List (S35)), ([] : List (S32)), 9)) else (if bt151.1 > 256 then (some (([] : List (S35)), ([] : List (S32)), 7)) else (if (wrap64 ((wrap64 (a1_3 + bt151.1)) - 1)) > 1000000 then (some (([] : List (S35)), ([] : List (S32)), 6)) else (gangsawref30_Make.l0 k t149 t150 bt151.1 ([] : List (S35)) 0 a0_0 a0_1 a0_2 a0_3 a0_4 a0_5 a0_6 a1_0 a1_1 a1_2 a1_3)))))) = some (r1, r2, r3) := H
 have A9 := aK A90
 clear A90
 replace H := Option.bind_eq_some_iff.mp H
 obtain ⟨t150, A100, H⟩ := H
 replace H : ((gangsawref30_Count.f k a1_0 a1_1 a1_2 a1_3 (wrap64 (t150 - t149))).bind fun bt151 => (if bt151.1 = 0 then (some (([] : List (S35)), ([] : List (S32)), 9)) else (if bt151.1 > 256 then (some (([] : List (S35)), ([] : List (S32)), 7)) else (if (wrap64 ((wrap64 (a1_3 + bt151.1)) - 1)) > 1000000 then (some (([] : List (S35)), ([] : List (S32)), 6)) else (gangsawref30_Make.l0 k t149 t150 bt151.1 ([] : List (S35)) 0 a0_0 a0_1 a0_2 a0_3 a0_4 a0_5 a0_6 a1_0 a1_1 a1_2 a1_3))))) = some (r1, r2, r3) := H
 have A10 := aK A100
 clear A100
 replace H := Option.bind_eq_some_iff.mp H
 obtain ⟨⟨t151, t152⟩, A110, H⟩ := H
 replace H : (if t151 = 0 then (some (([] : List (S35)), ([] : List (S32)), 9)) else (if t151 > 256 then (some (([] : List (S35)), ([] : List (S32)), 7)) else (if (wrap64 ((wrap64 (a1_3 + t151)) - 1)) > 1000000 then (some (([] : List (S35)), ([] : List (S32)), 6)) else (gangsawref30_Make.l0 k t149 t150 t151 ([] : List (S35)) 0 a0_0 a0_1 a0_2 a0_3 a0_4 a0_5 a0_6 a1_0 a1_1 a1_2 a1_3)))) = some (r1, r2, r3) := H
 have A11 := aK A110
 clear A110
 by_cases c12 : t151 = 0
 ·rw [if_pos c12] at H
  have c12b0 : (t151 == 0) = true := beq_iff_eq.mpr c12
  have c12b1 : (t151 != 0) = false := bne_eq_false_iff_eq.mpr c12
  clear c12
  simp only [Option.some.injEq, Prod.mk.injEq] at H
  obtain ⟨rfl, rfl, rfl⟩ := H
  go_enter Tryz.func22, Tryz.ntmps22
  try go_wp2_with (first | ((with_reducible refine gate_dst (N := 2) rfl ?_); refine box_event ?hg (N := 2) ?hd (cs := #[.string a0_0, .int .i64 a0_1, .int .i64 a0_2, .int .i64 a0_3, .int .i64 a0_4, .int .i64 a0_5, .int .i64 a0_6]) (t := 45) ?hr ?_; (case hd => rfl); (case hg => rfl); (case hr => first | (go_simp; done) | (go_simp; rfl)); intro gb144 hg w13 hbox hb; have ⟨n0_, n2_⟩ := zV (w := w) hb hg (by repeat (first | (with_reducible first | exact HB.out | apply yA | apply yN | apply yD) | exact HB.out)); have n1_ := aK (hbox); have n3_ := n2_; clear HB; have HB := n0_; have BK144 := n1_; have GW144 := n2_; have GE144 := n3_; clear n0_ n1_ n2_ n3_; clear hb hbox hg) | ((with_reducible refine gate_dst (N := 3) rfl ?_); refine box_event ?hg (N := 3) ?hd (cs := #[.int .i64 a1_0, .int .i64 a1_1, .int .i64 a1_2, .int .i64 a1_3]) (t := 47) ?hr ?_; (case hd => rfl); (case hg => rfl); (case hr => first | (go_simp; done) | (go_simp; rfl)); intro gb145 hg w14 hbox hb; have n0_ := aK (zB (g := gb144) (o := .cells #[.string a0_0, .int .i64 a0_1, .int .i64 a0_2, .int .i64 a0_3, .int .i64 a0_4, .int .i64 a0_5, .int .i64 a0_6] 45 (0, 0)) (by exact BK144.out) hb); have ⟨n1_, n3_⟩ := zV (w := w) hb hg (by repeat (first | (with_reducible first | exact HB.out | apply yA | apply yN | apply yD | refine yS ?_ GE144.out) | exact HB.out)); have n2_ := aK (hbox); have n4_ := n3_; have n5_ := aK ((by rw [hg]; exact Nat.ne_of_lt (blk_lt (g := gb144) (o := .cells #[.string a0_0, .int .i64 a0_1, .int .i64 a0_2, .int .i64 a0_3, .int .i64 a0_4, .int .i64 a0_5, .int .i64 a0_6] 45 (0, 0)) (by exact BK144.out)) : gb144 ≠ gb145)); have n6_ := aK ((by rw [hg]; exact Nat.ne_of_gt (blk_lt (g := gb144) (o := .cells #[.string a0_0, .int .i64 a0_1, .int .i64 a0_2, .int .i64 a0_3, .int .i64 a0_4, .int .i64 a0_5, .int .i64 a0_6] 45 (0, 0)) (by exact BK144.out)) : gb145 ≠ gb144)); clear BK144; clear HB; have BK144 := n0_; have HB := n1_; have BK145 := n2_; have GW145 := n3_; have GE145 := n4_; have NB144_145 := n5_; have NB145_144 := n6_; clear n0_ n1_ n2_ n3_ n4_ n5_ n6_; clear hb hbox hg; have hnb15 := NB145_144.out; have hnc15 := NB144_145.out; have hcz16_0 := zI BK145 0 rfl; have hcz16_1 := zI BK145 1 rfl; have hcz16_2 := zI BK145 2 rfl; have hcz16_3 := zI BK145 3 rfl; have hfz16_0 := zF BK145.out 0; have hfz16_1 := zF BK145.out 1; have hfz16_2 := zF BK145.out 2; have hfz16_3 := zF BK145.out 3) | ((with_reducible refine gate_callee (f := 24) rfl ?_); refine goesL_ (some 20) rfl rfl Tryz.func24 (by kernel_rfl) rfl #[.agg #[.int .i64 a1_0, .int .i64 a1_1, .int .i64 a1_2, .int .i64 a1_3]] rfl (by (try simp only [List.map_toArray, List.map_cons, List.map_nil]); first | done | rfl | (simp only [List.length_drop, List.length_take]; rfl)) ?_; (with_reducible refine (gangsawref30_Check.calls a1_0 a1_1 a1_2 a1_3 t146 _ A3.out).mono ?_); rintro e w17 ⟨rfl, hb⟩; refine ⟨_, rfl, ?_⟩; have n0_ := aK (zB (g := gb144) (o := .cells #[.string a0_0, .int .i64 a0_1, .int .i64 a0_2, .int .i64 a0_3, .int .i64 a0_4, .int .i64 a0_5, .int .i64 a0_6] 45 (0, 0)) (by exact BK144.out) hb); have n1_ := aK (zB (g := gb145) (o := .cells #[.int .i64 a1_0, .int .i64 a1_1, .int .i64 a1_2, .int .i64 a1_3] 47 (0, 0)) (by exact BK145.out) hb); have n2_ := aK (yT (by repeat (first | (with_reducible first | exact HB.out | apply yA | apply yN | apply yD | refine yS ?_ GE144.out | refine yS ?_ GE145.out) | exact HB.out)) hb); clear BK144; clear BK145; clear HB; have BK144 := n0_; have BK145 := n1_; have HB := n2_; clear n0_ n1_ n2_; (try clear hb); have hcz18_0 := zI BK144 0 rfl; have hcz18_1 := zI BK144 1 rfl; have hcz18_2 := zI BK144 2 rfl; have hcz18_3 := zI BK144 3 rfl; have hcz18_4 := zI BK144 4 rfl; have hcz18_5 := zI BK144 5 rfl; have hcz18_6 := zI BK144 6 rfl; have hfz18_0 := zF BK144.out 0; have hfz18_1 := zF BK144.out 1; have hfz18_2 := zF BK144.out 2; have hfz18_3 := zF BK144.out 3; have hfz18_4 := zF BK144.out 4; have hfz18_5 := zF BK144.out 5; have hfz18_6 := zF BK144.out 6) | ((with_reducible refine gate_callee (f := 62) rfl ?_); refine goesL_ (some 26) rfl rfl Tryz.func62 (by kernel_rfl) rfl #[.string a0_0] rfl (by (try simp only [List.map_toArray, List.map_cons, List.map_nil]); first | done | rfl | (simp only [List.length_drop, List.length_take]; rfl)) ?_; (with_reducible refine (gangsawref09_Name.calls k a0_0 true _ A5.out).mono ?_); rintro e w' ⟨rfl, ⟨nd, rfl⟩⟩; refine ⟨_, rfl, ?_⟩) | ((with_reducible refine gate_callee (f := 63) rfl ?_); refine goesL_ (some 30) rfl rfl Tryz.func63 (by kernel_rfl) rfl #[.agg #[.int .i64 a0_1, .int .i64 a0_2, .int .i64 a0_3, .int .i64 a0_4, .int .i64 a0_5, .int .i64 a0_6]] rfl (by (try simp only [List.map_toArray, List.map_cons, List.map_nil]); first | done | rfl | (simp only [List.length_drop, List.length_take]; rfl)) ?_; (with_reducible refine (gangsawref06_Check.calls k a0_1 a0_2 a0_3 a0_4 a0_5 a0_6 t148 _ A7.out).mono ?_); rintro e w19 ⟨rfl, hb⟩; refine ⟨_, rfl, ?_⟩; have n0_ := aK (zB (g := gb144) (o := .cells #[.string a0_0, .int .i64 a0_1, .int .i64 a0_2, .int .i64 a0_3, .int .i64 a0_4, .int .i64 a0_5, .int .i64 a0_6] 45 (0, 0)) (by exact BK144.out) hb); have n1_ := aK (zB (g := gb145) (o := .cells #[.int .i64 a1_0, .int .i64 a1_1, .int .i64 a1_2, .int .i64 a1_3] 47 (0, 0)) (by exact BK145.out) hb); have n2_ := aK (yT (by repeat (first | (with_reducible first | exact HB.out | apply yA | apply yN | apply yD | refine yS ?_ GE144.out | refine yS ?_ GE145.out) | exact HB.out)) hb); clear BK144; clear BK145; clear HB; have BK144 := n0_; have BK145 := n1_; have HB := n2_; clear n0_ n1_ n2_; (try clear hb)))
  have n0_ := aK (zD BK144.out)
  have n1_ := aK (zD BK145.out)
  have n2_ := aK (yD HB.out)
  clear BK144
  clear BK145
  clear HB
  have BK144 := n0_
  have BK145 := n1_
  have HB := n2_
  clear n0_ n1_ n2_
  refine start_ (n := 14) (S := fun w' => w'.cell? ⟨gb144, 0, none⟩ = some (.string a0_0) ∧ w'.cell? ⟨gb144, 1, none⟩ = some (.int .i64 a0_1) ∧ w'.cell? ⟨gb144, 2, none⟩ = some (.int .i64 a0_2) ∧ w'.cell? ⟨gb144, 3, none⟩ = some (.int .i64 a0_3) ∧ w'.cell? ⟨gb144, 4, none⟩ = some (.int .i64 a0_4) ∧ w'.cell? ⟨gb144, 5, none⟩ = some (.int .i64 a0_5) ∧ w'.cell? ⟨gb144, 6, none⟩ = some (.int .i64 a0_6) ∧ w'.cell? ⟨gb145, 0, none⟩ = some (.int .i64 a1_0) ∧ w'.cell? ⟨gb145, 1, none⟩ = some (.int .i64 a1_1) ∧ w'.cell? ⟨gb145, 2, none⟩ = some (.int .i64 a1_2) ∧ w'.cell? ⟨gb145, 3, none⟩ = some (.int .i64 a1_3)) (ds := []) #[false, false, false, false, false, false, false, false, false, false, false, false, false, false] (by kernel_rfl) rfl rfl ⟨(zC BK144.out 0).trans rfl, (zC BK144.out 1).trans rfl, (zC BK144.out 2).trans rfl, (zC BK144.out 3).trans rfl, (zC BK144.out 4).trans rfl, (zC BK144.out 5).trans rfl, (zC BK144.out 6).trans rfl, (zC BK145.out 0).trans rfl, (zC BK145.out 1).trans rfl, (zC BK145.out 2).trans rfl, (zC BK145.out 3).trans rfl⟩ (fun hHeld => ?_); refine with_tabW gangsawref30_Make.tab9 gangsawref30_Make.bits9 (fun HT_ HW_ => ?_)
  generalize w19.drew = w20 at BK144 BK145 HB hHeld ⊢
  refine pure_ (i := 0) (N := some 34) (v := ?_) (a' := ?_) #[true, false, false, false, false, false, false, false, false, false, false, false, false, false] rfl rfl (any_of HT_.out (by kernel_rfl)) (fun _ _ _ h => h) (Or.inl ⟨by rfl, ?_⟩) ?_ ?_
  rotate_left
  ·intro w'
   go_simp
   with_reducible rfl
  rotate_left
  ·simp only [Act.put, sA, sZ, sS, i64_w, i32_w]
   rfl
  refine pure_ (i := 1) (N := some 35) (v := ?_) (a' := ?_) #[true, true, false, false, false, false, false, false, false, false, false, false, false, false] rfl rfl (any_of HT_.out (by kernel_rfl)) (fun _ _ _ h => h) (Or.inl ⟨by rfl, ?_⟩) ?_ ?_
  rotate_left
  ·intro w'
   go_simp
   with_reducible rfl
  rotate_left
  ·simp only [Act.put, sA, sZ, sS, i64_w, i32_w]
   rfl
  refine pure_ (i := 3) (N := some 37) (v := ?_) (a' := ?_) #[true, true, false, true, false, false, false, false, false, false, false, false, false, false] rfl rfl (any_of HT_.out (by kernel_rfl)) (fun _ _ _ h => h) (Or.inl ⟨by rfl, ?_⟩) ?_ ?_
  rotate_left
  ·intro w'
   go_simp
   with_reducible rfl
  rotate_left
  ·simp only [Act.put, sA, sZ, sS, i64_w, i32_w]
   rfl
  refine pure_ (i := 6) (N := some 40) (v := ?_) (a' := ?_) #[true, true, false, true, false, false, true, false, false, false, false, false, false, false] rfl rfl (any_of HT_.out (by kernel_rfl)) (fun _ _ _ h => h) (Or.inl ⟨by rfl, ?_⟩) ?_ ?_
  rotate_left
  ·intro w'
   go_simp
   with_reducible rfl
  rotate_left
  ·simp only [Act.put, sA, sZ, sS, i64_w, i32_w]
   rfl
  refine pure_ (i := 7) (N := some 41) (v := ?_) (a' := ?_) #[true, true, false, true, false, false, true, true, false, false, false, false, false, false] rfl rfl (any_of HT_.out (by kernel_rfl)) (fun _ _ _ h => h) (Or.inl ⟨by rfl, ?_⟩) ?_ ?_
  rotate_left
  ·intro w'
   go_simp
   with_reducible rfl
  rotate_left
  ·simp only [Act.put, sA, sZ, sS, i64_w, i32_w]
   rfl
  refine pure_ (i := 9) (N := some 43) (v := ?_) (a' := ?_) #[true, true, false, true, false, false, true, true, false, true, false, false, false, false] rfl rfl (any_of HT_.out (by kernel_rfl)) (fun _ _ _ h => h) (Or.inl ⟨by rfl, ?_⟩) ?_ ?_
  rotate_left
  ·intro w'
   go_simp
   with_reducible rfl
  rotate_left
  ·simp only [Act.put, sA, sZ, sS, i64_w, i32_w]
   rfl
  refine take_ (i := 2) (N := some 36) (v := ?_) (a' := ?_) #[true, true, true, true, false, false, true, true, false, true, false, false, false, false] rfl rfl (take_ofW HT_.out HW_.out (by kernel_rfl)) (fun _ _ _ h => h) (Or.inl ⟨by rfl, ?_⟩) hHeld ?_ ?_
  rotate_left
  ·rintro w' ⟨s0, s1, s2, s3, s4, s5, s6, s7, s8, s9, s10⟩
   go_simp
   with_reducible rfl
  rotate_left
  ·simp only [Act.put, sA, sZ, sS, i64_w, i32_w]
   rfl
  refine take_ (i := 4) (N := some 38) (v := ?_) (a' := ?_) #[true, true, true, true, true, false, true, true, false, true, false, false, false, false] rfl rfl (take_ofW HT_.out HW_.out (by kernel_rfl)) (fun _ _ _ h => h) (Or.inl ⟨by rfl, ?_⟩) hHeld ?_ ?_
  rotate_left
  ·rintro w' ⟨s0, s1, s2, s3, s4, s5, s6, s7, s8, s9, s10⟩
   go_simp
   with_reducible rfl
  rotate_left
  ·simp only [Act.put, sA, sZ, sS, i64_w, i32_w]
   rfl
  refine take_ (i := 8) (N := some 42) (v := ?_) (a' := ?_) #[true, true, true, true, true, false, true, true, true, true, false, false, false, false] rfl rfl (take_ofW HT_.out HW_.out (by kernel_rfl)) (fun _ _ _ h => h) (Or.inl ⟨by rfl, ?_⟩) hHeld ?_ ?_
  rotate_left
  ·rintro w' ⟨s0, s1, s2, s3, s4, s5, s6, s7, s8, s9, s10⟩
   go_simp
   with_reducible rfl
  rotate_left
  ·simp only [Act.put, sA, sZ, sS, i64_w, i32_w]
   rfl
  refine take_ (i := 10) (N := some 44) (v := ?_) (a' := ?_) #[true, true, true, true, true, false, true, true, true, true, true, false, false, false] rfl rfl (take_ofW HT_.out HW_.out (by kernel_rfl)) (fun _ _ _ h => h) (Or.inl ⟨by rfl, ?_⟩) hHeld ?_ ?_
  rotate_left
  ·rintro w' ⟨s0, s1, s2, s3, s4, s5, s6, s7, s8, s9, s10⟩
   go_simp
   with_reducible rfl
  rotate_left
  ·simp only [Act.put, sA, sZ, sS, i64_w, i32_w]
   rfl
  refine one_ (i := 5) (N := some 39) #[true, true, true, true, true, true, true, true, true, true, true, false, false, false] rfl rfl (one_of HT_.out (by kernel_rfl)) (by decide) (fun K hK => ?_)
  refine goes_ Tryz.func64 (by kernel_rfl) rfl #[.agg #[.int .i64 a0_1, .int .i64 a0_2, .int .i64 a0_3], .int .i64 a1_0] (by rfl) rfl rfl (by (try simp only [List.map_toArray, List.map_cons, List.map_nil]); first | done | rfl | (simp only [List.length_drop, List.length_take]; rfl)) ?_
  with_reducible refine (gangsawref06_At.calls a0_1 a0_2 a0_3 a1_0 t149 _ A9.out).mono ?_
  rintro e w21 ⟨rfl, hb⟩
  refine ⟨_, rfl, ?_⟩
  have n0_ := aK (zB (g := gb144) (o := .cells #[.string a0_0, .int .i64 a0_1, .int .i64 a0_2, .int .i64 a0_3, .int .i64 a0_4, .int .i64 a0_5, .int .i64 a0_6] 45 (0, 0)) (BK144.out) hb)
  have n1_ := aK (zB (g := gb145) (o := .cells #[.int .i64 a1_0, .int .i64 a1_1, .int .i64 a1_2, .int .i64 a1_3] 47 (0, 0)) (BK145.out) hb)
  have n2_ := aK (yT (HB.out) hb)
  clear BK144
  clear BK145
  clear HB
  have BK144 := n0_
  have BK145 := n1_
  have HB := n2_
  clear n0_ n1_ n2_
  (try clear hb)
  (try clear hb2)
  (try clear hk)
  (try clear hi)
  refine hK.out _ _ ⟨(zC BK144.out 0).trans rfl, (zC BK144.out 1).trans rfl, (zC BK144.out 2).trans rfl, (zC BK144.out 3).trans rfl, (zC BK144.out 4).trans rfl, (zC BK144.out 5).trans rfl, (zC BK144.out 6).trans rfl, (zC BK145.out 0).trans rfl, (zC BK145.out 1).trans rfl, (zC BK145.out 2).trans rfl, (zC BK145.out 3).trans rfl⟩ (fun hHeld => ?_)
  clear hK K
  refine norm_ (a' := ?_) ?_ ?_
  rotate_left
  ·show Act.put _ (some 39) _ = _
   simp only [Act.put, sA, sZ, sS, i64_w, i32_w]
   rfl
  refine one_ (i := 11) (N := some 45) #[true, true, true, true, true, true, true, true, true, true, true, true, false, false] rfl rfl (one_of HT_.out (by kernel_rfl)) (by decide) (fun K hK => ?_)
  refine goes_ Tryz.func64 (by kernel_rfl) rfl #[.agg #[.int .i64 a0_4, .int .i64 a0_5, .int .i64 a0_6], .int .i64 a1_0] (by rfl) rfl rfl (by (try simp only [List.map_toArray, List.map_cons, List.map_nil]); first | done | rfl | (simp only [List.length_drop, List.length_take]; rfl)) ?_
  with_reducible refine (gangsawref06_At.calls a0_4 a0_5 a0_6 a1_0 t150 _ A10.out).mono ?_
  rintro e w22 ⟨rfl, hb⟩
  refine ⟨_, rfl, ?_⟩
  have n0_ := aK (zB (g := gb144) (o := .cells #[.string a0_0, .int .i64 a0_1, .int .i64 a0_2, .int .i64 a0_3, .int .i64 a0_4, .int .i64 a0_5, .int .i64 a0_6] 45 (0, 0)) (BK144.out) hb)
  have n1_ := aK (zB (g := gb145) (o := .cells #[.int .i64 a1_0, .int .i64 a1_1, .int .i64 a1_2, .int .i64 a1_3] 47 (0, 0)) (BK145.out) hb)
  have n2_ := aK (yT (HB.out) hb)
  clear BK144
  clear BK145
  clear HB
  have BK144 := n0_
  have BK145 := n1_
  have HB := n2_
  clear n0_ n1_ n2_
  (try clear hb)
  (try clear hb2)
  (try clear hk)
  (try clear hi)
  refine hK.out _ _ ⟨(zC BK144.out 0).trans rfl, (zC BK144.out 1).trans rfl, (zC BK144.out 2).trans rfl, (zC BK144.out 3).trans rfl, (zC BK144.out 4).trans rfl, (zC BK144.out 5).trans rfl, (zC BK144.out 6).trans rfl, (zC BK145.out 0).trans rfl, (zC BK145.out 1).trans rfl, (zC BK145.out 2).trans rfl, (zC BK145.out 3).trans rfl⟩ (fun hHeld => ?_)
  clear hK K
  refine norm_ (a' := ?_) ?_ ?_
  rotate_left
  ·show Act.put _ (some 45) _ = _
   simp only [Act.put, sA, sZ, sS, i64_w, i32_w]
   rfl
  refine pure_ (i := 12) (N := some 9) (v := ?_) (a' := ?_) #[true, true, true, true, true, true, true, true, true, true, true, true, true, false] rfl rfl (any_of HT_.out (by kernel_rfl)) (fun _ _ _ h => h) (Or.inl ⟨by rfl, ?_⟩) ?_ ?_
  rotate_left
  ·intro w'
   go_simp
   with_reducible rfl
  rotate_left
  ·simp only [Act.put, sA, sZ, sS, i64_w, i32_w]
   rfl
  refine pure_ (i := 13) (N := some 10) (v := ?_) (a' := ?_) #[true, true, true, true, true, true, true, true, true, true, true, true, true, true] rfl rfl (any_of HT_.out (by kernel_rfl)) (fun _ _ _ h => h) (Or.inl ⟨by rfl, ?_⟩) ?_ ?_
  rotate_left
  ·intro w'
   go_simp
   with_reducible rfl
  rotate_left
  ·simp only [Act.put, sA, sZ, sS, i64_w, i32_w]
   rfl
  refine done_ (done_of HT_.out (by kernel_rfl)) ?_
  have hcz23_0 := zI BK145 0 rfl
  have hcz23_1 := zI BK145 1 rfl
  have hcz23_2 := zI BK145 2 rfl
  have hcz23_3 := zI BK145 3 rfl
  have hfz23_0 := zF BK145.out 0
  have hfz23_1 := zF BK145.out 1
  have hfz23_2 := zF BK145.out 2
  have hfz23_3 := zF BK145.out 3
  try go_wp2_with (first | ((with_reducible refine gate_callee (f := 20) rfl ?_); refine goesL_ (some 51) rfl rfl Tryz.func20 (by kernel_rfl) rfl #[.agg #[.int .i64 a1_0, .int .i64 a1_1, .int .i64 a1_2, .int .i64 a1_3], .int .i64 (wrap64 (t150 - t149))] rfl (by (try simp only [List.map_toArray, List.map_cons, List.map_nil]); first | done | rfl | (simp only [List.length_drop, List.length_take]; rfl)) ?_; (with_reducible refine (gangsawref30_Count.calls k a1_0 a1_1 a1_2 a1_3 (wrap64 (t150 - t149)) t151 t152 _ A11.out).mono ?_); rintro e w24 ⟨rfl, hb⟩; refine ⟨_, rfl, ?_⟩; have n0_ := aK (zB (g := gb144) (o := .cells #[.string a0_0, .int .i64 a0_1, .int .i64 a0_2, .int .i64 a0_3, .int .i64 a0_4, .int .i64 a0_5, .int .i64 a0_6] 45 (0, 0)) (BK144.out) hb); have n1_ := aK (zB (g := gb145) (o := .cells #[.int .i64 a1_0, .int .i64 a1_1, .int .i64 a1_2, .int .i64 a1_3] 47 (0, 0)) (BK145.out) hb); have n2_ := aK (yT (HB.out) hb); clear BK144; clear BK145; clear HB; have BK144 := n0_; have BK145 := n1_; have HB := n2_; clear n0_ n1_ n2_; (try clear hb)))
  go_ret3
  exact ⟨_, _, rfl, by first | exact Kd.S_nil _ _ _ _ _ | exact Kd.N_nil _ _ _ _ _ | exact Kd.V_nil _ _ _ _ _ | exact Kd.Q_nil _ _ _ _ _ | exact Kd.R_nil _ _ _ _ _, by first | exact Kd.R_nil _ _ _ _ _ | exact Kd.N_nil _ _ _ _ _ | exact Kd.V_nil _ _ _ _ _ | exact Kd.Q_nil _ _ _ _ _ | exact Kd.S_nil _ _ _ _ _, HB.out⟩
 rw [if_neg c12] at H
 have c12b0 : (t151 == 0) = false := beq_eq_false_iff_ne.mpr c12
 have c12b1 : (t151 != 0) = true := bne_iff_ne.mpr c12
 by_cases c25 : t151 > 256
 ·rw [if_pos c25] at H
  have c25b0 : decide (256 < t151) = true := decide_eq_true c25
  clear c25
  simp only [Option.some.injEq, Prod.mk.injEq] at H
  obtain ⟨rfl, rfl, rfl⟩ := H
  go_enter Tryz.func22, Tryz.ntmps22
  try go_wp2_with (first | ((with_reducible refine gate_dst (N := 2) rfl ?_); refine box_event ?hg (N := 2) ?hd (cs := #[.string a0_0, .int .i64 a0_1, .int .i64 a0_2, .int .i64 a0_3, .int .i64 a0_4, .int .i64 a0_5, .int .i64 a0_6]) (t := 45) ?hr ?_; (case hd => rfl); (case hg => rfl); (case hr => first | (go_simp; done) | (go_simp; rfl)); intro gb144 hg w26 hbox hb; have ⟨n0_, n2_⟩ := zV (w := w) hb hg (by repeat (first | (with_reducible first | exact HB.out | apply yA | apply yN | apply yD) | exact HB.out)); have n1_ := aK (hbox); have n3_ := n2_; clear HB; have HB := n0_; have BK144 := n1_; have GW144 := n2_; have GE144 := n3_; clear n0_ n1_ n2_ n3_; clear hb hbox hg) | ((with_reducible refine gate_dst (N := 3) rfl ?_); refine box_event ?hg (N := 3) ?hd (cs := #[.int .i64 a1_0, .int .i64 a1_1, .int .i64 a1_2, .int .i64 a1_3]) (t := 47) ?hr ?_; (case hd => rfl); (case hg => rfl); (case hr => first | (go_simp; done) | (go_simp; rfl)); intro gb145 hg w27 hbox hb; have n0_ := aK (zB (g := gb144) (o := .cells #[.string a0_0, .int .i64 a0_1, .int .i64 a0_2, .int .i64 a0_3, .int .i64 a0_4, .int .i64 a0_5, .int .i64 a0_6] 45 (0, 0)) (by exact BK144.out) hb); have ⟨n1_, n3_⟩ := zV (w := w) hb hg (by repeat (first | (with_reducible first | exact HB.out | apply yA | apply yN | apply yD | refine yS ?_ GE144.out) | exact HB.out)); have n2_ := aK (hbox); have n4_ := n3_; have n5_ := aK ((by rw [hg]; exact Nat.ne_of_lt (blk_lt (g := gb144) (o := .cells #[.string a0_0, .int .i64 a0_1, .int .i64 a0_2, .int .i64 a0_3, .int .i64 a0_4, .int .i64 a0_5, .int .i64 a0_6] 45 (0, 0)) (by exact BK144.out)) : gb144 ≠ gb145)); have n6_ := aK ((by rw [hg]; exact Nat.ne_of_gt (blk_lt (g := gb144) (o := .cells #[.string a0_0, .int .i64 a0_1, .int .i64 a0_2, .int .i64 a0_3, .int .i64 a0_4, .int .i64 a0_5, .int .i64 a0_6] 45 (0, 0)) (by exact BK144.out)) : gb145 ≠ gb144)); clear BK144; clear HB; have BK144 := n0_; have HB := n1_; have BK145 := n2_; have GW145 := n3_; have GE145 := n4_; have NB144_145 := n5_; have NB145_144 := n6_; clear n0_ n1_ n2_ n3_ n4_ n5_ n6_; clear hb hbox hg; have hnb28 := NB145_144.out; have hnc28 := NB144_145.out; have hcz29_0 := zI BK145 0 rfl; have hcz29_1 := zI BK145 1 rfl; have hcz29_2 := zI BK145 2 rfl; have hcz29_3 := zI BK145 3 rfl; have hfz29_0 := zF BK145.out 0; have hfz29_1 := zF BK145.out 1; have hfz29_2 := zF BK145.out 2; have hfz29_3 := zF BK145.out 3) | ((with_reducible refine gate_callee (f := 24) rfl ?_); refine goesL_ (some 20) rfl rfl Tryz.func24 (by kernel_rfl) rfl #[.agg #[.int .i64 a1_0, .int .i64 a1_1, .int .i64 a1_2, .int .i64 a1_3]] rfl (by (try simp only [List.map_toArray, List.map_cons, List.map_nil]); first | done | rfl | (simp only [List.length_drop, List.length_take]; rfl)) ?_; (with_reducible refine (gangsawref30_Check.calls a1_0 a1_1 a1_2 a1_3 t146 _ A3.out).mono ?_); rintro e w30 ⟨rfl, hb⟩; refine ⟨_, rfl, ?_⟩; have n0_ := aK (zB (g := gb144) (o := .cells #[.string a0_0, .int .i64 a0_1, .int .i64 a0_2, .int .i64 a0_3, .int .i64 a0_4, .int .i64 a0_5, .int .i64 a0_6] 45 (0, 0)) (by exact BK144.out) hb); have n1_ := aK (zB (g := gb145) (o := .cells #[.int .i64 a1_0, .int .i64 a1_1, .int .i64 a1_2, .int .i64 a1_3] 47 (0, 0)) (by exact BK145.out) hb); have n2_ := aK (yT (by repeat (first | (with_reducible first | exact HB.out | apply yA | apply yN | apply yD | refine yS ?_ GE144.out | refine yS ?_ GE145.out) | exact HB.out)) hb); clear BK144; clear BK145; clear HB; have BK144 := n0_; have BK145 := n1_; have HB := n2_; clear n0_ n1_ n2_; (try clear hb); have hcz31_0 := zI BK144 0 rfl; have hcz31_1 := zI BK144 1 rfl; have hcz31_2 := zI BK144 2 rfl; have hcz31_3 := zI BK144 3 rfl; have hcz31_4 := zI BK144 4 rfl; have hcz31_5 := zI BK144 5 rfl; have hcz31_6 := zI BK144 6 rfl; have hfz31_0 := zF BK144.out 0; have hfz31_1 := zF BK144.out 1; have hfz31_2 := zF BK144.out 2; have hfz31_3 := zF BK144.out 3; have hfz31_4 := zF BK144.out 4; have hfz31_5 := zF BK144.out 5; have hfz31_6 := zF BK144.out 6) | ((with_reducible refine gate_callee (f := 62) rfl ?_); refine goesL_ (some 26) rfl rfl Tryz.func62 (by kernel_rfl) rfl #[.string a0_0] rfl (by (try simp only [List.map_toArray, List.map_cons, List.map_nil]); first | done | rfl | (simp only [List.length_drop, List.length_take]; rfl)) ?_; (with_reducible refine (gangsawref09_Name.calls k a0_0 true _ A5.out).mono ?_); rintro e w' ⟨rfl, ⟨nd, rfl⟩⟩; refine ⟨_, rfl, ?_⟩) | ((with_reducible refine gate_callee (f := 63) rfl ?_); refine goesL_ (some 30) rfl rfl Tryz.func63 (by kernel_rfl) rfl #[.agg #[.int .i64 a0_1, .int .i64 a0_2, .int .i64 a0_3, .int .i64 a0_4, .int .i64 a0_5, .int .i64 a0_6]] rfl (by (try simp only [List.map_toArray, List.map_cons, List.map_nil]); first | done | rfl | (simp only [List.length_drop, List.length_take]; rfl)) ?_; (with_reducible refine (gangsawref06_Check.calls k a0_1 a0_2 a0_3 a0_4 a0_5 a0_6 t148 _ A7.out).mono ?_); rintro e w32 ⟨rfl, hb⟩; refine ⟨_, rfl, ?_⟩; have n0_ := aK (zB (g := gb144) (o := .cells #[.string a0_0, .int .i64 a0_1, .int .i64 a0_2, .int .i64 a0_3, .int .i64 a0_4, .int .i64 a0_5, .int .i64 a0_6] 45 (0, 0)) (by exact BK144.out) hb); have n1_ := aK (zB (g := gb145) (o := .cells #[.int .i64 a1_0, .int .i64 a1_1, .int .i64 a1_2, .int .i64 a1_3] 47 (0, 0)) (by exact BK145.out) hb); have n2_ := aK (yT (by repeat (first | (with_reducible first | exact HB.out | apply yA | apply yN | apply yD | refine yS ?_ GE144.out | refine yS ?_ GE145.out) | exact HB.out)) hb); clear BK144; clear BK145; clear HB; have BK144 := n0_; have BK145 := n1_; have HB := n2_; clear n0_ n1_ n2_; (try clear hb)))
  have n0_ := aK (zD BK144.out)
  have n1_ := aK (zD BK145.out)
  have n2_ := aK (yD HB.out)
  clear BK144
  clear BK145
  clear HB
  have BK144 := n0_
  have BK145 := n1_
  have HB := n2_
  clear n0_ n1_ n2_
  refine start_ (n := 14) (S := fun w' => w'.cell? ⟨gb144, 0, none⟩ = some (.string a0_0) ∧ w'.cell? ⟨gb144, 1, none⟩ = some (.int .i64 a0_1) ∧ w'.cell? ⟨gb144, 2, none⟩ = some (.int .i64 a0_2) ∧ w'.cell? ⟨gb144, 3, none⟩ = some (.int .i64 a0_3) ∧ w'.cell? ⟨gb144, 4, none⟩ = some (.int .i64 a0_4) ∧ w'.cell? ⟨gb144, 5, none⟩ = some (.int .i64 a0_5) ∧ w'.cell? ⟨gb144, 6, none⟩ = some (.int .i64 a0_6) ∧ w'.cell? ⟨gb145, 0, none⟩ = some (.int .i64 a1_0) ∧ w'.cell? ⟨gb145, 1, none⟩ = some (.int .i64 a1_1) ∧ w'.cell? ⟨gb145, 2, none⟩ = some (.int .i64 a1_2) ∧ w'.cell? ⟨gb145, 3, none⟩ = some (.int .i64 a1_3)) (ds := []) #[false, false, false, false, false, false, false, false, false, false, false, false, false, false] (by kernel_rfl) rfl rfl ⟨(zC BK144.out 0).trans rfl, (zC BK144.out 1).trans rfl, (zC BK144.out 2).trans rfl, (zC BK144.out 3).trans rfl, (zC BK144.out 4).trans rfl, (zC BK144.out 5).trans rfl, (zC BK144.out 6).trans rfl, (zC BK145.out 0).trans rfl, (zC BK145.out 1).trans rfl, (zC BK145.out 2).trans rfl, (zC BK145.out 3).trans rfl⟩ (fun hHeld => ?_); refine with_tabW gangsawref30_Make.tab9 gangsawref30_Make.bits9 (fun HT_ HW_ => ?_)
  generalize w32.drew = w33 at BK144 BK145 HB hHeld ⊢
  refine pure_ (i := 0) (N := some 34) (v := ?_) (a' := ?_) #[true, false, false, false, false, false, false, false, false, false, false, false, false, false] rfl rfl (any_of HT_.out (by kernel_rfl)) (fun _ _ _ h => h) (Or.inl ⟨by rfl, ?_⟩) ?_ ?_
  rotate_left
  ·intro w'
   go_simp
   with_reducible rfl
  rotate_left
  ·simp only [Act.put, sA, sZ, sS, i64_w, i32_w]
   rfl
  refine pure_ (i := 1) (N := some 35) (v := ?_) (a' := ?_) #[true, true, false, false, false, false, false, false, false, false, false, false, false, false] rfl rfl (any_of HT_.out (by kernel_rfl)) (fun _ _ _ h => h) (Or.inl ⟨by rfl, ?_⟩) ?_ ?_
  rotate_left
  ·intro w'
   go_simp
   with_reducible rfl
  rotate_left
  ·simp only [Act.put, sA, sZ, sS, i64_w, i32_w]
   rfl
  refine pure_ (i := 3) (N := some 37) (v := ?_) (a' := ?_) #[true, true, false, true, false, false, false, false, false, false, false, false, false, false] rfl rfl (any_of HT_.out (by kernel_rfl)) (fun _ _ _ h => h) (Or.inl ⟨by rfl, ?_⟩) ?_ ?_
  rotate_left
  ·intro w'
   go_simp
   with_reducible rfl
  rotate_left
  ·simp only [Act.put, sA, sZ, sS, i64_w, i32_w]
   rfl
  refine pure_ (i := 6) (N := some 40) (v := ?_) (a' := ?_) #[true, true, false, true, false, false, true, false, false, false, false, false, false, false] rfl rfl (any_of HT_.out (by kernel_rfl)) (fun _ _ _ h => h) (Or.inl ⟨by rfl, ?_⟩) ?_ ?_
  rotate_left
  ·intro w'
   go_simp
   with_reducible rfl
  rotate_left
  ·simp only [Act.put, sA, sZ, sS, i64_w, i32_w]
   rfl
  refine pure_ (i := 7) (N := some 41) (v := ?_) (a' := ?_) #[true, true, false, true, false, false, true, true, false, false, false, false, false, false] rfl rfl (any_of HT_.out (by kernel_rfl)) (fun _ _ _ h => h) (Or.inl ⟨by rfl, ?_⟩) ?_ ?_
  rotate_left
  ·intro w'
   go_simp
   with_reducible rfl
  rotate_left
  ·simp only [Act.put, sA, sZ, sS, i64_w, i32_w]
   rfl
  refine pure_ (i := 9) (N := some 43) (v := ?_) (a' := ?_) #[true, true, false, true, false, false, true, true, false, true, false, false, false, false] rfl rfl (any_of HT_.out (by kernel_rfl)) (fun _ _ _ h => h) (Or.inl ⟨by rfl, ?_⟩) ?_ ?_
  rotate_left
  ·intro w'
   go_simp
   with_reducible rfl
  rotate_left
  ·simp only [Act.put, sA, sZ, sS, i64_w, i32_w]
   rfl
  refine take_ (i := 2) (N := some 36) (v := ?_) (a' := ?_) #[true, true, true, true, false, false, true, true, false, true, false, false, false, false] rfl rfl (take_ofW HT_.out HW_.out (by kernel_rfl)) (fun _ _ _ h => h) (Or.inl ⟨by rfl, ?_⟩) hHeld ?_ ?_
  rotate_left
  ·rintro w' ⟨s0, s1, s2, s3, s4, s5, s6, s7, s8, s9, s10⟩
   go_simp
   with_reducible rfl
  rotate_left
  ·simp only [Act.put, sA, sZ, sS, i64_w, i32_w]
   rfl
  refine take_ (i := 4) (N := some 38) (v := ?_) (a' := ?_) #[true, true, true, true, true, false, true, true, false, true, false, false, false, false] rfl rfl (take_ofW HT_.out HW_.out (by kernel_rfl)) (fun _ _ _ h => h) (Or.inl ⟨by rfl, ?_⟩) hHeld ?_ ?_
  rotate_left
  ·rintro w' ⟨s0, s1, s2, s3, s4, s5, s6, s7, s8, s9, s10⟩
   go_simp
   with_reducible rfl
  rotate_left
  ·simp only [Act.put, sA, sZ, sS, i64_w, i32_w]
   rfl
  refine take_ (i := 8) (N := some 42) (v := ?_) (a' := ?_) #[true, true, true, true, true, false, true, true, true, true, false, false, false, false] rfl rfl (take_ofW HT_.out HW_.out (by kernel_rfl)) (fun _ _ _ h => h) (Or.inl ⟨by rfl, ?_⟩) hHeld ?_ ?_
  rotate_left
  ·rintro w' ⟨s0, s1, s2, s3, s4, s5, s6, s7, s8, s9, s10⟩
   go_simp
   with_reducible rfl
  rotate_left
  ·simp only [Act.put, sA, sZ, sS, i64_w, i32_w]
   rfl
  refine take_ (i := 10) (N := some 44) (v := ?_) (a' := ?_) #[true, true, true, true, true, false, true, true, true, true, true, false, false, false] rfl rfl (take_ofW HT_.out HW_.out (by kernel_rfl)) (fun _ _ _ h => h) (Or.inl ⟨by rfl, ?_⟩) hHeld ?_ ?_
  rotate_left
  ·rintro w' ⟨s0, s1, s2, s3, s4, s5, s6, s7, s8, s9, s10⟩
   go_simp
   with_reducible rfl
  rotate_left
  ·simp only [Act.put, sA, sZ, sS, i64_w, i32_w]
   rfl
  refine one_ (i := 5) (N := some 39) #[true, true, true, true, true, true, true, true, true, true, true, false, false, false] rfl rfl (one_of HT_.out (by kernel_rfl)) (by decide) (fun K hK => ?_)
  refine goes_ Tryz.func64 (by kernel_rfl) rfl #[.agg #[.int .i64 a0_1, .int .i64 a0_2, .int .i64 a0_3], .int .i64 a1_0] (by rfl) rfl rfl (by (try simp only [List.map_toArray, List.map_cons, List.map_nil]); first | done | rfl | (simp only [List.length_drop, List.length_take]; rfl)) ?_
  with_reducible refine (gangsawref06_At.calls a0_1 a0_2 a0_3 a1_0 t149 _ A9.out).mono ?_
  rintro e w34 ⟨rfl, hb⟩
  refine ⟨_, rfl, ?_⟩
  have n0_ := aK (zB (g := gb144) (o := .cells #[.string a0_0, .int .i64 a0_1, .int .i64 a0_2, .int .i64 a0_3, .int .i64 a0_4, .int .i64 a0_5, .int .i64 a0_6] 45 (0, 0)) (BK144.out) hb)
  have n1_ := aK (zB (g := gb145) (o := .cells #[.int .i64 a1_0, .int .i64 a1_1, .int .i64 a1_2, .int .i64 a1_3] 47 (0, 0)) (BK145.out) hb)
  have n2_ := aK (yT (HB.out) hb)
  clear BK144
  clear BK145
  clear HB
  have BK144 := n0_
  have BK145 := n1_
  have HB := n2_
  clear n0_ n1_ n2_
  (try clear hb)
  (try clear hb2)
  (try clear hk)
  (try clear hi)
  refine hK.out _ _ ⟨(zC BK144.out 0).trans rfl, (zC BK144.out 1).trans rfl, (zC BK144.out 2).trans rfl, (zC BK144.out 3).trans rfl, (zC BK144.out 4).trans rfl, (zC BK144.out 5).trans rfl, (zC BK144.out 6).trans rfl, (zC BK145.out 0).trans rfl, (zC BK145.out 1).trans rfl, (zC BK145.out 2).trans rfl, (zC BK145.out 3).trans rfl⟩ (fun hHeld => ?_)
  clear hK K
  refine norm_ (a' := ?_) ?_ ?_
  rotate_left
  ·show Act.put _ (some 39) _ = _
   simp only [Act.put, sA, sZ, sS, i64_w, i32_w]
   rfl
  refine one_ (i := 11) (N := some 45) #[true, true, true, true, true, true, true, true, true, true, true, true, false, false] rfl rfl (one_of HT_.out (by kernel_rfl)) (by decide) (fun K hK => ?_)
  refine goes_ Tryz.func64 (by kernel_rfl) rfl #[.agg #[.int .i64 a0_4, .int .i64 a0_5, .int .i64 a0_6], .int .i64 a1_0] (by rfl) rfl rfl (by (try simp only [List.map_toArray, List.map_cons, List.map_nil]); first | done | rfl | (simp only [List.length_drop, List.length_take]; rfl)) ?_
  with_reducible refine (gangsawref06_At.calls a0_4 a0_5 a0_6 a1_0 t150 _ A10.out).mono ?_
  rintro e w35 ⟨rfl, hb⟩
  refine ⟨_, rfl, ?_⟩
  have n0_ := aK (zB (g := gb144) (o := .cells #[.string a0_0, .int .i64 a0_1, .int .i64 a0_2, .int .i64 a0_3, .int .i64 a0_4, .int .i64 a0_5, .int .i64 a0_6] 45 (0, 0)) (BK144.out) hb)
  have n1_ := aK (zB (g := gb145) (o := .cells #[.int .i64 a1_0, .int .i64 a1_1, .int .i64 a1_2, .int .i64 a1_3] 47 (0, 0)) (BK145.out) hb)
  have n2_ := aK (yT (HB.out) hb)
  clear BK144
  clear BK145
  clear HB
  have BK144 := n0_
  have BK145 := n1_
  have HB := n2_
  clear n0_ n1_ n2_
  (try clear hb)
  (try clear hb2)
  (try clear hk)
  (try clear hi)
  refine hK.out _ _ ⟨(zC BK144.out 0).trans rfl, (zC BK144.out 1).trans rfl, (zC BK144.out 2).trans rfl, (zC BK144.out 3).trans rfl, (zC BK144.out 4).trans rfl, (zC BK144.out 5).trans rfl, (zC BK144.out 6).trans rfl, (zC BK145.out 0).trans rfl, (zC BK145.out 1).trans rfl, (zC BK145.out 2).trans rfl, (zC BK145.out 3).trans rfl⟩ (fun hHeld => ?_)
  clear hK K
  refine norm_ (a' := ?_) ?_ ?_
  rotate_left
  ·show Act.put _ (some 45) _ = _
   simp only [Act.put, sA, sZ, sS, i64_w, i32_w]
   rfl
  refine pure_ (i := 12) (N := some 9) (v := ?_) (a' := ?_) #[true, true, true, true, true, true, true, true, true, true, true, true, true, false] rfl rfl (any_of HT_.out (by kernel_rfl)) (fun _ _ _ h => h) (Or.inl ⟨by rfl, ?_⟩) ?_ ?_
  rotate_left
  ·intro w'
   go_simp
   with_reducible rfl
  rotate_left
  ·simp only [Act.put, sA, sZ, sS, i64_w, i32_w]
   rfl
  refine pure_ (i := 13) (N := some 10) (v := ?_) (a' := ?_) #[true, true, true, true, true, true, true, true, true, true, true, true, true, true] rfl rfl (any_of HT_.out (by kernel_rfl)) (fun _ _ _ h => h) (Or.inl ⟨by rfl, ?_⟩) ?_ ?_
  rotate_left
  ·intro w'
   go_simp
   with_reducible rfl
  rotate_left
  ·simp only [Act.put, sA, sZ, sS, i64_w, i32_w]
   rfl
  refine done_ (done_of HT_.out (by kernel_rfl)) ?_
  have hcz36_0 := zI BK145 0 rfl
  have hcz36_1 := zI BK145 1 rfl
  have hcz36_2 := zI BK145 2 rfl
  have hcz36_3 := zI BK145 3 rfl
  have hfz36_0 := zF BK145.out 0
  have hfz36_1 := zF BK145.out 1
  have hfz36_2 := zF BK145.out 2
  have hfz36_3 := zF BK145.out 3
  try go_wp2_with (first | ((with_reducible refine gate_callee (f := 20) rfl ?_); refine goesL_ (some 51) rfl rfl Tryz.func20 (by kernel_rfl) rfl #[.agg #[.int .i64 a1_0, .int .i64 a1_1, .int .i64 a1_2, .int .i64 a1_3], .int .i64 (wrap64 (t150 - t149))] rfl (by (try simp only [List.map_toArray, List.map_cons, List.map_nil]); first | done | rfl | (simp only [List.length_drop, List.length_take]; rfl)) ?_; (with_reducible refine (gangsawref30_Count.calls k a1_0 a1_1 a1_2 a1_3 (wrap64 (t150 - t149)) t151 t152 _ A11.out).mono ?_); rintro e w37 ⟨rfl, hb⟩; refine ⟨_, rfl, ?_⟩; have n0_ := aK (zB (g := gb144) (o := .cells #[.string a0_0, .int .i64 a0_1, .int .i64 a0_2, .int .i64 a0_3, .int .i64 a0_4, .int .i64 a0_5, .int .i64 a0_6] 45 (0, 0)) (BK144.out) hb); have n1_ := aK (zB (g := gb145) (o := .cells #[.int .i64 a1_0, .int .i64 a1_1, .int .i64 a1_2, .int .i64 a1_3] 47 (0, 0)) (BK145.out) hb); have n2_ := aK (yT (HB.out) hb); clear BK144; clear BK145; clear HB; have BK144 := n0_; have BK145 := n1_; have HB := n2_; clear n0_ n1_ n2_; (try clear hb)))
  go_ret3
  exact ⟨_, _, rfl, by first | exact Kd.S_nil _ _ _ _ _ | exact Kd.N_nil _ _ _ _ _ | exact Kd.V_nil _ _ _ _ _ | exact Kd.Q_nil _ _ _ _ _ | exact Kd.R_nil _ _ _ _ _, by first | exact Kd.R_nil _ _ _ _ _ | exact Kd.N_nil _ _ _ _ _ | exact Kd.V_nil _ _ _ _ _ | exact Kd.Q_nil _ _ _ _ _ | exact Kd.S_nil _ _ _ _ _, HB.out⟩
 rw [if_neg c25] at H
 have c25b0 : decide (256 < t151) = false := decide_eq_false c25
 clear c25
 by_cases c38 : (wrap64 ((wrap64 (a1_3 + t151)) - 1)) > 1000000
 ·rw [if_pos c38] at H
  have c38b0 : decide (1000000 < (wrap64 ((wrap64 (a1_3 + t151)) - 1))) = true := decide_eq_true c38
  clear c38
  simp only [Option.some.injEq, Prod.mk.injEq] at H
  obtain ⟨rfl, rfl, rfl⟩ := H
  go_enter Tryz.func22, Tryz.ntmps22
  try go_wp2_with (first | ((with_reducible refine gate_dst (N := 2) rfl ?_); refine box_event ?hg (N := 2) ?hd (cs := #[.string a0_0, .int .i64 a0_1, .int .i64 a0_2, .int .i64 a0_3, .int .i64 a0_4, .int .i64 a0_5, .int .i64 a0_6]) (t := 45) ?hr ?_; (case hd => rfl); (case hg => rfl); (case hr => first | (go_simp; done) | (go_simp; rfl)); intro gb144 hg w39 hbox hb; have ⟨n0_, n2_⟩ := zV (w := w) hb hg (by repeat (first | (with_reducible first | exact HB.out | apply yA | apply yN | apply yD) | exact HB.out)); have n1_ := aK (hbox); have n3_ := n2_; clear HB; have HB := n0_; have BK144 := n1_; have GW144 := n2_; have GE144 := n3_; clear n0_ n1_ n2_ n3_; clear hb hbox hg) | ((with_reducible refine gate_dst (N := 3) rfl ?_); refine box_event ?hg (N := 3) ?hd (cs := #[.int .i64 a1_0, .int .i64 a1_1, .int .i64 a1_2, .int .i64 a1_3]) (t := 47) ?hr ?_; (case hd => rfl); (case hg => rfl); (case hr => first | (go_simp; done) | (go_simp; rfl)); intro gb145 hg w40 hbox hb; have n0_ := aK (zB (g := gb144) (o := .cells #[.string a0_0, .int .i64 a0_1, .int .i64 a0_2, .int .i64 a0_3, .int .i64 a0_4, .int .i64 a0_5, .int .i64 a0_6] 45 (0, 0)) (by exact BK144.out) hb); have ⟨n1_, n3_⟩ := zV (w := w) hb hg (by repeat (first | (with_reducible first | exact HB.out | apply yA | apply yN | apply yD | refine yS ?_ GE144.out) | exact HB.out)); have n2_ := aK (hbox); have n4_ := n3_; have n5_ := aK ((by rw [hg]; exact Nat.ne_of_lt (blk_lt (g := gb144) (o := .cells #[.string a0_0, .int .i64 a0_1, .int .i64 a0_2, .int .i64 a0_3, .int .i64 a0_4, .int .i64 a0_5, .int .i64 a0_6] 45 (0, 0)) (by exact BK144.out)) : gb144 ≠ gb145)); have n6_ := aK ((by rw [hg]; exact Nat.ne_of_gt (blk_lt (g := gb144) (o := .cells #[.string a0_0, .int .i64 a0_1, .int .i64 a0_2, .int .i64 a0_3, .int .i64 a0_4, .int .i64 a0_5, .int .i64 a0_6] 45 (0, 0)) (by exact BK144.out)) : gb145 ≠ gb144)); clear BK144; clear HB; have BK144 := n0_; have HB := n1_; have BK145 := n2_; have GW145 := n3_; have GE145 := n4_; have NB144_145 := n5_; have NB145_144 := n6_; clear n0_ n1_ n2_ n3_ n4_ n5_ n6_; clear hb hbox hg; have hnb41 := NB145_144.out; have hnc41 := NB144_145.out; have hcz42_0 := zI BK145 0 rfl; have hcz42_1 := zI BK145 1 rfl; have hcz42_2 := zI BK145 2 rfl; have hcz42_3 := zI BK145 3 rfl; have hfz42_0 := zF BK145.out 0; have hfz42_1 := zF BK145.out 1; have hfz42_2 := zF BK145.out 2; have hfz42_3 := zF BK145.out 3) | ((with_reducible refine gate_callee (f := 24) rfl ?_); refine goesL_ (some 20) rfl rfl Tryz.func24 (by kernel_rfl) rfl #[.agg #[.int .i64 a1_0, .int .i64 a1_1, .int .i64 a1_2, .int .i64 a1_3]] rfl (by (try simp only [List.map_toArray, List.map_cons, List.map_nil]); first | done | rfl | (simp only [List.length_drop, List.length_take]; rfl)) ?_; (with_reducible refine (gangsawref30_Check.calls a1_0 a1_1 a1_2 a1_3 t146 _ A3.out).mono ?_); rintro e w43 ⟨rfl, hb⟩; refine ⟨_, rfl, ?_⟩; have n0_ := aK (zB (g := gb144) (o := .cells #[.string a0_0, .int .i64 a0_1, .int .i64 a0_2, .int .i64 a0_3, .int .i64 a0_4, .int .i64 a0_5, .int .i64 a0_6] 45 (0, 0)) (by exact BK144.out) hb); have n1_ := aK (zB (g := gb145) (o := .cells #[.int .i64 a1_0, .int .i64 a1_1, .int .i64 a1_2, .int .i64 a1_3] 47 (0, 0)) (by exact BK145.out) hb); have n2_ := aK (yT (by repeat (first | (with_reducible first | exact HB.out | apply yA | apply yN | apply yD | refine yS ?_ GE144.out | refine yS ?_ GE145.out) | exact HB.out)) hb); clear BK144; clear BK145; clear HB; have BK144 := n0_; have BK145 := n1_; have HB := n2_; clear n0_ n1_ n2_; (try clear hb); have hcz44_0 := zI BK144 0 rfl; have hcz44_1 := zI BK144 1 rfl; have hcz44_2 := zI BK144 2 rfl; have hcz44_3 := zI BK144 3 rfl; have hcz44_4 := zI BK144 4 rfl; have hcz44_5 := zI BK144 5 rfl; have hcz44_6 := zI BK144 6 rfl; have hfz44_0 := zF BK144.out 0; have hfz44_1 := zF BK144.out 1; have hfz44_2 := zF BK144.out 2; have hfz44_3 := zF BK144.out 3; have hfz44_4 := zF BK144.out 4; have hfz44_5 := zF BK144.out 5; have hfz44_6 := zF BK144.out 6) | ((with_reducible refine gate_callee (f := 62) rfl ?_); refine goesL_ (some 26) rfl rfl Tryz.func62 (by kernel_rfl) rfl #[.string a0_0] rfl (by (try simp only [List.map_toArray, List.map_cons, List.map_nil]); first | done | rfl | (simp only [List.length_drop, List.length_take]; rfl)) ?_; (with_reducible refine (gangsawref09_Name.calls k a0_0 true _ A5.out).mono ?_); rintro e w' ⟨rfl, ⟨nd, rfl⟩⟩; refine ⟨_, rfl, ?_⟩) | ((with_reducible refine gate_callee (f := 63) rfl ?_); refine goesL_ (some 30) rfl rfl Tryz.func63 (by kernel_rfl) rfl #[.agg #[.int .i64 a0_1, .int .i64 a0_2, .int .i64 a0_3, .int .i64 a0_4, .int .i64 a0_5, .int .i64 a0_6]] rfl (by (try simp only [List.map_toArray, List.map_cons, List.map_nil]); first | done | rfl | (simp only [List.length_drop, List.length_take]; rfl)) ?_; (with_reducible refine (gangsawref06_Check.calls k a0_1 a0_2 a0_3 a0_4 a0_5 a0_6 t148 _ A7.out).mono ?_); rintro e w45 ⟨rfl, hb⟩; refine ⟨_, rfl, ?_⟩; have n0_ := aK (zB (g := gb144) (o := .cells #[.string a0_0, .int .i64 a0_1, .int .i64 a0_2, .int .i64 a0_3, .int .i64 a0_4, .int .i64 a0_5, .int .i64 a0_6] 45 (0, 0)) (by exact BK144.out) hb); have n1_ := aK (zB (g := gb145) (o := .cells #[.int .i64 a1_0, .int .i64 a1_1, .int .i64 a1_2, .int .i64 a1_3] 47 (0, 0)) (by exact BK145.out) hb); have n2_ := aK (yT (by repeat (first | (with_reducible first | exact HB.out | apply yA | apply yN | apply yD | refine yS ?_ GE144.out | refine yS ?_ GE145.out) | exact HB.out)) hb); clear BK144; clear BK145; clear HB; have BK144 := n0_; have BK145 := n1_; have HB := n2_; clear n0_ n1_ n2_; (try clear hb)))
  have n0_ := aK (zD BK144.out)
  have n1_ := aK (zD BK145.out)
  have n2_ := aK (yD HB.out)
  clear BK144
  clear BK145
  clear HB
  have BK144 := n0_
  have BK145 := n1_
  have HB := n2_
  clear n0_ n1_ n2_
  refine start_ (n := 14) (S := fun w' => w'.cell? ⟨gb144, 0, none⟩ = some (.string a0_0) ∧ w'.cell? ⟨gb144, 1, none⟩ = some (.int .i64 a0_1) ∧ w'.cell? ⟨gb144, 2, none⟩ = some (.int .i64 a0_2) ∧ w'.cell? ⟨gb144, 3, none⟩ = some (.int .i64 a0_3) ∧ w'.cell? ⟨gb144, 4, none⟩ = some (.int .i64 a0_4) ∧ w'.cell? ⟨gb144, 5, none⟩ = some (.int .i64 a0_5) ∧ w'.cell? ⟨gb144, 6, none⟩ = some (.int .i64 a0_6) ∧ w'.cell? ⟨gb145, 0, none⟩ = some (.int .i64 a1_0) ∧ w'.cell? ⟨gb145, 1, none⟩ = some (.int .i64 a1_1) ∧ w'.cell? ⟨gb145, 2, none⟩ = some (.int .i64 a1_2) ∧ w'.cell? ⟨gb145, 3, none⟩ = some (.int .i64 a1_3)) (ds := []) #[false, false, false, false, false, false, false, false, false, false, false, false, false, false] (by kernel_rfl) rfl rfl ⟨(zC BK144.out 0).trans rfl, (zC BK144.out 1).trans rfl, (zC BK144.out 2).trans rfl, (zC BK144.out 3).trans rfl, (zC BK144.out 4).trans rfl, (zC BK144.out 5).trans rfl, (zC BK144.out 6).trans rfl, (zC BK145.out 0).trans rfl, (zC BK145.out 1).trans rfl, (zC BK145.out 2).trans rfl, (zC BK145.out 3).trans rfl⟩ (fun hHeld => ?_); refine with_tabW gangsawref30_Make.tab9 gangsawref30_Make.bits9 (fun HT_ HW_ => ?_)
  generalize w45.drew = w46 at BK144 BK145 HB hHeld ⊢
  refine pure_ (i := 0) (N := some 34) (v := ?_) (a' := ?_) #[true, false, false, false, false, false, false, false, false, false, false, false, false, false] rfl rfl (any_of HT_.out (by kernel_rfl)) (fun _ _ _ h => h) (Or.inl ⟨by rfl, ?_⟩) ?_ ?_
  rotate_left
  ·intro w'
   go_simp
   with_reducible rfl
  rotate_left
  ·simp only [Act.put, sA, sZ, sS, i64_w, i32_w]
   rfl
  refine pure_ (i := 1) (N := some 35) (v := ?_) (a' := ?_) #[true, true, false, false, false, false, false, false, false, false, false, false, false, false] rfl rfl (any_of HT_.out (by kernel_rfl)) (fun _ _ _ h => h) (Or.inl ⟨by rfl, ?_⟩) ?_ ?_
  rotate_left
  ·intro w'
   go_simp
   with_reducible rfl
  rotate_left
  ·simp only [Act.put, sA, sZ, sS, i64_w, i32_w]
   rfl
  refine pure_ (i := 3) (N := some 37) (v := ?_) (a' := ?_) #[true, true, false, true, false, false, false, false, false, false, false, false, false, false] rfl rfl (any_of HT_.out (by kernel_rfl)) (fun _ _ _ h => h) (Or.inl ⟨by rfl, ?_⟩) ?_ ?_
  rotate_left
  ·intro w'
   go_simp
   with_reducible rfl
  rotate_left
  ·simp only [Act.put, sA, sZ, sS, i64_w, i32_w]
   rfl
  refine pure_ (i := 6) (N := some 40) (v := ?_) (a' := ?_) #[true, true, false, true, false, false, true, false, false, false, false, false, false, false] rfl rfl (any_of HT_.out (by kernel_rfl)) (fun _ _ _ h => h) (Or.inl ⟨by rfl, ?_⟩) ?_ ?_
  rotate_left
  ·intro w'
   go_simp
   with_reducible rfl
  rotate_left
  ·simp only [Act.put, sA, sZ, sS, i64_w, i32_w]
   rfl
  refine pure_ (i := 7) (N := some 41) (v := ?_) (a' := ?_) #[true, true, false, true, false, false, true, true, false, false, false, false, false, false] rfl rfl (any_of HT_.out (by kernel_rfl)) (fun _ _ _ h => h) (Or.inl ⟨by rfl, ?_⟩) ?_ ?_
  rotate_left
  ·intro w'
   go_simp
   with_reducible rfl
  rotate_left
  ·simp only [Act.put, sA, sZ, sS, i64_w, i32_w]
   rfl
  refine pure_ (i := 9) (N := some 43) (v := ?_) (a' := ?_) #[true, true, false, true, false, false, true, true, false, true, false, false, false, false] rfl rfl (any_of HT_.out (by kernel_rfl)) (fun _ _ _ h => h) (Or.inl ⟨by rfl, ?_⟩) ?_ ?_
  rotate_left
  ·intro w'
   go_simp
   with_reducible rfl
  rotate_left
  ·simp only [Act.put, sA, sZ, sS, i64_w, i32_w]
   rfl
  refine take_ (i := 2) (N := some 36) (v := ?_) (a' := ?_) #[true, true, true, true, false, false, true, true, false, true, false, false, false, false] rfl rfl (take_ofW HT_.out HW_.out (by kernel_rfl)) (fun _ _ _ h => h) (Or.inl ⟨by rfl, ?_⟩) hHeld ?_ ?_
  rotate_left
  ·rintro w' ⟨s0, s1, s2, s3, s4, s5, s6, s7, s8, s9, s10⟩
   go_simp
   with_reducible rfl
  rotate_left
  ·simp only [Act.put, sA, sZ, sS, i64_w, i32_w]
   rfl
  refine take_ (i := 4) (N := some 38) (v := ?_) (a' := ?_) #[true, true, true, true, true, false, true, true, false, true, false, false, false, false] rfl rfl (take_ofW HT_.out HW_.out (by kernel_rfl)) (fun _ _ _ h => h) (Or.inl ⟨by rfl, ?_⟩) hHeld ?_ ?_
  rotate_left
  ·rintro w' ⟨s0, s1, s2, s3, s4, s5, s6, s7, s8, s9, s10⟩
   go_simp
   with_reducible rfl
  rotate_left
  ·simp only [Act.put, sA, sZ, sS, i64_w, i32_w]
   rfl
  refine take_ (i := 8) (N := some 42) (v := ?_) (a' := ?_) #[true, true, true, true, true, false, true, true, true, true, false, false, false, false] rfl rfl (take_ofW HT_.out HW_.out (by kernel_rfl)) (fun _ _ _ h => h) (Or.inl ⟨by rfl, ?_⟩) hHeld ?_ ?_
  rotate_left
  ·rintro w' ⟨s0, s1, s2, s3, s4, s5, s6, s7, s8, s9, s10⟩
   go_simp
   with_reducible rfl
  rotate_left
  ·simp only [Act.put, sA, sZ, sS, i64_w, i32_w]
   rfl
  refine take_ (i := 10) (N := some 44) (v := ?_) (a' := ?_) #[true, true, true, true, true, false, true, true, true, true, true, false, false, false] rfl rfl (take_ofW HT_.out HW_.out (by kernel_rfl)) (fun _ _ _ h => h) (Or.inl ⟨by rfl, ?_⟩) hHeld ?_ ?_
  rotate_left
  ·rintro w' ⟨s0, s1, s2, s3, s4, s5, s6, s7, s8, s9, s10⟩
   go_simp
   with_reducible rfl
  rotate_left
  ·simp only [Act.put, sA, sZ, sS, i64_w, i32_w]
   rfl
  refine one_ (i := 5) (N := some 39) #[true, true, true, true, true, true, true, true, true, true, true, false, false, false] rfl rfl (one_of HT_.out (by kernel_rfl)) (by decide) (fun K hK => ?_)
  refine goes_ Tryz.func64 (by kernel_rfl) rfl #[.agg #[.int .i64 a0_1, .int .i64 a0_2, .int .i64 a0_3], .int .i64 a1_0] (by rfl) rfl rfl (by (try simp only [List.map_toArray, List.map_cons, List.map_nil]); first | done | rfl | (simp only [List.length_drop, List.length_take]; rfl)) ?_
  with_reducible refine (gangsawref06_At.calls a0_1 a0_2 a0_3 a1_0 t149 _ A9.out).mono ?_
  rintro e w47 ⟨rfl, hb⟩
  refine ⟨_, rfl, ?_⟩
  have n0_ := aK (zB (g := gb144) (o := .cells #[.string a0_0, .int .i64 a0_1, .int .i64 a0_2, .int .i64 a0_3, .int .i64 a0_4, .int .i64 a0_5, .int .i64 a0_6] 45 (0, 0)) (BK144.out) hb)
  have n1_ := aK (zB (g := gb145) (o := .cells #[.int .i64 a1_0, .int .i64 a1_1, .int .i64 a1_2, .int .i64 a1_3] 47 (0, 0)) (BK145.out) hb)
  have n2_ := aK (yT (HB.out) hb)
  clear BK144
  clear BK145
  clear HB
  have BK144 := n0_
  have BK145 := n1_
  have HB := n2_
  clear n0_ n1_ n2_
  (try clear hb)
  (try clear hb2)
  (try clear hk)
  (try clear hi)
  refine hK.out _ _ ⟨(zC BK144.out 0).trans rfl, (zC BK144.out 1).trans rfl, (zC BK144.out 2).trans rfl, (zC BK144.out 3).trans rfl, (zC BK144.out 4).trans rfl, (zC BK144.out 5).trans rfl, (zC BK144.out 6).trans rfl, (zC BK145.out 0).trans rfl, (zC BK145.out 1).trans rfl, (zC BK145.out 2).trans rfl, (zC BK145.out 3).trans rfl⟩ (fun hHeld => ?_)
  clear hK K
  refine norm_ (a' := ?_) ?_ ?_
  rotate_left
  ·show Act.put _ (some 39) _ = _
   simp only [Act.put, sA, sZ, sS, i64_w, i32_w]
   rfl
  refine one_ (i := 11) (N := some 45) #[true, true, true, true, true, true, true, true, true, true, true, true, false, false] rfl rfl (one_of HT_.out (by kernel_rfl)) (by decide) (fun K hK => ?_)
  refine goes_ Tryz.func64 (by kernel_rfl) rfl #[.agg #[.int .i64 a0_4, .int .i64 a0_5, .int .i64 a0_6], .int .i64 a1_0] (by rfl) rfl rfl (by (try simp only [List.map_toArray, List.map_cons, List.map_nil]); first | done | rfl | (simp only [List.length_drop, List.length_take]; rfl)) ?_
  with_reducible refine (gangsawref06_At.calls a0_4 a0_5 a0_6 a1_0 t150 _ A10.out).mono ?_
  rintro e w48 ⟨rfl, hb⟩
  refine ⟨_, rfl, ?_⟩
  have n0_ := aK (zB (g := gb144) (o := .cells #[.string a0_0, .int .i64 a0_1, .int .i64 a0_2, .int .i64 a0_3, .int .i64 a0_4, .int .i64 a0_5, .int .i64 a0_6] 45 (0, 0)) (BK144.out) hb)
  have n1_ := aK (zB (g := gb145) (o := .cells #[.int .i64 a1_0, .int .i64 a1_1, .int .i64 a1_2, .int .i64 a1_3] 47 (0, 0)) (BK145.out) hb)
  have n2_ := aK (yT (HB.out) hb)
  clear BK144
  clear BK145
  clear HB
  have BK144 := n0_
  have BK145 := n1_
  have HB := n2_
  clear n0_ n1_ n2_
  (try clear hb)
  (try clear hb2)
  (try clear hk)
  (try clear hi)
  refine hK.out _ _ ⟨(zC BK144.out 0).trans rfl, (zC BK144.out 1).trans rfl, (zC BK144.out 2).trans rfl, (zC BK144.out 3).trans rfl, (zC BK144.out 4).trans rfl, (zC BK144.out 5).trans rfl, (zC BK144.out 6).trans rfl, (zC BK145.out 0).trans rfl, (zC BK145.out 1).trans rfl, (zC BK145.out 2).trans rfl, (zC BK145.out 3).trans rfl⟩ (fun hHeld => ?_)
  clear hK K
  refine norm_ (a' := ?_) ?_ ?_
  rotate_left
  ·show Act.put _ (some 45) _ = _
   simp only [Act.put, sA, sZ, sS, i64_w, i32_w]
   rfl
  refine pure_ (i := 12) (N := some 9) (v := ?_) (a' := ?_) #[true, true, true, true, true, true, true, true, true, true, true, true, true, false] rfl rfl (any_of HT_.out (by kernel_rfl)) (fun _ _ _ h => h) (Or.inl ⟨by rfl, ?_⟩) ?_ ?_
  rotate_left
  ·intro w'
   go_simp
   with_reducible rfl
  rotate_left
  ·simp only [Act.put, sA, sZ, sS, i64_w, i32_w]
   rfl
  refine pure_ (i := 13) (N := some 10) (v := ?_) (a' := ?_) #[true, true, true, true, true, true, true, true, true, true, true, true, true, true] rfl rfl (any_of HT_.out (by kernel_rfl)) (fun _ _ _ h => h) (Or.inl ⟨by rfl, ?_⟩) ?_ ?_
  rotate_left
  ·intro w'
   go_simp
   with_reducible rfl
  rotate_left
  ·simp only [Act.put, sA, sZ, sS, i64_w, i32_w]
   rfl
  refine done_ (done_of HT_.out (by kernel_rfl)) ?_
  have hcz49_0 := zI BK145 0 rfl
  have hcz49_1 := zI BK145 1 rfl
  have hcz49_2 := zI BK145 2 rfl
  have hcz49_3 := zI BK145 3 rfl
  have hfz49_0 := zF BK145.out 0
  have hfz49_1 := zF BK145.out 1
  have hfz49_2 := zF BK145.out 2
  have hfz49_3 := zF BK145.out 3
  try go_wp2_with (first | ((with_reducible refine gate_callee (f := 20) rfl ?_); refine goesL_ (some 51) rfl rfl Tryz.func20 (by kernel_rfl) rfl #[.agg #[.int .i64 a1_0, .int .i64 a1_1, .int .i64 a1_2, .int .i64 a1_3], .int .i64 (wrap64 (t150 - t149))] rfl (by (try simp only [List.map_toArray, List.map_cons, List.map_nil]); first | done | rfl | (simp only [List.length_drop, List.length_take]; rfl)) ?_; (with_reducible refine (gangsawref30_Count.calls k a1_0 a1_1 a1_2 a1_3 (wrap64 (t150 - t149)) t151 t152 _ A11.out).mono ?_); rintro e w50 ⟨rfl, hb⟩; refine ⟨_, rfl, ?_⟩; have n0_ := aK (zB (g := gb144) (o := .cells #[.string a0_0, .int .i64 a0_1, .int .i64 a0_2, .int .i64 a0_3, .int .i64 a0_4, .int .i64 a0_5, .int .i64 a0_6] 45 (0, 0)) (BK144.out) hb); have n1_ := aK (zB (g := gb145) (o := .cells #[.int .i64 a1_0, .int .i64 a1_1, .int .i64 a1_2, .int .i64 a1_3] 47 (0, 0)) (BK145.out) hb); have n2_ := aK (yT (HB.out) hb); clear BK144; clear BK145; clear HB; have BK144 := n0_; have BK145 := n1_; have HB := n2_; clear n0_ n1_ n2_; (try clear hb); have hcz51_0 := zI BK145 0 rfl; have hcz51_1 := zI BK145 1 rfl; have hcz51_2 := zI BK145 2 rfl; have hcz51_3 := zI BK145 3 rfl; have hfz51_0 := zF BK145.out 0; have hfz51_1 := zF BK145.out 1; have hfz51_2 := zF BK145.out 2; have hfz51_3 := zF BK145.out 3))
  go_ret3
  exact ⟨_, _, rfl, by first | exact Kd.S_nil _ _ _ _ _ | exact Kd.N_nil _ _ _ _ _ | exact Kd.V_nil _ _ _ _ _ | exact Kd.Q_nil _ _ _ _ _ | exact Kd.R_nil _ _ _ _ _, by first | exact Kd.R_nil _ _ _ _ _ | exact Kd.N_nil _ _ _ _ _ | exact Kd.V_nil _ _ _ _ _ | exact Kd.Q_nil _ _ _ _ _ | exact Kd.S_nil _ _ _ _ _, HB.out⟩
 rw [if_neg c38] at H
 have c38b0 : decide (1000000 < (wrap64 ((wrap64 (a1_3 + t151)) - 1))) = false := decide_eq_false c38
 clear c38
 have H' := aK H
 clear H
 go_enter Tryz.func22, Tryz.ntmps22
 try go_wp2_with (first | ((with_reducible refine gate_dst (N := 2) rfl ?_); refine box_event ?hg (N := 2) ?hd (cs := #[.string a0_0, .int .i64 a0_1, .int .i64 a0_2, .int .i64 a0_3, .int .i64 a0_4, .int .i64 a0_5, .int .i64 a0_6]) (t := 45) ?hr ?_; (case hd => rfl); (case hg => rfl); (case hr => first | (go_simp; done) | (go_simp; rfl)); intro gb144 hg w52 hbox hb; have ⟨n0_, n2_⟩ := zV (w := w) hb hg (by repeat (first | (with_reducible first | exact HB.out | apply yA | apply yN | apply yD) | exact HB.out)); have n1_ := aK (hbox); have n3_ := n2_; clear HB; have HB := n0_; have BK144 := n1_; have GW144 := n2_; have GE144 := n3_; clear n0_ n1_ n2_ n3_; clear hb hbox hg) | ((with_reducible refine gate_dst (N := 3) rfl ?_); refine box_event ?hg (N := 3) ?hd (cs := #[.int .i64 a1_0, .int .i64 a1_1, .int .i64 a1_2, .int .i64 a1_3]) (t := 47) ?hr ?_; (case hd => rfl); (case hg => rfl); (case hr => first | (go_simp; done) | (go_simp; rfl)); intro gb145 hg w53 hbox hb; have n0_ := aK (zB (g := gb144) (o := .cells #[.string a0_0, .int .i64 a0_1, .int .i64 a0_2, .int .i64 a0_3, .int .i64 a0_4, .int .i64 a0_5, .int .i64 a0_6] 45 (0, 0)) (by exact BK144.out) hb); have ⟨n1_, n3_⟩ := zV (w := w) hb hg (by repeat (first | (with_reducible first | exact HB.out | apply yA | apply yN | apply yD | refine yS ?_ GE144.out) | exact HB.out)); have n2_ := aK (hbox); have n4_ := n3_; have n5_ := aK ((by rw [hg]; exact Nat.ne_of_lt (blk_lt (g := gb144) (o := .cells #[.string a0_0, .int .i64 a0_1, .int .i64 a0_2, .int .i64 a0_3, .int .i64 a0_4, .int .i64 a0_5, .int .i64 a0_6] 45 (0, 0)) (by exact BK144.out)) : gb144 ≠ gb145)); have n6_ := aK ((by rw [hg]; exact Nat.ne_of_gt (blk_lt (g := gb144) (o := .cells #[.string a0_0, .int .i64 a0_1, .int .i64 a0_2, .int .i64 a0_3, .int .i64 a0_4, .int .i64 a0_5, .int .i64 a0_6] 45 (0, 0)) (by exact BK144.out)) : gb145 ≠ gb144)); clear BK144; clear HB; have BK144 := n0_; have HB := n1_; have BK145 := n2_; have GW145 := n3_; have GE145 := n4_; have NB144_145 := n5_; have NB145_144 := n6_; clear n0_ n1_ n2_ n3_ n4_ n5_ n6_; clear hb hbox hg; have hnb54 := NB145_144.out; have hnc54 := NB144_145.out; have hcz55_0 := zI BK145 0 rfl; have hcz55_1 := zI BK145 1 rfl; have hcz55_2 := zI BK145 2 rfl; have hcz55_3 := zI BK145 3 rfl; have hfz55_0 := zF BK145.out 0; have hfz55_1 := zF BK145.out 1; have hfz55_2 := zF BK145.out 2; have hfz55_3 := zF BK145.out 3) | ((with_reducible refine gate_callee (f := 24) rfl ?_); refine goesL_ (some 20) rfl rfl Tryz.func24 (by kernel_rfl) rfl #[.agg #[.int .i64 a1_0, .int .i64 a1_1, .int .i64 a1_2, .int .i64 a1_3]] rfl (by (try simp only [List.map_toArray, List.map_cons, List.map_nil]); first | done | rfl | (simp only [List.length_drop, List.length_take]; rfl)) ?_; (with_reducible refine (gangsawref30_Check.calls a1_0 a1_1 a1_2 a1_3 t146 _ A3.out).mono ?_); rintro e w56 ⟨rfl, hb⟩; refine ⟨_, rfl, ?_⟩; have n0_ := aK (zB (g := gb144) (o := .cells #[.string a0_0, .int .i64 a0_1, .int .i64 a0_2, .int .i64 a0_3, .int .i64 a0_4, .int .i64 a0_5, .int .i64 a0_6] 45 (0, 0)) (by exact BK144.out) hb); have n1_ := aK (zB (g := gb145) (o := .cells #[.int .i64 a1_0, .int .i64 a1_1, .int .i64 a1_2, .int .i64 a1_3] 47 (0, 0)) (by exact BK145.out) hb); have n2_ := aK (yT (by repeat (first | (with_reducible first | exact HB.out | apply yA | apply yN | apply yD | refine yS ?_ GE144.out | refine yS ?_ GE145.out) | exact HB.out)) hb); clear BK144; clear BK145; clear HB; have BK144 := n0_; have BK145 := n1_; have HB := n2_; clear n0_ n1_ n2_; (try clear hb); have hcz57_0 := zI BK144 0 rfl; have hcz57_1 := zI BK144 1 rfl; have hcz57_2 := zI BK144 2 rfl; have hcz57_3 := zI BK144 3 rfl; have hcz57_4 := zI BK144 4 rfl; have hcz57_5 := zI BK144 5 rfl; have hcz57_6 := zI BK144 6 rfl; have hfz57_0 := zF BK144.out 0; have hfz57_1 := zF BK144.out 1; have hfz57_2 := zF BK144.out 2; have hfz57_3 := zF BK144.out 3; have hfz57_4 := zF BK144.out 4; have hfz57_5 := zF BK144.out 5; have hfz57_6 := zF BK144.out 6) | ((with_reducible refine gate_callee (f := 62) rfl ?_); refine goesL_ (some 26) rfl rfl Tryz.func62 (by kernel_rfl) rfl #[.string a0_0] rfl (by (try simp only [List.map_toArray, List.map_cons, List.map_nil]); first | done | rfl | (simp only [List.length_drop, List.length_take]; rfl)) ?_; (with_reducible refine (gangsawref09_Name.calls k a0_0 true _ A5.out).mono ?_); rintro e w' ⟨rfl, ⟨nd, rfl⟩⟩; refine ⟨_, rfl, ?_⟩) | ((with_reducible refine gate_callee (f := 63) rfl ?_); refine goesL_ (some 30) rfl rfl Tryz.func63 (by kernel_rfl) rfl #[.agg #[.int .i64 a0_1, .int .i64 a0_2, .int .i64 a0_3, .int .i64 a0_4, .int .i64 a0_5, .int .i64 a0_6]] rfl (by (try simp only [List.map_toArray, List.map_cons, List.map_nil]); first | done | rfl | (simp only [List.length_drop, List.length_take]; rfl)) ?_; (with_reducible refine (gangsawref06_Check.calls k a0_1 a0_2 a0_3 a0_4 a0_5 a0_6 t148 _ A7.out).mono ?_); rintro e w58 ⟨rfl, hb⟩; refine ⟨_, rfl, ?_⟩; have n0_ := aK (zB (g := gb144) (o := .cells #[.string a0_0, .int .i64 a0_1, .int .i64 a0_2, .int .i64 a0_3, .int .i64 a0_4, .int .i64 a0_5, .int .i64 a0_6] 45 (0, 0)) (by exact BK144.out) hb); have n1_ := aK (zB (g := gb145) (o := .cells #[.int .i64 a1_0, .int .i64 a1_1, .int .i64 a1_2, .int .i64 a1_3] 47 (0, 0)) (by exact BK145.out) hb); have n2_ := aK (yT (by repeat (first | (with_reducible first | exact HB.out | apply yA | apply yN | apply yD | refine yS ?_ GE144.out | refine yS ?_ GE145.out) | exact HB.out)) hb); clear BK144; clear BK145; clear HB; have BK144 := n0_; have BK145 := n1_; have HB := n2_; clear n0_ n1_ n2_; (try clear hb)))
 have n0_ := aK (zD BK144.out)
 have n1_ := aK (zD BK145.out)
 have n2_ := aK (yD HB.out)
 clear BK144
 clear BK145
 clear HB
 have BK144 := n0_
 have BK145 := n1_
 have HB := n2_
 clear n0_ n1_ n2_
 refine start_ (n := 14) (S := fun w' => w'.cell? ⟨gb144, 0, none⟩ = some (.string a0_0) ∧ w'.cell? ⟨gb144, 1, none⟩ = some (.int .i64 a0_1) ∧ w'.cell? ⟨gb144, 2, none⟩ = some (.int .i64 a0_2) ∧ w'.cell? ⟨gb144, 3, none⟩ = some (.int .i64 a0_3) ∧ w'.cell? ⟨gb144, 4, none⟩ = some (.int .i64 a0_4) ∧ w'.cell? ⟨gb144, 5, none⟩ = some (.int .i64 a0_5) ∧ w'.cell? ⟨gb144, 6, none⟩ = some (.int .i64 a0_6) ∧ w'.cell? ⟨gb145, 0, none⟩ = some (.int .i64 a1_0) ∧ w'.cell? ⟨gb145, 1, none⟩ = some (.int .i64 a1_1) ∧ w'.cell? ⟨gb145, 2, none⟩ = some (.int .i64 a1_2) ∧ w'.cell? ⟨gb145, 3, none⟩ = some (.int .i64 a1_3)) (ds := []) #[false, false, false, false, false, false, false, false, false, false, false, false, false, false] (by kernel_rfl) rfl rfl ⟨(zC BK144.out 0).trans rfl, (zC BK144.out 1).trans rfl, (zC BK144.out 2).trans rfl, (zC BK144.out 3).trans rfl, (zC BK144.out 4).trans rfl, (zC BK144.out 5).trans rfl, (zC BK144.out 6).trans rfl, (zC BK145.out 0).trans rfl, (zC BK145.out 1).trans rfl, (zC BK145.out 2).trans rfl, (zC BK145.out 3).trans rfl⟩ (fun hHeld => ?_); refine with_tabW gangsawref30_Make.tab9 gangsawref30_Make.bits9 (fun HT_ HW_ => ?_)
 generalize w58.drew = w59 at BK144 BK145 HB hHeld ⊢
 refine pure_ (i := 0) (N := some 34) (v := ?_) (a' := ?_) #[true, false, false, false, false, false, false, false, false, false, false, false, false, false] rfl rfl (any_of HT_.out (by kernel_rfl)) (fun _ _ _ h => h) (Or.inl ⟨by rfl, ?_⟩) ?_ ?_
 rotate_left
 ·intro w'
  go_simp
  with_reducible rfl
 rotate_left
 ·simp only [Act.put, sA, sZ, sS, i64_w, i32_w]
  rfl
 refine pure_ (i := 1) (N := some 35) (v := ?_) (a' := ?_) #[true, true, false, false, false, false, false, false, false, false, false, false, false, false] rfl rfl (any_of HT_.out (by kernel_rfl)) (fun _ _ _ h => h) (Or.inl ⟨by rfl, ?_⟩) ?_ ?_
 rotate_left
 ·intro w'
  go_simp
  with_reducible rfl
 rotate_left
 ·simp only [Act.put, sA, sZ, sS, i64_w, i32_w]
  rfl
 refine pure_ (i := 3) (N := some 37) (v := ?_) (a' := ?_) #[true, true, false, true, false, false, false, false, false, false, false, false, false, false] rfl rfl (any_of HT_.out (by kernel_rfl)) (fun _ _ _ h => h) (Or.inl ⟨by rfl, ?_⟩) ?_ ?_
 rotate_left
 ·intro w'
  go_simp
  with_reducible rfl
 rotate_left
 ·simp only [Act.put, sA, sZ, sS, i64_w, i32_w]
  rfl
 refine pure_ (i := 6) (N := some 40) (v := ?_) (a' := ?_) #[true, true, false, true, false, false, true, false, false, false, false, false, false, false] rfl rfl (any_of HT_.out (by kernel_rfl)) (fun _ _ _ h => h) (Or.inl ⟨by rfl, ?_⟩) ?_ ?_
 rotate_left
 ·intro w'
  go_simp
  with_reducible rfl
 rotate_left
 ·simp only [Act.put, sA, sZ, sS, i64_w, i32_w]
  rfl
 refine pure_ (i := 7) (N := some 41) (v := ?_) (a' := ?_) #[true, true, false, true, false, false, true, true, false, false, false, false, false, false] rfl rfl (any_of HT_.out (by kernel_rfl)) (fun _ _ _ h => h) (Or.inl ⟨by rfl, ?_⟩) ?_ ?_
 rotate_left
 ·intro w'
  go_simp
  with_reducible rfl
 rotate_left
 ·simp only [Act.put, sA, sZ, sS, i64_w, i32_w]
  rfl
 refine pure_ (i := 9) (N := some 43) (v := ?_) (a' := ?_) #[true, true, false, true, false, false, true, true, false, true, false, false, false, false] rfl rfl (any_of HT_.out (by kernel_rfl)) (fun _ _ _ h => h) (Or.inl ⟨by rfl, ?_⟩) ?_ ?_
 rotate_left
 ·intro w'
  go_simp
  with_reducible rfl
 rotate_left
 ·simp only [Act.put, sA, sZ, sS, i64_w, i32_w]
  rfl
 refine take_ (i := 2) (N := some 36) (v := ?_) (a' := ?_) #[true, true, true, true, false, false, true, true, false, true, false, false, false, false] rfl rfl (take_ofW HT_.out HW_.out (by kernel_rfl)) (fun _ _ _ h => h) (Or.inl ⟨by rfl, ?_⟩) hHeld ?_ ?_
 rotate_left
 ·rintro w' ⟨s0, s1, s2, s3, s4, s5, s6, s7, s8, s9, s10⟩
  go_simp
  with_reducible rfl
 rotate_left
 ·simp only [Act.put, sA, sZ, sS, i64_w, i32_w]
  rfl
 refine take_ (i := 4) (N := some 38) (v := ?_) (a' := ?_) #[true, true, true, true, true, false, true, true, false, true, false, false, false, false] rfl rfl (take_ofW HT_.out HW_.out (by kernel_rfl)) (fun _ _ _ h => h) (Or.inl ⟨by rfl, ?_⟩) hHeld ?_ ?_
 rotate_left
 ·rintro w' ⟨s0, s1, s2, s3, s4, s5, s6, s7, s8, s9, s10⟩
  go_simp
  with_reducible rfl
 rotate_left
 ·simp only [Act.put, sA, sZ, sS, i64_w, i32_w]
  rfl
 refine take_ (i := 8) (N := some 42) (v := ?_) (a' := ?_) #[true, true, true, true, true, false, true, true, true, true, false, false, false, false] rfl rfl (take_ofW HT_.out HW_.out (by kernel_rfl)) (fun _ _ _ h => h) (Or.inl ⟨by rfl, ?_⟩) hHeld ?_ ?_
 rotate_left
 ·rintro w' ⟨s0, s1, s2, s3, s4, s5, s6, s7, s8, s9, s10⟩
  go_simp
  with_reducible rfl
 rotate_left
 ·simp only [Act.put, sA, sZ, sS, i64_w, i32_w]
  rfl
 refine take_ (i := 10) (N := some 44) (v := ?_) (a' := ?_) #[true, true, true, true, true, false, true, true, true, true, true, false, false, false] rfl rfl (take_ofW HT_.out HW_.out (by kernel_rfl)) (fun _ _ _ h => h) (Or.inl ⟨by rfl, ?_⟩) hHeld ?_ ?_
 rotate_left
 ·rintro w' ⟨s0, s1, s2, s3, s4, s5, s6, s7, s8, s9, s10⟩
  go_simp
  with_reducible rfl
 rotate_left
 ·simp only [Act.put, sA, sZ, sS, i64_w, i32_w]
  rfl
 refine one_ (i := 5) (N := some 39) #[true, true, true, true, true, true, true, true, true, true, true, false, false, false] rfl rfl (one_of HT_.out (by kernel_rfl)) (by decide) (fun K hK => ?_)
 refine goes_ Tryz.func64 (by kernel_rfl) rfl #[.agg #[.int .i64 a0_1, .int .i64 a0_2, .int .i64 a0_3], .int .i64 a1_0] (by rfl) rfl rfl (by (try simp only [List.map_toArray, List.map_cons, List.map_nil]); first | done | rfl | (simp only [List.length_drop, List.length_take]; rfl)) ?_
 with_reducible refine (gangsawref06_At.calls a0_1 a0_2 a0_3 a1_0 t149 _ A9.out).mono ?_
 rintro e w60 ⟨rfl, hb⟩
 refine ⟨_, rfl, ?_⟩
 have n0_ := aK (zB (g := gb144) (o := .cells #[.string a0_0, .int .i64 a0_1, .int .i64 a0_2, .int .i64 a0_3, .int .i64 a0_4, .int .i64 a0_5, .int .i64 a0_6] 45 (0, 0)) (BK144.out) hb)
 have n1_ := aK (zB (g := gb145) (o := .cells #[.int .i64 a1_0, .int .i64 a1_1, .int .i64 a1_2, .int .i64 a1_3] 47 (0, 0)) (BK145.out) hb)
 have n2_ := aK (yT (HB.out) hb)
 clear BK144
 clear BK145
 clear HB
 have BK144 := n0_
 have BK145 := n1_
 have HB := n2_
 clear n0_ n1_ n2_
 (try clear hb)
 (try clear hb2)
 (try clear hk)
 (try clear hi)
 refine hK.out _ _ ⟨(zC BK144.out 0).trans rfl, (zC BK144.out 1).trans rfl, (zC BK144.out 2).trans rfl, (zC BK144.out 3).trans rfl, (zC BK144.out 4).trans rfl, (zC BK144.out 5).trans rfl, (zC BK144.out 6).trans rfl, (zC BK145.out 0).trans rfl, (zC BK145.out 1).trans rfl, (zC BK145.out 2).trans rfl, (zC BK145.out 3).trans rfl⟩ (fun hHeld => ?_)
 clear hK K
 refine norm_ (a' := ?_) ?_ ?_
 rotate_left
 ·show Act.put _ (some 39) _ = _
  simp only [Act.put, sA, sZ, sS, i64_w, i32_w]
  rfl
 refine one_ (i := 11) (N := some 45) #[true, true, true, true, true, true, true, true, true, true, true, true, false, false] rfl rfl (one_of HT_.out (by kernel_rfl)) (by decide) (fun K hK => ?_)
 refine goes_ Tryz.func64 (by kernel_rfl) rfl #[.agg #[.int .i64 a0_4, .int .i64 a0_5, .int .i64 a0_6], .int .i64 a1_0] (by rfl) rfl rfl (by (try simp only [List.map_toArray, List.map_cons, List.map_nil]); first | done | rfl | (simp only [List.length_drop, List.length_take]; rfl)) ?_
 with_reducible refine (gangsawref06_At.calls a0_4 a0_5 a0_6 a1_0 t150 _ A10.out).mono ?_
 rintro e w61 ⟨rfl, hb⟩
 refine ⟨_, rfl, ?_⟩
 have n0_ := aK (zB (g := gb144) (o := .cells #[.string a0_0, .int .i64 a0_1, .int .i64 a0_2, .int .i64 a0_3, .int .i64 a0_4, .int .i64 a0_5, .int .i64 a0_6] 45 (0, 0)) (BK144.out) hb)
 have n1_ := aK (zB (g := gb145) (o := .cells #[.int .i64 a1_0, .int .i64 a1_1, .int .i64 a1_2, .int .i64 a1_3] 47 (0, 0)) (BK145.out) hb)
 have n2_ := aK (yT (HB.out) hb)
 clear BK144
 clear BK145
 clear HB
 have BK144 := n0_
 have BK145 := n1_
 have HB := n2_
 clear n0_ n1_ n2_
 (try clear hb)
 (try clear hb2)
 (try clear hk)
 (try clear hi)
 refine hK.out _ _ ⟨(zC BK144.out 0).trans rfl, (zC BK144.out 1).trans rfl, (zC BK144.out 2).trans rfl, (zC BK144.out 3).trans rfl, (zC BK144.out 4).trans rfl, (zC BK144.out 5).trans rfl, (zC BK144.out 6).trans rfl, (zC BK145.out 0).trans rfl, (zC BK145.out 1).trans rfl, (zC BK145.out 2).trans rfl, (zC BK145.out 3).trans rfl⟩ (fun hHeld => ?_)
 clear hK K
 refine norm_ (a' := ?_) ?_ ?_
 rotate_left
 ·show Act.put _ (some 45) _ = _
  simp only [Act.put, sA, sZ, sS, i64_w, i32_w]
  rfl
 refine pure_ (i := 12) (N := some 9) (v := ?_) (a' := ?_) #[true, true, true, true, true, true, true, true, true, true, true, true, true, false] rfl rfl (any_of HT_.out (by kernel_rfl)) (fun _ _ _ h => h) (Or.inl ⟨by rfl, ?_⟩) ?_ ?_
 rotate_left
 ·intro w'
  go_simp
  with_reducible rfl
 rotate_left
 ·simp only [Act.put, sA, sZ, sS, i64_w, i32_w]
  rfl
 refine pure_ (i := 13) (N := some 10) (v := ?_) (a' := ?_) #[true, true, true, true, true, true, true, true, true, true, true, true, true, true] rfl rfl (any_of HT_.out (by kernel_rfl)) (fun _ _ _ h => h) (Or.inl ⟨by rfl, ?_⟩) ?_ ?_
 rotate_left
 ·intro w'
  go_simp
  with_reducible rfl
 rotate_left
 ·simp only [Act.put, sA, sZ, sS, i64_w, i32_w]
  rfl
 refine done_ (done_of HT_.out (by kernel_rfl)) ?_
 have hcz62_0 := zI BK145 0 rfl
 have hcz62_1 := zI BK145 1 rfl
 have hcz62_2 := zI BK145 2 rfl
 have hcz62_3 := zI BK145 3 rfl
 have hfz62_0 := zF BK145.out 0
 have hfz62_1 := zF BK145.out 1
 have hfz62_2 := zF BK145.out 2
 have hfz62_3 := zF BK145.out 3
 try go_wp2_with (first | ((with_reducible refine gate_callee (f := 20) rfl ?_); refine goesL_ (some 51) rfl rfl Tryz.func20 (by kernel_rfl) rfl #[.agg #[.int .i64 a1_0, .int .i64 a1_1, .int .i64 a1_2, .int .i64 a1_3], .int .i64 (wrap64 (t150 - t149))] rfl (by (try simp only [List.map_toArray, List.map_cons, List.map_nil]); first | done | rfl | (simp only [List.length_drop, List.length_take]; rfl)) ?_; (with_reducible refine (gangsawref30_Count.calls k a1_0 a1_1 a1_2 a1_3 (wrap64 (t150 - t149)) t151 t152 _ A11.out).mono ?_); rintro e w63 ⟨rfl, hb⟩; refine ⟨_, rfl, ?_⟩; have n0_ := aK (zB (g := gb144) (o := .cells #[.string a0_0, .int .i64 a0_1, .int .i64 a0_2, .int .i64 a0_3, .int .i64 a0_4, .int .i64 a0_5, .int .i64 a0_6] 45 (0, 0)) (BK144.out) hb); have n1_ := aK (zB (g := gb145) (o := .cells #[.int .i64 a1_0, .int .i64 a1_1, .int .i64 a1_2, .int .i64 a1_3] 47 (0, 0)) (BK145.out) hb); have n2_ := aK (yT (HB.out) hb); clear BK144; clear BK145; clear HB; have BK144 := n0_; have BK145 := n1_; have HB := n2_; clear n0_ n1_ n2_; (try clear hb); have hcz64_0 := zI BK145 0 rfl; have hcz64_1 := zI BK145 1 rfl; have hcz64_2 := zI BK145 2 rfl; have hcz64_3 := zI BK145 3 rfl; have hfz64_0 := zF BK145.out 0; have hfz64_1 := zF BK145.out 1; have hfz64_2 := zF BK145.out 2; have hfz64_3 := zF BK145.out 3))
 go_loopg [13, 14] k (fun kq v13 v14 w' => ∃ (x13_1 : List (S35)) (x14_1 : Int), v14 = .int .i64 x14_1 ∧ Aside0 (gangsawref30_Make.l0 kq t149 t150 t151 x13_1 x14_1 a0_0 a0_1 a0_2 a0_3 a0_4 a0_5 a0_6 a1_0 a1_1 a1_2 a1_3 = some (r1, r2, r3)) ∧ Aside0 (kq ≤ k) ∧ Aside0 (Kd.S k35 35 w' w.heap.size (fun _ => True) v13 x13_1) ∧ Aside0 (w'.heap[gb144]? = some (.cells #[.string a0_0, .int .i64 a0_1, .int .i64 a0_2, .int .i64 a0_3, .int .i64 a0_4, .int .i64 a0_5, .int .i64 a0_6] 45 (0, 0))) ∧ Aside0 (w'.heap[gb145]? = some (.cells #[.int .i64 a1_0, .int .i64 a1_1, .int .i64 a1_2, .int .i64 a1_3] 47 (0, 0))) ∧ Aside0 (Below w.heap.size w w'))
 case atStart => exact ⟨(([] : List (S35))), (0), (by first | rfl | (simp; done) | (simp [*]; done)), H', ⟨Nat.le_refl _⟩, ⟨by first | exact Kd.S_nil _ _ _ _ _ | exact Kd.N_nil _ _ _ _ _ | exact Kd.V_nil _ _ _ _ _ | exact Kd.Q_nil _ _ _ _ _ | exact Kd.R_nil _ _ _ _ _⟩, ⟨BK144.out⟩, ⟨BK145.out⟩, ⟨HB.out⟩⟩
 case round =>
  clear H'
  try clear c1
  try clear c2
  try clear p2
  try clear c3
  try clear c4
  try clear c5
  try clear c6
  try clear p6
  try clear c12
  try clear c12b0
  try clear c12b1
  try clear c20
  try clear c22
  try clear c24
  try clear c25
  try clear c25b0
  try clear c28
  try clear c38
  try clear c38b0
  try clear c41
  try clear c54
  try clear c62
  try clear c63
  try clear c64
  try clear p64
  try clear hcz23_0
  try clear hcz23_1
  try clear hcz23_2
  try clear hcz23_3
  try clear hcz29_0
  try clear hcz29_1
  try clear hcz29_2
  try clear hcz29_3
  try clear hcz31_0
  try clear hcz31_1
  try clear hcz31_2
  try clear hcz31_3
  try clear hcz31_4
  try clear hcz31_5
  try clear hcz31_6
  try clear hcz36_0
  try clear hcz36_1
  try clear hcz36_2
  try clear hcz36_3
  try clear hcz42_0
  try clear hcz42_1
  try clear hcz42_2
  try clear hcz42_3
  try clear hcz44_0
  try clear hcz44_1
  try clear hcz44_2
  try clear hcz44_3
  try clear hcz44_4
  try clear hcz44_5
  try clear hcz44_6
  try clear hcz49_0
  try clear hcz49_1
  try clear hcz49_2
  try clear hcz49_3
  try clear hcz51_0
  try clear hcz51_1
  try clear hcz51_2
  try clear hcz51_3
  try clear hcz55_0
  try clear hcz55_1
  try clear hcz55_2
  try clear hcz55_3
  try clear hcz57_0
  try clear hcz57_1
  try clear hcz57_2
  try clear hcz57_3
  try clear hcz57_4
  try clear hcz57_5
  try clear hcz57_6
  try clear hcz62_0
  try clear hcz62_1
  try clear hcz62_2
  try clear hcz62_3
  try clear hcz64_0
  try clear hcz64_1
  try clear hcz64_2
  try clear hcz64_3
  try clear hfz23_0
  try clear hfz23_1
  try clear hfz23_2
  try clear hfz23_3
  try clear hfz29_0
  try clear hfz29_1
  try clear hfz29_2
  try clear hfz29_3
  try clear hfz31_0
  try clear hfz31_1
  try clear hfz31_2
  try clear hfz31_3
  try clear hfz31_4
  try clear hfz31_5
  try clear hfz31_6
  try clear hfz36_0
  try clear hfz36_1
  try clear hfz36_2
  try clear hfz36_3
  try clear hfz42_0
  try clear hfz42_1
  try clear hfz42_2
  try clear hfz42_3
  try clear hfz44_0
  try clear hfz44_1
  try clear hfz44_2
  try clear hfz44_3
  try clear hfz44_4
  try clear hfz44_5
  try clear hfz44_6
  try clear hfz49_0
  try clear hfz49_1
  try clear hfz49_2
  try clear hfz49_3
  try clear hfz51_0
  try clear hfz51_1
  try clear hfz51_2
  try clear hfz51_3
  try clear hfz55_0
  try clear hfz55_1
  try clear hfz55_2
  try clear hfz55_3
  try clear hfz57_0
  try clear hfz57_1
  try clear hfz57_2
  try clear hfz57_3
  try clear hfz57_4
  try clear hfz57_5
  try clear hfz57_6
  try clear hfz62_0
  try clear hfz62_1
  try clear hfz62_2
  try clear hfz62_3
  try clear hfz64_0
  try clear hfz64_1
  try clear hfz64_2
  try clear hfz64_3
  obtain ⟨x13_1, x14_1, rfl, HA, HK1, HO_13, BK144, BK145, HB⟩ := hrel
  cases gk with
  | zero => exact absurd HA.out (by simp [gangsawref30_Make.l0])
  | succ k1 =>
   have H := HA.out
   clear HA
   simp only [gangsawref30_Make.l0] at H
   by_cases c65 : x14_1 < t151
   rotate_left
   ·rw [if_neg c65] at H
    have c65b0 : decide (x14_1 < t151) = false := decide_eq_false c65
    clear c65
    by_cases c82 : (wrap64 (t149 + (wrap64 (t151 * (wrap64 (a1_1 + a1_2)))))) < t150
    rotate_left
    ·rw [if_neg c82] at H
     have c82b0 : decide ((wrap64 (t149 + (wrap64 (t151 * (wrap64 (a1_1 + a1_2)))))) < t150) = false := decide_eq_false c82
     clear c82
     simp only [Option.some.injEq, Prod.mk.injEq] at H
     obtain ⟨rfl, rfl, rfl⟩ := H
     have hnb90 := NB145_144.out
     have hnc90 := NB144_145.out
     have hcz91_0 := zI BK145 0 rfl
     have hcz91_1 := zI BK145 1 rfl
     have hcz91_2 := zI BK145 2 rfl
     have hcz91_3 := zI BK145 3 rfl
     have hfz91_0 := zF BK145.out 0
     have hfz91_1 := zF BK145.out 1
     have hfz91_2 := zF BK145.out 2
     have hfz91_3 := zF BK145.out 3
     go_wp2
     go_ret3
     exact ⟨_, _, rfl, HO_13.out, by first | exact Kd.R_nil _ _ _ _ _ | exact Kd.N_nil _ _ _ _ _ | exact Kd.V_nil _ _ _ _ _ | exact Kd.Q_nil _ _ _ _ _ | exact Kd.S_nil _ _ _ _ _, HB.out⟩
    rw [if_pos c82] at H
    have c82b0 : decide ((wrap64 (t149 + (wrap64 (t151 * (wrap64 (a1_1 + a1_2)))))) < t150) = true := decide_eq_true c82
    clear c82
    replace H := Option.bind_eq_some_iff.mp H
    obtain ⟨⟨t153, t154, t155, t156, t157, t158⟩, A830, H⟩ := H
    replace H : (if ([] : List (S32)).length < 2932031007402 then (some (x13_1, (([] : List (S32)) ++ [(⟨(⟨t153, t154, t155⟩ : S30), (⟨t156, t157, t158⟩ : S30)⟩ : S32)]), 0)) else (none)) = some (r1, r2, r3) := H
    have A83 := aK A830
    clear A830
    by_cases c84 : ([] : List (S32)).length < 2932031007402
    rotate_left
    ·rw [if_neg c84] at H
     exact absurd H (by simp)
    rw [if_pos c84] at H
    have LMc84 := aK c84
    clear c84
    obtain ⟨y159, hy159⟩ : ∃ y_ : List (S32), y_ = (([] : List (S32)) ++ [(⟨(⟨t153, t154, t155⟩ : S30), (⟨t156, t157, t158⟩ : S30)⟩ : S32)]) := ⟨_, rfl⟩
    replace H : (some (x13_1, y159, 0)) = some (r1, r2, r3) := by first | (rw [hy159]; with_reducible exact H) | (have H2_ := (Option.bind_some _ _).symm.trans H; rw [hy159]; with_reducible exact H2_) | (have H2_ := (Option.bind_some _ _).symm.trans H; with_reducible exact H2_) | with_reducible exact H | (rw [hy159]; exact H) | exact H
    have Ny159 := aK hy159
    clear hy159
    simp only [Option.some.injEq, Prod.mk.injEq] at H
    obtain ⟨rfl, rfl, rfl⟩ := H
    have hnb85 := NB145_144.out
    have hnc85 := NB144_145.out
    have hcz86_0 := zI BK145 0 rfl
    have hcz86_1 := zI BK145 1 rfl
    have hcz86_2 := zI BK145 2 rfl
    have hcz86_3 := zI BK145 3 rfl
    have hfz86_0 := zF BK145.out 0
    have hfz86_1 := zF BK145.out 1
    have hfz86_2 := zF BK145.out 2
    have hfz86_3 := zF BK145.out 3
    have hcz87_0 := zI BK144 0 rfl
    have hcz87_1 := zI BK144 1 rfl
    have hcz87_2 := zI BK144 2 rfl
    have hcz87_3 := zI BK144 3 rfl
    have hcz87_4 := zI BK144 4 rfl
    have hcz87_5 := zI BK144 5 rfl
    have hcz87_6 := zI BK144 6 rfl
    have hfz87_0 := zF BK144.out 0
    have hfz87_1 := zF BK144.out 1
    have hfz87_2 := zF BK144.out 2
    have hfz87_3 := zF BK144.out 3
    have hfz87_4 := zF BK144.out 4
    have hfz87_5 := zF BK144.out 5
    have hfz87_6 := zF BK144.out 6
    go_wp2_with (first | ((with_reducible refine gate_callee (f := 65) rfl ?_); refine goesL_ (some 130) rfl rfl Tryz.func65 (by kernel_rfl) rfl #[.agg #[.int .i64 a0_1, .int .i64 a0_2, .int .i64 a0_3, .int .i64 a0_4, .int .i64 a0_5, .int .i64 a0_6], .int .i64 a1_0, .int .i64 (wrap64 (t149 + (wrap64 (t151 * (wrap64 (a1_1 + a1_2)))))), .int .i64 t150] rfl (by (try simp only [List.map_toArray, List.map_cons, List.map_nil]); first | done | rfl | (simp only [List.length_drop, List.length_take]; rfl)) ?_; (with_reducible refine (gangsawref30_between.calls a0_1 a0_2 a0_3 a0_4 a0_5 a0_6 a1_0 (wrap64 (t149 + (wrap64 (t151 * (wrap64 (a1_1 + a1_2)))))) t150 t153 t154 t155 t156 t157 t158 _ A83.out).mono ?_); rintro e w88 ⟨rfl, hb⟩; refine ⟨_, rfl, ?_⟩; have n0_ := aK (Kd.S_below (HO_13.out) hb); have n1_ := aK (zB (g := gb144) (o := .cells #[.string a0_0, .int .i64 a0_1, .int .i64 a0_2, .int .i64 a0_3, .int .i64 a0_4, .int .i64 a0_5, .int .i64 a0_6] 45 (0, 0)) (BK144.out) hb); have n2_ := aK (zB (g := gb145) (o := .cells #[.int .i64 a1_0, .int .i64 a1_1, .int .i64 a1_2, .int .i64 a1_3] 47 (0, 0)) (BK145.out) hb); have n3_ := aK (yT (HB.out) hb); clear HO_13; clear BK144; clear BK145; clear HB; have HO_13 := n0_; have BK144 := n1_; have BK145 := n2_; have HB := n3_; clear n0_ n1_ n2_ n3_; (try clear hb)) | ((with_reducible refine gate_builtin (b := .append) (xs := #[.tmp 123, .tmp 131]) rfl ?_); at_builtin; refine Kd.R_append k32 (w0 := w) w.heap.size rfl (.tmp 123) (.tmp 131) 52 32 (.agg #[(.int .i64 0), (.int .i64 0), (.int .i64 0), (.int .i64 0), (.int .i64 0), (.int .i64 0)]) 48 rfl Tryz.underlying52 info32 rfl (by decide) (by omega) (.slice none 0 0) ([] : List (S32)) (⟨(⟨t153, t154, t155⟩ : S30), (⟨t156, t157, t158⟩ : S30)⟩ : S32) [.int .i64 t153, .int .i64 t154, .int .i64 t155, .int .i64 t156, .int .i64 t157, .int .i64 t158] (fun _ => True) (fun _ => False) rfl rfl ?aP (fun _ hk => hk.elim) ?aF ?aO ?aB ?aS ?aL ?_; (case aP => exact k32_mkM _ _ _ (⟨(⟨t153, t154, t155⟩ : S30), (⟨t156, t157, t158⟩ : S30)⟩ : S32)); (case aB => exact (HB.out)); (case aF => exact (fun _ _ => trivial)); (case aO => exact ((Kd.R_nil _ _ _ _ (fun _ => True)))); (case aS => exact (yZ (HB.out))); (case aL => have := LMc84.out; omega); intro v160 w89 ho hb hg hat; rw [← Ny159.out] at ho; have n0_ := aK (Kd.S_grown (HO_13.out) hg (fun _ _ => by simp [Value.ownBlock])); have n1_ := aK (blk_grown (g := gb144) (o := .cells #[.string a0_0, .int .i64 a0_1, .int .i64 a0_2, .int .i64 a0_3, .int .i64 a0_4, .int .i64 a0_5, .int .i64 a0_6] 45 (0, 0)) (BK144.out) hg (by simp [Value.ownBlock])); have n2_ := aK (blk_grown (g := gb145) (o := .cells #[.int .i64 a1_0, .int .i64 a1_1, .int .i64 a1_2, .int .i64 a1_3] 47 (0, 0)) (BK145.out) hg (by simp [Value.ownBlock])); have n3_ := aK (hb); have n4_ := aK (ho); clear HO_13; clear BK144; clear BK145; clear HB; have HO_13 := n0_; have BK144 := n1_; have BK145 := n2_; have HB := n3_; have HO161 := n4_; clear n0_ n1_ n2_ n3_ n4_; clear ho hb hg hat))
    go_ret3
    exact ⟨_, _, rfl, HO_13.out, HO161.out, HB.out⟩
   rw [if_pos c65] at H
   have c65b0 : decide (x14_1 < t151) = true := decide_eq_true c65
   clear c65
   by_cases c66 : a0_0.size + 1 ≤ 9223372036854775807
   rotate_left
   ·rw [if_neg c66] at H
    exact absurd H (by simp)
   rw [if_pos c66] at H
   have c66b0 := eq_true c66
   have c66b1 : decide (a0_0.size + 1 ≤ 9223372036854775807) = true := decide_eq_true c66
   try have c66b2 : (9223372036854775807 < a0_0.size + 1) = False := eq_false (Nat.not_lt.2 c66)
   replace H := Option.bind_eq_some_iff.mp H
   obtain ⟨t162, A670, H⟩ := H
   replace H : (if (a0_0 ++ (⟨#[95]⟩ : ByteArray)).size + t162.size ≤ 9223372036854775807 then ((gangsawref09_Name.f k1 ((a0_0 ++ (⟨#[95]⟩ : ByteArray)) ++ t162)).bind fun t163 => (if t163 = true then ((gangsawref30_between.f a0_1 a0_2 a0_3 a0_4 a0_5 a0_6 a1_0 (wrap64 (t149 + (wrap64 (x14_1 * (wrap64 (a1_1 + a1_2)))))) (wrap64 ((wrap64 (t149 + (wrap64 (x14_1 * (wrap64 (a1_1 + a1_2)))))) + a1_1))).bind fun bt164 => (if x13_1.length < 977343669134 then (gangsawref30_Make.l0 k1 t149 t150 t151 (x13_1 ++ [(⟨(a0_0 ++ (⟨#[95]⟩ : ByteArray)) ++ t162, a0_0, wrap64 (a1_3 + x14_1), (⟨(⟨bt164.1, bt164.2.1, bt164.2.2.1⟩ : S30), (⟨bt164.2.2.2.1, bt164.2.2.2.2.1, bt164.2.2.2.2.2⟩ : S30)⟩ : S32), 0, ([] : List Int), ([] : List Int)⟩ : S35)]) (wrap64 (x14_1 + 1)) a0_0 a0_1 a0_2 a0_3 a0_4 a0_5 a0_6 a1_0 a1_1 a1_2 a1_3) else (none))) else (some (([] : List (S35)), ([] : List (S32)), 4)))) else (none)) = some (r1, r2, r3) := H
   have A67 := aK A670
   clear A670
   by_cases c68 : (a0_0 ++ (⟨#[95]⟩ : ByteArray)).size + t162.size ≤ 9223372036854775807
   rotate_left
   ·rw [if_neg c68] at H
    exact absurd H (by simp)
   rw [if_pos c68] at H
   have c68b0 := eq_true c68
   have c68b1 : decide ((a0_0 ++ (⟨#[95]⟩ : ByteArray)).size + t162.size ≤ 9223372036854775807) = true := decide_eq_true c68
   try have c68b2 : (9223372036854775807 < (a0_0 ++ (⟨#[95]⟩ : ByteArray)).size + t162.size) = False := eq_false (Nat.not_lt.2 c68)
   try have c68b3 : (9223372036854775807 < a0_0.size + 1 + t162.size) = False := eq_false (by have h_ := c68; repeat rw [ByteArray.size_append] at h_; exact Nat.not_lt.2 h_)
   replace H := Option.bind_eq_some_iff.mp H
   obtain ⟨t163, A690, H⟩ := H
   replace H : (if t163 = true then ((gangsawref30_between.f a0_1 a0_2 a0_3 a0_4 a0_5 a0_6 a1_0 (wrap64 (t149 + (wrap64 (x14_1 * (wrap64 (a1_1 + a1_2)))))) (wrap64 ((wrap64 (t149 + (wrap64 (x14_1 * (wrap64 (a1_1 + a1_2)))))) + a1_1))).bind fun bt164 => (if x13_1.length < 977343669134 then (gangsawref30_Make.l0 k1 t149 t150 t151 (x13_1 ++ [(⟨(a0_0 ++ (⟨#[95]⟩ : ByteArray)) ++ t162, a0_0, wrap64 (a1_3 + x14_1), (⟨(⟨bt164.1, bt164.2.1, bt164.2.2.1⟩ : S30), (⟨bt164.2.2.2.1, bt164.2.2.2.2.1, bt164.2.2.2.2.2⟩ : S30)⟩ : S32), 0, ([] : List Int), ([] : List Int)⟩ : S35)]) (wrap64 (x14_1 + 1)) a0_0 a0_1 a0_2 a0_3 a0_4 a0_5 a0_6 a1_0 a1_1 a1_2 a1_3) else (none))) else (some (([] : List (S35)), ([] : List (S32)), 4))) = some (r1, r2, r3) := H
   have A69 := aK A690
   clear A690
   by_cases c70 : t163 = true
   rotate_left
   ·replace c70 := Bool.eq_false_iff.mpr c70
    subst c70
    have H1 : (some (([] : List (S35)), ([] : List (S32)), 4)) = some (r1, r2, r3) := by rw [if_neg (show ¬ (false = true) by decide)] at H; exact H
    clear H
    have H := H1
    clear H1
    simp only [Option.some.injEq, Prod.mk.injEq] at H
    obtain ⟨rfl, rfl, rfl⟩ := H
    try go_wp2
    have n0_ := aK (Kd.S_drew HO_13.out)
    have n1_ := aK (zD BK144.out)
    have n2_ := aK (zD BK145.out)
    have n3_ := aK (yD HB.out)
    clear HO_13
    clear BK144
    clear BK145
    clear HB
    have HO_13 := n0_
    have BK144 := n1_
    have BK145 := n2_
    have HB := n3_
    clear n0_ n1_ n2_ n3_
    refine start_ (n := 10) (S := fun w' => w'.cell? ⟨gb144, 0, none⟩ = some (.string a0_0) ∧ w'.cell? ⟨gb144, 1, none⟩ = some (.int .i64 a0_1) ∧ w'.cell? ⟨gb144, 2, none⟩ = some (.int .i64 a0_2) ∧ w'.cell? ⟨gb144, 3, none⟩ = some (.int .i64 a0_3) ∧ w'.cell? ⟨gb144, 4, none⟩ = some (.int .i64 a0_4) ∧ w'.cell? ⟨gb144, 5, none⟩ = some (.int .i64 a0_5) ∧ w'.cell? ⟨gb144, 6, none⟩ = some (.int .i64 a0_6) ∧ w'.cell? ⟨gb145, 0, none⟩ = some (.int .i64 a1_0) ∧ w'.cell? ⟨gb145, 1, none⟩ = some (.int .i64 a1_1) ∧ w'.cell? ⟨gb145, 2, none⟩ = some (.int .i64 a1_2) ∧ w'.cell? ⟨gb145, 3, none⟩ = some (.int .i64 a1_3)) (ds := []) #[false, false, false, false, false, false, false, false, false, false] (by kernel_rfl) rfl rfl ⟨(zC BK144.out 0).trans rfl, (zC BK144.out 1).trans rfl, (zC BK144.out 2).trans rfl, (zC BK144.out 3).trans rfl, (zC BK144.out 4).trans rfl, (zC BK144.out 5).trans rfl, (zC BK144.out 6).trans rfl, (zC BK145.out 0).trans rfl, (zC BK145.out 1).trans rfl, (zC BK145.out 2).trans rfl, (zC BK145.out 3).trans rfl⟩ (fun hHeld => ?_); refine with_tabW gangsawref30_Make.tab21 gangsawref30_Make.bits21 (fun HT_ HW_ => ?_)
    generalize wr.drew = w80 at HO_13 BK144 BK145 HB hHeld ⊢
    refine pure_ (i := 0) (N := some 69) (v := ?_) (a' := ?_) #[true, false, false, false, false, false, false, false, false, false] rfl rfl (any_of HT_.out (by kernel_rfl)) (fun _ _ _ h => h) (Or.inl ⟨by rfl, ?_⟩) ?_ ?_
    rotate_left
    ·intro w'
     go_simp
     with_reducible rfl
    rotate_left
    ·simp only [Act.put, sA, sZ, sS, i64_w, i32_w]
     rfl
    refine pure_ (i := 3) (N := some 72) (v := ?_) (a' := ?_) #[true, false, false, true, false, false, false, false, false, false] rfl rfl (any_of HT_.out (by kernel_rfl)) (fun _ _ _ h => h) (Or.inl ⟨by rfl, ?_⟩) ?_ ?_
    rotate_left
    ·intro w'
     go_simp
     with_reducible rfl
    rotate_left
    ·simp only [Act.put, sA, sZ, sS, i64_w, i32_w]
     rfl
    refine pure_ (i := 5) (N := some 74) (v := ?_) (a' := ?_) #[true, false, false, true, false, true, false, false, false, false] rfl rfl (any_of HT_.out (by kernel_rfl)) (fun _ _ _ h => h) (Or.inl ⟨by rfl, ?_⟩) ?_ ?_
    rotate_left
    ·intro w'
     go_simp
     with_reducible rfl
    rotate_left
    ·simp only [Act.put, sA, sZ, sS, i64_w, i32_w]
     rfl
    refine take_ (i := 1) (N := some 70) (v := ?_) (a' := ?_) #[true, true, false, true, false, true, false, false, false, false] rfl rfl (take_ofW HT_.out HW_.out (by kernel_rfl)) (fun _ _ _ h => h) (Or.inl ⟨by rfl, ?_⟩) hHeld ?_ ?_
    rotate_left
    ·rintro w' ⟨s0, s1, s2, s3, s4, s5, s6, s7, s8, s9, s10⟩
     go_simp
     with_reducible rfl
    rotate_left
    ·simp only [Act.put, sA, sZ, sS, i64_w, i32_w]
     rfl
    refine pure_ (i := 2) (N := some 71) (v := ?_) (a' := ?_) #[true, true, true, true, false, true, false, false, false, false] rfl rfl (any_of HT_.out (by kernel_rfl)) (fun _ _ _ h => h) (Or.inl ⟨by rfl, ?_⟩) ?_ ?_
    rotate_left
    ·intro w'
     go_simp
     with_reducible rfl
    rotate_left
    ·simp only [Act.put, sA, sZ, sS, i64_w, i32_w]
     rfl
    refine take_ (i := 4) (N := some 73) (v := ?_) (a' := ?_) #[true, true, true, true, true, true, false, false, false, false] rfl rfl (take_ofW HT_.out HW_.out (by kernel_rfl)) (fun _ _ _ h => h) (Or.inl ⟨by rfl, ?_⟩) hHeld ?_ ?_
    rotate_left
    ·rintro w' ⟨s0, s1, s2, s3, s4, s5, s6, s7, s8, s9, s10⟩
     go_simp
     with_reducible rfl
    rotate_left
    ·simp only [Act.put, sA, sZ, sS, i64_w, i32_w]
     rfl
    refine pure_ (i := 6) (N := some 75) (v := ?_) (a' := ?_) #[true, true, true, true, true, true, true, false, false, false] rfl rfl (any_of HT_.out (by kernel_rfl)) (fun _ _ _ h => h) (Or.inl ⟨by rfl, ?_⟩) ?_ ?_
    rotate_left
    ·intro w'
     go_simp
     with_reducible rfl
    rotate_left
    ·simp only [Act.put, sA, sZ, sS, i64_w, i32_w]
     rfl
    refine one_ (i := 7) (N := some 76) #[true, true, true, true, true, true, true, true, false, false] rfl rfl (one_of HT_.out (by kernel_rfl)) (by decide) (fun K hK => ?_)
    refine goes_ Tryz.func61 (by kernel_rfl) rfl #[.int .i64 (wrap64 (a1_3 + x14_1))] (by rfl) rfl rfl (by (try simp only [List.map_toArray, List.map_cons, List.map_nil]); first | done | rfl | (simp only [List.length_drop, List.length_take]; rfl)) ?_
    with_reducible refine (strconv_Itoa.calls (wrap64 (a1_3 + x14_1)) t162 _ HLD.out (HB.out) A67.out).mono ?_
    rintro e w81 ⟨rfl, hb⟩
    refine ⟨_, rfl, ?_⟩
    have n0_ := aK (Kd.S_below (HO_13.out) hb)
    have n1_ := aK (zB (g := gb144) (o := .cells #[.string a0_0, .int .i64 a0_1, .int .i64 a0_2, .int .i64 a0_3, .int .i64 a0_4, .int .i64 a0_5, .int .i64 a0_6] 45 (0, 0)) (BK144.out) hb)
    have n2_ := aK (zB (g := gb145) (o := .cells #[.int .i64 a1_0, .int .i64 a1_1, .int .i64 a1_2, .int .i64 a1_3] 47 (0, 0)) (BK145.out) hb)
    have n3_ := aK (yT (HB.out) hb)
    clear HO_13
    clear BK144
    clear BK145
    clear HB
    have HO_13 := n0_
    have BK144 := n1_
    have BK145 := n2_
    have HB := n3_
    clear n0_ n1_ n2_ n3_
    (try clear hb)
    (try clear hb2)
    (try clear hk)
    (try clear hi)
    refine hK.out _ _ ⟨(zC BK144.out 0).trans rfl, (zC BK144.out 1).trans rfl, (zC BK144.out 2).trans rfl, (zC BK144.out 3).trans rfl, (zC BK144.out 4).trans rfl, (zC BK144.out 5).trans rfl, (zC BK144.out 6).trans rfl, (zC BK145.out 0).trans rfl, (zC BK145.out 1).trans rfl, (zC BK145.out 2).trans rfl, (zC BK145.out 3).trans rfl⟩ (fun hHeld => ?_)
    clear hK K
    refine norm_ (a' := ?_) ?_ ?_
    rotate_left
    ·show Act.put _ (some 76) _ = _
     simp only [Act.put, sA, sZ, sS, i64_w, i32_w]
     rfl
    refine pure_ (i := 8) (N := some 77) (v := ?_) (a' := ?_) #[true, true, true, true, true, true, true, true, true, false] rfl rfl (any_of HT_.out (by kernel_rfl)) (fun _ _ _ h => h) (Or.inl ⟨by rfl, ?_⟩) ?_ ?_
    rotate_left
    ·intro w'
     go_simp
     with_reducible rfl
    rotate_left
    ·simp only [Act.put, sA, sZ, sS, i64_w, i32_w]
     rfl
    refine pure_ (i := 9) (N := some 15) (v := ?_) (a' := ?_) #[true, true, true, true, true, true, true, true, true, true] rfl rfl (any_of HT_.out (by kernel_rfl)) (fun _ _ _ h => h) (Or.inl ⟨by rfl, ?_⟩) ?_ ?_
    rotate_left
    ·intro w'
     go_simp
     with_reducible rfl
    rotate_left
    ·simp only [Act.put, sA, sZ, sS, i64_w, i32_w]
     rfl
    refine done_ (done_of HT_.out (by kernel_rfl)) ?_
    try go_wp2_with (first | ((with_reducible refine gate_callee (f := 62) rfl ?_); refine goesL_ (some 79) rfl rfl Tryz.func62 (by kernel_rfl) rfl #[.string ((a0_0 ++ (⟨#[95]⟩ : ByteArray)) ++ t162)] rfl (by (try simp only [List.map_toArray, List.map_cons, List.map_nil]); first | done | rfl | (simp only [List.length_drop, List.length_take]; rfl)) ?_; (with_reducible refine (gangsawref09_Name.calls k1 ((a0_0 ++ (⟨#[95]⟩ : ByteArray)) ++ t162) false _ A69.out).mono ?_); rintro e w' ⟨rfl, ⟨nd, rfl⟩⟩; refine ⟨_, rfl, ?_⟩))
    go_ret3
    exact ⟨_, _, rfl, by first | exact Kd.S_nil _ _ _ _ _ | exact Kd.N_nil _ _ _ _ _ | exact Kd.V_nil _ _ _ _ _ | exact Kd.Q_nil _ _ _ _ _ | exact Kd.R_nil _ _ _ _ _, by first | exact Kd.R_nil _ _ _ _ _ | exact Kd.N_nil _ _ _ _ _ | exact Kd.V_nil _ _ _ _ _ | exact Kd.Q_nil _ _ _ _ _ | exact Kd.S_nil _ _ _ _ _, by repeat (first | (with_reducible first | exact HB.out | apply yA | apply yN | apply yD | refine yS ?_ GE144.out | refine yS ?_ GE145.out) | exact HB.out)⟩
   subst c70
   have H1 : ((gangsawref30_between.f a0_1 a0_2 a0_3 a0_4 a0_5 a0_6 a1_0 (wrap64 (t149 + (wrap64 (x14_1 * (wrap64 (a1_1 + a1_2)))))) (wrap64 ((wrap64 (t149 + (wrap64 (x14_1 * (wrap64 (a1_1 + a1_2)))))) + a1_1))).bind fun bt164 => (if x13_1.length < 977343669134 then (gangsawref30_Make.l0 k1 t149 t150 t151 (x13_1 ++ [(⟨(a0_0 ++ (⟨#[95]⟩ : ByteArray)) ++ t162, a0_0, wrap64 (a1_3 + x14_1), (⟨(⟨bt164.1, bt164.2.1, bt164.2.2.1⟩ : S30), (⟨bt164.2.2.2.1, bt164.2.2.2.2.1, bt164.2.2.2.2.2⟩ : S30)⟩ : S32), 0, ([] : List Int), ([] : List Int)⟩ : S35)]) (wrap64 (x14_1 + 1)) a0_0 a0_1 a0_2 a0_3 a0_4 a0_5 a0_6 a1_0 a1_1 a1_2 a1_3) else (none))) = some (r1, r2, r3) := by rw [if_pos rfl] at H; exact H
   clear H
   have H := H1
   clear H1
   replace H := Option.bind_eq_some_iff.mp H
   obtain ⟨⟨t164, t165, t166, t167, t168, t169⟩, A710, H⟩ := H
   replace H : (if x13_1.length < 977343669134 then (gangsawref30_Make.l0 k1 t149 t150 t151 (x13_1 ++ [(⟨(a0_0 ++ (⟨#[95]⟩ : ByteArray)) ++ t162, a0_0, wrap64 (a1_3 + x14_1), (⟨(⟨t164, t165, t166⟩ : S30), (⟨t167, t168, t169⟩ : S30)⟩ : S32), 0, ([] : List Int), ([] : List Int)⟩ : S35)]) (wrap64 (x14_1 + 1)) a0_0 a0_1 a0_2 a0_3 a0_4 a0_5 a0_6 a1_0 a1_1 a1_2 a1_3) else (none)) = some (r1, r2, r3) := H
   have A71 := aK A710
   clear A710
   by_cases c72 : x13_1.length < 977343669134
   rotate_left
   ·rw [if_neg c72] at H
    exact absurd H (by simp)
   rw [if_pos c72] at H
   have LMc72 := aK c72
   clear c72
   obtain ⟨y170, hy170⟩ : ∃ y_ : List (S35), y_ = (x13_1 ++ [(⟨(a0_0 ++ (⟨#[95]⟩ : ByteArray)) ++ t162, a0_0, wrap64 (a1_3 + x14_1), (⟨(⟨t164, t165, t166⟩ : S30), (⟨t167, t168, t169⟩ : S30)⟩ : S32), 0, ([] : List Int), ([] : List Int)⟩ : S35)]) := ⟨_, rfl⟩
   replace H : (gangsawref30_Make.l0 k1 t149 t150 t151 y170 (wrap64 (x14_1 + 1)) a0_0 a0_1 a0_2 a0_3 a0_4 a0_5 a0_6 a1_0 a1_1 a1_2 a1_3) = some (r1, r2, r3) := by first | (rw [hy170]; with_reducible exact H) | (have H2_ := (Option.bind_some _ _).symm.trans H; rw [hy170]; with_reducible exact H2_) | (have H2_ := (Option.bind_some _ _).symm.trans H; with_reducible exact H2_) | with_reducible exact H | (rw [hy170]; exact H) | exact H
   have Ny170 := aK hy170
   clear hy170
   have H' := aK H
   clear H
   try go_wp2
   have n0_ := aK (Kd.S_drew HO_13.out)
   have n1_ := aK (zD BK144.out)
   have n2_ := aK (zD BK145.out)
   have n3_ := aK (yD HB.out)
   clear HO_13
   clear BK144
   clear BK145
   clear HB
   have HO_13 := n0_
   have BK144 := n1_
   have BK145 := n2_
   have HB := n3_
   clear n0_ n1_ n2_ n3_
   refine start_ (n := 10) (S := fun w' => w'.cell? ⟨gb144, 0, none⟩ = some (.string a0_0) ∧ w'.cell? ⟨gb144, 1, none⟩ = some (.int .i64 a0_1) ∧ w'.cell? ⟨gb144, 2, none⟩ = some (.int .i64 a0_2) ∧ w'.cell? ⟨gb144, 3, none⟩ = some (.int .i64 a0_3) ∧ w'.cell? ⟨gb144, 4, none⟩ = some (.int .i64 a0_4) ∧ w'.cell? ⟨gb144, 5, none⟩ = some (.int .i64 a0_5) ∧ w'.cell? ⟨gb144, 6, none⟩ = some (.int .i64 a0_6) ∧ w'.cell? ⟨gb145, 0, none⟩ = some (.int .i64 a1_0) ∧ w'.cell? ⟨gb145, 1, none⟩ = some (.int .i64 a1_1) ∧ w'.cell? ⟨gb145, 2, none⟩ = some (.int .i64 a1_2) ∧ w'.cell? ⟨gb145, 3, none⟩ = some (.int .i64 a1_3)) (ds := []) #[false, false, false, false, false, false, false, false, false, false] (by kernel_rfl) rfl rfl ⟨(zC BK144.out 0).trans rfl, (zC BK144.out 1).trans rfl, (zC BK144.out 2).trans rfl, (zC BK144.out 3).trans rfl, (zC BK144.out 4).trans rfl, (zC BK144.out 5).trans rfl, (zC BK144.out 6).trans rfl, (zC BK145.out 0).trans rfl, (zC BK145.out 1).trans rfl, (zC BK145.out 2).trans rfl, (zC BK145.out 3).trans rfl⟩ (fun hHeld => ?_); refine with_tabW gangsawref30_Make.tab21 gangsawref30_Make.bits21 (fun HT_ HW_ => ?_)
   generalize wr.drew = w73 at HO_13 BK144 BK145 HB hHeld ⊢
   refine pure_ (i := 0) (N := some 69) (v := ?_) (a' := ?_) #[true, false, false, false, false, false, false, false, false, false] rfl rfl (any_of HT_.out (by kernel_rfl)) (fun _ _ _ h => h) (Or.inl ⟨by rfl, ?_⟩) ?_ ?_
   rotate_left
   ·intro w'
    go_simp
    with_reducible rfl
   rotate_left
   ·simp only [Act.put, sA, sZ, sS, i64_w, i32_w]
    rfl
   refine pure_ (i := 3) (N := some 72) (v := ?_) (a' := ?_) #[true, false, false, true, false, false, false, false, false, false] rfl rfl (any_of HT_.out (by kernel_rfl)) (fun _ _ _ h => h) (Or.inl ⟨by rfl, ?_⟩) ?_ ?_
   rotate_left
   ·intro w'
    go_simp
    with_reducible rfl
   rotate_left
   ·simp only [Act.put, sA, sZ, sS, i64_w, i32_w]
    rfl
   refine pure_ (i := 5) (N := some 74) (v := ?_) (a' := ?_) #[true, false, false, true, false, true, false, false, false, false] rfl rfl (any_of HT_.out (by kernel_rfl)) (fun _ _ _ h => h) (Or.inl ⟨by rfl, ?_⟩) ?_ ?_
   rotate_left
   ·intro w'
    go_simp
    with_reducible rfl
   rotate_left
   ·simp only [Act.put, sA, sZ, sS, i64_w, i32_w]
    rfl
   refine take_ (i := 1) (N := some 70) (v := ?_) (a' := ?_) #[true, true, false, true, false, true, false, false, false, false] rfl rfl (take_ofW HT_.out HW_.out (by kernel_rfl)) (fun _ _ _ h => h) (Or.inl ⟨by rfl, ?_⟩) hHeld ?_ ?_
   rotate_left
   ·rintro w' ⟨s0, s1, s2, s3, s4, s5, s6, s7, s8, s9, s10⟩
    go_simp
    with_reducible rfl
   rotate_left
   ·simp only [Act.put, sA, sZ, sS, i64_w, i32_w]
    rfl
   refine pure_ (i := 2) (N := some 71) (v := ?_) (a' := ?_) #[true, true, true, true, false, true, false, false, false, false] rfl rfl (any_of HT_.out (by kernel_rfl)) (fun _ _ _ h => h) (Or.inl ⟨by rfl, ?_⟩) ?_ ?_
   rotate_left
   ·intro w'
    go_simp
    with_reducible rfl
   rotate_left
   ·simp only [Act.put, sA, sZ, sS, i64_w, i32_w]
    rfl
   refine take_ (i := 4) (N := some 73) (v := ?_) (a' := ?_) #[true, true, true, true, true, true, false, false, false, false] rfl rfl (take_ofW HT_.out HW_.out (by kernel_rfl)) (fun _ _ _ h => h) (Or.inl ⟨by rfl, ?_⟩) hHeld ?_ ?_
   rotate_left
   ·rintro w' ⟨s0, s1, s2, s3, s4, s5, s6, s7, s8, s9, s10⟩
    go_simp
    with_reducible rfl
   rotate_left
   ·simp only [Act.put, sA, sZ, sS, i64_w, i32_w]
    rfl
   refine pure_ (i := 6) (N := some 75) (v := ?_) (a' := ?_) #[true, true, true, true, true, true, true, false, false, false] rfl rfl (any_of HT_.out (by kernel_rfl)) (fun _ _ _ h => h) (Or.inl ⟨by rfl, ?_⟩) ?_ ?_
   rotate_left
   ·intro w'
    go_simp
    with_reducible rfl
   rotate_left
   ·simp only [Act.put, sA, sZ, sS, i64_w, i32_w]
    rfl
   refine one_ (i := 7) (N := some 76) #[true, true, true, true, true, true, true, true, false, false] rfl rfl (one_of HT_.out (by kernel_rfl)) (by decide) (fun K hK => ?_)
   refine goes_ Tryz.func61 (by kernel_rfl) rfl #[.int .i64 (wrap64 (a1_3 + x14_1))] (by rfl) rfl rfl (by (try simp only [List.map_toArray, List.map_cons, List.map_nil]); first | done | rfl | (simp only [List.length_drop, List.length_take]; rfl)) ?_
   with_reducible refine (strconv_Itoa.calls (wrap64 (a1_3 + x14_1)) t162 _ HLD.out (HB.out) A67.out).mono ?_
   rintro e w74 ⟨rfl, hb⟩
   refine ⟨_, rfl, ?_⟩
   have n0_ := aK (Kd.S_below (HO_13.out) hb)
   have n1_ := aK (zB (g := gb144) (o := .cells #[.string a0_0, .int .i64 a0_1, .int .i64 a0_2, .int .i64 a0_3, .int .i64 a0_4, .int .i64 a0_5, .int .i64 a0_6] 45 (0, 0)) (BK144.out) hb)
   have n2_ := aK (zB (g := gb145) (o := .cells #[.int .i64 a1_0, .int .i64 a1_1, .int .i64 a1_2, .int .i64 a1_3] 47 (0, 0)) (BK145.out) hb)
   have n3_ := aK (yT (HB.out) hb)
   clear HO_13
   clear BK144
   clear BK145
   clear HB
   have HO_13 := n0_
   have BK144 := n1_
   have BK145 := n2_
   have HB := n3_
   clear n0_ n1_ n2_ n3_
   (try clear hb)
   (try clear hb2)
   (try clear hk)
   (try clear hi)
   refine hK.out _ _ ⟨(zC BK144.out 0).trans rfl, (zC BK144.out 1).trans rfl, (zC BK144.out 2).trans rfl, (zC BK144.out 3).trans rfl, (zC BK144.out 4).trans rfl, (zC BK144.out 5).trans rfl, (zC BK144.out 6).trans rfl, (zC BK145.out 0).trans rfl, (zC BK145.out 1).trans rfl, (zC BK145.out 2).trans rfl, (zC BK145.out 3).trans rfl⟩ (fun hHeld => ?_)
   clear hK K
   refine norm_ (a' := ?_) ?_ ?_
   rotate_left
   ·show Act.put _ (some 76) _ = _
    simp only [Act.put, sA, sZ, sS, i64_w, i32_w]
    rfl
   refine pure_ (i := 8) (N := some 77) (v := ?_) (a' := ?_) #[true, true, true, true, true, true, true, true, true, false] rfl rfl (any_of HT_.out (by kernel_rfl)) (fun _ _ _ h => h) (Or.inl ⟨by rfl, ?_⟩) ?_ ?_
   rotate_left
   ·intro w'
    go_simp
    with_reducible rfl
   rotate_left
   ·simp only [Act.put, sA, sZ, sS, i64_w, i32_w]
    rfl
   refine pure_ (i := 9) (N := some 15) (v := ?_) (a' := ?_) #[true, true, true, true, true, true, true, true, true, true] rfl rfl (any_of HT_.out (by kernel_rfl)) (fun _ _ _ h => h) (Or.inl ⟨by rfl, ?_⟩) ?_ ?_
   rotate_left
   ·intro w'
    go_simp
    with_reducible rfl
   rotate_left
   ·simp only [Act.put, sA, sZ, sS, i64_w, i32_w]
    rfl
   refine done_ (done_of HT_.out (by kernel_rfl)) ?_
   try go_wp2_with (first | ((with_reducible refine gate_callee (f := 62) rfl ?_); refine goesL_ (some 79) rfl rfl Tryz.func62 (by kernel_rfl) rfl #[.string ((a0_0 ++ (⟨#[95]⟩ : ByteArray)) ++ t162)] rfl (by (try simp only [List.map_toArray, List.map_cons, List.map_nil]); first | done | rfl | (simp only [List.length_drop, List.length_take]; rfl)) ?_; (with_reducible refine (gangsawref09_Name.calls k1 ((a0_0 ++ (⟨#[95]⟩ : ByteArray)) ++ t162) true _ A69.out).mono ?_); rintro e w' ⟨rfl, ⟨nd, rfl⟩⟩; refine ⟨_, rfl, ?_⟩; have hnb75 := NB145_144.out; have hnc75 := NB144_145.out; have hcz76_0 := zI BK145 0 rfl; have hcz76_1 := zI BK145 1 rfl; have hcz76_2 := zI BK145 2 rfl; have hcz76_3 := zI BK145 3 rfl; have hfz76_0 := zF BK145.out 0; have hfz76_1 := zF BK145.out 1; have hfz76_2 := zF BK145.out 2; have hfz76_3 := zF BK145.out 3))
   (try (rw [drewN_self w74]; generalize hq_ : World.drewN w74 _ = w74; have n0_ : Aside0 (Kd.S k35 35 w74 w.heap.size (fun _ => True) u13 x13_1) := ⟨by rw [← hq_]; exact (HO_13.out)⟩; have n1_ : Aside0 (w74.heap[gb144]? = some (.cells #[.string a0_0, .int .i64 a0_1, .int .i64 a0_2, .int .i64 a0_3, .int .i64 a0_4, .int .i64 a0_5, .int .i64 a0_6] 45 (0, 0))) := ⟨by rw [← hq_]; exact (BK144.out)⟩; have n2_ : Aside0 (w74.heap[gb145]? = some (.cells #[.int .i64 a1_0, .int .i64 a1_1, .int .i64 a1_2, .int .i64 a1_3] 47 (0, 0))) := ⟨by rw [← hq_]; exact (BK145.out)⟩; have n3_ : Aside0 (Below w.heap.size w w74) := ⟨by rw [← hq_]; exact (by repeat (first | (with_reducible first | exact HB.out | apply yA | apply yN | apply yD | refine yS ?_ GE144.out | refine yS ?_ GE145.out) | exact HB.out))⟩; clear HO_13 BK144 BK145 HB hq_; have HO_13 := n0_; have BK144 := n1_; have BK145 := n2_; have HB := n3_; clear n0_ n1_ n2_ n3_))
   have n0_ := aK (Kd.S_drew HO_13.out)
   have n1_ := aK (zD BK144.out)
   have n2_ := aK (zD BK145.out)
   have n3_ := aK (yD HB.out)
   clear HO_13
   clear BK144
   clear BK145
   clear HB
   have HO_13 := n0_
   have BK144 := n1_
   have BK145 := n2_
   have HB := n3_
   clear n0_ n1_ n2_ n3_
   refine start_ (n := 22) (S := fun w' => w'.cell? ⟨gb144, 0, none⟩ = some (.string a0_0) ∧ w'.cell? ⟨gb144, 1, none⟩ = some (.int .i64 a0_1) ∧ w'.cell? ⟨gb144, 2, none⟩ = some (.int .i64 a0_2) ∧ w'.cell? ⟨gb144, 3, none⟩ = some (.int .i64 a0_3) ∧ w'.cell? ⟨gb144, 4, none⟩ = some (.int .i64 a0_4) ∧ w'.cell? ⟨gb144, 5, none⟩ = some (.int .i64 a0_5) ∧ w'.cell? ⟨gb144, 6, none⟩ = some (.int .i64 a0_6) ∧ w'.cell? ⟨gb145, 0, none⟩ = some (.int .i64 a1_0) ∧ w'.cell? ⟨gb145, 1, none⟩ = some (.int .i64 a1_1) ∧ w'.cell? ⟨gb145, 2, none⟩ = some (.int .i64 a1_2) ∧ w'.cell? ⟨gb145, 3, none⟩ = some (.int .i64 a1_3)) (ds := []) #[false, false, false, false, false, false, false, false, false, false, false, false, false, false, false, false, false, false, false, false, false, false] (by kernel_rfl) rfl rfl ⟨(zC BK144.out 0).trans rfl, (zC BK144.out 1).trans rfl, (zC BK144.out 2).trans rfl, (zC BK144.out 3).trans rfl, (zC BK144.out 4).trans rfl, (zC BK144.out 5).trans rfl, (zC BK144.out 6).trans rfl, (zC BK145.out 0).trans rfl, (zC BK145.out 1).trans rfl, (zC BK145.out 2).trans rfl, (zC BK145.out 3).trans rfl⟩ (fun hHeld => ?_); refine with_tabW gangsawref30_Make.tab25 gangsawref30_Make.bits25 (fun HT_ HW_ => ?_)
   generalize w74.drew = w77 at HO_13 BK144 BK145 HB hHeld ⊢
   refine pure_ (i := 0) (N := some 90) (v := ?_) (a' := ?_) #[true, false, false, false, false, false, false, false, false, false, false, false, false, false, false, false, false, false, false, false, false, false] rfl rfl (any_of HT_.out (by kernel_rfl)) (fun _ _ _ h => h) (Or.inl ⟨by rfl, ?_⟩) ?_ ?_
   rotate_left
   ·intro w'
    go_simp
    with_reducible rfl
   rotate_left
   ·simp only [Act.put, sA, sZ, sS, i64_w, i32_w]
    rfl
   refine pure_ (i := 1) (N := some 91) (v := ?_) (a' := ?_) #[true, true, false, false, false, false, false, false, false, false, false, false, false, false, false, false, false, false, false, false, false, false] rfl rfl (any_of HT_.out (by kernel_rfl)) (fun _ _ _ h => h) (Or.inl ⟨by rfl, ?_⟩) ?_ ?_
   rotate_left
   ·intro w'
    go_simp
    with_reducible rfl
   rotate_left
   ·simp only [Act.put, sA, sZ, sS, i64_w, i32_w]
    rfl
   refine pure_ (i := 2) (N := some 92) (v := ?_) (a' := ?_) #[true, true, true, false, false, false, false, false, false, false, false, false, false, false, false, false, false, false, false, false, false, false] rfl rfl (any_of HT_.out (by kernel_rfl)) (fun _ _ _ h => h) (Or.inl ⟨by rfl, ?_⟩) ?_ ?_
   rotate_left
   ·intro w'
    go_simp
    with_reducible rfl
   rotate_left
   ·simp only [Act.put, sA, sZ, sS, i64_w, i32_w]
    rfl
   refine pure_ (i := 4) (N := some 94) (v := ?_) (a' := ?_) #[true, true, true, false, true, false, false, false, false, false, false, false, false, false, false, false, false, false, false, false, false, false] rfl rfl (any_of HT_.out (by kernel_rfl)) (fun _ _ _ h => h) (Or.inl ⟨by rfl, ?_⟩) ?_ ?_
   rotate_left
   ·intro w'
    go_simp
    with_reducible rfl
   rotate_left
   ·simp only [Act.put, sA, sZ, sS, i64_w, i32_w]
    rfl
   refine pure_ (i := 6) (N := some 96) (v := ?_) (a' := ?_) #[true, true, true, false, true, false, true, false, false, false, false, false, false, false, false, false, false, false, false, false, false, false] rfl rfl (any_of HT_.out (by kernel_rfl)) (fun _ _ _ h => h) (Or.inl ⟨by rfl, ?_⟩) ?_ ?_
   rotate_left
   ·intro w'
    go_simp
    with_reducible rfl
   rotate_left
   ·simp only [Act.put, sA, sZ, sS, i64_w, i32_w]
    rfl
   refine pure_ (i := 8) (N := some 98) (v := ?_) (a' := ?_) #[true, true, true, false, true, false, true, false, true, false, false, false, false, false, false, false, false, false, false, false, false, false] rfl rfl (any_of HT_.out (by kernel_rfl)) (fun _ _ _ h => h) (Or.inl ⟨by rfl, ?_⟩) ?_ ?_
   rotate_left
   ·intro w'
    go_simp
    with_reducible rfl
   rotate_left
   ·simp only [Act.put, sA, sZ, sS, i64_w, i32_w]
    rfl
   refine pure_ (i := 10) (N := some 100) (v := ?_) (a' := ?_) #[true, true, true, false, true, false, true, false, true, false, true, false, false, false, false, false, false, false, false, false, false, false] rfl rfl (any_of HT_.out (by kernel_rfl)) (fun _ _ _ h => h) (Or.inl ⟨by rfl, ?_⟩) ?_ ?_
   rotate_left
   ·intro w'
    go_simp
    with_reducible rfl
   rotate_left
   ·simp only [Act.put, sA, sZ, sS, i64_w, i32_w]
    rfl
   refine pure_ (i := 12) (N := some 102) (v := ?_) (a' := ?_) #[true, true, true, false, true, false, true, false, true, false, true, false, true, false, false, false, false, false, false, false, false, false] rfl rfl (any_of HT_.out (by kernel_rfl)) (fun _ _ _ h => h) (Or.inl ⟨by rfl, ?_⟩) ?_ ?_
   rotate_left
   ·intro w'
    go_simp
    with_reducible rfl
   rotate_left
   ·simp only [Act.put, sA, sZ, sS, i64_w, i32_w]
    rfl
   refine pure_ (i := 13) (N := some 103) (v := ?_) (a' := ?_) #[true, true, true, false, true, false, true, false, true, false, true, false, true, true, false, false, false, false, false, false, false, false] rfl rfl (any_of HT_.out (by kernel_rfl)) (fun _ _ _ h => h) (Or.inl ⟨by rfl, ?_⟩) ?_ ?_
   rotate_left
   ·intro w'
    go_simp
    with_reducible rfl
   rotate_left
   ·simp only [Act.put, sA, sZ, sS, i64_w, i32_w]
    rfl
   refine pure_ (i := 14) (N := some 104) (v := ?_) (a' := ?_) #[true, true, true, false, true, false, true, false, true, false, true, false, true, true, true, false, false, false, false, false, false, false] rfl rfl (any_of HT_.out (by kernel_rfl)) (fun _ _ _ h => h) (Or.inl ⟨by rfl, ?_⟩) ?_ ?_
   rotate_left
   ·intro w'
    go_simp
    with_reducible rfl
   rotate_left
   ·simp only [Act.put, sA, sZ, sS, i64_w, i32_w]
    rfl
   refine take_ (i := 3) (N := some 93) (v := ?_) (a' := ?_) #[true, true, true, true, true, false, true, false, true, false, true, false, true, true, true, false, false, false, false, false, false, false] rfl rfl (take_ofW HT_.out HW_.out (by kernel_rfl)) (fun _ _ _ h => h) (Or.inl ⟨by rfl, ?_⟩) hHeld ?_ ?_
   rotate_left
   ·rintro w' ⟨s0, s1, s2, s3, s4, s5, s6, s7, s8, s9, s10⟩
    go_simp
    with_reducible rfl
   rotate_left
   ·simp only [Act.put, sA, sZ, sS, i64_w, i32_w]
    rfl
   refine take_ (i := 5) (N := some 95) (v := ?_) (a' := ?_) #[true, true, true, true, true, true, true, false, true, false, true, false, true, true, true, false, false, false, false, false, false, false] rfl rfl (take_ofW HT_.out HW_.out (by kernel_rfl)) (fun _ _ _ h => h) (Or.inl ⟨by rfl, ?_⟩) hHeld ?_ ?_
   rotate_left
   ·rintro w' ⟨s0, s1, s2, s3, s4, s5, s6, s7, s8, s9, s10⟩
    go_simp
    with_reducible rfl
   rotate_left
   ·simp only [Act.put, sA, sZ, sS, i64_w, i32_w]
    rfl
   refine pure_ (i := 7) (N := some 97) (v := ?_) (a' := ?_) #[true, true, true, true, true, true, true, true, true, false, true, false, true, true, true, false, false, false, false, false, false, false] rfl rfl (any_of HT_.out (by kernel_rfl)) (fun _ _ _ h => h) (Or.inl ⟨by rfl, ?_⟩) ?_ ?_
   rotate_left
   ·intro w'
    go_simp
    with_reducible rfl
   rotate_left
   ·simp only [Act.put, sA, sZ, sS, i64_w, i32_w]
    rfl
   refine take_ (i := 9) (N := some 99) (v := ?_) (a' := ?_) #[true, true, true, true, true, true, true, true, true, true, true, false, true, true, true, false, false, false, false, false, false, false] rfl rfl (take_ofW HT_.out HW_.out (by kernel_rfl)) (fun _ _ _ h => h) (Or.inl ⟨by rfl, ?_⟩) hHeld ?_ ?_
   rotate_left
   ·rintro w' ⟨s0, s1, s2, s3, s4, s5, s6, s7, s8, s9, s10⟩
    go_simp
    with_reducible rfl
   rotate_left
   ·simp only [Act.put, sA, sZ, sS, i64_w, i32_w]
    rfl
   refine take_ (i := 11) (N := some 101) (v := ?_) (a' := ?_) #[true, true, true, true, true, true, true, true, true, true, true, true, true, true, true, false, false, false, false, false, false, false] rfl rfl (take_ofW HT_.out HW_.out (by kernel_rfl)) (fun _ _ _ h => h) (Or.inl ⟨by rfl, ?_⟩) hHeld ?_ ?_
   rotate_left
   ·rintro w' ⟨s0, s1, s2, s3, s4, s5, s6, s7, s8, s9, s10⟩
    go_simp
    with_reducible rfl
   rotate_left
   ·simp only [Act.put, sA, sZ, sS, i64_w, i32_w]
    rfl
   refine take_ (i := 15) (N := some 105) (v := ?_) (a' := ?_) #[true, true, true, true, true, true, true, true, true, true, true, true, true, true, true, true, false, false, false, false, false, false] rfl rfl (take_ofW HT_.out HW_.out (by kernel_rfl)) (fun _ _ _ h => h) (Or.inl ⟨by rfl, ?_⟩) hHeld ?_ ?_
   rotate_left
   ·rintro w' ⟨s0, s1, s2, s3, s4, s5, s6, s7, s8, s9, s10⟩
    go_simp
    with_reducible rfl
   rotate_left
   ·simp only [Act.put, sA, sZ, sS, i64_w, i32_w]
    rfl
   refine pure_ (i := 16) (N := some 106) (v := ?_) (a' := ?_) #[true, true, true, true, true, true, true, true, true, true, true, true, true, true, true, true, true, false, false, false, false, false] rfl rfl (any_of HT_.out (by kernel_rfl)) (fun _ _ _ h => h) (Or.inl ⟨by rfl, ?_⟩) ?_ ?_
   rotate_left
   ·intro w'
    go_simp
    with_reducible rfl
   rotate_left
   ·simp only [Act.put, sA, sZ, sS, i64_w, i32_w]
    rfl
   refine one_ (i := 17) (N := some 107) #[true, true, true, true, true, true, true, true, true, true, true, true, true, true, true, true, true, true, false, false, false, false] rfl rfl (one_of HT_.out (by kernel_rfl)) (by decide) (fun K hK => ?_)
   refine goes_ Tryz.func65 (by kernel_rfl) rfl #[.agg #[.int .i64 a0_1, .int .i64 a0_2, .int .i64 a0_3, .int .i64 a0_4, .int .i64 a0_5, .int .i64 a0_6], .int .i64 a1_0, .int .i64 (wrap64 (t149 + (wrap64 (x14_1 * (wrap64 (a1_1 + a1_2)))))), .int .i64 (wrap64 ((wrap64 (t149 + (wrap64 (x14_1 * (wrap64 (a1_1 + a1_2)))))) + a1_1))] (by rfl) rfl rfl (by (try simp only [List.map_toArray, List.map_cons, List.map_nil]); first | done | rfl | (simp only [List.length_drop, List.length_take]; rfl)) ?_
   with_reducible refine (gangsawref30_between.calls a0_1 a0_2 a0_3 a0_4 a0_5 a0_6 a1_0 (wrap64 (t149 + (wrap64 (x14_1 * (wrap64 (a1_1 + a1_2)))))) (wrap64 ((wrap64 (t149 + (wrap64 (x14_1 * (wrap64 (a1_1 + a1_2)))))) + a1_1)) t164 t165 t166 t167 t168 t169 _ A71.out).mono ?_
   rintro e w78 ⟨rfl, hb⟩
   refine ⟨_, rfl, ?_⟩
   have n0_ := aK (Kd.S_below (HO_13.out) hb)
   have n1_ := aK (zB (g := gb144) (o := .cells #[.string a0_0, .int .i64 a0_1, .int .i64 a0_2, .int .i64 a0_3, .int .i64 a0_4, .int .i64 a0_5, .int .i64 a0_6] 45 (0, 0)) (BK144.out) hb)
   have n2_ := aK (zB (g := gb145) (o := .cells #[.int .i64 a1_0, .int .i64 a1_1, .int .i64 a1_2, .int .i64 a1_3] 47 (0, 0)) (BK145.out) hb)
   have n3_ := aK (yT (by repeat (first | (with_reducible first | exact HB.out | apply yA | apply yN | apply yD | refine yS ?_ GE144.out | refine yS ?_ GE145.out) | exact HB.out)) hb)
   clear HO_13
   clear BK144
   clear BK145
   clear HB
   have HO_13 := n0_
   have BK144 := n1_
   have BK145 := n2_
   have HB := n3_
   clear n0_ n1_ n2_ n3_
   (try clear hb)
   (try clear hb2)
   (try clear hk)
   (try clear hi)
   refine hK.out _ _ ⟨(zC BK144.out 0).trans rfl, (zC BK144.out 1).trans rfl, (zC BK144.out 2).trans rfl, (zC BK144.out 3).trans rfl, (zC BK144.out 4).trans rfl, (zC BK144.out 5).trans rfl, (zC BK144.out 6).trans rfl, (zC BK145.out 0).trans rfl, (zC BK145.out 1).trans rfl, (zC BK145.out 2).trans rfl, (zC BK145.out 3).trans rfl⟩ (fun hHeld => ?_)
   clear hK K
   refine norm_ (a' := ?_) ?_ ?_
   rotate_left
   ·show Act.put _ (some 107) _ = _
    simp only [Act.put, sA, sZ, sS, i64_w, i32_w]
    rfl
   refine pure_ (i := 18) (N := some 108) (v := ?_) (a' := ?_) #[true, true, true, true, true, true, true, true, true, true, true, true, true, true, true, true, true, true, true, false, false, false] rfl rfl (any_of HT_.out (by kernel_rfl)) (fun _ _ _ h => h) (Or.inl ⟨by rfl, ?_⟩) ?_ ?_
   rotate_left
   ·intro w'
    go_simp
    with_reducible rfl
   rotate_left
   ·simp only [Act.put, sA, sZ, sS, i64_w, i32_w]
    rfl
   refine one_ (i := 19) (N := some 109) #[true, true, true, true, true, true, true, true, true, true, true, true, true, true, true, true, true, true, true, true, false, false] rfl rfl (one_of HT_.out (by kernel_rfl)) (by decide) (fun K hK => ?_)
   refine value_ (w1 := ?_) (v := ?_) (by rfl) rfl ?_ ?_
   rotate_left 2
   ·go_simp
    constructor
    ·rfl
    ·rfl
   refine hK.out _ _ ⟨(zC (zA BK144.out _) 0).trans rfl, (zC (zA BK144.out _) 1).trans rfl, (zC (zA BK144.out _) 2).trans rfl, (zC (zA BK144.out _) 3).trans rfl, (zC (zA BK144.out _) 4).trans rfl, (zC (zA BK144.out _) 5).trans rfl, (zC (zA BK144.out _) 6).trans rfl, (zC (zA BK145.out _) 0).trans rfl, (zC (zA BK145.out _) 1).trans rfl, (zC (zA BK145.out _) 2).trans rfl, (zC (zA BK145.out _) 3).trans rfl⟩ (fun hHeld => ?_)
   clear hK K
   refine norm_ (a' := ?_) ?_ ?_
   rotate_left
   ·show Act.put _ (some 109) _ = _
    simp only [Act.put, sA, sZ, sS, i64_w, i32_w]
    rfl
   refine one_ (i := 20) (N := some 110) #[true, true, true, true, true, true, true, true, true, true, true, true, true, true, true, true, true, true, true, true, true, false] rfl rfl (one_of HT_.out (by kernel_rfl)) (by decide) (fun K hK => ?_)
   refine Kd.S_append_step k35 (w0 := w) w.heap.size (by rfl) (.tmp 90) (.tmp 109) 22 35 (.agg #[(.string ⟨#[]⟩), (.string ⟨#[]⟩), (.int .i64 0), (.int .i64 0), (.int .i64 0), (.int .i64 0), (.int .i64 0), (.int .i64 0), (.int .i64 0), (.int .i64 0), (.slice none 0 0), (.slice none 0 0)]) 144 rfl Tryz.underlying22 info35 rfl (by decide) (by omega) u13 x13_1 (⟨(a0_0 ++ (⟨#[95]⟩ : ByteArray)) ++ t162, a0_0, wrap64 (a1_3 + x14_1), (⟨(⟨t164, t165, t166⟩ : S30), (⟨t167, t168, t169⟩ : S30)⟩ : S32), 0, ([] : List Int), ([] : List Int)⟩ : S35) [.string ((a0_0 ++ (⟨#[95]⟩ : ByteArray)) ++ t162), .string a0_0, .int .i64 (wrap64 (a1_3 + x14_1)), .int .i64 t164, .int .i64 t165, .int .i64 t166, .int .i64 t167, .int .i64 t168, .int .i64 t169, .int .i64 0, .slice none 0 0, .slice none 0 0] (fun _ => True) (fun _ => False) rfl rfl ?aP (fun k_ hk_ => hk_.elim) ?aF ?aO ?aB ?aS ?aL ?_
   (case aP => exact k35_mkM _ _ _ (⟨(a0_0 ++ (⟨#[95]⟩ : ByteArray)) ++ t162, a0_0, wrap64 (a1_3 + x14_1), (⟨(⟨t164, t165, t166⟩ : S30), (⟨t167, t168, t169⟩ : S30)⟩ : S32), 0, ([] : List Int), ([] : List Int)⟩ : S35) (Kd.R_nil _ _ _ _ _) (Kd.R_nil _ _ _ _ _))
   (case aB => exact (HB.out))
   (case aF => exact (fun _ _ => trivial))
   (case aO => exact (by (with_reducible repeat (first | apply Kd.S_alloc | apply Kd.S_drewN | apply Kd.S_drew)); exact Kd.S_mono HO_13.out (fun k_ hk => ⟨trivial, fun e_ => e_⟩)))
   (case aS => exact (yZ (HB.out)))
   (case aL => have := LMc72.out; omega)
   intro v171 w79 ho hb hg hat
   rw [← Ny170.out] at ho
   have n0_ := aK (blk_grown (g := gb144) (o := .cells #[.string a0_0, .int .i64 a0_1, .int .i64 a0_2, .int .i64 a0_3, .int .i64 a0_4, .int .i64 a0_5, .int .i64 a0_6] 45 (0, 0)) (BK144.out) hg (Kd.S_ne HO_13.out BK144.out (by decide)))
   have n1_ := aK (blk_grown (g := gb145) (o := .cells #[.int .i64 a1_0, .int .i64 a1_1, .int .i64 a1_2, .int .i64 a1_3] 47 (0, 0)) (BK145.out) hg (Kd.S_ne HO_13.out BK145.out (by decide)))
   have n2_ := aK (hb)
   have n3_ := aK (ho)
   clear BK144
   clear BK145
   clear HB
   clear HO_13
   have BK144 := n0_
   have BK145 := n1_
   have HB := n2_
   have HO172 := n3_
   clear n0_ n1_ n2_ n3_
   clear ho hb hg hat
   refine hK.out _ _ ⟨(zC BK144.out 0).trans rfl, (zC BK144.out 1).trans rfl, (zC BK144.out 2).trans rfl, (zC BK144.out 3).trans rfl, (zC BK144.out 4).trans rfl, (zC BK144.out 5).trans rfl, (zC BK144.out 6).trans rfl, (zC BK145.out 0).trans rfl, (zC BK145.out 1).trans rfl, (zC BK145.out 2).trans rfl, (zC BK145.out 3).trans rfl⟩ (fun hHeld => ?_)
   clear hK K
   refine norm_ (a' := ?_) ?_ ?_
   rotate_left
   ·show Act.put _ (some 110) _ = _
    simp only [Act.put, sA, sZ, sS, i64_w, i32_w]
    rfl
   refine pure_ (i := 21) (N := some 13) (v := ?_) (a' := ?_) #[true, true, true, true, true, true, true, true, true, true, true, true, true, true, true, true, true, true, true, true, true, true] rfl rfl (any_of HT_.out (by kernel_rfl)) (fun _ _ _ h => h) (Or.inl ⟨by rfl, ?_⟩) ?_ ?_
   rotate_left
   ·intro w'
    go_simp
    with_reducible rfl
   rotate_left
   ·simp only [Act.put, sA, sZ, sS, i64_w, i32_w]
    rfl
   refine done_ (done_of HT_.out (by kernel_rfl)) ?_
   try go_wp2
   go_roundg k1
   case measure => have := HK1.out; omega
   case rel => exact ⟨(y170), (wrap64 (x14_1 + 1)), (by first | rfl | (simp; done) | (simp [*]; done)), H', ⟨by have := HK1.out; omega⟩, ⟨HO172.out⟩, ⟨BK144.out⟩, ⟨BK145.out⟩, ⟨HB.out⟩⟩

end Go.Proofs.YtnaahepnabmibaaGreatDoor.P
