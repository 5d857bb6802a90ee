/- What functions of the program return: each contract says so of one function, for every input at which its pure function yields. -/
import Derived.Test.YtnaahepnabmibaaGreatDoorPx0
import Derived.Test.YtnaahepnabmibaaGreatDoorPx2
import Derived.Test.YtnaahepnabmibaaGreatDoorPx3
import Derived.Test.YtnaahepnabmibaaGreatDoorPx4
import Derived.Test.YtnaahepnabmibaaGreatDoorPx8
import Derived.Test.YtnaahepnabmibaaGreatDoorPx10
import Derived.Test.YtnaahepnabmibaaGreatDoorPx11
import Derived.Test.YtnaahepnabmibaaGreatDoorAwk
namespace Go.Proofs.YtnaahepnabmibaaGreatDoor.P
open Go.RowKit Go.Proofs.YtnaahepnabmibaaGreatDoorW.PrintWords Go.Proofs.YtnaahepnabmibaaGreatDoorW.PrintLast Go.Proofs.YtnaahepnabmibaaGreatDoorW.PrintMore
attribute [local go_sem] max2_int min2_int max_two min_two max_three min_three max_four min_four   -- for this text's walks alone
set_option linter.unusedVariables false
set_option linter.unusedSimpArgs false

open Go.Proofs.YtnaahepnabmibaaGreatDoor.Awk
def gangsawlaw30_SlabMakes.f (k : Nat) (a0_0 : ByteArray) (a0_1 : Int) (a0_2 : Int) (a0_3 : Int) (a0_4 : Int) (a0_5 : Int) (a0_6 : Int) (a1_0 : Int) (a1_1 : Int) (a1_2 : Int) (a1_3 : Int) (a2 : Int) : Option (Bool) := (gangsawlaw30_awake.f).bind fun t186 => (if t186 = true then (if (a0_0.size : Int) > 100 then (some true) else ((slab_Count.f a1_0 a1_1 a1_2 a1_3 a2).bind fun bt187 => ((gangsawref30_Count.f k a1_0 a1_1 a1_2 a1_3 a2).bind fun bt189 => ((slab_Make.f k a0_0 a0_1 a0_2 a0_3 a0_4 a0_5 a0_6 a1_0 a1_1 a1_2 a1_3).bind fun bt191 => ((gangsawref30_Make.f k a0_0 a0_1 a0_2 a0_3 a0_4 a0_5 a0_6 a1_0 a1_1 a1_2 a1_3).bind fun bt198 => ((slab_Check.f a1_0 a1_1 a1_2 a1_3).bind fun t205 => ((gangsawref30_Check.f a1_0 a1_1 a1_2 a1_3).bind fun t206 => (if t205 = t206 then (if bt187.1 = bt189.1 then (if bt187.2 = bt189.2 then (if bt191.2.2 = bt198.2.2 then ((gangsawref30_Same.f k bt191.1 bt198.1).bind fun t207 => (if t207 = true then ((gangsawref06_Same.f k bt191.2.1 bt198.2.1).bind fun t208 => (some t208)) else (some false))) else (some false)) else (some false)) else (some false)) else (some false))))))))) else (some false))
theorem gangsawlaw30_SlabMakes.mono : ∀ a0 a1 a2 a3 a4 a5 a6 a7 a8 a9 a10 a11 k, LeO (gangsawlaw30_SlabMakes.f k a0 a1 a2 a3 a4 a5 a6 a7 a8 a9 a10 a11) (gangsawlaw30_SlabMakes.f (k + 1) a0 a1 a2 a3 a4 a5 a6 a7 a8 a9 a10 a11) := by
 intro a0 a1 a2 a3 a4 a5 a6 a7 a8 a9 a10 a11 k
 unfold gangsawlaw30_SlabMakes.f
 repeat' first
   | (with_reducible exact gangsawref06_Same.mono _ _ _)
   | (with_reducible exact gangsawref30_Count.mono _ _ _ _ _ _)
   | (with_reducible exact gangsawref30_Make.mono _ _ _ _ _ _ _ _ _ _ _ _)
   | (with_reducible exact gangsawref30_Same.mono _ _ _)
   | (with_reducible exact slab_Make.mono _ _ _ _ _ _ _ _ _ _ _ _)
   | (with_reducible exact LeO.refl _)
   | (with_reducible exact LeO.none _)
   | (with_reducible refine LeO.ite ?_ ?_)
   | (with_reducible refine LeO.bind ?_ (fun _ => ?_))
   | exact gangsawref06_Same.mono _ _ _
   | exact gangsawref30_Count.mono _ _ _ _ _ _
   | exact gangsawref30_Make.mono _ _ _ _ _ _ _ _ _ _ _ _
   | exact gangsawref30_Same.mono _ _ _
   | exact slab_Make.mono _ _ _ _ _ _ _ _ _ _ _ _
   | exact LeO.none _
   | refine LeO.ite ?_ ?_
   | refine LeO.bind ?_ (fun _ => ?_)
def gangsawlaw30_SlabMakes.T9 : Bool × List (List Nat × List Nat) := (true, [([], []), ([0], [0]), ([], []), ([2, 1], [2]), ([1, 3], [1, 3]), ([4, 3], [4]), ([5], [5]), ([5], [5]), ([6, 7, 5], [5, 6, 7]), ([5, 8], [5, 8]), ([9, 5], [9]), ([10], [10]), ([10], [10]), ([11, 12, 10], [10, 11, 12]), ([10, 13], [10, 13]), ([14, 10], [14]), ([15], [15]), ([15], [15]), ([16, 17, 15], [15, 16, 17]), ([15, 18], [15, 18]), ([19, 15], [19]), ([20], [20]), ([20], [20]), ([21, 22, 20, 20], [20, 21, 22]), ([20, 23], [20, 23]), ([24, 23], [24]), ([25], [25]), ([25], [25]), ([26, 27, 25, 25], [25, 26, 27]), ([25, 28], [25, 28]), ([29, 28, 0, 1, 2, 3, 4, 5, 6, 7, 8, 9, 10, 11, 12, 13, 14, 15, 16, 17, 18, 19, 20, 21, 22, 23, 24, 25, 26, 27, 28, 29], [29])])
def gangsawlaw30_SlabMakes.B9 : List Nat := [0, 1, 0, 7, 15, 31, 63, 63, 255, 511, 1023, 2047, 2047, 8191, 16383, 32767, 65535, 65535, 262143, 524287, 1048575, 2097151, 2097151, 8388607, 16777215, 33554431, 67108863, 67108863, 268435455, 536870911, 1073741823]
theorem gangsawlaw30_SlabMakes.tab9 : rtab .any (opsOf Tryz.f5 9) = gangsawlaw30_SlabMakes.T9 := by kernel_rfl
theorem gangsawlaw30_SlabMakes.bits9 : waitsOk gangsawlaw30_SlabMakes.T9.2 gangsawlaw30_SlabMakes.B9 = true := by kernel_rfl
set_option maxHeartbeats 8000000 in
set_option maxRecDepth 100000 in
theorem gangsawlaw30_SlabMakes.calls (k : Nat) (a0_0 : ByteArray) (a0_1 : Int) (a0_2 : Int) (a0_3 : Int) (a0_4 : Int) (a0_5 : Int) (a0_6 : Int) (a1_0 : Int) (a1_1 : Int) (a1_2 : Int) (a1_3 : Int) (a2 : Int) (r : Bool) (w : World) {w0 : World} (hf0 : LaidAt w0) (hb0 : Below w0.heap.size w0 w) (h : gangsawlaw30_SlabMakes.f k a0_0 a0_1 a0_2 a0_3 a0_4 a0_5 a0_6 a1_0 a1_1 a1_2 a1_3 a2 = some r) (hr : r = true) :
  Calls Tryz.prog 5 #[.agg #[.string a0_0, .int .i64 a0_1, .int .i64 a0_2, .int .i64 a0_3, .int .i64 a0_4, .int .i64 a0_5, .int .i64 a0_6], .agg #[.int .i64 a1_0, .int .i64 a1_1, .int .i64 a1_2, .int .i64 a1_3], .int .i64 a2] w fun e w' => e = .returned (.bool r) ∧ Below w.heap.size w w' := by
 have HLD := aK (hf0.below hb0)
 clear hf0 hb0
 have hu45 := Tryz.underlying45
 have hu47 := Tryz.underlying47
 have HB := aK (Below.refl w.heap.size w)
 have H : ((gangsawlaw30_awake.f).bind fun t186 => (if t186 = true then (if (a0_0.size : Int) > 100 then (some true) else ((slab_Count.f a1_0 a1_1 a1_2 a1_3 a2).bind fun bt187 => ((gangsawref30_Count.f k a1_0 a1_1 a1_2 a1_3 a2).bind fun bt189 => ((slab_Make.f k a0_0 a0_1 a0_2 a0_3 a0_4 a0_5 a0_6 a1_0 a1_1 a1_2 a1_3).bind fun bt191 => ((gangsawref30_Make.f k a0_0 a0_1 a0_2 a0_3 a0_4 a0_5 a0_6 a1_0 a1_1 a1_2 a1_3).bind fun bt198 => ((slab_Check.f a1_0 a1_1 a1_2 a1_3).bind fun t205 => ((gangsawref30_Check.f a1_0 a1_1 a1_2 a1_3).bind fun t206 => (if t205 = t206 then (if bt187.1 = bt189.1 then (if bt187.2 = bt189.2 then (if bt191.2.2 = bt198.2.2 then ((gangsawref30_Same.f k bt191.1 bt198.1).bind fun t207 => (if t207 = true then ((gangsawref06_Same.f k bt191.2.1 bt198.2.1).bind fun t208 => (some t208)) else (some false))) else (some false)) else (some false)) else (some false)) else (some false))))))))) else (some false))) = some r := h
 clear h
 replace H := Option.bind_eq_some_iff.mp H
 obtain ⟨t186, A40, H⟩ := H
 replace H : (if t186 = true then (if (a0_0.size : Int) > 100 then (some true) else ((slab_Count.f a1_0 a1_1 a1_2 a1_3 a2).bind fun bt187 => ((gangsawref30_Count.f k a1_0 a1_1 a1_2 a1_3 a2).bind fun bt189 => ((slab_Make.f k a0_0 a0_1 a0_2 a0_3 a0_4 a0_5 a0_6 a1_0 a1_1 a1_2 a1_3).bind fun bt191 => ((gangsawref30_Make.f k a0_0 a0_1 a0_2 a0_3 a0_4 a0_5 a0_6 a1_0 a1_1 a1_2 a1_3).bind fun bt198 => ((slab_Check.f a1_0 a1_1 a1_2 a1_3).bind fun t205 => ((gangsawref30_Check.f a1_0 a1_1 a1_2 a1_3).bind fun t206 => (if t205 = t206 then (if bt187.1 = bt189.1 then (if bt187.2 = bt189.2 then (if bt191.2.2 = bt198.2.2 then ((gangsawref30_Same.f k bt191.1 bt198.1).bind fun t207 => (if t207 = true then ((gangsawref06_Same.f k bt191.2.1 bt198.2.1).bind fun t208 => (some t208)) else (some false))) else (some false)) else (some false)) else (some false)) else (some false))))))))) else (some false)) = some r := H
 have A4 := aK A40
 clear A40
 by_cases c5 : t186 = true
 rotate_left
 ·replace c5 := Bool.eq_false_iff.mpr c5
  subst c5
  have H1 : (some false) = some r := by rw [if_neg (show ¬ (false = true) by decide)] at H; exact H
  clear H
  have H := H1
  clear H1
  obtain rfl := Option.some.inj H
  exact absurd hr (by decide)
 subst c5
 have H1 : (if (a0_0.size : Int) > 100 then (some true) else ((slab_Count.f a1_0 a1_1 a1_2 a1_3 a2).bind fun bt187 => ((gangsawref30_Count.f k a1_0 a1_1 a1_2 a1_3 a2).bind fun bt189 => ((slab_Make.f k a0_0 a0_1 a0_2 a0_3 a0_4 a0_5 a0_6 a1_0 a1_1 a1_2 a1_3).bind fun bt191 => ((gangsawref30_Make.f k a0_0 a0_1 a0_2 a0_3 a0_4 a0_5 a0_6 a1_0 a1_1 a1_2 a1_3).bind fun bt198 => ((slab_Check.f a1_0 a1_1 a1_2 a1_3).bind fun t205 => ((gangsawref30_Check.f a1_0 a1_1 a1_2 a1_3).bind fun t206 => (if t205 = t206 then (if bt187.1 = bt189.1 then (if bt187.2 = bt189.2 then (if bt191.2.2 = bt198.2.2 then ((gangsawref30_Same.f k bt191.1 bt198.1).bind fun t207 => (if t207 = true then ((gangsawref06_Same.f k bt191.2.1 bt198.2.1).bind fun t208 => (some t208)) else (some false))) else (some false)) else (some false)) else (some false)) else (some false))))))))) = some r := by rw [if_pos rfl] at H; exact H
 clear H
 have H := H1
 clear H1
 by_cases c6 : (a0_0.size : Int) > 100
 ·rw [if_pos c6] at H
  have c6b0 : decide (100 < (a0_0.size : Int)) = true := decide_eq_true c6
  have c6b1 : decide (100 < a0_0.size) = true := decide_eq_true (by omega)
  clear c6
  obtain rfl := Option.some.inj H
  simp only [Option.some.injEq, Prod.mk.injEq] at H
  obtain ⟨rfl⟩ := H
  go_enter Tryz.func5, Tryz.ntmps5
  go_wp2_with (first | ((with_reducible refine gate_dst (N := 3) rfl ?_); refine box_event ?hg (N := 3) ?hd (cs := #[.string a0_0, .int .i64 a0_1, .int .i64 a0_2, .int .i64 a0_3, .int .i64 a0_4, .int .i64 a0_5, .int .i64 a0_6]) (t := 45) ?hr ?_; (case hd => rfl); (case hg => rfl); (case hr => first | (go_simp; done) | (go_simp; rfl)); intro gb184 hg w7 hbox hb; have n0_ := aK (yT (HB.out) hb); have n1_ := aK (hbox); have n2_ := aK ((by rw [hg]; exact (yZ (HB.out)) : w.heap.size ≤ gb184)); have n3_ := n2_; clear HB; have HB := n0_; have BK184 := n1_; have GW184 := n2_; have GE184 := n3_; clear n0_ n1_ n2_ n3_; clear hb hbox hg) | ((with_reducible refine gate_dst (N := 4) rfl ?_); refine box_event ?hg (N := 4) ?hd (cs := #[.int .i64 a1_0, .int .i64 a1_1, .int .i64 a1_2, .int .i64 a1_3]) (t := 47) ?hr ?_; (case hd => rfl); (case hg => rfl); (case hr => first | (go_simp; done) | (go_simp; rfl)); intro gb185 hg w8 hbox hb; have n0_ := aK (zB (g := gb184) (o := .cells #[.string a0_0, .int .i64 a0_1, .int .i64 a0_2, .int .i64 a0_3, .int .i64 a0_4, .int .i64 a0_5, .int .i64 a0_6] 45 (0, 0)) (BK184.out) hb); have n1_ := aK (yT (HB.out) hb); have n2_ := aK (hbox); have n3_ := aK ((by rw [hg]; exact (yZ (HB.out)) : w.heap.size ≤ gb185)); have n4_ := n3_; have n5_ := aK ((by rw [hg]; exact Nat.ne_of_lt (blk_lt (g := gb184) (o := .cells #[.string a0_0, .int .i64 a0_1, .int .i64 a0_2, .int .i64 a0_3, .int .i64 a0_4, .int .i64 a0_5, .int .i64 a0_6] 45 (0, 0)) (BK184.out)) : gb184 ≠ gb185)); have n6_ := aK ((by rw [hg]; exact Nat.ne_of_gt (blk_lt (g := gb184) (o := .cells #[.string a0_0, .int .i64 a0_1, .int .i64 a0_2, .int .i64 a0_3, .int .i64 a0_4, .int .i64 a0_5, .int .i64 a0_6] 45 (0, 0)) (BK184.out)) : gb185 ≠ gb184)); clear BK184; clear HB; have BK184 := n0_; have HB := n1_; have BK185 := n2_; have GW185 := n3_; have GE185 := n4_; have NB184_185 := n5_; have NB185_184 := n6_; clear n0_ n1_ n2_ n3_ n4_ n5_ n6_; clear hb hbox hg) | ((with_reducible refine gate_callee (f := 11) rfl ?_); refine goesL_ (some 17) rfl rfl Tryz.func11 (by kernel_rfl) rfl #[] rfl (by (try simp only [List.map_toArray, List.map_cons, List.map_nil]); first | done | rfl | (simp only [List.length_drop, List.length_take]; rfl)) ?_; (with_reducible refine (gangsawlaw30_awake.calls  true _ HLD.out (HB.out) A4.out).mono ?_); rintro e w9 ⟨rfl, hb⟩; refine ⟨_, rfl, ?_⟩; have n0_ := aK (zB (g := gb184) (o := .cells #[.string a0_0, .int .i64 a0_1, .int .i64 a0_2, .int .i64 a0_3, .int .i64 a0_4, .int .i64 a0_5, .int .i64 a0_6] 45 (0, 0)) (BK184.out) hb); have n1_ := aK (zB (g := gb185) (o := .cells #[.int .i64 a1_0, .int .i64 a1_1, .int .i64 a1_2, .int .i64 a1_3] 47 (0, 0)) (BK185.out) hb); have n2_ := aK (yT (HB.out) hb); clear BK184; clear BK185; clear HB; have BK184 := n0_; have BK185 := n1_; have HB := n2_; clear n0_ n1_ n2_; (try clear hb); have hnb10 := NB184_185.out; have hnc10 := NB185_184.out; have hcz11_0 := zI BK184 0 rfl; have hcz11_1 := zI BK184 1 rfl; have hcz11_2 := zI BK184 2 rfl; have hcz11_3 := zI BK184 3 rfl; have hcz11_4 := zI BK184 4 rfl; have hcz11_5 := zI BK184 5 rfl; have hcz11_6 := zI BK184 6 rfl; have hfz11_0 := zF BK184.out 0; have hfz11_1 := zF BK184.out 1; have hfz11_2 := zF BK184.out 2; have hfz11_3 := zF BK184.out 3; have hfz11_4 := zF BK184.out 4; have hfz11_5 := zF BK184.out 5; have hfz11_6 := zF BK184.out 6))
  go_ret
  exact ⟨rfl, HB.out⟩
 rw [if_neg c6] at H
 have c6b0 : decide (100 < (a0_0.size : Int)) = false := decide_eq_false c6
 have c6b1 : decide (100 < a0_0.size) = false := decide_eq_false (by omega)
 clear c6
 replace H := Option.bind_eq_some_iff.mp H
 obtain ⟨⟨t187, t188⟩, A120, H⟩ := H
 replace H : ((gangsawref30_Count.f k a1_0 a1_1 a1_2 a1_3 a2).bind fun bt189 => ((slab_Make.f k a0_0 a0_1 a0_2 a0_3 a0_4 a0_5 a0_6 a1_0 a1_1 a1_2 a1_3).bind fun bt191 => ((gangsawref30_Make.f k a0_0 a0_1 a0_2 a0_3 a0_4 a0_5 a0_6 a1_0 a1_1 a1_2 a1_3).bind fun bt198 => ((slab_Check.f a1_0 a1_1 a1_2 a1_3).bind fun t205 => ((gangsawref30_Check.f a1_0 a1_1 a1_2 a1_3).bind fun t206 => (if t205 = t206 then (if t187 = bt189.1 then (if t188 = bt189.2 then (if bt191.2.2 = bt198.2.2 then ((gangsawref30_Same.f k bt191.1 bt198.1).bind fun t207 => (if t207 = true then ((gangsawref06_Same.f k bt191.2.1 bt198.2.1).bind fun t208 => (some t208)) else (some false))) else (some false)) else (some false)) else (some false)) else (some false))))))) = some r := H
 have A12 := aK A120
 clear A120
 replace H := Option.bind_eq_some_iff.mp H
 obtain ⟨⟨t189, t190⟩, A130, H⟩ := H
 replace H : ((slab_Make.f k a0_0 a0_1 a0_2 a0_3 a0_4 a0_5 a0_6 a1_0 a1_1 a1_2 a1_3).bind fun bt191 => ((gangsawref30_Make.f k a0_0 a0_1 a0_2 a0_3 a0_4 a0_5 a0_6 a1_0 a1_1 a1_2 a1_3).bind fun bt198 => ((slab_Check.f a1_0 a1_1 a1_2 a1_3).bind fun t205 => ((gangsawref30_Check.f a1_0 a1_1 a1_2 a1_3).bind fun t206 => (if t205 = t206 then (if t187 = t189 then (if t188 = t190 then (if bt191.2.2 = bt198.2.2 then ((gangsawref30_Same.f k bt191.1 bt198.1).bind fun t207 => (if t207 = true then ((gangsawref06_Same.f k bt191.2.1 bt198.2.1).bind fun t208 => (some t208)) else (some false))) else (some false)) else (some false)) else (some false)) else (some false)))))) = some r := H
 have A13 := aK A130
 clear A130
 replace H := Option.bind_eq_some_iff.mp H
 obtain ⟨⟨t191, t194, t197⟩, A140, H⟩ := H
 replace H : ((gangsawref30_Make.f k a0_0 a0_1 a0_2 a0_3 a0_4 a0_5 a0_6 a1_0 a1_1 a1_2 a1_3).bind fun bt198 => ((slab_Check.f a1_0 a1_1 a1_2 a1_3).bind fun t205 => ((gangsawref30_Check.f a1_0 a1_1 a1_2 a1_3).bind fun t206 => (if t205 = t206 then (if t187 = t189 then (if t188 = t190 then (if t197 = bt198.2.2 then ((gangsawref30_Same.f k t191 bt198.1).bind fun t207 => (if t207 = true then ((gangsawref06_Same.f k t194 bt198.2.1).bind fun t208 => (some t208)) else (some false))) else (some false)) else (some false)) else (some false)) else (some false))))) = some r := H
 have A14 := aK A140
 clear A140
 replace H := Option.bind_eq_some_iff.mp H
 obtain ⟨⟨t198, t201, t204⟩, A150, H⟩ := H
 replace H : ((slab_Check.f a1_0 a1_1 a1_2 a1_3).bind fun t205 => ((gangsawref30_Check.f a1_0 a1_1 a1_2 a1_3).bind fun t206 => (if t205 = t206 then (if t187 = t189 then (if t188 = t190 then (if t197 = t204 then ((gangsawref30_Same.f k t191 t198).bind fun t207 => (if t207 = true then ((gangsawref06_Same.f k t194 t201).bind fun t208 => (some t208)) else (some false))) else (some false)) else (some false)) else (some false)) else (some false)))) = some r := H
 have A15 := aK A150
 clear A150
 replace H := Option.bind_eq_some_iff.mp H
 obtain ⟨t205, A160, H⟩ := H
 replace H : ((gangsawref30_Check.f a1_0 a1_1 a1_2 a1_3).bind fun t206 => (if t205 = t206 then (if t187 = t189 then (if t188 = t190 then (if t197 = t204 then ((gangsawref30_Same.f k t191 t198).bind fun t207 => (if t207 = true then ((gangsawref06_Same.f k t194 t201).bind fun t208 => (some t208)) else (some false))) else (some false)) else (some false)) else (some false)) else (some false))) = some r := H
 have A16 := aK A160
 clear A160
 replace H := Option.bind_eq_some_iff.mp H
 obtain ⟨t206, A170, H⟩ := H
 replace H : (if t205 = t206 then (if t187 = t189 then (if t188 = t190 then (if t197 = t204 then ((gangsawref30_Same.f k t191 t198).bind fun t207 => (if t207 = true then ((gangsawref06_Same.f k t194 t201).bind fun t208 => (some t208)) else (some false))) else (some false)) else (some false)) else (some false)) else (some false)) = some r := H
 have A17 := aK A170
 clear A170
 by_cases c18 : t205 = t206
 rotate_left
 ·rw [if_neg c18] at H
  have c18b0 : (t205 == t206) = false := beq_eq_false_iff_ne.mpr c18
  have c18b1 : (t205 != t206) = true := bne_iff_ne.mpr c18
  obtain rfl := Option.some.inj H
  exact absurd hr (by decide)
 rw [if_pos c18] at H
 have c18b0 : (t205 == t206) = true := beq_iff_eq.mpr c18
 have c18b1 : (t205 != t206) = false := bne_eq_false_iff_eq.mpr c18
 clear c18
 by_cases c19 : t187 = t189
 rotate_left
 ·rw [if_neg c19] at H
  have c19b0 : (t187 == t189) = false := beq_eq_false_iff_ne.mpr c19
  have c19b1 : (t187 != t189) = true := bne_iff_ne.mpr c19
  obtain rfl := Option.some.inj H
  exact absurd hr (by decide)
 rw [if_pos c19] at H
 have c19b0 : (t187 == t189) = true := beq_iff_eq.mpr c19
 have c19b1 : (t187 != t189) = false := bne_eq_false_iff_eq.mpr c19
 clear c19
 by_cases c20 : t188 = t190
 rotate_left
 ·rw [if_neg c20] at H
  have c20b0 : (t188 == t190) = false := beq_eq_false_iff_ne.mpr c20
  have c20b1 : (t188 != t190) = true := bne_iff_ne.mpr c20
  obtain rfl := Option.some.inj H
  exact absurd hr (by decide)
 rw [if_pos c20] at H
 have c20b0 : (t188 == t190) = true := beq_iff_eq.mpr c20
 have c20b1 : (t188 != t190) = false := bne_eq_false_iff_eq.mpr c20
 clear c20
 by_cases c21 : t197 = t204
 rotate_left
 ·rw [if_neg c21] at H
  have c21b0 : (t197 == t204) = false := beq_eq_false_iff_ne.mpr c21
  have c21b1 : (t197 != t204) = true := bne_iff_ne.mpr c21
  obtain rfl := Option.some.inj H
  exact absurd hr (by decide)
 rw [if_pos c21] at H
 have c21b0 : (t197 == t204) = true := beq_iff_eq.mpr c21
 have c21b1 : (t197 != t204) = false := bne_eq_false_iff_eq.mpr c21
 clear c21
 replace H := Option.bind_eq_some_iff.mp H
 obtain ⟨t207, A220, H⟩ := H
 replace H : (if t207 = true then ((gangsawref06_Same.f k t194 t201).bind fun t208 => (some t208)) else (some false)) = some r := H
 have A22 := aK A220
 clear A220
 by_cases c23 : t207 = true
 rotate_left
 ·replace c23 := Bool.eq_false_iff.mpr c23
  subst c23
  have H1 : (some false) = some r := by rw [if_neg (show ¬ (false = true) by decide)] at H; exact H
  clear H
  have H := H1
  clear H1
  obtain rfl := Option.some.inj H
  exact absurd hr (by decide)
 subst c23
 have H1 : ((gangsawref06_Same.f k t194 t201).bind fun t208 => (some t208)) = some r := by rw [if_pos rfl] at H; exact H
 clear H
 have H := H1
 clear H1
 replace H := Option.bind_eq_some_iff.mp H
 obtain ⟨t208, A240, H⟩ := H
 replace H : (some t208) = some r := H
 have A24 := aK A240
 clear A240
 obtain rfl := Option.some.inj H
 simp only [Option.some.injEq, Prod.mk.injEq] at H
 obtain ⟨rfl⟩ := H
 go_enter Tryz.func5, Tryz.ntmps5
 try go_wp2_with (first | ((with_reducible refine gate_dst (N := 3) rfl ?_); refine box_event ?hg (N := 3) ?hd (cs := #[.string a0_0, .int .i64 a0_1, .int .i64 a0_2, .int .i64 a0_3, .int .i64 a0_4, .int .i64 a0_5, .int .i64 a0_6]) (t := 45) ?hr ?_; (case hd => rfl); (case hg => rfl); (case hr => first | (go_simp; done) | (go_simp; rfl)); intro gb184 hg w25 hbox hb; have n0_ := aK (yT (HB.out) hb); have n1_ := aK (hbox); have n2_ := aK ((by rw [hg]; exact (yZ (HB.out)) : w.heap.size ≤ gb184)); have n3_ := n2_; clear HB; have HB := n0_; have BK184 := n1_; have GW184 := n2_; have GE184 := n3_; clear n0_ n1_ n2_ n3_; clear hb hbox hg) | ((with_reducible refine gate_dst (N := 4) rfl ?_); refine box_event ?hg (N := 4) ?hd (cs := #[.int .i64 a1_0, .int .i64 a1_1, .int .i64 a1_2, .int .i64 a1_3]) (t := 47) ?hr ?_; (case hd => rfl); (case hg => rfl); (case hr => first | (go_simp; done) | (go_simp; rfl)); intro gb185 hg w26 hbox hb; have n0_ := aK (zB (g := gb184) (o := .cells #[.string a0_0, .int .i64 a0_1, .int .i64 a0_2, .int .i64 a0_3, .int .i64 a0_4, .int .i64 a0_5, .int .i64 a0_6] 45 (0, 0)) (BK184.out) hb); have n1_ := aK (yT (HB.out) hb); have n2_ := aK (hbox); have n3_ := aK ((by rw [hg]; exact (yZ (HB.out)) : w.heap.size ≤ gb185)); have n4_ := n3_; have n5_ := aK ((by rw [hg]; exact Nat.ne_of_lt (blk_lt (g := gb184) (o := .cells #[.string a0_0, .int .i64 a0_1, .int .i64 a0_2, .int .i64 a0_3, .int .i64 a0_4, .int .i64 a0_5, .int .i64 a0_6] 45 (0, 0)) (BK184.out)) : gb184 ≠ gb185)); have n6_ := aK ((by rw [hg]; exact Nat.ne_of_gt (blk_lt (g := gb184) (o := .cells #[.string a0_0, .int .i64 a0_1, .int .i64 a0_2, .int .i64 a0_3, .int .i64 a0_4, .int .i64 a0_5, .int .i64 a0_6] 45 (0, 0)) (BK184.out)) : gb185 ≠ gb184)); clear BK184; clear HB; have BK184 := n0_; have HB := n1_; have BK185 := n2_; have GW185 := n3_; have GE185 := n4_; have NB184_185 := n5_; have NB185_184 := n6_; clear n0_ n1_ n2_ n3_ n4_ n5_ n6_; clear hb hbox hg) | ((with_reducible refine gate_callee (f := 11) rfl ?_); refine goesL_ (some 17) rfl rfl Tryz.func11 (by kernel_rfl) rfl #[] rfl (by (try simp only [List.map_toArray, List.map_cons, List.map_nil]); first | done | rfl | (simp only [List.length_drop, List.length_take]; rfl)) ?_; (with_reducible refine (gangsawlaw30_awake.calls  true _ HLD.out (HB.out) A4.out).mono ?_); rintro e w27 ⟨rfl, hb⟩; refine ⟨_, rfl, ?_⟩; have n0_ := aK (zB (g := gb184) (o := .cells #[.string a0_0, .int .i64 a0_1, .int .i64 a0_2, .int .i64 a0_3, .int .i64 a0_4, .int .i64 a0_5, .int .i64 a0_6] 45 (0, 0)) (BK184.out) hb); have n1_ := aK (zB (g := gb185) (o := .cells #[.int .i64 a1_0, .int .i64 a1_1, .int .i64 a1_2, .int .i64 a1_3] 47 (0, 0)) (BK185.out) hb); have n2_ := aK (yT (HB.out) hb); clear BK184; clear BK185; clear HB; have BK184 := n0_; have BK185 := n1_; have HB := n2_; clear n0_ n1_ n2_; (try clear hb); have hnb28 := NB184_185.out; have hnc28 := NB185_184.out; have hcz29_0 := zI BK184 0 rfl; have hcz29_1 := zI BK184 1 rfl; have hcz29_2 := zI BK184 2 rfl; have hcz29_3 := zI BK184 3 rfl; have hcz29_4 := zI BK184 4 rfl; have hcz29_5 := zI BK184 5 rfl; have hcz29_6 := zI BK184 6 rfl; have hfz29_0 := zF BK184.out 0; have hfz29_1 := zF BK184.out 1; have hfz29_2 := zF BK184.out 2; have hfz29_3 := zF BK184.out 3; have hfz29_4 := zF BK184.out 4; have hfz29_5 := zF BK184.out 5; have hfz29_6 := zF BK184.out 6; have hcz30_0 := zI BK185 0 rfl; have hcz30_1 := zI BK185 1 rfl; have hcz30_2 := zI BK185 2 rfl; have hcz30_3 := zI BK185 3 rfl; have hfz30_0 := zF BK185.out 0; have hfz30_1 := zF BK185.out 1; have hfz30_2 := zF BK185.out 2; have hfz30_3 := zF BK185.out 3) | ((with_reducible refine gate_callee (f := 19) rfl ?_); refine goesL_ (some 26) rfl rfl Tryz.func19 (by kernel_rfl) rfl #[.agg #[.int .i64 a1_0, .int .i64 a1_1, .int .i64 a1_2, .int .i64 a1_3], .int .i64 a2] rfl (by (try simp only [List.map_toArray, List.map_cons, List.map_nil]); first | done | rfl | (simp only [List.length_drop, List.length_take]; rfl)) ?_; (with_reducible refine (slab_Count.calls a1_0 a1_1 a1_2 a1_3 a2 t187 t188 _ A12.out).mono ?_); rintro e w31 ⟨rfl, hb⟩; refine ⟨_, rfl, ?_⟩; have n0_ := aK (zB (g := gb184) (o := .cells #[.string a0_0, .int .i64 a0_1, .int .i64 a0_2, .int .i64 a0_3, .int .i64 a0_4, .int .i64 a0_5, .int .i64 a0_6] 45 (0, 0)) (BK184.out) hb); have n1_ := aK (zB (g := gb185) (o := .cells #[.int .i64 a1_0, .int .i64 a1_1, .int .i64 a1_2, .int .i64 a1_3] 47 (0, 0)) (BK185.out) hb); have n2_ := aK (yT (HB.out) hb); clear BK184; clear BK185; clear HB; have BK184 := n0_; have BK185 := n1_; have HB := n2_; clear n0_ n1_ n2_; (try clear hb); have hcz32_0 := zI BK185 0 rfl; have hcz32_1 := zI BK185 1 rfl; have hcz32_2 := zI BK185 2 rfl; have hcz32_3 := zI BK185 3 rfl; have hfz32_0 := zF BK185.out 0; have hfz32_1 := zF BK185.out 1; have hfz32_2 := zF BK185.out 2; have hfz32_3 := zF BK185.out 3) | ((with_reducible refine gate_callee (f := 20) rfl ?_); refine goesL_ (some 32) rfl rfl Tryz.func20 (by kernel_rfl) rfl #[.agg #[.int .i64 a1_0, .int .i64 a1_1, .int .i64 a1_2, .int .i64 a1_3], .int .i64 a2] rfl (by (try simp only [List.map_toArray, List.map_cons, List.map_nil]); first | done | rfl | (simp only [List.length_drop, List.length_take]; rfl)) ?_; (with_reducible refine (gangsawref30_Count.calls k a1_0 a1_1 a1_2 a1_3 a2 t189 t190 _ A13.out).mono ?_); rintro e w33 ⟨rfl, hb⟩; refine ⟨_, rfl, ?_⟩; have n0_ := aK (zB (g := gb184) (o := .cells #[.string a0_0, .int .i64 a0_1, .int .i64 a0_2, .int .i64 a0_3, .int .i64 a0_4, .int .i64 a0_5, .int .i64 a0_6] 45 (0, 0)) (BK184.out) hb); have n1_ := aK (zB (g := gb185) (o := .cells #[.int .i64 a1_0, .int .i64 a1_1, .int .i64 a1_2, .int .i64 a1_3] 47 (0, 0)) (BK185.out) hb); have n2_ := aK (yT (HB.out) hb); clear BK184; clear BK185; clear HB; have BK184 := n0_; have BK185 := n1_; have HB := n2_; clear n0_ n1_ n2_; (try clear hb); have hcz34_0 := zI BK184 0 rfl; have hcz34_1 := zI BK184 1 rfl; have hcz34_2 := zI BK184 2 rfl; have hcz34_3 := zI BK184 3 rfl; have hcz34_4 := zI BK184 4 rfl; have hcz34_5 := zI BK184 5 rfl; have hcz34_6 := zI BK184 6 rfl; have hfz34_0 := zF BK184.out 0; have hfz34_1 := zF BK184.out 1; have hfz34_2 := zF BK184.out 2; have hfz34_3 := zF BK184.out 3; have hfz34_4 := zF BK184.out 4; have hfz34_5 := zF BK184.out 5; have hfz34_6 := zF BK184.out 6; have hcz35_0 := zI BK185 0 rfl; have hcz35_1 := zI BK185 1 rfl; have hcz35_2 := zI BK185 2 rfl; have hcz35_3 := zI BK185 3 rfl; have hfz35_0 := zF BK185.out 0; have hfz35_1 := zF BK185.out 1; have hfz35_2 := zF BK185.out 2; have hfz35_3 := zF BK185.out 3) | ((with_reducible refine gate_callee (f := 21) rfl ?_); refine goesL_ (some 38) rfl rfl Tryz.func21 (by kernel_rfl) rfl #[.agg #[.string a0_0, .int .i64 a0_1, .int .i64 a0_2, .int .i64 a0_3, .int .i64 a0_4, .int .i64 a0_5, .int .i64 a0_6], .agg #[.int .i64 a1_0, .int .i64 a1_1, .int .i64 a1_2, .int .i64 a1_3]] rfl (by (try simp only [List.map_toArray, List.map_cons, List.map_nil]); first | done | rfl | (simp only [List.length_drop, List.length_take]; rfl)) ?_; (with_reducible refine (slab_Make.calls k a0_0 a0_1 a0_2 a0_3 a0_4 a0_5 a0_6 a1_0 a1_1 a1_2 a1_3 t191 t194 t197 _ HLD.out (HB.out) A14.out).mono ?_); rintro e w36 ⟨v192, v195, rfl, ho0, ho1, hb⟩; refine ⟨_, rfl, ?_⟩; have n0_ := aK (Kd.S_lower ho0 (yZ (HB.out))); have n1_ := aK (Kd.R_lower ho1 (yZ (HB.out))); have n2_ := aK (zB (g := gb184) (o := .cells #[.string a0_0, .int .i64 a0_1, .int .i64 a0_2, .int .i64 a0_3, .int .i64 a0_4, .int .i64 a0_5, .int .i64 a0_6] 45 (0, 0)) (BK184.out) hb); have n3_ := aK (zB (g := gb185) (o := .cells #[.int .i64 a1_0, .int .i64 a1_1, .int .i64 a1_2, .int .i64 a1_3] 47 (0, 0)) (BK185.out) hb); have n4_ := aK (yT (HB.out) hb); clear BK184; clear BK185; clear HB; have HO193 := n0_; have HO196 := n1_; have BK184 := n2_; have BK185 := n3_; have HB := n4_; clear n0_ n1_ n2_ n3_ n4_; (try clear hb); (try clear ho0); (try clear ho1); have hcz37_0 := zI BK184 0 rfl; have hcz37_1 := zI BK184 1 rfl; have hcz37_2 := zI BK184 2 rfl; have hcz37_3 := zI BK184 3 rfl; have hcz37_4 := zI BK184 4 rfl; have hcz37_5 := zI BK184 5 rfl; have hcz37_6 := zI BK184 6 rfl; have hfz37_0 := zF BK184.out 0; have hfz37_1 := zF BK184.out 1; have hfz37_2 := zF BK184.out 2; have hfz37_3 := zF BK184.out 3; have hfz37_4 := zF BK184.out 4; have hfz37_5 := zF BK184.out 5; have hfz37_6 := zF BK184.out 6; have hcz38_0 := zI BK185 0 rfl; have hcz38_1 := zI BK185 1 rfl; have hcz38_2 := zI BK185 2 rfl; have hcz38_3 := zI BK185 3 rfl; have hfz38_0 := zF BK185.out 0; have hfz38_1 := zF BK185.out 1; have hfz38_2 := zF BK185.out 2; have hfz38_3 := zF BK185.out 3) | ((with_reducible refine gate_callee (f := 22) rfl ?_); refine goesL_ (some 45) rfl rfl Tryz.func22 (by kernel_rfl) rfl #[.agg #[.string a0_0, .int .i64 a0_1, .int .i64 a0_2, .int .i64 a0_3, .int .i64 a0_4, .int .i64 a0_5, .int .i64 a0_6], .agg #[.int .i64 a1_0, .int .i64 a1_1, .int .i64 a1_2, .int .i64 a1_3]] rfl (by (try simp only [List.map_toArray, List.map_cons, List.map_nil]); first | done | rfl | (simp only [List.length_drop, List.length_take]; rfl)) ?_; (with_reducible refine (gangsawref30_Make.calls k a0_0 a0_1 a0_2 a0_3 a0_4 a0_5 a0_6 a1_0 a1_1 a1_2 a1_3 t198 t201 t204 _ HLD.out (HB.out) A15.out).mono ?_); rintro e w39 ⟨v199, v202, rfl, ho0, ho1, hb⟩; refine ⟨_, rfl, ?_⟩; have n0_ := aK (Kd.S_elder' (HO193.out) (Kd.S_base ho0) hb); have n1_ := aK (Kd.R_elder' (HO196.out) (Kd.R_base ho1) hb); have n2_ := aK (Kd.S_lower (Kd.S_new' ho0 (Kd.S_lt (HO193.out))) (yZ (HB.out))); have n3_ := aK (Kd.R_lower (Kd.R_new' ho1 (Kd.R_lt (HO196.out))) (yZ (HB.out))); have n4_ := aK (zB (g := gb184) (o := .cells #[.string a0_0, .int .i64 a0_1, .int .i64 a0_2, .int .i64 a0_3, .int .i64 a0_4, .int .i64 a0_5, .int .i64 a0_6] 45 (0, 0)) (BK184.out) hb); have n5_ := aK (zB (g := gb185) (o := .cells #[.int .i64 a1_0, .int .i64 a1_1, .int .i64 a1_2, .int .i64 a1_3] 47 (0, 0)) (BK185.out) hb); have n6_ := aK (yT (HB.out) hb); clear HO193; clear HO196; clear BK184; clear BK185; clear HB; have HO193 := n0_; have HO196 := n1_; have HO200 := n2_; have HO203 := n3_; have BK184 := n4_; have BK185 := n5_; have HB := n6_; clear n0_ n1_ n2_ n3_ n4_ n5_ n6_; (try clear hb); (try clear ho0); (try clear ho1)))
 have n0_ := aK (Kd.S_drew HO193.out)
 have n1_ := aK (Kd.R_drew HO196.out)
 have n2_ := aK (Kd.S_drew HO200.out)
 have n3_ := aK (Kd.R_drew HO203.out)
 have n4_ := aK (zD BK184.out)
 have n5_ := aK (zD BK185.out)
 have n6_ := aK (yD HB.out)
 clear HO193
 clear HO196
 clear HO200
 clear HO203
 clear BK184
 clear BK185
 clear HB
 have HO193 := n0_
 have HO196 := n1_
 have HO200 := n2_
 have HO203 := n3_
 have BK184 := n4_
 have BK185 := n5_
 have HB := n6_
 clear n0_ n1_ n2_ n3_ n4_ n5_ n6_
 refine start_ (n := 31) (S := fun w' => w'.cell? ⟨gb185, 0, none⟩ = some (.int .i64 a1_0) ∧ w'.cell? ⟨gb185, 1, none⟩ = some (.int .i64 a1_1) ∧ w'.cell? ⟨gb185, 2, none⟩ = some (.int .i64 a1_2) ∧ w'.cell? ⟨gb185, 3, none⟩ = some (.int .i64 a1_3)) (ds := []) #[false, false, false, false, false, false, false, false, false, false, false, false, false, false, false, false, false, false, false, false, false, false, false, false, false, false, false, false, false, false, false] (by kernel_rfl) rfl rfl ⟨(zC BK185.out 0).trans rfl, (zC BK185.out 1).trans rfl, (zC BK185.out 2).trans rfl, (zC BK185.out 3).trans rfl⟩ (fun hHeld => ?_); refine with_tabW gangsawlaw30_SlabMakes.tab9 gangsawlaw30_SlabMakes.bits9 (fun HT_ HW_ => ?_)
 generalize w39.drew = w40 at HO193 HO196 HO200 HO203 BK184 BK185 HB hHeld ⊢
 refine take_ (i := 0) (N := some 49) (v := ?_) (a' := ?_) #[true, false, false, false, false, false, false, false, false, false, false, false, false, false, false, false, false, false, false, false, false, false, false, false, false, false, false, false, false, false, false] rfl rfl (take_ofW HT_.out HW_.out (by kernel_rfl)) (fun _ _ _ h => h) (Or.inl ⟨by rfl, ?_⟩) hHeld ?_ ?_
 rotate_left
 ·rintro w' ⟨s0, s1, s2, s3⟩
  go_simp
  with_reducible rfl
 rotate_left
 ·simp only [Act.put, sA, sZ, sS, i64_w, i32_w]
  rfl
 refine take_ (i := 2) (N := some 51) (v := ?_) (a' := ?_) #[true, false, true, false, false, false, false, false, false, false, false, false, false, false, false, false, false, false, false, false, false, false, false, false, false, false, false, false, false, false, false] rfl rfl (take_ofW HT_.out HW_.out (by kernel_rfl)) (fun _ _ _ h => h) (Or.inl ⟨by rfl, ?_⟩) hHeld ?_ ?_
 rotate_left
 ·rintro w' ⟨s0, s1, s2, s3⟩
  go_simp
  with_reducible rfl
 rotate_left
 ·simp only [Act.put, sA, sZ, sS, i64_w, i32_w]
  rfl
 refine one_ (i := 1) (N := some 50) #[true, true, true, false, false, false, false, false, false, false, false, false, false, false, false, false, false, false, false, false, false, false, false, false, false, false, false, false, false, false, false] rfl rfl (one_of HT_.out (by kernel_rfl)) (by decide) (fun K hK => ?_)
 refine goes_ Tryz.func23 (by kernel_rfl) rfl #[.agg #[.int .i64 a1_0, .int .i64 a1_1, .int .i64 a1_2, .int .i64 a1_3]] (by rfl) rfl rfl (by (try simp only [List.map_toArray, List.map_cons, List.map_nil]); first | done | rfl | (simp only [List.length_drop, List.length_take]; rfl)) ?_
 with_reducible refine (slab_Check.calls a1_0 a1_1 a1_2 a1_3 t205 _ A16.out).mono ?_
 rintro e w41 ⟨rfl, hb⟩
 refine ⟨_, rfl, ?_⟩
 have n0_ := aK (Kd.S_below (HO193.out) hb)
 have n1_ := aK (Kd.R_below (HO196.out) hb)
 have n2_ := aK (Kd.S_below (HO200.out) hb)
 have n3_ := aK (Kd.R_below (HO203.out) hb)
 have n4_ := aK (zB (g := gb184) (o := .cells #[.string a0_0, .int .i64 a0_1, .int .i64 a0_2, .int .i64 a0_3, .int .i64 a0_4, .int .i64 a0_5, .int .i64 a0_6] 45 (0, 0)) (BK184.out) hb)
 have n5_ := aK (zB (g := gb185) (o := .cells #[.int .i64 a1_0, .int .i64 a1_1, .int .i64 a1_2, .int .i64 a1_3] 47 (0, 0)) (BK185.out) hb)
 have n6_ := aK (yT (by repeat (first | (with_reducible first | exact HB.out | apply yA | apply yN | apply yD | refine yS ?_ GE184.out | refine yS ?_ GE185.out) | exact HB.out)) hb)
 clear HO193
 clear HO196
 clear HO200
 clear HO203
 clear BK184
 clear BK185
 clear HB
 have HO193 := n0_
 have HO196 := n1_
 have HO200 := n2_
 have HO203 := n3_
 have BK184 := n4_
 have BK185 := n5_
 have HB := n6_
 clear n0_ n1_ n2_ n3_ n4_ n5_ n6_
 (try clear hb)
 (try clear hb2)
 (try clear hk)
 (try clear hi)
 refine hK.out _ _ ⟨(zC BK185.out 0).trans rfl, (zC BK185.out 1).trans rfl, (zC BK185.out 2).trans rfl, (zC BK185.out 3).trans rfl⟩ (fun hHeld => ?_)
 clear hK K
 refine norm_ (a' := ?_) ?_ ?_
 rotate_left
 ·show Act.put _ (some 50) _ = _
  simp only [Act.put, sA, sZ, sS, i64_w, i32_w]
  rfl
 refine one_ (i := 3) (N := some 52) #[true, true, true, true, false, false, false, false, false, false, false, false, false, false, false, false, false, false, false, false, false, false, false, false, false, false, false, false, false, false, false] rfl rfl (one_of HT_.out (by kernel_rfl)) (by decide) (fun K hK => ?_)
 refine goes_ Tryz.func24 (by kernel_rfl) rfl #[.agg #[.int .i64 a1_0, .int .i64 a1_1, .int .i64 a1_2, .int .i64 a1_3]] (by rfl) rfl rfl (by (try simp only [List.map_toArray, List.map_cons, List.map_nil]); first | done | rfl | (simp only [List.length_drop, List.length_take]; rfl)) ?_
 with_reducible refine (gangsawref30_Check.calls a1_0 a1_1 a1_2 a1_3 t206 _ A17.out).mono ?_
 rintro e w42 ⟨rfl, hb⟩
 refine ⟨_, rfl, ?_⟩
 have n0_ := aK (Kd.S_below (HO193.out) hb)
 have n1_ := aK (Kd.R_below (HO196.out) hb)
 have n2_ := aK (Kd.S_below (HO200.out) hb)
 have n3_ := aK (Kd.R_below (HO203.out) hb)
 have n4_ := aK (zB (g := gb184) (o := .cells #[.string a0_0, .int .i64 a0_1, .int .i64 a0_2, .int .i64 a0_3, .int .i64 a0_4, .int .i64 a0_5, .int .i64 a0_6] 45 (0, 0)) (BK184.out) hb)
 have n5_ := aK (zB (g := gb185) (o := .cells #[.int .i64 a1_0, .int .i64 a1_1, .int .i64 a1_2, .int .i64 a1_3] 47 (0, 0)) (BK185.out) hb)
 have n6_ := aK (yT (by repeat (first | (with_reducible first | exact HB.out | apply yA | apply yN | apply yD | refine yS ?_ GE184.out | refine yS ?_ GE185.out) | exact HB.out)) hb)
 clear HO193
 clear HO196
 clear HO200
 clear HO203
 clear BK184
 clear BK185
 clear HB
 have HO193 := n0_
 have HO196 := n1_
 have HO200 := n2_
 have HO203 := n3_
 have BK184 := n4_
 have BK185 := n5_
 have HB := n6_
 clear n0_ n1_ n2_ n3_ n4_ n5_ n6_
 (try clear hb)
 (try clear hb2)
 (try clear hk)
 (try clear hi)
 obtain ⟨Ao43, co43, eo43⟩ := Kd.S_slice HO193.out
 (first | subst eo43 | (injection eo43 with f1_ f2_ f3_; have f4_ := f1_.symm; have f5_ := f3_.symm; clear f1_ f2_ f3_; subst f4_; subst f5_))
 obtain ⟨Ao44, co44, eo44⟩ := Kd.S_slice HO200.out
 (first | subst eo44 | (injection eo44 with f1_ f2_ f3_; have f4_ := f1_.symm; have f5_ := f3_.symm; clear f1_ f2_ f3_; subst f4_; subst f5_))
 refine hK.out _ _ ⟨(zC BK185.out 0).trans rfl, (zC BK185.out 1).trans rfl, (zC BK185.out 2).trans rfl, (zC BK185.out 3).trans rfl⟩ (fun hHeld => ?_)
 clear hK K
 refine norm_ (a' := ?_) ?_ ?_
 rotate_left
 ·show Act.put _ (some 52) _ = _
  simp only [Act.put, sA, sZ, sS, i64_w, i32_w]
  rfl
 refine pure_ (i := 4) (N := some 53) (v := ?_) (a' := ?_) #[true, true, true, true, true, false, false, false, false, false, false, false, false, false, false, false, false, false, false, false, false, false, false, false, false, false, false, false, false, false, false] rfl rfl (any_of HT_.out (by kernel_rfl)) (fun _ _ _ h => h) (Or.inl ⟨by rfl, ?_⟩) ?_ ?_
 rotate_left
 ·intro w'
  go_simp
  with_reducible rfl
 rotate_left
 ·simp only [Act.put, sA, sZ, sS, i64_w, i32_w]
  rfl
 refine pure_ (i := 5) (N := some 54) (v := ?_) (a' := ?_) #[true, true, true, true, true, true, false, false, false, false, false, false, false, false, false, false, false, false, false, false, false, false, false, false, false, false, false, false, false, false, false] rfl rfl (any_of HT_.out (by kernel_rfl)) (fun _ _ _ h => h) (Or.inl ⟨by rfl, ?_⟩) ?_ ?_
 rotate_left
 ·intro w'
  go_simp
  with_reducible rfl
 rotate_left
 ·simp only [Act.put, sA, sZ, sS, i64_w, i32_w]
  rfl
 refine pure_ (i := 6) (N := some 55) (v := ?_) (a' := ?_) #[true, true, true, true, true, true, true, false, false, false, false, false, false, false, false, false, false, false, false, false, false, false, false, false, false, false, false, false, false, false, false] rfl rfl (any_of HT_.out (by kernel_rfl)) (fun _ _ _ h => h) (Or.inl ⟨by rfl, ?_⟩) ?_ ?_
 rotate_left
 ·intro w'
  go_simp
  with_reducible rfl
 rotate_left
 ·simp only [Act.put, sA, sZ, sS, i64_w, i32_w]
  rfl
 refine pure_ (i := 7) (N := some 56) (v := ?_) (a' := ?_) #[true, true, true, true, true, true, true, true, false, false, false, false, false, false, false, false, false, false, false, false, false, false, false, false, false, false, false, false, false, false, false] rfl rfl (any_of HT_.out (by kernel_rfl)) (fun _ _ _ h => h) (Or.inl ⟨by rfl, ?_⟩) ?_ ?_
 rotate_left
 ·intro w'
  go_simp
  with_reducible rfl
 rotate_left
 ·simp only [Act.put, sA, sZ, sS, i64_w, i32_w]
  rfl
 refine pure_ (i := 8) (N := some 57) (v := ?_) (a' := ?_) #[true, true, true, true, true, true, true, true, true, false, false, false, false, false, false, false, false, false, false, false, false, false, false, false, false, false, false, false, false, false, false] rfl rfl (any_of HT_.out (by kernel_rfl)) (fun _ _ _ h => h) (Or.inl ⟨by rfl, ?_⟩) ?_ ?_
 rotate_left
 ·intro w'
  go_simp
  with_reducible rfl
 rotate_left
 ·simp only [Act.put, sA, sZ, sS, i64_w, i32_w]
  rfl
 refine pure_ (i := 9) (N := some 58) (v := ?_) (a' := ?_) #[true, true, true, true, true, true, true, true, true, true, false, false, false, false, false, false, false, false, false, false, false, false, false, false, false, false, false, false, false, false, false] rfl rfl (any_of HT_.out (by kernel_rfl)) (fun _ _ _ h => h) (Or.inl ⟨by rfl, ?_⟩) ?_ ?_
 rotate_left
 ·intro w'
  go_simp
  with_reducible rfl
 rotate_left
 ·simp only [Act.put, sA, sZ, sS, i64_w, i32_w]
  rfl
 refine pure_ (i := 10) (N := some 59) (v := ?_) (a' := ?_) #[true, true, true, true, true, true, true, true, true, true, true, false, false, false, false, false, false, false, false, false, false, false, false, false, false, false, false, false, false, false, false] rfl rfl (any_of HT_.out (by kernel_rfl)) (fun _ _ _ h => h) (Or.inl ⟨by rfl, ?_⟩) ?_ ?_
 rotate_left
 ·intro w'
  go_simp
  with_reducible rfl
 rotate_left
 ·simp only [Act.put, sA, sZ, sS, i64_w, i32_w]
  rfl
 refine pure_ (i := 11) (N := some 60) (v := ?_) (a' := ?_) #[true, true, true, true, true, true, true, true, true, true, true, true, false, false, false, false, false, false, false, false, false, false, false, false, false, false, false, false, false, false, false] rfl rfl (any_of HT_.out (by kernel_rfl)) (fun _ _ _ h => h) (Or.inl ⟨by rfl, ?_⟩) ?_ ?_
 rotate_left
 ·intro w'
  go_simp
  with_reducible rfl
 rotate_left
 ·simp only [Act.put, sA, sZ, sS, i64_w, i32_w]
  rfl
 refine pure_ (i := 12) (N := some 61) (v := ?_) (a' := ?_) #[true, true, true, true, true, true, true, true, true, true, true, true, true, false, false, false, false, false, false, false, false, false, false, false, false, false, false, false, false, false, false] rfl rfl (any_of HT_.out (by kernel_rfl)) (fun _ _ _ h => h) (Or.inl ⟨by rfl, ?_⟩) ?_ ?_
 rotate_left
 ·intro w'
  go_simp
  with_reducible rfl
 rotate_left
 ·simp only [Act.put, sA, sZ, sS, i64_w, i32_w]
  rfl
 refine pure_ (i := 13) (N := some 62) (v := ?_) (a' := ?_) #[true, true, true, true, true, true, true, true, true, true, true, true, true, true, false, false, false, false, false, false, false, false, false, false, false, false, false, false, false, false, false] rfl rfl (any_of HT_.out (by kernel_rfl)) (fun _ _ _ h => h) (Or.inl ⟨by rfl, ?_⟩) ?_ ?_
 rotate_left
 ·intro w'
  go_simp
  with_reducible rfl
 rotate_left
 ·simp only [Act.put, sA, sZ, sS, i64_w, i32_w]
  rfl
 refine pure_ (i := 14) (N := some 63) (v := ?_) (a' := ?_) #[true, true, true, true, true, true, true, true, true, true, true, true, true, true, true, false, false, false, false, false, false, false, false, false, false, false, false, false, false, false, false] rfl rfl (any_of HT_.out (by kernel_rfl)) (fun _ _ _ h => h) (Or.inl ⟨by rfl, ?_⟩) ?_ ?_
 rotate_left
 ·intro w'
  go_simp
  with_reducible rfl
 rotate_left
 ·simp only [Act.put, sA, sZ, sS, i64_w, i32_w]
  rfl
 refine pure_ (i := 15) (N := some 64) (v := ?_) (a' := ?_) #[true, true, true, true, true, true, true, true, true, true, true, true, true, true, true, true, false, false, false, false, false, false, false, false, false, false, false, false, false, false, false] rfl rfl (any_of HT_.out (by kernel_rfl)) (fun _ _ _ h => h) (Or.inl ⟨by rfl, ?_⟩) ?_ ?_
 rotate_left
 ·intro w'
  go_simp
  with_reducible rfl
 rotate_left
 ·simp only [Act.put, sA, sZ, sS, i64_w, i32_w]
  rfl
 refine pure_ (i := 16) (N := some 65) (v := ?_) (a' := ?_) #[true, true, true, true, true, true, true, true, true, true, true, true, true, true, true, true, true, false, false, false, false, false, false, false, false, false, false, false, false, false, false] rfl rfl (any_of HT_.out (by kernel_rfl)) (fun _ _ _ h => h) (Or.inl ⟨by rfl, ?_⟩) ?_ ?_
 rotate_left
 ·intro w'
  go_simp
  with_reducible rfl
 rotate_left
 ·simp only [Act.put, sA, sZ, sS, i64_w, i32_w]
  rfl
 refine pure_ (i := 17) (N := some 66) (v := ?_) (a' := ?_) #[true, true, true, true, true, true, true, true, true, true, true, true, true, true, true, true, true, true, false, false, false, false, false, false, false, false, false, false, false, false, false] rfl rfl (any_of HT_.out (by kernel_rfl)) (fun _ _ _ h => h) (Or.inl ⟨by rfl, ?_⟩) ?_ ?_
 rotate_left
 ·intro w'
  go_simp
  with_reducible rfl
 rotate_left
 ·simp only [Act.put, sA, sZ, sS, i64_w, i32_w]
  rfl
 refine pure_ (i := 18) (N := some 67) (v := ?_) (a' := ?_) #[true, true, true, true, true, true, true, true, true, true, true, true, true, true, true, true, true, true, true, false, false, false, false, false, false, false, false, false, false, false, false] rfl rfl (any_of HT_.out (by kernel_rfl)) (fun _ _ _ h => h) (Or.inl ⟨by rfl, ?_⟩) ?_ ?_
 rotate_left
 ·intro w'
  go_simp
  with_reducible rfl
 rotate_left
 ·simp only [Act.put, sA, sZ, sS, i64_w, i32_w]
  rfl
 refine pure_ (i := 19) (N := some 68) (v := ?_) (a' := ?_) #[true, true, true, true, true, true, true, true, true, true, true, true, true, true, true, true, true, true, true, true, false, false, false, false, false, false, false, false, false, false, false] rfl rfl (any_of HT_.out (by kernel_rfl)) (fun _ _ _ h => h) (Or.inl ⟨by rfl, ?_⟩) ?_ ?_
 rotate_left
 ·intro w'
  go_simp
  with_reducible rfl
 rotate_left
 ·simp only [Act.put, sA, sZ, sS, i64_w, i32_w]
  rfl
 refine pure_ (i := 20) (N := some 69) (v := ?_) (a' := ?_) #[true, true, true, true, true, true, true, true, true, true, true, true, true, true, true, true, true, true, true, true, true, false, false, false, false, false, false, false, false, false, false] rfl rfl (any_of HT_.out (by kernel_rfl)) (fun _ _ _ h => h) (Or.inl ⟨by rfl, ?_⟩) ?_ ?_
 rotate_left
 ·intro w'
  go_simp
  with_reducible rfl
 rotate_left
 ·simp only [Act.put, sA, sZ, sS, i64_w, i32_w]
  rfl
 refine pure_ (i := 21) (N := some 70) (v := ?_) (a' := ?_) #[true, true, true, true, true, true, true, true, true, true, true, true, true, true, true, true, true, true, true, true, true, true, false, false, false, false, false, false, false, false, false] rfl rfl (any_of HT_.out (by kernel_rfl)) (fun _ _ _ h => h) (Or.inl ⟨by rfl, ?_⟩) ?_ ?_
 rotate_left
 ·intro w'
  go_simp
  with_reducible rfl
 rotate_left
 ·simp only [Act.put, sA, sZ, sS, i64_w, i32_w]
  rfl
 refine pure_ (i := 22) (N := some 71) (v := ?_) (a' := ?_) #[true, true, true, true, true, true, true, true, true, true, true, true, true, true, true, true, true, true, true, true, true, true, true, false, false, false, false, false, false, false, false] rfl rfl (any_of HT_.out (by kernel_rfl)) (fun _ _ _ h => h) (Or.inl ⟨by rfl, ?_⟩) ?_ ?_
 rotate_left
 ·intro w'
  go_simp
  with_reducible rfl
 rotate_left
 ·simp only [Act.put, sA, sZ, sS, i64_w, i32_w]
  rfl
 refine one_ (i := 23) (N := some 72) #[true, true, true, true, true, true, true, true, true, true, true, true, true, true, true, true, true, true, true, true, true, true, true, true, false, false, false, false, false, false, false] rfl rfl (one_of HT_.out (by kernel_rfl)) (by decide) (fun K hK => ?_)
 refine goes_ Tryz.func25 (by kernel_rfl) rfl #[.slice Ao43 t191.length co43, .slice Ao44 t198.length co44] (by rfl) rfl rfl (by (try simp only [List.map_toArray, List.map_cons, List.map_nil]); first | done | rfl | (simp only [List.length_drop, List.length_take]; rfl)) ?_
 with_reducible refine (gangsawref30_Same.calls k _ _ t191 _ _ t198 true _ ?side1 ?side2 ?side3 ?side4 A22.out).mono ?_
 (case side1 => repeat (first | exact (Kd.S_reads' HO193.out).2.2 | (with_reducible refine Kd.C_alloc ?_ _) | (with_reducible refine Kd.C_drewN ?_ _) | (with_reducible refine Kd.C_drew ?_)))
 (case side2 => exact (Kd.S_reads' HO193.out).2.1)
 (case side3 => repeat (first | exact (Kd.S_reads' HO200.out).2.2 | (with_reducible refine Kd.C_alloc ?_ _) | (with_reducible refine Kd.C_drewN ?_ _) | (with_reducible refine Kd.C_drew ?_)))
 (case side4 => exact (Kd.S_reads' HO200.out).2.1)
 rintro e w45 ⟨rfl, hb⟩
 refine ⟨_, rfl, ?_⟩
 have n0_ := aK (Kd.S_below (HO193.out) hb)
 have n1_ := aK (Kd.R_below (HO196.out) hb)
 have n2_ := aK (Kd.S_below (HO200.out) hb)
 have n3_ := aK (Kd.R_below (HO203.out) hb)
 have n4_ := aK (zB (g := gb184) (o := .cells #[.string a0_0, .int .i64 a0_1, .int .i64 a0_2, .int .i64 a0_3, .int .i64 a0_4, .int .i64 a0_5, .int .i64 a0_6] 45 (0, 0)) (BK184.out) hb)
 have n5_ := aK (zB (g := gb185) (o := .cells #[.int .i64 a1_0, .int .i64 a1_1, .int .i64 a1_2, .int .i64 a1_3] 47 (0, 0)) (BK185.out) hb)
 have n6_ := aK (yT (by repeat (first | (with_reducible first | exact HB.out | apply yA | apply yN | apply yD | refine yS ?_ GE184.out | refine yS ?_ GE185.out) | exact HB.out)) hb)
 clear HO193
 clear HO196
 clear HO200
 clear HO203
 clear BK184
 clear BK185
 clear HB
 have HO193 := n0_
 have HO196 := n1_
 have HO200 := n2_
 have HO203 := n3_
 have BK184 := n4_
 have BK185 := n5_
 have HB := n6_
 clear n0_ n1_ n2_ n3_ n4_ n5_ n6_
 (try clear hb)
 (try clear hb2)
 (try clear hk)
 (try clear hi)
 obtain ⟨Ao46, co46, eo46⟩ := Kd.R_slice HO196.out
 (first | subst eo46 | (injection eo46 with f1_ f2_ f3_; have f4_ := f1_.symm; have f5_ := f3_.symm; clear f1_ f2_ f3_; subst f4_; subst f5_))
 obtain ⟨Ao47, co47, eo47⟩ := Kd.R_slice HO203.out
 (first | subst eo47 | (injection eo47 with f1_ f2_ f3_; have f4_ := f1_.symm; have f5_ := f3_.symm; clear f1_ f2_ f3_; subst f4_; subst f5_))
 refine hK.out _ _ ⟨(zC BK185.out 0).trans rfl, (zC BK185.out 1).trans rfl, (zC BK185.out 2).trans rfl, (zC BK185.out 3).trans rfl⟩ (fun hHeld => ?_)
 clear hK K
 refine norm_ (a' := ?_) ?_ ?_
 rotate_left
 ·show Act.put _ (some 72) _ = _
  simp only [Act.put, sA, sZ, sS, i64_w, i32_w]
  rfl
 refine pure_ (i := 24) (N := some 73) (v := ?_) (a' := ?_) #[true, true, true, true, true, true, true, true, true, true, true, true, true, true, true, true, true, true, true, true, true, true, true, true, true, false, false, false, false, false, false] rfl rfl (any_of HT_.out (by kernel_rfl)) (fun _ _ _ h => h) (Or.inl ⟨by rfl, ?_⟩) ?_ ?_
 rotate_left
 ·intro w'
  go_simp
  with_reducible rfl
 rotate_left
 ·simp only [Act.put, sA, sZ, sS, i64_w, i32_w]
  rfl
 refine pure_ (i := 25) (N := some 74) (v := ?_) (a' := ?_) #[true, true, true, true, true, true, true, true, true, true, true, true, true, true, true, true, true, true, true, true, true, true, true, true, true, true, false, false, false, false, false] rfl rfl (any_of HT_.out (by kernel_rfl)) (fun _ _ _ h => h) (Or.inl ⟨by rfl, ?_⟩) ?_ ?_
 rotate_left
 ·intro w'
  go_simp
  with_reducible rfl
 rotate_left
 ·simp only [Act.put, sA, sZ, sS, i64_w, i32_w]
  rfl
 refine pure_ (i := 26) (N := some 75) (v := ?_) (a' := ?_) #[true, true, true, true, true, true, true, true, true, true, true, true, true, true, true, true, true, true, true, true, true, true, true, true, true, true, true, false, false, false, false] rfl rfl (any_of HT_.out (by kernel_rfl)) (fun _ _ _ h => h) (Or.inl ⟨by rfl, ?_⟩) ?_ ?_
 rotate_left
 ·intro w'
  go_simp
  with_reducible rfl
 rotate_left
 ·simp only [Act.put, sA, sZ, sS, i64_w, i32_w]
  rfl
 refine pure_ (i := 27) (N := some 76) (v := ?_) (a' := ?_) #[true, true, true, true, true, true, true, true, true, true, true, true, true, true, true, true, true, true, true, true, true, true, true, true, true, true, true, true, false, false, false] rfl rfl (any_of HT_.out (by kernel_rfl)) (fun _ _ _ h => h) (Or.inl ⟨by rfl, ?_⟩) ?_ ?_
 rotate_left
 ·intro w'
  go_simp
  with_reducible rfl
 rotate_left
 ·simp only [Act.put, sA, sZ, sS, i64_w, i32_w]
  rfl
 refine one_ (i := 28) (N := some 77) #[true, true, true, true, true, true, true, true, true, true, true, true, true, true, true, true, true, true, true, true, true, true, true, true, true, true, true, true, true, false, false] rfl rfl (one_of HT_.out (by kernel_rfl)) (by decide) (fun K hK => ?_)
 refine goes_ Tryz.func26 (by kernel_rfl) rfl #[.slice Ao46 t194.length co46, .slice Ao47 t201.length co47] (by rfl) rfl rfl (by (try simp only [List.map_toArray, List.map_cons, List.map_nil]); first | done | rfl | (simp only [List.length_drop, List.length_take]; rfl)) ?_
 with_reducible refine (gangsawref06_Same.calls k _ _ t194 _ _ t201 t208 _ ?side1 ?side2 ?side3 ?side4 A24.out).mono ?_
 (case side1 => repeat (first | exact (Kd.R_reads' HO196.out).2.2 | (with_reducible refine Kd.C_alloc ?_ _) | (with_reducible refine Kd.C_drewN ?_ _) | (with_reducible refine Kd.C_drew ?_)))
 (case side2 => exact (Kd.R_reads' HO196.out).2.1)
 (case side3 => repeat (first | exact (Kd.R_reads' HO203.out).2.2 | (with_reducible refine Kd.C_alloc ?_ _) | (with_reducible refine Kd.C_drewN ?_ _) | (with_reducible refine Kd.C_drew ?_)))
 (case side4 => exact (Kd.R_reads' HO203.out).2.1)
 rintro e w' ⟨rfl, ⟨nd, rfl⟩⟩
 refine ⟨_, rfl, ?_⟩
 refine hK.out _ _ ⟨(zC BK185.out 0).trans rfl, (zC BK185.out 1).trans rfl, (zC BK185.out 2).trans rfl, (zC BK185.out 3).trans rfl⟩ (fun hHeld => ?_)
 clear hK K
 refine norm_ (a' := ?_) ?_ ?_
 rotate_left
 ·show Act.put _ (some 77) _ = _
  simp only [Act.put, sA, sZ, sS, i64_w, i32_w]
  rfl
 refine pure_ (i := 29) (N := some 78) (v := ?_) (a' := ?_) #[true, true, true, true, true, true, true, true, true, true, true, true, true, true, true, true, true, true, true, true, true, true, true, true, true, true, true, true, true, true, false] rfl rfl (any_of HT_.out (by kernel_rfl)) (fun _ _ _ h => h) (Or.inl ⟨by rfl, ?_⟩) ?_ ?_
 rotate_left
 ·intro w'
  go_simp
  with_reducible rfl
 rotate_left
 ·simp only [Act.put, sA, sZ, sS, i64_w, i32_w]
  rfl
 refine pure_ (i := 30) (N := some 6) (v := ?_) (a' := ?_) #[true, true, true, true, true, true, true, true, true, true, true, true, true, true, true, true, true, true, true, true, true, true, true, true, true, true, true, true, true, true, true] rfl rfl (any_of HT_.out (by kernel_rfl)) (fun _ _ _ h => h) (Or.inl ⟨by rfl, ?_⟩) ?_ ?_
 rotate_left
 ·intro w'
  go_simp
  with_reducible rfl
 rotate_left
 ·simp only [Act.put, sA, sZ, sS, i64_w, i32_w]
  rfl
 refine done_ (done_of HT_.out (by kernel_rfl)) ?_
 try go_wp2
 go_ret
 exact ⟨by first | rfl | (simp [errW_none, errW_some] <;> rfl) | (simp [*, errW_none, errW_some] <;> rfl), by repeat (first | (with_reducible first | exact HB.out | apply yA | apply yN | apply yD | refine yS ?_ GE184.out | refine yS ?_ GE185.out) | exact HB.out)⟩

end Go.Proofs.YtnaahepnabmibaaGreatDoor.P
