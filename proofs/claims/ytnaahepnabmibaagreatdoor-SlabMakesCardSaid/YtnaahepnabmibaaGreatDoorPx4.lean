/- What functions of the program return: each contract says so of one function, for every input at which its pure function yields. -/
import Derived.Test.YtnaahepnabmibaaGreatDoorPx0
import Derived.Test.YtnaahepnabmibaaGreatDoorAwk
import Derived.Test.YtnaahepnabmibaaGreatDoorPx2
import Derived.Test.YtnaahepnabmibaaGreatDoorItoa
import Derived.Test.YtnaahepnabmibaaGreatDoorLex
import Derived.Test.YtnaahepnabmibaaGreatDoorSide
import Derived.Test.YtnaahepnabmibaaGreatDoorSym
namespace Go.Proofs.YtnaahepnabmibaaGreatDoor.P
open Go.Proofs.YtnaahepnabmibaaGreatDoor.Awk Go.RowKit Go.Proofs.YtnaahepnabmibaaGreatDoorW.PrintWords Go.Proofs.YtnaahepnabmibaaGreatDoorW.PrintLast Go.Proofs.YtnaahepnabmibaaGreatDoorW.PrintMore
attribute [local go_sem] max2_int min2_int max_two min_two max_three min_three max_four min_four   -- for this text's walks alone
set_option linter.unusedVariables false
set_option linter.unusedSimpArgs false

open Go.Proofs.YtnaahepnabmibaaGreatDoor.Itoa Go.Proofs.YtnaahepnabmibaaGreatDoor.Lex Go.Proofs.YtnaahepnabmibaaGreatDoor.Side Go.Proofs.YtnaahepnabmibaaGreatDoor.Sym
mutual
def slab_Make.j0 : Nat → Int → Int → ByteArray → Int → Int → Int → Int → Int → Int → Int → Int → Int → Int → Option ((List (S35)) × (List (S32)) × Int)
 | 0, _, _, _, _, _, _, _, _, _, _, _, _, _ => none
 | k + 1, x9, x10, x113000, x113001, x113002, x113003, x113004, x113005, x113006, x114000, x114001, x114002, x114003 => (slab_Count.f x114000 x114001 x114002 x114003 (wrap64 (x10 - x9))).bind fun bt117 => (if x113000.size + 1 ≤ 9223372036854775807 then ((strconv_Itoa.f (wrap64 ((wrap64 (x114003 + bt117.1)) - 1))).bind fun t119 => (if (x113000 ++ (⟨#[95]⟩ : ByteArray)).size + t119.size ≤ 9223372036854775807 then (slab_Make.j1 k x9 bt117.1 ((x113000 ++ (⟨#[95]⟩ : ByteArray)) ++ t119) x113000 x113001 x113002 x113003 x113004 x113005 x113006 x114000 x114001 x114002 x114003) else (none))) else (none))
def slab_Make.j1 : Nat → Int → Int → ByteArray → ByteArray → Int → Int → Int → Int → Int → Int → Int → Int → Int → Int → Option ((List (S35)) × (List (S32)) × Int)
 | 0, _, _, _, _, _, _, _, _, _, _, _, _, _, _ => none
 | k + 1, x9, x11, x13, x113000, x113001, x113002, x113003, x113004, x113005, x113006, x114000, x114001, x114002, x114003 => if x11 = 0 then (some (([] : List (S35)), ([] : List (S32)), 9)) else (if x11 > 256 then (some (([] : List (S35)), ([] : List (S32)), 7)) else (if (wrap64 ((wrap64 (x114003 + x11)) - 1)) > 1000000 then (some (([] : List (S35)), ([] : List (S32)), 6)) else ((lexer_Name.f x13).bind fun t120 => (if t120 = true then (slab_Make.l0 k x9 x11 ([] : List (S35)) x11 0 x113000 x113001 x113002 x113003 x113004 x113005 x113006 x114000 x114001 x114002 x114003) else (some (([] : List (S35)), ([] : List (S32)), 4))))))
def slab_Make.l0 : Nat → Int → Int → List (S35) → Int → Int → ByteArray → Int → Int → Int → Int → Int → Int → Int → Int → Int → Int → Option ((List (S35)) × (List (S32)) × Int)
 | 0, _, _, _, _, _, _, _, _, _, _, _, _, _, _, _, _ => none
 | k + 1, x9, x11, x14, x83, x84, x113000, x113001, x113002, x113003, x113004, x113005, x113006, x114000, x114001, x114002, x114003 => if x84 < x83 then (if x113000.size + 1 ≤ 9223372036854775807 then ((strconv_Itoa.f (wrap64 (x114003 + x84))).bind fun t121 => (if (x113000 ++ (⟨#[95]⟩ : ByteArray)).size + t121.size ≤ 9223372036854775807 then (if x114000 = 0 then (slab_Make.j3 k x9 x11 x14 x83 x84 x113000 x113001 x113002 x113003 x113004 x113005 x113006 x114000 x114001 x114002 x114003 ((x113000 ++ (⟨#[95]⟩ : ByteArray)) ++ t121) x113000 (wrap64 (x114003 + x84)) (wrap64 (x9 + (wrap64 (x84 * (wrap64 (x114001 + x114002)))))) x113002 x113003 (wrap64 ((wrap64 (x9 + (wrap64 (x84 * (wrap64 (x114001 + x114002)))))) + x114001)) x113005 x113006 0) else (if x114000 = 1 then (slab_Make.j3 k x9 x11 x14 x83 x84 x113000 x113001 x113002 x113003 x113004 x113005 x113006 x114000 x114001 x114002 x114003 ((x113000 ++ (⟨#[95]⟩ : ByteArray)) ++ t121) x113000 (wrap64 (x114003 + x84)) x113001 (wrap64 (x9 + (wrap64 (x84 * (wrap64 (x114001 + x114002)))))) x113003 x113004 (wrap64 ((wrap64 (x9 + (wrap64 (x84 * (wrap64 (x114001 + x114002)))))) + x114001)) x113006 0) else (if x114000 = 2 then (slab_Make.j3 k x9 x11 x14 x83 x84 x113000 x113001 x113002 x113003 x113004 x113005 x113006 x114000 x114001 x114002 x114003 ((x113000 ++ (⟨#[95]⟩ : ByteArray)) ++ t121) x113000 (wrap64 (x114003 + x84)) x113001 x113002 (wrap64 (x9 + (wrap64 (x84 * (wrap64 (x114001 + x114002)))))) x113004 x113005 (wrap64 ((wrap64 (x9 + (wrap64 (x84 * (wrap64 (x114001 + x114002)))))) + x114001)) 0) else (none)))) else (none))) else (none)) else (if x114000 = 0 then (slab_Make.j4 k x14 (wrap64 (x9 + (wrap64 (x11 * (wrap64 (x114001 + x114002)))))) x113002 x113003 x113004 x113005 x113006) else (if x114000 = 1 then (slab_Make.j4 k x14 x113001 (wrap64 (x9 + (wrap64 (x11 * (wrap64 (x114001 + x114002)))))) x113003 x113004 x113005 x113006) else (if x114000 = 2 then (slab_Make.j4 k x14 x113001 x113002 (wrap64 (x9 + (wrap64 (x11 * (wrap64 (x114001 + x114002)))))) x113004 x113005 x113006) else (none))))
def slab_Make.j3 : Nat → Int → Int → List (S35) → Int → Int → ByteArray → Int → Int → Int → Int → Int → Int → Int → Int → Int → Int → ByteArray → ByteArray → Int → Int → Int → Int → Int → Int → Int → Int → Option ((List (S35)) × (List (S32)) × Int)
 | 0, _, _, _, _, _, _, _, _, _, _, _, _, _, _, _, _, _, _, _, _, _, _, _, _, _, _ => none
 | k + 1, x9, x11, x14, x83, x84, x113000, x113001, x113002, x113003, x113004, x113005, x113006, x114000, x114001, x114002, x114003, x123000, x123001, x123002, x123003, x123004, x123005, x123006, x123007, x123008, x123009 => if x14.length < 977343669134 then (slab_Make.l0 k x9 x11 (x14 ++ [(⟨x123000, x123001, x123002, (⟨(⟨x123003, x123004, x123005⟩ : S30), (⟨x123006, x123007, x123008⟩ : S30)⟩ : S32), x123009, ([] : List Int), ([] : List Int)⟩ : S35)]) x83 (wrap64 (x84 + 1)) x113000 x113001 x113002 x113003 x113004 x113005 x113006 x114000 x114001 x114002 x114003) else (none)
def slab_Make.j4 : Nat → List (S35) → Int → Int → Int → Int → Int → Int → Option ((List (S35)) × (List (S32)) × Int)
 | 0, _, _, _, _, _, _, _ => none
 | k + 1, x14, x127000, x127001, x127002, x127003, x127004, x127005 => (box_Check.f x127000 x127001 x127002 x127003 x127004 x127005).bind fun t127 => (if t127 = 0 then (some (x14, (([(⟨(⟨x127000, x127001, x127002⟩ : S30), (⟨x127003, x127004, x127005⟩ : S30)⟩ : S32)] : List (S32))), 0)) else (some (x14, ([] : List (S32)), 0)))
end
def slab_Make.f (k : Nat) (a0_0 : ByteArray) (a0_1 : Int) (a0_2 : Int) (a0_3 : Int) (a0_4 : Int) (a0_5 : Int) (a0_6 : Int) (a1_0 : Int) (a1_1 : Int) (a1_2 : Int) (a1_3 : Int) : Option ((List (S35)) × (List (S32)) × Int) := (slab_Check.f a1_0 a1_1 a1_2 a1_3).bind fun t114 => (if t114 = 0 then ((lexer_Name.f a0_0).bind fun t115 => (if t115 = true then ((box_Check.f a0_1 a0_2 a0_3 a0_4 a0_5 a0_6).bind fun t116 => (if t116 = 0 then (if a1_0 = 0 then (slab_Make.j0 k a0_1 a0_4 a0_0 a0_1 a0_2 a0_3 a0_4 a0_5 a0_6 a1_0 a1_1 a1_2 a1_3) else (if a1_0 = 1 then (slab_Make.j0 k a0_2 a0_5 a0_0 a0_1 a0_2 a0_3 a0_4 a0_5 a0_6 a1_0 a1_1 a1_2 a1_3) else (if a1_0 = 2 then (slab_Make.j0 k a0_3 a0_6 a0_0 a0_1 a0_2 a0_3 a0_4 a0_5 a0_6 a1_0 a1_1 a1_2 a1_3) else (none)))) else (some (([] : List (S35)), ([] : List (S32)), t116)))) else (some (([] : List (S35)), ([] : List (S32)), 4)))) else (some (([] : List (S35)), ([] : List (S32)), t114)))
theorem slab_Make.mono_l : ∀ k, (∀ y0 y1 y2 y3 y4 y5 y6 y7 y8 y9 y10 y11 y12, LeO (slab_Make.j0 k y0 y1 y2 y3 y4 y5 y6 y7 y8 y9 y10 y11 y12) (slab_Make.j0 (k + 1) y0 y1 y2 y3 y4 y5 y6 y7 y8 y9 y10 y11 y12)) ∧ (∀ y0 y1 y2 y3 y4 y5 y6 y7 y8 y9 y10 y11 y12 y13, LeO (slab_Make.j1 k y0 y1 y2 y3 y4 y5 y6 y7 y8 y9 y10 y11 y12 y13) (slab_Make.j1 (k + 1) y0 y1 y2 y3 y4 y5 y6 y7 y8 y9 y10 y11 y12 y13)) ∧ (∀ y0 y1 y2 y3 y4 y5 y6 y7 y8 y9 y10 y11 y12 y13 y14 y15, LeO (slab_Make.l0 k y0 y1 y2 y3 y4 y5 y6 y7 y8 y9 y10 y11 y12 y13 y14 y15) (slab_Make.l0 (k + 1) y0 y1 y2 y3 y4 y5 y6 y7 y8 y9 y10 y11 y12 y13 y14 y15)) ∧ (∀ y0 y1 y2 y3 y4 y5 y6 y7 y8 y9 y10 y11 y12 y13 y14 y15 y16 y17 y18 y19 y20 y21 y22 y23 y24 y25, LeO (slab_Make.j3 k y0 y1 y2 y3 y4 y5 y6 y7 y8 y9 y10 y11 y12 y13 y14 y15 y16 y17 y18 y19 y20 y21 y22 y23 y24 y25) (slab_Make.j3 (k + 1) y0 y1 y2 y3 y4 y5 y6 y7 y8 y9 y10 y11 y12 y13 y14 y15 y16 y17 y18 y19 y20 y21 y22 y23 y24 y25)) ∧ (∀ y0 y1 y2 y3 y4 y5 y6, LeO (slab_Make.j4 k y0 y1 y2 y3 y4 y5 y6) (slab_Make.j4 (k + 1) y0 y1 y2 y3 y4 y5 y6))
 | 0 => ⟨fun _ _ _ _ _ _ _ _ _ _ _ _ _ r h => by simp [slab_Make.j0] at h, fun _ _ _ _ _ _ _ _ _ _ _ _ _ _ r h => by simp [slab_Make.j1] at h, fun _ _ _ _ _ _ _ _ _ _ _ _ _ _ _ _ r h => by simp [slab_Make.l0] at h, fun _ _ _ _ _ _ _ _ _ _ _ _ _ _ _ _ _ _ _ _ _ _ _ _ _ _ r h => by simp [slab_Make.j3] at h, fun _ _ _ _ _ _ _ r h => by simp [slab_Make.j4] at h⟩
 | k + 1 => by
  obtain ⟨ih0, ih1, ih2, ih3, ih4⟩ := slab_Make.mono_l k
  refine ⟨?_, ?_, ?_, ?_, ?_⟩
  ·intro y0 y1 y2 y3 y4 y5 y6 y7 y8 y9 y10 y11 y12
   unfold slab_Make.j0
   repeat' first
   | (with_reducible exact ih0 _ _ _ _ _ _ _ _ _ _ _ _ _)
   | (with_reducible exact ih1 _ _ _ _ _ _ _ _ _ _ _ _ _ _)
   | (with_reducible exact ih2 _ _ _ _ _ _ _ _ _ _ _ _ _ _ _ _)
   | (with_reducible exact ih3 _ _ _ _ _ _ _ _ _ _ _ _ _ _ _ _ _ _ _ _ _ _ _ _ _ _)
   | (with_reducible exact ih4 _ _ _ _ _ _ _)
   | (with_reducible exact LeO.refl _)
   | (with_reducible exact LeO.none _)
   | (with_reducible refine LeO.ite ?_ ?_)
   | (with_reducible refine LeO.bind ?_ (fun _ => ?_))
   | exact ih0 _ _ _ _ _ _ _ _ _ _ _ _ _
   | exact ih1 _ _ _ _ _ _ _ _ _ _ _ _ _ _
   | exact ih2 _ _ _ _ _ _ _ _ _ _ _ _ _ _ _ _
   | exact ih3 _ _ _ _ _ _ _ _ _ _ _ _ _ _ _ _ _ _ _ _ _ _ _ _ _ _
   | exact ih4 _ _ _ _ _ _ _
   | exact LeO.none _
   | refine LeO.ite ?_ ?_
   | refine LeO.bind ?_ (fun _ => ?_)
  ·intro y0 y1 y2 y3 y4 y5 y6 y7 y8 y9 y10 y11 y12 y13
   unfold slab_Make.j1
   repeat' first
   | (with_reducible exact ih0 _ _ _ _ _ _ _ _ _ _ _ _ _)
   | (with_reducible exact ih1 _ _ _ _ _ _ _ _ _ _ _ _ _ _)
   | (with_reducible exact ih2 _ _ _ _ _ _ _ _ _ _ _ _ _ _ _ _)
   | (with_reducible exact ih3 _ _ _ _ _ _ _ _ _ _ _ _ _ _ _ _ _ _ _ _ _ _ _ _ _ _)
   | (with_reducible exact ih4 _ _ _ _ _ _ _)
   | (with_reducible exact LeO.refl _)
   | (with_reducible exact LeO.none _)
   | (with_reducible refine LeO.ite ?_ ?_)
   | (with_reducible refine LeO.bind ?_ (fun _ => ?_))
   | exact ih0 _ _ _ _ _ _ _ _ _ _ _ _ _
   | exact ih1 _ _ _ _ _ _ _ _ _ _ _ _ _ _
   | exact ih2 _ _ _ _ _ _ _ _ _ _ _ _ _ _ _ _
   | exact ih3 _ _ _ _ _ _ _ _ _ _ _ _ _ _ _ _ _ _ _ _ _ _ _ _ _ _
   | exact ih4 _ _ _ _ _ _ _
   | exact LeO.none _
   | refine LeO.ite ?_ ?_
   | refine LeO.bind ?_ (fun _ => ?_)
  ·intro y0 y1 y2 y3 y4 y5 y6 y7 y8 y9 y10 y11 y12 y13 y14 y15
   unfold slab_Make.l0
   repeat' first
   | (with_reducible exact ih0 _ _ _ _ _ _ _ _ _ _ _ _ _)
   | (with_reducible exact ih1 _ _ _ _ _ _ _ _ _ _ _ _ _ _)
   | (with_reducible exact ih2 _ _ _ _ _ _ _ _ _ _ _ _ _ _ _ _)
   | (with_reducible exact ih3 _ _ _ _ _ _ _ _ _ _ _ _ _ _ _ _ _ _ _ _ _ _ _ _ _ _)
   | (with_reducible exact ih4 _ _ _ _ _ _ _)
   | (with_reducible exact LeO.refl _)
   | (with_reducible exact LeO.none _)
   | (with_reducible refine LeO.ite ?_ ?_)
   | (with_reducible refine LeO.bind ?_ (fun _ => ?_))
   | exact ih0 _ _ _ _ _ _ _ _ _ _ _ _ _
   | exact ih1 _ _ _ _ _ _ _ _ _ _ _ _ _ _
   | exact ih2 _ _ _ _ _ _ _ _ _ _ _ _ _ _ _ _
   | exact ih3 _ _ _ _ _ _ _ _ _ _ _ _ _ _ _ _ _ _ _ _ _ _ _ _ _ _
   | exact ih4 _ _ _ _ _ _ _
   | exact LeO.none _
   | refine LeO.ite ?_ ?_
   | refine LeO.bind ?_ (fun _ => ?_)
  ·intro y0 y1 y2 y3 y4 y5 y6 y7 y8 y9 y10 y11 y12 y13 y14 y15 y16 y17 y18 y19 y20 y21 y22 y23 y24 y25
   unfold slab_Make.j3
   repeat' first
   | (with_reducible exact ih0 _ _ _ _ _ _ _ _ _ _ _ _ _)
   | (with_reducible exact ih1 _ _ _ _ _ _ _ _ _ _ _ _ _ _)
   | (with_reducible exact ih2 _ _ _ _ _ _ _ _ _ _ _ _ _ _ _ _)
   | (with_reducible exact ih3 _ _ _ _ _ _ _ _ _ _ _ _ _ _ _ _ _ _ _ _ _ _ _ _ _ _)
   | (with_reducible exact ih4 _ _ _ _ _ _ _)
   | (with_reducible exact LeO.refl _)
   | (with_reducible exact LeO.none _)
   | (with_reducible refine LeO.ite ?_ ?_)
   | (with_reducible refine LeO.bind ?_ (fun _ => ?_))
   | exact ih0 _ _ _ _ _ _ _ _ _ _ _ _ _
   | exact ih1 _ _ _ _ _ _ _ _ _ _ _ _ _ _
   | exact ih2 _ _ _ _ _ _ _ _ _ _ _ _ _ _ _ _
   | exact ih3 _ _ _ _ _ _ _ _ _ _ _ _ _ _ _ _ _ _ _ _ _ _ _ _ _ _
   | exact ih4 _ _ _ _ _ _ _
   | exact LeO.none _
   | refine LeO.ite ?_ ?_
   | refine LeO.bind ?_ (fun _ => ?_)
  ·intro y0 y1 y2 y3 y4 y5 y6
   unfold slab_Make.j4
   repeat' first
   | (with_reducible exact ih0 _ _ _ _ _ _ _ _ _ _ _ _ _)
   | (with_reducible exact ih1 _ _ _ _ _ _ _ _ _ _ _ _ _ _)
   | (with_reducible exact ih2 _ _ _ _ _ _ _ _ _ _ _ _ _ _ _ _)
   | (with_reducible exact ih3 _ _ _ _ _ _ _ _ _ _ _ _ _ _ _ _ _ _ _ _ _ _ _ _ _ _)
   | (with_reducible exact ih4 _ _ _ _ _ _ _)
   | (with_reducible exact LeO.refl _)
   | (with_reducible exact LeO.none _)
   | (with_reducible refine LeO.ite ?_ ?_)
   | (with_reducible refine LeO.bind ?_ (fun _ => ?_))
   | exact ih0 _ _ _ _ _ _ _ _ _ _ _ _ _
   | exact ih1 _ _ _ _ _ _ _ _ _ _ _ _ _ _
   | exact ih2 _ _ _ _ _ _ _ _ _ _ _ _ _ _ _ _
   | exact ih3 _ _ _ _ _ _ _ _ _ _ _ _ _ _ _ _ _ _ _ _ _ _ _ _ _ _
   | exact ih4 _ _ _ _ _ _ _
   | exact LeO.none _
   | refine LeO.ite ?_ ?_
   | refine LeO.bind ?_ (fun _ => ?_)
theorem slab_Make.mono : ∀ a0 a1 a2 a3 a4 a5 a6 a7 a8 a9 a10 k, LeO (slab_Make.f k a0 a1 a2 a3 a4 a5 a6 a7 a8 a9 a10) (slab_Make.f (k + 1) a0 a1 a2 a3 a4 a5 a6 a7 a8 a9 a10) := by
 intro a0 a1 a2 a3 a4 a5 a6 a7 a8 a9 a10 k
 obtain ⟨ih0, ih1, ih2, ih3, ih4⟩ := slab_Make.mono_l k
 unfold slab_Make.f
 repeat' first
   | (with_reducible exact ih0 _ _ _ _ _ _ _ _ _ _ _ _ _)
   | (with_reducible exact ih1 _ _ _ _ _ _ _ _ _ _ _ _ _ _)
   | (with_reducible exact ih2 _ _ _ _ _ _ _ _ _ _ _ _ _ _ _ _)
   | (with_reducible exact ih3 _ _ _ _ _ _ _ _ _ _ _ _ _ _ _ _ _ _ _ _ _ _ _ _ _ _)
   | (with_reducible exact ih4 _ _ _ _ _ _ _)
   | (with_reducible exact LeO.refl _)
   | (with_reducible exact LeO.none _)
   | (with_reducible refine LeO.ite ?_ ?_)
   | (with_reducible refine LeO.bind ?_ (fun _ => ?_))
   | exact ih0 _ _ _ _ _ _ _ _ _ _ _ _ _
   | exact ih1 _ _ _ _ _ _ _ _ _ _ _ _ _ _
   | exact ih2 _ _ _ _ _ _ _ _ _ _ _ _ _ _ _ _
   | exact ih3 _ _ _ _ _ _ _ _ _ _ _ _ _ _ _ _ _ _ _ _ _ _ _ _ _ _
   | exact ih4 _ _ _ _ _ _ _
   | exact LeO.none _
   | refine LeO.ite ?_ ?_
   | refine LeO.bind ?_ (fun _ => ?_)
def slab_Make.T9 : Bool × List (List Nat × List Nat) := (true, [([], []), ([0], [0]), ([], []), ([2], [2]), ([1, 3], [1, 3]), ([4], [4]), ([5], [5]), ([], []), ([7], [7]), ([], []), ([9], [9]), ([8, 10, 4], [8, 10]), ([11], [11]), ([12], [12]), ([6, 11, 0, 1, 2, 3, 4, 5, 6], [6]), ([13, 14, 0, 1, 2, 3, 4, 5, 6, 7, 8, 9, 10, 11, 12, 13, 14], [13])])
def slab_Make.B9 : List Nat := [0, 1, 0, 4, 15, 31, 63, 0, 128, 0, 512, 1951, 3999, 8095, 4095, 32767]
theorem slab_Make.tab9 : rtab .any (opsOf Tryz.f21 9) = slab_Make.T9 := by kernel_rfl
theorem slab_Make.bits9 : waitsOk slab_Make.T9.2 slab_Make.B9 = true := by kernel_rfl
def slab_Make.T11 : Bool × List (List Nat × List Nat) := (true, [([], []), ([0], [0]), ([1], [1]), ([], []), ([3], [3]), ([], []), ([4, 5], [4, 5]), ([6], [6]), ([7], [7]), ([2, 8], [2, 8]), ([9, 8, 0, 1, 2, 3, 4, 5, 6, 7, 8, 9], [9])])
def slab_Make.B11 : List Nat := [0, 1, 3, 0, 8, 0, 56, 120, 248, 511, 1023]
theorem slab_Make.tab11 : rtab .any (opsOf Tryz.f21 11) = slab_Make.T11 := by kernel_rfl
theorem slab_Make.bits11 : waitsOk slab_Make.T11.2 slab_Make.B11 = true := by kernel_rfl
def slab_Make.T24 : Bool × List (List Nat × List Nat) := (true, [([], []), ([0], [0]), ([1], [1]), ([], []), ([3], [3]), ([], []), ([4, 5], [4, 5]), ([6], [6]), ([2, 7], [2, 7]), ([], []), ([9], [9]), ([], []), ([11], [11]), ([], []), ([12, 13], [12, 13]), ([], []), ([15], [15]), ([8, 10, 14, 16], [8, 10, 14, 16]), ([], []), ([18, 17, 7, 0, 1, 2, 3, 4, 5, 6, 7, 8, 9, 10, 11, 12, 13, 14, 15, 16, 17, 18], [17, 18])])
def slab_Make.B24 : List Nat := [0, 1, 3, 0, 8, 0, 56, 120, 255, 0, 512, 0, 2048, 0, 14336, 0, 32768, 131071, 0, 524287]
theorem slab_Make.tab24 : rtab .any (opsOf Tryz.f21 24) = slab_Make.T24 := by kernel_rfl
theorem slab_Make.bits24 : waitsOk slab_Make.T24.2 slab_Make.B24 = true := by kernel_rfl
def slab_Make.T26 : Bool × List (List Nat × List Nat) := (true, [([], []), ([0], [0]), ([], []), ([2], [2]), ([1, 3], [1, 3]), ([], []), ([5], [5]), ([], []), ([7], [7]), ([6, 8, 4], [6, 8]), ([], []), ([], []), ([], []), ([12], [12]), ([11, 13], [11, 13]), ([4, 0, 1, 2, 3, 4, 9, 10], [4]), ([15, 10, 9, 0, 1, 2, 3, 4, 9, 10], [10, 15]), ([9, 0, 1, 2, 3, 4, 5, 6, 7, 8, 9, 10, 11, 12, 13, 14, 15, 16], [9]), ([17, 14, 16, 0, 1, 2, 3, 4, 5, 6, 7, 8, 9, 10, 11, 12, 13, 14, 15, 16], [14, 17])])
def slab_Make.B26 : List Nat := [0, 1, 0, 4, 15, 0, 32, 0, 128, 511, 0, 0, 0, 4096, 14336, 2047, 34815, 131071, 262143]
theorem slab_Make.tab26 : rtab .any (opsOf Tryz.f21 26) = slab_Make.T26 := by kernel_rfl
theorem slab_Make.bits26 : waitsOk slab_Make.T26.2 slab_Make.B26 = true := by kernel_rfl
def slab_Make.T30 : Bool × List (List Nat × List Nat) := (true, [([], []), ([], []), ([1], [1]), ([0, 2], [0, 2]), ([], []), ([], []), ([], []), ([6], [6]), ([], []), ([8], [8]), ([7, 9], [7, 9]), ([5, 10], [5, 10]), ([4, 11], [4, 11]), ([3, 0, 1, 2, 3, 4, 5, 6, 7, 8, 9, 10, 11, 12], [3]), ([13, 12, 3, 0, 1, 2, 3, 4, 5, 6, 7, 8, 9, 10, 11, 12], [12, 13])])
def slab_Make.B30 : List Nat := [0, 0, 2, 7, 0, 0, 0, 64, 0, 256, 960, 2016, 4080, 8191, 16383]
theorem slab_Make.tab30 : rtab .any (opsOf Tryz.f21 30) = slab_Make.T30 := by kernel_rfl
theorem slab_Make.bits30 : waitsOk slab_Make.T30.2 slab_Make.B30 = true := by kernel_rfl
set_option maxHeartbeats 8000000 in
set_option maxRecDepth 100000 in
theorem slab_Make.calls (k : Nat) (a0_0 : ByteArray) (a0_1 : Int) (a0_2 : Int) (a0_3 : Int) (a0_4 : Int) (a0_5 : Int) (a0_6 : Int) (a1_0 : Int) (a1_1 : Int) (a1_2 : Int) (a1_3 : Int) (r1 : List (S35)) (r2 : List (S32)) (r3 : Int) (w : World) {w0 : World} (hf0 : LaidAt w0) (hb0 : Below w0.heap.size w0 w) (h : slab_Make.f k a0_0 a0_1 a0_2 a0_3 a0_4 a0_5 a0_6 a1_0 a1_1 a1_2 a1_3 = some (r1, r2, r3)) :
  Calls Tryz.prog 21 #[.agg #[.string a0_0, .int .i64 a0_1, .int .i64 a0_2, .int .i64 a0_3, .int .i64 a0_4, .int .i64 a0_5, .int .i64 a0_6], .agg #[.int .i64 a1_0, .int .i64 a1_1, .int .i64 a1_2, .int .i64 a1_3]] w fun e w' => ∃ v0_ v1_ : Value, e = .returned (.tuple #[v0_, v1_, .int .i64 r3]) ∧ Kd.S k35 35 w' w.heap.size (fun _ => True) v0_ r1 ∧ Kd.R k32 32 w' w.heap.size (fun _ => True) v1_ r2 ∧ Below w.heap.size w w' := by
 have HLD := aK (hf0.below hb0)
 clear hf0 hb0
 have hu45 := Tryz.underlying45
 have hu50 := Tryz.underlying50
 have hu32 := Tryz.underlying32
 have hu35 := Tryz.underlying35
 have HB := aK (Below.refl w.heap.size w)
 have H : ((slab_Check.f a1_0 a1_1 a1_2 a1_3).bind fun t114 => (if t114 = 0 then ((lexer_Name.f a0_0).bind fun t115 => (if t115 = true then ((box_Check.f a0_1 a0_2 a0_3 a0_4 a0_5 a0_6).bind fun t116 => (if t116 = 0 then (if a1_0 = 0 then (slab_Make.j0 k a0_1 a0_4 a0_0 a0_1 a0_2 a0_3 a0_4 a0_5 a0_6 a1_0 a1_1 a1_2 a1_3) else (if a1_0 = 1 then (slab_Make.j0 k a0_2 a0_5 a0_0 a0_1 a0_2 a0_3 a0_4 a0_5 a0_6 a1_0 a1_1 a1_2 a1_3) else (if a1_0 = 2 then (slab_Make.j0 k a0_3 a0_6 a0_0 a0_1 a0_2 a0_3 a0_4 a0_5 a0_6 a1_0 a1_1 a1_2 a1_3) else (none)))) else (some (([] : List (S35)), ([] : List (S32)), t116)))) else (some (([] : List (S35)), ([] : List (S32)), 4)))) else (some (([] : List (S35)), ([] : List (S32)), t114)))) = some (r1, r2, r3) := h
 clear h
 replace H := Option.bind_eq_some_iff.mp H
 obtain ⟨t114, A30, H⟩ := H
 replace H : (if t114 = 0 then ((lexer_Name.f a0_0).bind fun t115 => (if t115 = true then ((box_Check.f a0_1 a0_2 a0_3 a0_4 a0_5 a0_6).bind fun t116 => (if t116 = 0 then (if a1_0 = 0 then (slab_Make.j0 k a0_1 a0_4 a0_0 a0_1 a0_2 a0_3 a0_4 a0_5 a0_6 a1_0 a1_1 a1_2 a1_3) else (if a1_0 = 1 then (slab_Make.j0 k a0_2 a0_5 a0_0 a0_1 a0_2 a0_3 a0_4 a0_5 a0_6 a1_0 a1_1 a1_2 a1_3) else (if a1_0 = 2 then (slab_Make.j0 k a0_3 a0_6 a0_0 a0_1 a0_2 a0_3 a0_4 a0_5 a0_6 a1_0 a1_1 a1_2 a1_3) else (none)))) else (some (([] : List (S35)), ([] : List (S32)), t116)))) else (some (([] : List (S35)), ([] : List (S32)), 4)))) else (some (([] : List (S35)), ([] : List (S32)), t114))) = some (r1, r2, r3) := H
 have A3 := aK A30
 clear A30
 by_cases c4 : t114 = 0
 rotate_left
 ·rw [if_neg c4] at H
  have c4b0 : (t114 == 0) = false := beq_eq_false_iff_ne.mpr c4
  have c4b1 : (t114 != 0) = true := bne_iff_ne.mpr c4
  simp only [Option.some.injEq, Prod.mk.injEq] at H
  obtain ⟨rfl, rfl, rfl⟩ := H
  go_enter Tryz.func21, Tryz.ntmps21
  go_wp2_with (first | ((with_reducible refine gate_dst (N := 2) rfl ?_); refine box_event ?hg (N := 2) ?hd (cs := #[.string a0_0, .int .i64 a0_1, .int .i64 a0_2, .int .i64 a0_3, .int .i64 a0_4, .int .i64 a0_5, .int .i64 a0_6]) (t := 45) ?hr ?_; (case hd => rfl); (case hg => rfl); (case hr => first | (go_simp; done) | (go_simp; rfl)); intro gb112 hg w155 hbox hb; have n0_ := aK (yT (HB.out) hb); have n1_ := aK (hbox); have n2_ := aK ((by rw [hg]; exact (yZ (HB.out)) : w.heap.size ≤ gb112)); have n3_ := n2_; clear HB; have HB := n0_; have BK112 := n1_; have GW112 := n2_; have GE112 := n3_; clear n0_ n1_ n2_ n3_; clear hb hbox hg) | ((with_reducible refine gate_dst (N := 3) rfl ?_); refine box_event ?hg (N := 3) ?hd (cs := #[.int .i64 a1_0, .int .i64 a1_1, .int .i64 a1_2, .int .i64 a1_3]) (t := 50) ?hr ?_; (case hd => rfl); (case hg => rfl); (case hr => first | (go_simp; done) | (go_simp; rfl)); intro gb113 hg w156 hbox hb; have n0_ := aK (zB (g := gb112) (o := .cells #[.string a0_0, .int .i64 a0_1, .int .i64 a0_2, .int .i64 a0_3, .int .i64 a0_4, .int .i64 a0_5, .int .i64 a0_6] 45 (0, 0)) (BK112.out) hb); have n1_ := aK (yT (HB.out) hb); have n2_ := aK (hbox); have n3_ := aK ((by rw [hg]; exact (yZ (HB.out)) : w.heap.size ≤ gb113)); have n4_ := n3_; have n5_ := aK ((by rw [hg]; exact Nat.ne_of_lt (blk_lt (g := gb112) (o := .cells #[.string a0_0, .int .i64 a0_1, .int .i64 a0_2, .int .i64 a0_3, .int .i64 a0_4, .int .i64 a0_5, .int .i64 a0_6] 45 (0, 0)) (BK112.out)) : gb112 ≠ gb113)); have n6_ := aK ((by rw [hg]; exact Nat.ne_of_gt (blk_lt (g := gb112) (o := .cells #[.string a0_0, .int .i64 a0_1, .int .i64 a0_2, .int .i64 a0_3, .int .i64 a0_4, .int .i64 a0_5, .int .i64 a0_6] 45 (0, 0)) (BK112.out)) : gb113 ≠ gb112)); clear BK112; clear HB; have BK112 := n0_; have HB := n1_; have BK113 := n2_; have GW113 := n3_; have GE113 := n4_; have NB112_113 := n5_; have NB113_112 := n6_; clear n0_ n1_ n2_ n3_ n4_ n5_ n6_; clear hb hbox hg; have hnb157 := NB113_112.out; have hnc157 := NB112_113.out; have hcz158_0 := zI BK113 0 rfl; have hcz158_1 := zI BK113 1 rfl; have hcz158_2 := zI BK113 2 rfl; have hcz158_3 := zI BK113 3 rfl; have hfz158_0 := zF BK113.out 0; have hfz158_1 := zF BK113.out 1; have hfz158_2 := zF BK113.out 2; have hfz158_3 := zF BK113.out 3) | ((with_reducible refine gate_callee (f := 23) rfl ?_); refine goesL_ (some 20) rfl rfl Tryz.func23 (by kernel_rfl) rfl #[.agg #[.int .i64 a1_0, .int .i64 a1_1, .int .i64 a1_2, .int .i64 a1_3]] rfl (by (try simp only [List.map_toArray, List.map_cons, List.map_nil]); first | done | rfl | (simp only [List.length_drop, List.length_take]; rfl)) ?_; (with_reducible refine (slab_Check.calls a1_0 a1_1 a1_2 a1_3 t114 _ A3.out).mono ?_); rintro e w159 ⟨rfl, hb⟩; refine ⟨_, rfl, ?_⟩; have n0_ := aK (zB (g := gb112) (o := .cells #[.string a0_0, .int .i64 a0_1, .int .i64 a0_2, .int .i64 a0_3, .int .i64 a0_4, .int .i64 a0_5, .int .i64 a0_6] 45 (0, 0)) (BK112.out) hb); have n1_ := aK (zB (g := gb113) (o := .cells #[.int .i64 a1_0, .int .i64 a1_1, .int .i64 a1_2, .int .i64 a1_3] 50 (0, 0)) (BK113.out) hb); have n2_ := aK (yT (HB.out) hb); clear BK112; clear BK113; clear HB; have BK112 := n0_; have BK113 := n1_; have HB := n2_; clear n0_ n1_ n2_; (try clear hb)))
  go_ret3
  exact ⟨_, _, rfl, by first | exact Kd.S_nil _ _ _ _ _ | exact Kd.N_nil _ _ _ _ _ | exact Kd.V_nil _ _ _ _ _ | exact Kd.Q_nil _ _ _ _ _ | exact Kd.R_nil _ _ _ _ _, by first | exact Kd.R_nil _ _ _ _ _ | exact Kd.N_nil _ _ _ _ _ | exact Kd.V_nil _ _ _ _ _ | exact Kd.Q_nil _ _ _ _ _ | exact Kd.S_nil _ _ _ _ _, HB.out⟩
 rw [if_pos c4] at H
 have c4b0 : (t114 == 0) = true := beq_iff_eq.mpr c4
 have c4b1 : (t114 != 0) = false := bne_eq_false_iff_eq.mpr c4
 clear c4
 replace H := Option.bind_eq_some_iff.mp H
 obtain ⟨t115, A50, H⟩ := H
 replace H : (if t115 = true then ((box_Check.f a0_1 a0_2 a0_3 a0_4 a0_5 a0_6).bind fun t116 => (if t116 = 0 then (if a1_0 = 0 then (slab_Make.j0 k a0_1 a0_4 a0_0 a0_1 a0_2 a0_3 a0_4 a0_5 a0_6 a1_0 a1_1 a1_2 a1_3) else (if a1_0 = 1 then (slab_Make.j0 k a0_2 a0_5 a0_0 a0_1 a0_2 a0_3 a0_4 a0_5 a0_6 a1_0 a1_1 a1_2 a1_3) else (if a1_0 = 2 then (slab_Make.j0 k a0_3 a0_6 a0_0 a0_1 a0_2 a0_3 a0_4 a0_5 a0_6 a1_0 a1_1 a1_2 a1_3) else (none)))) else (some (([] : List (S35)), ([] : List (S32)), t116)))) else (some (([] : List (S35)), ([] : List (S32)), 4))) = some (r1, r2, r3) := H
 have A5 := aK A50
 clear A50
 by_cases c6 : t115 = true
 rotate_left
 ·replace c6 := Bool.eq_false_iff.mpr c6
  subst c6
  have H1 : (some (([] : List (S35)), ([] : List (S32)), 4)) = some (r1, r2, r3) := by rw [if_neg (show ¬ (false = true) by decide)] at H; exact H
  clear H
  have H := H1
  clear H1
  simp only [Option.some.injEq, Prod.mk.injEq] at H
  obtain ⟨rfl, rfl, rfl⟩ := H
  go_enter Tryz.func21, Tryz.ntmps21
  go_wp2_with (first | ((with_reducible refine gate_dst (N := 2) rfl ?_); refine box_event ?hg (N := 2) ?hd (cs := #[.string a0_0, .int .i64 a0_1, .int .i64 a0_2, .int .i64 a0_3, .int .i64 a0_4, .int .i64 a0_5, .int .i64 a0_6]) (t := 45) ?hr ?_; (case hd => rfl); (case hg => rfl); (case hr => first | (go_simp; done) | (go_simp; rfl)); intro gb112 hg w148 hbox hb; have n0_ := aK (yT (HB.out) hb); have n1_ := aK (hbox); have n2_ := aK ((by rw [hg]; exact (yZ (HB.out)) : w.heap.size ≤ gb112)); have n3_ := n2_; clear HB; have HB := n0_; have BK112 := n1_; have GW112 := n2_; have GE112 := n3_; clear n0_ n1_ n2_ n3_; clear hb hbox hg) | ((with_reducible refine gate_dst (N := 3) rfl ?_); refine box_event ?hg (N := 3) ?hd (cs := #[.int .i64 a1_0, .int .i64 a1_1, .int .i64 a1_2, .int .i64 a1_3]) (t := 50) ?hr ?_; (case hd => rfl); (case hg => rfl); (case hr => first | (go_simp; done) | (go_simp; rfl)); intro gb113 hg w149 hbox hb; have n0_ := aK (zB (g := gb112) (o := .cells #[.string a0_0, .int .i64 a0_1, .int .i64 a0_2, .int .i64 a0_3, .int .i64 a0_4, .int .i64 a0_5, .int .i64 a0_6] 45 (0, 0)) (BK112.out) hb); have n1_ := aK (yT (HB.out) hb); have n2_ := aK (hbox); have n3_ := aK ((by rw [hg]; exact (yZ (HB.out)) : w.heap.size ≤ gb113)); have n4_ := n3_; have n5_ := aK ((by rw [hg]; exact Nat.ne_of_lt (blk_lt (g := gb112) (o := .cells #[.string a0_0, .int .i64 a0_1, .int .i64 a0_2, .int .i64 a0_3, .int .i64 a0_4, .int .i64 a0_5, .int .i64 a0_6] 45 (0, 0)) (BK112.out)) : gb112 ≠ gb113)); have n6_ := aK ((by rw [hg]; exact Nat.ne_of_gt (blk_lt (g := gb112) (o := .cells #[.string a0_0, .int .i64 a0_1, .int .i64 a0_2, .int .i64 a0_3, .int .i64 a0_4, .int .i64 a0_5, .int .i64 a0_6] 45 (0, 0)) (BK112.out)) : gb113 ≠ gb112)); clear BK112; clear HB; have BK112 := n0_; have HB := n1_; have BK113 := n2_; have GW113 := n3_; have GE113 := n4_; have NB112_113 := n5_; have NB113_112 := n6_; clear n0_ n1_ n2_ n3_ n4_ n5_ n6_; clear hb hbox hg; have hnb150 := NB113_112.out; have hnc150 := NB112_113.out; have hcz151_0 := zI BK113 0 rfl; have hcz151_1 := zI BK113 1 rfl; have hcz151_2 := zI BK113 2 rfl; have hcz151_3 := zI BK113 3 rfl; have hfz151_0 := zF BK113.out 0; have hfz151_1 := zF BK113.out 1; have hfz151_2 := zF BK113.out 2; have hfz151_3 := zF BK113.out 3) | ((with_reducible refine gate_callee (f := 23) rfl ?_); refine goesL_ (some 20) rfl rfl Tryz.func23 (by kernel_rfl) rfl #[.agg #[.int .i64 a1_0, .int .i64 a1_1, .int .i64 a1_2, .int .i64 a1_3]] rfl (by (try simp only [List.map_toArray, List.map_cons, List.map_nil]); first | done | rfl | (simp only [List.length_drop, List.length_take]; rfl)) ?_; (with_reducible refine (slab_Check.calls a1_0 a1_1 a1_2 a1_3 t114 _ A3.out).mono ?_); rintro e w152 ⟨rfl, hb⟩; refine ⟨_, rfl, ?_⟩; have n0_ := aK (zB (g := gb112) (o := .cells #[.string a0_0, .int .i64 a0_1, .int .i64 a0_2, .int .i64 a0_3, .int .i64 a0_4, .int .i64 a0_5, .int .i64 a0_6] 45 (0, 0)) (BK112.out) hb); have n1_ := aK (zB (g := gb113) (o := .cells #[.int .i64 a1_0, .int .i64 a1_1, .int .i64 a1_2, .int .i64 a1_3] 50 (0, 0)) (BK113.out) hb); have n2_ := aK (yT (HB.out) hb); clear BK112; clear BK113; clear HB; have BK112 := n0_; have BK113 := n1_; have HB := n2_; clear n0_ n1_ n2_; (try clear hb); have hcz153_0 := zI BK112 0 rfl; have hcz153_1 := zI BK112 1 rfl; have hcz153_2 := zI BK112 2 rfl; have hcz153_3 := zI BK112 3 rfl; have hcz153_4 := zI BK112 4 rfl; have hcz153_5 := zI BK112 5 rfl; have hcz153_6 := zI BK112 6 rfl; have hfz153_0 := zF BK112.out 0; have hfz153_1 := zF BK112.out 1; have hfz153_2 := zF BK112.out 2; have hfz153_3 := zF BK112.out 3; have hfz153_4 := zF BK112.out 4; have hfz153_5 := zF BK112.out 5; have hfz153_6 := zF BK112.out 6) | ((with_reducible refine gate_callee (f := 58) rfl ?_); refine goesL_ (some 26) rfl rfl Tryz.func58 (by kernel_rfl) rfl #[.string a0_0] rfl (by (try simp only [List.map_toArray, List.map_cons, List.map_nil]); first | done | rfl | (simp only [List.length_drop, List.length_take]; rfl)) ?_; (with_reducible refine (lexer_Name.calls a0_0 false _ A5.out).mono ?_); rintro e w154 ⟨rfl, hb⟩; refine ⟨_, rfl, ?_⟩; have n0_ := aK (zB (g := gb112) (o := .cells #[.string a0_0, .int .i64 a0_1, .int .i64 a0_2, .int .i64 a0_3, .int .i64 a0_4, .int .i64 a0_5, .int .i64 a0_6] 45 (0, 0)) (BK112.out) hb); have n1_ := aK (zB (g := gb113) (o := .cells #[.int .i64 a1_0, .int .i64 a1_1, .int .i64 a1_2, .int .i64 a1_3] 50 (0, 0)) (BK113.out) hb); have n2_ := aK (yT (HB.out) hb); clear BK112; clear BK113; clear HB; have BK112 := n0_; have BK113 := n1_; have HB := n2_; clear n0_ n1_ n2_; (try clear hb)))
  go_ret3
  exact ⟨_, _, rfl, by first | exact Kd.S_nil _ _ _ _ _ | exact Kd.N_nil _ _ _ _ _ | exact Kd.V_nil _ _ _ _ _ | exact Kd.Q_nil _ _ _ _ _ | exact Kd.R_nil _ _ _ _ _, by first | exact Kd.R_nil _ _ _ _ _ | exact Kd.N_nil _ _ _ _ _ | exact Kd.V_nil _ _ _ _ _ | exact Kd.Q_nil _ _ _ _ _ | exact Kd.S_nil _ _ _ _ _, HB.out⟩
 subst c6
 have H1 : ((box_Check.f a0_1 a0_2 a0_3 a0_4 a0_5 a0_6).bind fun t116 => (if t116 = 0 then (if a1_0 = 0 then (slab_Make.j0 k a0_1 a0_4 a0_0 a0_1 a0_2 a0_3 a0_4 a0_5 a0_6 a1_0 a1_1 a1_2 a1_3) else (if a1_0 = 1 then (slab_Make.j0 k a0_2 a0_5 a0_0 a0_1 a0_2 a0_3 a0_4 a0_5 a0_6 a1_0 a1_1 a1_2 a1_3) else (if a1_0 = 2 then (slab_Make.j0 k a0_3 a0_6 a0_0 a0_1 a0_2 a0_3 a0_4 a0_5 a0_6 a1_0 a1_1 a1_2 a1_3) else (none)))) else (some (([] : List (S35)), ([] : List (S32)), t116)))) = some (r1, r2, r3) := by rw [if_pos rfl] at H; exact H
 clear H
 have H := H1
 clear H1
 replace H := Option.bind_eq_some_iff.mp H
 obtain ⟨t116, A70, H⟩ := H
 replace H : (if t116 = 0 then (if a1_0 = 0 then (slab_Make.j0 k a0_1 a0_4 a0_0 a0_1 a0_2 a0_3 a0_4 a0_5 a0_6 a1_0 a1_1 a1_2 a1_3) else (if a1_0 = 1 then (slab_Make.j0 k a0_2 a0_5 a0_0 a0_1 a0_2 a0_3 a0_4 a0_5 a0_6 a1_0 a1_1 a1_2 a1_3) else (if a1_0 = 2 then (slab_Make.j0 k a0_3 a0_6 a0_0 a0_1 a0_2 a0_3 a0_4 a0_5 a0_6 a1_0 a1_1 a1_2 a1_3) else (none)))) else (some (([] : List (S35)), ([] : List (S32)), t116))) = some (r1, r2, r3) := H
 have A7 := aK A70
 clear A70
 by_cases c8 : t116 = 0
 rotate_left
 ·rw [if_neg c8] at H
  have c8b0 : (t116 == 0) = false := beq_eq_false_iff_ne.mpr c8
  have c8b1 : (t116 != 0) = true := bne_iff_ne.mpr c8
  simp only [Option.some.injEq, Prod.mk.injEq] at H
  obtain ⟨rfl, rfl, rfl⟩ := H
  go_enter Tryz.func21, Tryz.ntmps21
  go_wp2_with (first | ((with_reducible refine gate_dst (N := 2) rfl ?_); refine box_event ?hg (N := 2) ?hd (cs := #[.string a0_0, .int .i64 a0_1, .int .i64 a0_2, .int .i64 a0_3, .int .i64 a0_4, .int .i64 a0_5, .int .i64 a0_6]) (t := 45) ?hr ?_; (case hd => rfl); (case hg => rfl); (case hr => first | (go_simp; done) | (go_simp; rfl)); intro gb112 hg w139 hbox hb; have n0_ := aK (yT (HB.out) hb); have n1_ := aK (hbox); have n2_ := aK ((by rw [hg]; exact (yZ (HB.out)) : w.heap.size ≤ gb112)); have n3_ := n2_; clear HB; have HB := n0_; have BK112 := n1_; have GW112 := n2_; have GE112 := n3_; clear n0_ n1_ n2_ n3_; clear hb hbox hg) | ((with_reducible refine gate_dst (N := 3) rfl ?_); refine box_event ?hg (N := 3) ?hd (cs := #[.int .i64 a1_0, .int .i64 a1_1, .int .i64 a1_2, .int .i64 a1_3]) (t := 50) ?hr ?_; (case hd => rfl); (case hg => rfl); (case hr => first | (go_simp; done) | (go_simp; rfl)); intro gb113 hg w140 hbox hb; have n0_ := aK (zB (g := gb112) (o := .cells #[.string a0_0, .int .i64 a0_1, .int .i64 a0_2, .int .i64 a0_3, .int .i64 a0_4, .int .i64 a0_5, .int .i64 a0_6] 45 (0, 0)) (BK112.out) hb); have n1_ := aK (yT (HB.out) hb); have n2_ := aK (hbox); have n3_ := aK ((by rw [hg]; exact (yZ (HB.out)) : w.heap.size ≤ gb113)); have n4_ := n3_; have n5_ := aK ((by rw [hg]; exact Nat.ne_of_lt (blk_lt (g := gb112) (o := .cells #[.string a0_0, .int .i64 a0_1, .int .i64 a0_2, .int .i64 a0_3, .int .i64 a0_4, .int .i64 a0_5, .int .i64 a0_6] 45 (0, 0)) (BK112.out)) : gb112 ≠ gb113)); have n6_ := aK ((by rw [hg]; exact Nat.ne_of_gt (blk_lt (g := gb112) (o := .cells #[.string a0_0, .int .i64 a0_1, .int .i64 a0_2, .int .i64 a0_3, .int .i64 a0_4, .int .i64 a0_5, .int .i64 a0_6] 45 (0, 0)) (BK112.out)) : gb113 ≠ gb112)); clear BK112; clear HB; have BK112 := n0_; have HB := n1_; have BK113 := n2_; have GW113 := n3_; have GE113 := n4_; have NB112_113 := n5_; have NB113_112 := n6_; clear n0_ n1_ n2_ n3_ n4_ n5_ n6_; clear hb hbox hg; have hnb141 := NB113_112.out; have hnc141 := NB112_113.out; have hcz142_0 := zI BK113 0 rfl; have hcz142_1 := zI BK113 1 rfl; have hcz142_2 := zI BK113 2 rfl; have hcz142_3 := zI BK113 3 rfl; have hfz142_0 := zF BK113.out 0; have hfz142_1 := zF BK113.out 1; have hfz142_2 := zF BK113.out 2; have hfz142_3 := zF BK113.out 3) | ((with_reducible refine gate_callee (f := 23) rfl ?_); refine goesL_ (some 20) rfl rfl Tryz.func23 (by kernel_rfl) rfl #[.agg #[.int .i64 a1_0, .int .i64 a1_1, .int .i64 a1_2, .int .i64 a1_3]] rfl (by (try simp only [List.map_toArray, List.map_cons, List.map_nil]); first | done | rfl | (simp only [List.length_drop, List.length_take]; rfl)) ?_; (with_reducible refine (slab_Check.calls a1_0 a1_1 a1_2 a1_3 t114 _ A3.out).mono ?_); rintro e w143 ⟨rfl, hb⟩; refine ⟨_, rfl, ?_⟩; have n0_ := aK (zB (g := gb112) (o := .cells #[.string a0_0, .int .i64 a0_1, .int .i64 a0_2, .int .i64 a0_3, .int .i64 a0_4, .int .i64 a0_5, .int .i64 a0_6] 45 (0, 0)) (BK112.out) hb); have n1_ := aK (zB (g := gb113) (o := .cells #[.int .i64 a1_0, .int .i64 a1_1, .int .i64 a1_2, .int .i64 a1_3] 50 (0, 0)) (BK113.out) hb); have n2_ := aK (yT (HB.out) hb); clear BK112; clear BK113; clear HB; have BK112 := n0_; have BK113 := n1_; have HB := n2_; clear n0_ n1_ n2_; (try clear hb); have hcz144_0 := zI BK112 0 rfl; have hcz144_1 := zI BK112 1 rfl; have hcz144_2 := zI BK112 2 rfl; have hcz144_3 := zI BK112 3 rfl; have hcz144_4 := zI BK112 4 rfl; have hcz144_5 := zI BK112 5 rfl; have hcz144_6 := zI BK112 6 rfl; have hfz144_0 := zF BK112.out 0; have hfz144_1 := zF BK112.out 1; have hfz144_2 := zF BK112.out 2; have hfz144_3 := zF BK112.out 3; have hfz144_4 := zF BK112.out 4; have hfz144_5 := zF BK112.out 5; have hfz144_6 := zF BK112.out 6) | ((with_reducible refine gate_callee (f := 58) rfl ?_); refine goesL_ (some 26) rfl rfl Tryz.func58 (by kernel_rfl) rfl #[.string a0_0] rfl (by (try simp only [List.map_toArray, List.map_cons, List.map_nil]); first | done | rfl | (simp only [List.length_drop, List.length_take]; rfl)) ?_; (with_reducible refine (lexer_Name.calls a0_0 true _ A5.out).mono ?_); rintro e w145 ⟨rfl, hb⟩; refine ⟨_, rfl, ?_⟩; have n0_ := aK (zB (g := gb112) (o := .cells #[.string a0_0, .int .i64 a0_1, .int .i64 a0_2, .int .i64 a0_3, .int .i64 a0_4, .int .i64 a0_5, .int .i64 a0_6] 45 (0, 0)) (BK112.out) hb); have n1_ := aK (zB (g := gb113) (o := .cells #[.int .i64 a1_0, .int .i64 a1_1, .int .i64 a1_2, .int .i64 a1_3] 50 (0, 0)) (BK113.out) hb); have n2_ := aK (yT (HB.out) hb); clear BK112; clear BK113; clear HB; have BK112 := n0_; have BK113 := n1_; have HB := n2_; clear n0_ n1_ n2_; (try clear hb); have hcz146_0 := zI BK112 0 rfl; have hcz146_1 := zI BK112 1 rfl; have hcz146_2 := zI BK112 2 rfl; have hcz146_3 := zI BK112 3 rfl; have hcz146_4 := zI BK112 4 rfl; have hcz146_5 := zI BK112 5 rfl; have hcz146_6 := zI BK112 6 rfl; have hfz146_0 := zF BK112.out 0; have hfz146_1 := zF BK112.out 1; have hfz146_2 := zF BK112.out 2; have hfz146_3 := zF BK112.out 3; have hfz146_4 := zF BK112.out 4; have hfz146_5 := zF BK112.out 5; have hfz146_6 := zF BK112.out 6) | ((with_reducible refine gate_callee (f := 59) rfl ?_); refine goesL_ (some 30) rfl rfl Tryz.func59 (by kernel_rfl) rfl #[.agg #[.int .i64 a0_1, .int .i64 a0_2, .int .i64 a0_3, .int .i64 a0_4, .int .i64 a0_5, .int .i64 a0_6]] rfl (by (try simp only [List.map_toArray, List.map_cons, List.map_nil]); first | done | rfl | (simp only [List.length_drop, List.length_take]; rfl)) ?_; (with_reducible refine (box_Check.calls a0_1 a0_2 a0_3 a0_4 a0_5 a0_6 t116 _ A7.out).mono ?_); rintro e w147 ⟨rfl, hb⟩; refine ⟨_, rfl, ?_⟩; have n0_ := aK (zB (g := gb112) (o := .cells #[.string a0_0, .int .i64 a0_1, .int .i64 a0_2, .int .i64 a0_3, .int .i64 a0_4, .int .i64 a0_5, .int .i64 a0_6] 45 (0, 0)) (BK112.out) hb); have n1_ := aK (zB (g := gb113) (o := .cells #[.int .i64 a1_0, .int .i64 a1_1, .int .i64 a1_2, .int .i64 a1_3] 50 (0, 0)) (BK113.out) hb); have n2_ := aK (yT (HB.out) hb); clear BK112; clear BK113; clear HB; have BK112 := n0_; have BK113 := n1_; have HB := n2_; clear n0_ n1_ n2_; (try clear hb)))
  go_ret3
  exact ⟨_, _, rfl, by first | exact Kd.S_nil _ _ _ _ _ | exact Kd.N_nil _ _ _ _ _ | exact Kd.V_nil _ _ _ _ _ | exact Kd.Q_nil _ _ _ _ _ | exact Kd.R_nil _ _ _ _ _, by first | exact Kd.R_nil _ _ _ _ _ | exact Kd.N_nil _ _ _ _ _ | exact Kd.V_nil _ _ _ _ _ | exact Kd.Q_nil _ _ _ _ _ | exact Kd.S_nil _ _ _ _ _, HB.out⟩
 rw [if_pos c8] at H
 have c8b0 : (t116 == 0) = true := beq_iff_eq.mpr c8
 have c8b1 : (t116 != 0) = false := bne_eq_false_iff_eq.mpr c8
 clear c8
 have HC9 := aK H
 clear H
 go_enter Tryz.func21, Tryz.ntmps21
 go_upto_region 9 with (first | ((with_reducible refine gate_dst (N := 2) rfl ?_); refine box_event ?hg (N := 2) ?hd (cs := #[.string a0_0, .int .i64 a0_1, .int .i64 a0_2, .int .i64 a0_3, .int .i64 a0_4, .int .i64 a0_5, .int .i64 a0_6]) (t := 45) ?hr ?_; (case hd => rfl); (case hg => rfl); (case hr => first | (go_simp; done) | (go_simp; rfl)); intro gb112 hg w10 hbox hb; have n0_ := aK (yT (HB.out) hb); have n1_ := aK (hbox); have n2_ := aK ((by rw [hg]; exact (yZ (HB.out)) : w.heap.size ≤ gb112)); have n3_ := n2_; clear HB; have HB := n0_; have BK112 := n1_; have GW112 := n2_; have GE112 := n3_; clear n0_ n1_ n2_ n3_; clear hb hbox hg) | ((with_reducible refine gate_dst (N := 3) rfl ?_); refine box_event ?hg (N := 3) ?hd (cs := #[.int .i64 a1_0, .int .i64 a1_1, .int .i64 a1_2, .int .i64 a1_3]) (t := 50) ?hr ?_; (case hd => rfl); (case hg => rfl); (case hr => first | (go_simp; done) | (go_simp; rfl)); intro gb113 hg w11 hbox hb; have n0_ := aK (zB (g := gb112) (o := .cells #[.string a0_0, .int .i64 a0_1, .int .i64 a0_2, .int .i64 a0_3, .int .i64 a0_4, .int .i64 a0_5, .int .i64 a0_6] 45 (0, 0)) (BK112.out) hb); have n1_ := aK (yT (HB.out) hb); have n2_ := aK (hbox); have n3_ := aK ((by rw [hg]; exact (yZ (HB.out)) : w.heap.size ≤ gb113)); have n4_ := n3_; have n5_ := aK ((by rw [hg]; exact Nat.ne_of_lt (blk_lt (g := gb112) (o := .cells #[.string a0_0, .int .i64 a0_1, .int .i64 a0_2, .int .i64 a0_3, .int .i64 a0_4, .int .i64 a0_5, .int .i64 a0_6] 45 (0, 0)) (BK112.out)) : gb112 ≠ gb113)); have n6_ := aK ((by rw [hg]; exact Nat.ne_of_gt (blk_lt (g := gb112) (o := .cells #[.string a0_0, .int .i64 a0_1, .int .i64 a0_2, .int .i64 a0_3, .int .i64 a0_4, .int .i64 a0_5, .int .i64 a0_6] 45 (0, 0)) (BK112.out)) : gb113 ≠ gb112)); clear BK112; clear HB; have BK112 := n0_; have HB := n1_; have BK113 := n2_; have GW113 := n3_; have GE113 := n4_; have NB112_113 := n5_; have NB113_112 := n6_; clear n0_ n1_ n2_ n3_ n4_ n5_ n6_; clear hb hbox hg; have hnb12 := NB113_112.out; have hnc12 := NB112_113.out; have hcz13_0 := zI BK113 0 rfl; have hcz13_1 := zI BK113 1 rfl; have hcz13_2 := zI BK113 2 rfl; have hcz13_3 := zI BK113 3 rfl; have hfz13_0 := zF BK113.out 0; have hfz13_1 := zF BK113.out 1; have hfz13_2 := zF BK113.out 2; have hfz13_3 := zF BK113.out 3) | ((with_reducible refine gate_callee (f := 23) rfl ?_); refine goesL_ (some 20) rfl rfl Tryz.func23 (by kernel_rfl) rfl #[.agg #[.int .i64 a1_0, .int .i64 a1_1, .int .i64 a1_2, .int .i64 a1_3]] rfl (by (try simp only [List.map_toArray, List.map_cons, List.map_nil]); first | done | rfl | (simp only [List.length_drop, List.length_take]; rfl)) ?_; (with_reducible refine (slab_Check.calls a1_0 a1_1 a1_2 a1_3 t114 _ A3.out).mono ?_); rintro e w14 ⟨rfl, hb⟩; refine ⟨_, rfl, ?_⟩; have n0_ := aK (zB (g := gb112) (o := .cells #[.string a0_0, .int .i64 a0_1, .int .i64 a0_2, .int .i64 a0_3, .int .i64 a0_4, .int .i64 a0_5, .int .i64 a0_6] 45 (0, 0)) (BK112.out) hb); have n1_ := aK (zB (g := gb113) (o := .cells #[.int .i64 a1_0, .int .i64 a1_1, .int .i64 a1_2, .int .i64 a1_3] 50 (0, 0)) (BK113.out) hb); have n2_ := aK (yT (HB.out) hb); clear BK112; clear BK113; clear HB; have BK112 := n0_; have BK113 := n1_; have HB := n2_; clear n0_ n1_ n2_; (try clear hb); have hcz15_0 := zI BK112 0 rfl; have hcz15_1 := zI BK112 1 rfl; have hcz15_2 := zI BK112 2 rfl; have hcz15_3 := zI BK112 3 rfl; have hcz15_4 := zI BK112 4 rfl; have hcz15_5 := zI BK112 5 rfl; have hcz15_6 := zI BK112 6 rfl; have hfz15_0 := zF BK112.out 0; have hfz15_1 := zF BK112.out 1; have hfz15_2 := zF BK112.out 2; have hfz15_3 := zF BK112.out 3; have hfz15_4 := zF BK112.out 4; have hfz15_5 := zF BK112.out 5; have hfz15_6 := zF BK112.out 6) | ((with_reducible refine gate_callee (f := 58) rfl ?_); refine goesL_ (some 26) rfl rfl Tryz.func58 (by kernel_rfl) rfl #[.string a0_0] rfl (by (try simp only [List.map_toArray, List.map_cons, List.map_nil]); first | done | rfl | (simp only [List.length_drop, List.length_take]; rfl)) ?_; (with_reducible refine (lexer_Name.calls a0_0 true _ A5.out).mono ?_); rintro e w16 ⟨rfl, hb⟩; refine ⟨_, rfl, ?_⟩; have n0_ := aK (zB (g := gb112) (o := .cells #[.string a0_0, .int .i64 a0_1, .int .i64 a0_2, .int .i64 a0_3, .int .i64 a0_4, .int .i64 a0_5, .int .i64 a0_6] 45 (0, 0)) (BK112.out) hb); have n1_ := aK (zB (g := gb113) (o := .cells #[.int .i64 a1_0, .int .i64 a1_1, .int .i64 a1_2, .int .i64 a1_3] 50 (0, 0)) (BK113.out) hb); have n2_ := aK (yT (HB.out) hb); clear BK112; clear BK113; clear HB; have BK112 := n0_; have BK113 := n1_; have HB := n2_; clear n0_ n1_ n2_; (try clear hb); have hcz17_0 := zI BK112 0 rfl; have hcz17_1 := zI BK112 1 rfl; have hcz17_2 := zI BK112 2 rfl; have hcz17_3 := zI BK112 3 rfl; have hcz17_4 := zI BK112 4 rfl; have hcz17_5 := zI BK112 5 rfl; have hcz17_6 := zI BK112 6 rfl; have hfz17_0 := zF BK112.out 0; have hfz17_1 := zF BK112.out 1; have hfz17_2 := zF BK112.out 2; have hfz17_3 := zF BK112.out 3; have hfz17_4 := zF BK112.out 4; have hfz17_5 := zF BK112.out 5; have hfz17_6 := zF BK112.out 6) | ((with_reducible refine gate_callee (f := 59) rfl ?_); refine goesL_ (some 30) rfl rfl Tryz.func59 (by kernel_rfl) rfl #[.agg #[.int .i64 a0_1, .int .i64 a0_2, .int .i64 a0_3, .int .i64 a0_4, .int .i64 a0_5, .int .i64 a0_6]] rfl (by (try simp only [List.map_toArray, List.map_cons, List.map_nil]); first | done | rfl | (simp only [List.length_drop, List.length_take]; rfl)) ?_; (with_reducible refine (box_Check.calls a0_1 a0_2 a0_3 a0_4 a0_5 a0_6 t116 _ A7.out).mono ?_); rintro e w18 ⟨rfl, hb⟩; refine ⟨_, rfl, ?_⟩; have n0_ := aK (zB (g := gb112) (o := .cells #[.string a0_0, .int .i64 a0_1, .int .i64 a0_2, .int .i64 a0_3, .int .i64 a0_4, .int .i64 a0_5, .int .i64 a0_6] 45 (0, 0)) (BK112.out) hb); have n1_ := aK (zB (g := gb113) (o := .cells #[.int .i64 a1_0, .int .i64 a1_1, .int .i64 a1_2, .int .i64 a1_3] 50 (0, 0)) (BK113.out) hb); have n2_ := aK (yT (HB.out) hb); clear BK112; clear BK113; clear HB; have BK112 := n0_; have BK113 := n1_; have HB := n2_; clear n0_ n1_ n2_; (try clear hb)))
 (try simp only [Act.put, sA, sZ, sS])
 go_cut [9, 10] (fun v9 v10 wc => ∃ (kq : Nat) (x9_8 : Int) (x10_8 : Int), v9 = .int .i64 x9_8 ∧ v10 = .int .i64 x10_8 ∧ Aside0 (slab_Make.j0 kq x9_8 x10_8 a0_0 a0_1 a0_2 a0_3 a0_4 a0_5 a0_6 a1_0 a1_1 a1_2 a1_3 = some (r1, r2, r3)) ∧ Aside0 (kq ≤ k) ∧ Aside0 (wc.heap[gb112]? = some (.cells #[.string a0_0, .int .i64 a0_1, .int .i64 a0_2, .int .i64 a0_3, .int .i64 a0_4, .int .i64 a0_5, .int .i64 a0_6] 45 (0, 0))) ∧ Aside0 (wc.heap[gb113]? = some (.cells #[.int .i64 a1_0, .int .i64 a1_1, .int .i64 a1_2, .int .i64 a1_3] 50 (0, 0))) ∧ Aside0 (Below w.heap.size w wc))
 case first =>
  have H := HC9.out
  clear HC9
  by_cases c19 : a1_0 = 0
  ·rw [if_pos c19] at H
   have c19b0 : (a1_0 == 0) = true := beq_iff_eq.mpr c19
   have c19b1 : (a1_0 != 0) = false := bne_eq_false_iff_eq.mpr c19
   clear c19
   (first | rw [c19b0] | (simp only [i64_w, i32_w]; rw [c19b0]) | skip)
   have A20 := aK (show a1_0 = (0 : Int) from by first | assumption | exact of_decide_eq_true (by assumption) | exact beq_iff_eq.mp (by assumption))
   have A21 := aK (show a1_0 = (0 : Int) from by first | assumption | exact of_decide_eq_true (by assumption) | exact beq_iff_eq.mp (by assumption))
   have H' := aK H
   clear H
   try go_wp2
   have n0_ := aK (zD BK112.out)
   have n1_ := aK (zD BK113.out)
   have n2_ := aK (yD HB.out)
   clear BK112
   clear BK113
   clear HB
   have BK112 := n0_
   have BK113 := n1_
   have HB := n2_
   clear n0_ n1_ n2_
   refine start_ (n := 16) (S := fun w' => w'.cell? ⟨gb113, 0, none⟩ = some (.int .i64 a1_0) ∧ w'.cell? ⟨gb113, 1, none⟩ = some (.int .i64 a1_1) ∧ w'.cell? ⟨gb113, 2, none⟩ = some (.int .i64 a1_2) ∧ w'.cell? ⟨gb113, 3, none⟩ = some (.int .i64 a1_3) ∧ w'.cell? ⟨gb112, 0, none⟩ = some (.string a0_0) ∧ w'.cell? ⟨gb112, 1, none⟩ = some (.int .i64 a0_1) ∧ w'.cell? ⟨gb112, 2, none⟩ = some (.int .i64 a0_2) ∧ w'.cell? ⟨gb112, 3, none⟩ = some (.int .i64 a0_3) ∧ w'.cell? ⟨gb112, 4, none⟩ = some (.int .i64 a0_4) ∧ w'.cell? ⟨gb112, 5, none⟩ = some (.int .i64 a0_5) ∧ w'.cell? ⟨gb112, 6, none⟩ = some (.int .i64 a0_6)) (ds := []) #[false, false, false, false, false, false, false, false, false, false, false, false, false, false, false, false] (by kernel_rfl) rfl rfl ⟨(zC BK113.out 0).trans rfl, (zC BK113.out 1).trans rfl, (zC BK113.out 2).trans rfl, (zC BK113.out 3).trans rfl, (zC BK112.out 0).trans rfl, (zC BK112.out 1).trans rfl, (zC BK112.out 2).trans rfl, (zC BK112.out 3).trans rfl, (zC BK112.out 4).trans rfl, (zC BK112.out 5).trans rfl, (zC BK112.out 6).trans rfl⟩ (fun hHeld => ?_); refine with_tabW slab_Make.tab9 slab_Make.bits9 (fun HT_ HW_ => ?_)
   generalize w18.drew = w22 at BK112 BK113 HB hHeld ⊢
   refine pure_ (i := 0) (N := some 34) (v := ?_) (a' := ?_) #[true, false, false, false, false, false, false, false, false, false, false, false, false, false, false, false] rfl rfl (any_of HT_.out (by kernel_rfl)) (fun _ _ _ h => h) (Or.inl ⟨by rfl, ?_⟩) ?_ ?_
   rotate_left
   ·intro w'
    go_simp
    with_reducible rfl
   rotate_left
   ·simp only [Act.put, sA, sZ, sS, i64_w, i32_w]
    rfl
   refine pure_ (i := 1) (N := some 35) (v := ?_) (a' := ?_) #[true, true, false, false, false, false, false, false, false, false, false, false, false, false, false, false] rfl rfl (any_of HT_.out (by kernel_rfl)) (fun _ _ _ h => h) (Or.inl ⟨by rfl, ?_⟩) ?_ ?_
   rotate_left
   ·intro w'
    go_simp
    with_reducible rfl
   rotate_left
   ·simp only [Act.put, sA, sZ, sS, i64_w, i32_w]
    rfl
   refine pure_ (i := 2) (N := some 36) (v := ?_) (a' := ?_) #[true, true, true, false, false, false, false, false, false, false, false, false, false, false, false, false] rfl rfl (any_of HT_.out (by kernel_rfl)) (fun _ _ _ h => h) (Or.inl ⟨by rfl, ?_⟩) ?_ ?_
   rotate_left
   ·intro w'
    go_simp
    with_reducible rfl
   rotate_left
   ·simp only [Act.put, sA, sZ, sS, i64_w, i32_w]
    rfl
   refine pure_ (i := 7) (N := some 41) (v := ?_) (a' := ?_) #[true, true, true, false, false, false, false, true, false, false, false, false, false, false, false, false] rfl rfl (any_of HT_.out (by kernel_rfl)) (fun _ _ _ h => h) (Or.inl ⟨by rfl, ?_⟩) ?_ ?_
   rotate_left
   ·intro w'
    go_simp
    with_reducible rfl
   rotate_left
   ·simp only [Act.put, sA, sZ, sS, i64_w, i32_w]
    rfl
   refine pure_ (i := 8) (N := some 42) (v := ?_) (a' := ?_) #[true, true, true, false, false, false, false, true, true, false, false, false, false, false, false, false] rfl rfl (any_of HT_.out (by kernel_rfl)) (fun _ _ _ h => h) (Or.inl ⟨by rfl, ?_⟩) ?_ ?_
   rotate_left
   ·intro w'
    go_simp
    with_reducible rfl
   rotate_left
   ·simp only [Act.put, sA, sZ, sS, i64_w, i32_w]
    rfl
   refine pure_ (i := 9) (N := some 43) (v := ?_) (a' := ?_) #[true, true, true, false, false, false, false, true, true, true, false, false, false, false, false, false] rfl rfl (any_of HT_.out (by kernel_rfl)) (fun _ _ _ h => h) (Or.inl ⟨by rfl, ?_⟩) ?_ ?_
   rotate_left
   ·intro w'
    go_simp
    with_reducible rfl
   rotate_left
   ·simp only [Act.put, sA, sZ, sS, i64_w, i32_w]
    rfl
   refine take_ (i := 3) (N := some 37) (v := ?_) (a' := ?_) #[true, true, true, true, false, false, false, true, true, true, false, false, false, false, false, false] rfl rfl (take_ofW HT_.out HW_.out (by kernel_rfl)) (fun _ _ _ h => h) (Or.inl ⟨by rfl, ?_⟩) hHeld ?_ ?_
   rotate_left
   ·rintro w' ⟨s0, s1, s2, s3, s4, s5, s6, s7, s8, s9, s10⟩
    go_simp
    with_reducible rfl
   rotate_left
   ·simp only [Act.put, sA, sZ, sS, i64_w, i32_w]
    rfl
   refine take_ (i := 10) (N := some 44) (v := ?_) (a' := ?_) #[true, true, true, true, false, false, false, true, true, true, true, false, false, false, false, false] rfl rfl (take_ofW HT_.out HW_.out (by kernel_rfl)) (fun _ _ _ h => h) (Or.inl ⟨by rfl, ?_⟩) hHeld ?_ ?_
   rotate_left
   ·rintro w' ⟨s0, s1, s2, s3, s4, s5, s6, s7, s8, s9, s10⟩
    go_simp
    with_reducible rfl
   rotate_left
   ·simp only [Act.put, sA, sZ, sS, i64_w, i32_w]
    rfl
   refine one_ (i := 4) (N := some 38) #[true, true, true, true, true, false, false, true, true, true, true, false, false, false, false, false] rfl rfl (one_of HT_.out (by kernel_rfl)) (by decide) (fun K hK => ?_)
   refine goes_ Tryz.func60 (by kernel_rfl) rfl #[.pointer (some ⟨gb112, 1, none⟩), .int .i64 a1_0] (by rfl) rfl rfl (by (try simp only [List.map_toArray, List.map_cons, List.map_nil]); first | done | rfl | (simp only [List.length_drop, List.length_take]; rfl)) ?_
   with_reducible refine (slab_side.calls gb112 1 0 0 1 a1_0 (.pointer (some ⟨gb112, 1, none⟩)) _ A20.out).mono ?_
   rintro e w' ⟨rfl, ⟨nd, rfl⟩⟩
   refine ⟨_, rfl, ?_⟩
   refine hK.out _ _ ⟨(zC BK113.out 0).trans rfl, (zC BK113.out 1).trans rfl, (zC BK113.out 2).trans rfl, (zC BK113.out 3).trans rfl, (zC BK112.out 0).trans rfl, (zC BK112.out 1).trans rfl, (zC BK112.out 2).trans rfl, (zC BK112.out 3).trans rfl, (zC BK112.out 4).trans rfl, (zC BK112.out 5).trans rfl, (zC BK112.out 6).trans rfl⟩ (fun hHeld => ?_)
   clear hK K
   refine norm_ (a' := ?_) ?_ ?_
   rotate_left
   ·show Act.put _ (some 38) _ = _
    simp only [Act.put, sA, sZ, sS, i64_w, i32_w]
    rfl
   refine pure_ (i := 5) (N := some 39) (v := ?_) (a' := ?_) #[true, true, true, true, true, true, false, true, true, true, true, false, false, false, false, false] rfl rfl (any_of HT_.out (by kernel_rfl)) (fun _ _ _ h => h) (Or.inl ⟨by rfl, ?_⟩) ?_ ?_
   rotate_left
   ·intro w'
    go_simp
    with_reducible rfl
   rotate_left
   ·simp only [Act.put, sA, sZ, sS, i64_w, i32_w]
    rfl
   refine take_ (i := 6) (N := some 40) (v := ?_) (a' := ?_) #[true, true, true, true, true, true, true, true, true, true, true, false, false, false, false, false] rfl rfl (take_ofW HT_.out HW_.out (by kernel_rfl)) (fun _ _ _ h => h) (Or.inl ⟨by rfl, ?_⟩) hHeld ?_ ?_
   rotate_left
   ·rintro w' ⟨s0, s1, s2, s3, s4, s5, s6, s7, s8, s9, s10⟩
    go_simp
    with_reducible rfl
   rotate_left
   ·simp only [Act.put, sA, sZ, sS, i64_w, i32_w]
    rfl
   refine one_ (i := 11) (N := some 45) #[true, true, true, true, true, true, true, true, true, true, true, true, false, false, false, false] rfl rfl (one_of HT_.out (by kernel_rfl)) (by decide) (fun K hK => ?_)
   refine goes_ Tryz.func60 (by kernel_rfl) rfl #[.pointer (some ⟨gb112, 4, none⟩), .int .i64 a1_0] (by rfl) rfl rfl (by (try simp only [List.map_toArray, List.map_cons, List.map_nil]); first | done | rfl | (simp only [List.length_drop, List.length_take]; rfl)) ?_
   with_reducible refine (slab_side.calls gb112 4 0 0 4 a1_0 (.pointer (some ⟨gb112, 4, none⟩)) _ A21.out).mono ?_
   rintro e w' ⟨rfl, ⟨nd, rfl⟩⟩
   refine ⟨_, rfl, ?_⟩
   refine hK.out _ _ ⟨(zC BK113.out 0).trans rfl, (zC BK113.out 1).trans rfl, (zC BK113.out 2).trans rfl, (zC BK113.out 3).trans rfl, (zC BK112.out 0).trans rfl, (zC BK112.out 1).trans rfl, (zC BK112.out 2).trans rfl, (zC BK112.out 3).trans rfl, (zC BK112.out 4).trans rfl, (zC BK112.out 5).trans rfl, (zC BK112.out 6).trans rfl⟩ (fun hHeld => ?_)
   clear hK K
   refine norm_ (a' := ?_) ?_ ?_
   rotate_left
   ·show Act.put _ (some 45) _ = _
    simp only [Act.put, sA, sZ, sS, i64_w, i32_w]
    rfl
   refine pure_ (i := 12) (N := some 46) (v := ?_) (a' := ?_) #[true, true, true, true, true, true, true, true, true, true, true, true, true, false, false, false] rfl rfl (any_of HT_.out (by kernel_rfl)) (fun _ _ _ h => h) (Or.inl ⟨by rfl, ?_⟩) ?_ ?_
   rotate_left
   ·intro w'
    go_simp
    with_reducible rfl
   rotate_left
   ·simp only [Act.put, sA, sZ, sS, i64_w, i32_w]
    rfl
   refine pure_ (i := 14) (N := some 9) (v := ?_) (a' := ?_) #[true, true, true, true, true, true, true, true, true, true, true, true, true, false, true, false] rfl rfl (any_of HT_.out (by kernel_rfl)) (fun _ _ _ h => h) (Or.inl ⟨by rfl, ?_⟩) ?_ ?_
   rotate_left
   ·intro w'
    go_simp
    with_reducible rfl
   rotate_left
   ·simp only [Act.put, sA, sZ, sS, i64_w, i32_w]
    rfl
   refine take_ (i := 13) (N := some 47) (v := ?_) (a' := ?_) #[true, true, true, true, true, true, true, true, true, true, true, true, true, true, true, false] rfl rfl (take_ofW HT_.out HW_.out (by kernel_rfl)) (fun _ _ _ h => h) (Or.inl ⟨by rfl, ?_⟩) hHeld ?_ ?_
   rotate_left
   ·rintro w' ⟨s0, s1, s2, s3, s4, s5, s6, s7, s8, s9, s10⟩
    go_simp
    with_reducible rfl
   rotate_left
   ·simp only [Act.put, sA, sZ, sS, i64_w, i32_w]
    rfl
   refine pure_ (i := 15) (N := some 10) (v := ?_) (a' := ?_) #[true, true, true, true, true, true, true, true, true, true, true, true, true, true, true, true] rfl rfl (any_of HT_.out (by kernel_rfl)) (fun _ _ _ h => h) (Or.inl ⟨by rfl, ?_⟩) ?_ ?_
   rotate_left
   ·intro w'
    go_simp
    with_reducible rfl
   rotate_left
   ·simp only [Act.put, sA, sZ, sS, i64_w, i32_w]
    rfl
   refine done_ (done_of HT_.out (by kernel_rfl)) ?_
   try go_wp2
   go_meet
   case rel => exact ⟨_, (a0_1), (a0_4), (by first | rfl | (simp; done) | (simp [*]; done)), (by first | rfl | (simp; done) | (simp [*]; done)), H', ⟨by first | omega | exact Nat.le_refl _⟩, ⟨BK112.out⟩, ⟨BK113.out⟩, ⟨by repeat (first | (with_reducible first | exact HB.out | apply yA | apply yN | apply yD | refine yS ?_ GE112.out | refine yS ?_ GE113.out) | exact HB.out)⟩⟩
  rw [if_neg c19] at H
  have c19b0 : (a1_0 == 0) = false := beq_eq_false_iff_ne.mpr c19
  have c19b1 : (a1_0 != 0) = true := bne_iff_ne.mpr c19
  (first | rw [c19b0] | (simp only [i64_w, i32_w]; rw [c19b0]) | skip)
  by_cases c23 : a1_0 = 1
  ·rw [if_pos c23] at H
   have c23b0 : (a1_0 == 1) = true := beq_iff_eq.mpr c23
   have c23b1 : (a1_0 != 1) = false := bne_eq_false_iff_eq.mpr c23
   clear c23
   have A24 := aK (show a1_0 = (1 : Int) from by first | assumption | exact of_decide_eq_true (by assumption) | exact beq_iff_eq.mp (by assumption))
   have A25 := aK (show a1_0 = (1 : Int) from by first | assumption | exact of_decide_eq_true (by assumption) | exact beq_iff_eq.mp (by assumption))
   have H' := aK H
   clear H
   try go_wp2
   have n0_ := aK (zD BK112.out)
   have n1_ := aK (zD BK113.out)
   have n2_ := aK (yD HB.out)
   clear BK112
   clear BK113
   clear HB
   have BK112 := n0_
   have BK113 := n1_
   have HB := n2_
   clear n0_ n1_ n2_
   refine start_ (n := 16) (S := fun w' => w'.cell? ⟨gb113, 0, none⟩ = some (.int .i64 a1_0) ∧ w'.cell? ⟨gb113, 1, none⟩ = some (.int .i64 a1_1) ∧ w'.cell? ⟨gb113, 2, none⟩ = some (.int .i64 a1_2) ∧ w'.cell? ⟨gb113, 3, none⟩ = some (.int .i64 a1_3) ∧ w'.cell? ⟨gb112, 0, none⟩ = some (.string a0_0) ∧ w'.cell? ⟨gb112, 1, none⟩ = some (.int .i64 a0_1) ∧ w'.cell? ⟨gb112, 2, none⟩ = some (.int .i64 a0_2) ∧ w'.cell? ⟨gb112, 3, none⟩ = some (.int .i64 a0_3) ∧ w'.cell? ⟨gb112, 4, none⟩ = some (.int .i64 a0_4) ∧ w'.cell? ⟨gb112, 5, none⟩ = some (.int .i64 a0_5) ∧ w'.cell? ⟨gb112, 6, none⟩ = some (.int .i64 a0_6)) (ds := []) #[false, false, false, false, false, false, false, false, false, false, false, false, false, false, false, false] (by kernel_rfl) rfl rfl ⟨(zC BK113.out 0).trans rfl, (zC BK113.out 1).trans rfl, (zC BK113.out 2).trans rfl, (zC BK113.out 3).trans rfl, (zC BK112.out 0).trans rfl, (zC BK112.out 1).trans rfl, (zC BK112.out 2).trans rfl, (zC BK112.out 3).trans rfl, (zC BK112.out 4).trans rfl, (zC BK112.out 5).trans rfl, (zC BK112.out 6).trans rfl⟩ (fun hHeld => ?_); refine with_tabW slab_Make.tab9 slab_Make.bits9 (fun HT_ HW_ => ?_)
   generalize w18.drew = w26 at BK112 BK113 HB hHeld ⊢
   refine pure_ (i := 0) (N := some 34) (v := ?_) (a' := ?_) #[true, false, false, false, false, false, false, false, false, false, false, false, false, false, false, false] rfl rfl (any_of HT_.out (by kernel_rfl)) (fun _ _ _ h => h) (Or.inl ⟨by rfl, ?_⟩) ?_ ?_
   rotate_left
   ·intro w'
    go_simp
    with_reducible rfl
   rotate_left
   ·simp only [Act.put, sA, sZ, sS, i64_w, i32_w]
    rfl
   refine pure_ (i := 1) (N := some 35) (v := ?_) (a' := ?_) #[true, true, false, false, false, false, false, false, false, false, false, false, false, false, false, false] rfl rfl (any_of HT_.out (by kernel_rfl)) (fun _ _ _ h => h) (Or.inl ⟨by rfl, ?_⟩) ?_ ?_
   rotate_left
   ·intro w'
    go_simp
    with_reducible rfl
   rotate_left
   ·simp only [Act.put, sA, sZ, sS, i64_w, i32_w]
    rfl
   refine pure_ (i := 2) (N := some 36) (v := ?_) (a' := ?_) #[true, true, true, false, false, false, false, false, false, false, false, false, false, false, false, false] rfl rfl (any_of HT_.out (by kernel_rfl)) (fun _ _ _ h => h) (Or.inl ⟨by rfl, ?_⟩) ?_ ?_
   rotate_left
   ·intro w'
    go_simp
    with_reducible rfl
   rotate_left
   ·simp only [Act.put, sA, sZ, sS, i64_w, i32_w]
    rfl
   refine pure_ (i := 7) (N := some 41) (v := ?_) (a' := ?_) #[true, true, true, false, false, false, false, true, false, false, false, false, false, false, false, false] rfl rfl (any_of HT_.out (by kernel_rfl)) (fun _ _ _ h => h) (Or.inl ⟨by rfl, ?_⟩) ?_ ?_
   rotate_left
   ·intro w'
    go_simp
    with_reducible rfl
   rotate_left
   ·simp only [Act.put, sA, sZ, sS, i64_w, i32_w]
    rfl
   refine pure_ (i := 8) (N := some 42) (v := ?_) (a' := ?_) #[true, true, true, false, false, false, false, true, true, false, false, false, false, false, false, false] rfl rfl (any_of HT_.out (by kernel_rfl)) (fun _ _ _ h => h) (Or.inl ⟨by rfl, ?_⟩) ?_ ?_
   rotate_left
   ·intro w'
    go_simp
    with_reducible rfl
   rotate_left
   ·simp only [Act.put, sA, sZ, sS, i64_w, i32_w]
    rfl
   refine pure_ (i := 9) (N := some 43) (v := ?_) (a' := ?_) #[true, true, true, false, false, false, false, true, true, true, false, false, false, false, false, false] rfl rfl (any_of HT_.out (by kernel_rfl)) (fun _ _ _ h => h) (Or.inl ⟨by rfl, ?_⟩) ?_ ?_
   rotate_left
   ·intro w'
    go_simp
    with_reducible rfl
   rotate_left
   ·simp only [Act.put, sA, sZ, sS, i64_w, i32_w]
    rfl
   refine take_ (i := 3) (N := some 37) (v := ?_) (a' := ?_) #[true, true, true, true, false, false, false, true, true, true, false, false, false, false, false, false] rfl rfl (take_ofW HT_.out HW_.out (by kernel_rfl)) (fun _ _ _ h => h) (Or.inl ⟨by rfl, ?_⟩) hHeld ?_ ?_
   rotate_left
   ·rintro w' ⟨s0, s1, s2, s3, s4, s5, s6, s7, s8, s9, s10⟩
    go_simp
    with_reducible rfl
   rotate_left
   ·simp only [Act.put, sA, sZ, sS, i64_w, i32_w]
    rfl
   refine take_ (i := 10) (N := some 44) (v := ?_) (a' := ?_) #[true, true, true, true, false, false, false, true, true, true, true, false, false, false, false, false] rfl rfl (take_ofW HT_.out HW_.out (by kernel_rfl)) (fun _ _ _ h => h) (Or.inl ⟨by rfl, ?_⟩) hHeld ?_ ?_
   rotate_left
   ·rintro w' ⟨s0, s1, s2, s3, s4, s5, s6, s7, s8, s9, s10⟩
    go_simp
    with_reducible rfl
   rotate_left
   ·simp only [Act.put, sA, sZ, sS, i64_w, i32_w]
    rfl
   refine one_ (i := 4) (N := some 38) #[true, true, true, true, true, false, false, true, true, true, true, false, false, false, false, false] rfl rfl (one_of HT_.out (by kernel_rfl)) (by decide) (fun K hK => ?_)
   refine goes_ Tryz.func60 (by kernel_rfl) rfl #[.pointer (some ⟨gb112, 1, none⟩), .int .i64 a1_0] (by rfl) rfl rfl (by (try simp only [List.map_toArray, List.map_cons, List.map_nil]); first | done | rfl | (simp only [List.length_drop, List.length_take]; rfl)) ?_
   with_reducible refine (slab_side.calls gb112 1 1 1 2 a1_0 (.pointer (some ⟨gb112, 2, none⟩)) _ A24.out).mono ?_
   rintro e w' ⟨rfl, ⟨nd, rfl⟩⟩
   refine ⟨_, rfl, ?_⟩
   refine hK.out _ _ ⟨(zC BK113.out 0).trans rfl, (zC BK113.out 1).trans rfl, (zC BK113.out 2).trans rfl, (zC BK113.out 3).trans rfl, (zC BK112.out 0).trans rfl, (zC BK112.out 1).trans rfl, (zC BK112.out 2).trans rfl, (zC BK112.out 3).trans rfl, (zC BK112.out 4).trans rfl, (zC BK112.out 5).trans rfl, (zC BK112.out 6).trans rfl⟩ (fun hHeld => ?_)
   clear hK K
   refine norm_ (a' := ?_) ?_ ?_
   rotate_left
   ·show Act.put _ (some 38) _ = _
    simp only [Act.put, sA, sZ, sS, i64_w, i32_w]
    rfl
   refine pure_ (i := 5) (N := some 39) (v := ?_) (a' := ?_) #[true, true, true, true, true, true, false, true, true, true, true, false, false, false, false, false] rfl rfl (any_of HT_.out (by kernel_rfl)) (fun _ _ _ h => h) (Or.inl ⟨by rfl, ?_⟩) ?_ ?_
   rotate_left
   ·intro w'
    go_simp
    with_reducible rfl
   rotate_left
   ·simp only [Act.put, sA, sZ, sS, i64_w, i32_w]
    rfl
   refine take_ (i := 6) (N := some 40) (v := ?_) (a' := ?_) #[true, true, true, true, true, true, true, true, true, true, true, false, false, false, false, false] rfl rfl (take_ofW HT_.out HW_.out (by kernel_rfl)) (fun _ _ _ h => h) (Or.inl ⟨by rfl, ?_⟩) hHeld ?_ ?_
   rotate_left
   ·rintro w' ⟨s0, s1, s2, s3, s4, s5, s6, s7, s8, s9, s10⟩
    go_simp
    with_reducible rfl
   rotate_left
   ·simp only [Act.put, sA, sZ, sS, i64_w, i32_w]
    rfl
   refine one_ (i := 11) (N := some 45) #[true, true, true, true, true, true, true, true, true, true, true, true, false, false, false, false] rfl rfl (one_of HT_.out (by kernel_rfl)) (by decide) (fun K hK => ?_)
   refine goes_ Tryz.func60 (by kernel_rfl) rfl #[.pointer (some ⟨gb112, 4, none⟩), .int .i64 a1_0] (by rfl) rfl rfl (by (try simp only [List.map_toArray, List.map_cons, List.map_nil]); first | done | rfl | (simp only [List.length_drop, List.length_take]; rfl)) ?_
   with_reducible refine (slab_side.calls gb112 4 1 1 5 a1_0 (.pointer (some ⟨gb112, 5, none⟩)) _ A25.out).mono ?_
   rintro e w' ⟨rfl, ⟨nd, rfl⟩⟩
   refine ⟨_, rfl, ?_⟩
   refine hK.out _ _ ⟨(zC BK113.out 0).trans rfl, (zC BK113.out 1).trans rfl, (zC BK113.out 2).trans rfl, (zC BK113.out 3).trans rfl, (zC BK112.out 0).trans rfl, (zC BK112.out 1).trans rfl, (zC BK112.out 2).trans rfl, (zC BK112.out 3).trans rfl, (zC BK112.out 4).trans rfl, (zC BK112.out 5).trans rfl, (zC BK112.out 6).trans rfl⟩ (fun hHeld => ?_)
   clear hK K
   refine norm_ (a' := ?_) ?_ ?_
   rotate_left
   ·show Act.put _ (some 45) _ = _
    simp only [Act.put, sA, sZ, sS, i64_w, i32_w]
    rfl
   refine pure_ (i := 12) (N := some 46) (v := ?_) (a' := ?_) #[true, true, true, true, true, true, true, true, true, true, true, true, true, false, false, false] rfl rfl (any_of HT_.out (by kernel_rfl)) (fun _ _ _ h => h) (Or.inl ⟨by rfl, ?_⟩) ?_ ?_
   rotate_left
   ·intro w'
    go_simp
    with_reducible rfl
   rotate_left
   ·simp only [Act.put, sA, sZ, sS, i64_w, i32_w]
    rfl
   refine pure_ (i := 14) (N := some 9) (v := ?_) (a' := ?_) #[true, true, true, true, true, true, true, true, true, true, true, true, true, false, true, false] rfl rfl (any_of HT_.out (by kernel_rfl)) (fun _ _ _ h => h) (Or.inl ⟨by rfl, ?_⟩) ?_ ?_
   rotate_left
   ·intro w'
    go_simp
    with_reducible rfl
   rotate_left
   ·simp only [Act.put, sA, sZ, sS, i64_w, i32_w]
    rfl
   refine take_ (i := 13) (N := some 47) (v := ?_) (a' := ?_) #[true, true, true, true, true, true, true, true, true, true, true, true, true, true, true, false] rfl rfl (take_ofW HT_.out HW_.out (by kernel_rfl)) (fun _ _ _ h => h) (Or.inl ⟨by rfl, ?_⟩) hHeld ?_ ?_
   rotate_left
   ·rintro w' ⟨s0, s1, s2, s3, s4, s5, s6, s7, s8, s9, s10⟩
    go_simp
    with_reducible rfl
   rotate_left
   ·simp only [Act.put, sA, sZ, sS, i64_w, i32_w]
    rfl
   refine pure_ (i := 15) (N := some 10) (v := ?_) (a' := ?_) #[true, true, true, true, true, true, true, true, true, true, true, true, true, true, true, true] rfl rfl (any_of HT_.out (by kernel_rfl)) (fun _ _ _ h => h) (Or.inl ⟨by rfl, ?_⟩) ?_ ?_
   rotate_left
   ·intro w'
    go_simp
    with_reducible rfl
   rotate_left
   ·simp only [Act.put, sA, sZ, sS, i64_w, i32_w]
    rfl
   refine done_ (done_of HT_.out (by kernel_rfl)) ?_
   try go_wp2
   go_meet
   case rel => exact ⟨_, (a0_2), (a0_5), (by first | rfl | (simp; done) | (simp [*]; done)), (by first | rfl | (simp; done) | (simp [*]; done)), H', ⟨by first | omega | exact Nat.le_refl _⟩, ⟨BK112.out⟩, ⟨BK113.out⟩, ⟨by repeat (first | (with_reducible first | exact HB.out | apply yA | apply yN | apply yD | refine yS ?_ GE112.out | refine yS ?_ GE113.out) | exact HB.out)⟩⟩
  rw [if_neg c23] at H
  have c23b0 : (a1_0 == 1) = false := beq_eq_false_iff_ne.mpr c23
  have c23b1 : (a1_0 != 1) = true := bne_iff_ne.mpr c23
  by_cases c27 : a1_0 = 2
  rotate_left
  ·rw [if_neg c27] at H
   exact absurd H (by simp)
  rw [if_pos c27] at H
  have c27b0 : (a1_0 == 2) = true := beq_iff_eq.mpr c27
  have c27b1 : (a1_0 != 2) = false := bne_eq_false_iff_eq.mpr c27
  clear c27
  have A28 := aK (show a1_0 = (2 : Int) from by first | assumption | exact of_decide_eq_true (by assumption) | exact beq_iff_eq.mp (by assumption))
  have A29 := aK (show a1_0 = (2 : Int) from by first | assumption | exact of_decide_eq_true (by assumption) | exact beq_iff_eq.mp (by assumption))
  have H' := aK H
  clear H
  try go_wp2
  have n0_ := aK (zD BK112.out)
  have n1_ := aK (zD BK113.out)
  have n2_ := aK (yD HB.out)
  clear BK112
  clear BK113
  clear HB
  have BK112 := n0_
  have BK113 := n1_
  have HB := n2_
  clear n0_ n1_ n2_
  refine start_ (n := 16) (S := fun w' => w'.cell? ⟨gb113, 0, none⟩ = some (.int .i64 a1_0) ∧ w'.cell? ⟨gb113, 1, none⟩ = some (.int .i64 a1_1) ∧ w'.cell? ⟨gb113, 2, none⟩ = some (.int .i64 a1_2) ∧ w'.cell? ⟨gb113, 3, none⟩ = some (.int .i64 a1_3) ∧ w'.cell? ⟨gb112, 0, none⟩ = some (.string a0_0) ∧ w'.cell? ⟨gb112, 1, none⟩ = some (.int .i64 a0_1) ∧ w'.cell? ⟨gb112, 2, none⟩ = some (.int .i64 a0_2) ∧ w'.cell? ⟨gb112, 3, none⟩ = some (.int .i64 a0_3) ∧ w'.cell? ⟨gb112, 4, none⟩ = some (.int .i64 a0_4) ∧ w'.cell? ⟨gb112, 5, none⟩ = some (.int .i64 a0_5) ∧ w'.cell? ⟨gb112, 6, none⟩ = some (.int .i64 a0_6)) (ds := []) #[false, false, false, false, false, false, false, false, false, false, false, false, false, false, false, false] (by kernel_rfl) rfl rfl ⟨(zC BK113.out 0).trans rfl, (zC BK113.out 1).trans rfl, (zC BK113.out 2).trans rfl, (zC BK113.out 3).trans rfl, (zC BK112.out 0).trans rfl, (zC BK112.out 1).trans rfl, (zC BK112.out 2).trans rfl, (zC BK112.out 3).trans rfl, (zC BK112.out 4).trans rfl, (zC BK112.out 5).trans rfl, (zC BK112.out 6).trans rfl⟩ (fun hHeld => ?_); refine with_tabW slab_Make.tab9 slab_Make.bits9 (fun HT_ HW_ => ?_)
  generalize w18.drew = w30 at BK112 BK113 HB hHeld ⊢
  refine pure_ (i := 0) (N := some 34) (v := ?_) (a' := ?_) #[true, false, false, false, false, false, false, false, false, false, false, false, false, false, false, false] rfl rfl (any_of HT_.out (by kernel_rfl)) (fun _ _ _ h => h) (Or.inl ⟨by rfl, ?_⟩) ?_ ?_
  rotate_left
  ·intro w'
   go_simp
   with_reducible rfl
  rotate_left
  ·simp only [Act.put, sA, sZ, sS, i64_w, i32_w]
   rfl
  refine pure_ (i := 1) (N := some 35) (v := ?_) (a' := ?_) #[true, true, false, false, false, false, false, false, false, false, false, false, false, false, false, false] rfl rfl (any_of HT_.out (by kernel_rfl)) (fun _ _ _ h => h) (Or.inl ⟨by rfl, ?_⟩) ?_ ?_
  rotate_left
  ·intro w'
   go_simp
   with_reducible rfl
  rotate_left
  ·simp only [Act.put, sA, sZ, sS, i64_w, i32_w]
   rfl
  refine pure_ (i := 2) (N := some 36) (v := ?_) (a' := ?_) #[true, true, true, false, false, false, false, false, false, false, false, false, false, false, false, false] rfl rfl (any_of HT_.out (by kernel_rfl)) (fun _ _ _ h => h) (Or.inl ⟨by rfl, ?_⟩) ?_ ?_
  rotate_left
  ·intro w'
   go_simp
   with_reducible rfl
  rotate_left
  ·simp only [Act.put, sA, sZ, sS, i64_w, i32_w]
   rfl
  refine pure_ (i := 7) (N := some 41) (v := ?_) (a' := ?_) #[true, true, true, false, false, false, false, true, false, false, false, false, false, false, false, false] rfl rfl (any_of HT_.out (by kernel_rfl)) (fun _ _ _ h => h) (Or.inl ⟨by rfl, ?_⟩) ?_ ?_
  rotate_left
  ·intro w'
   go_simp
   with_reducible rfl
  rotate_left
  ·simp only [Act.put, sA, sZ, sS, i64_w, i32_w]
   rfl
  refine pure_ (i := 8) (N := some 42) (v := ?_) (a' := ?_) #[true, true, true, false, false, false, false, true, true, false, false, false, false, false, false, false] rfl rfl (any_of HT_.out (by kernel_rfl)) (fun _ _ _ h => h) (Or.inl ⟨by rfl, ?_⟩) ?_ ?_
  rotate_left
  ·intro w'
   go_simp
   with_reducible rfl
  rotate_left
  ·simp only [Act.put, sA, sZ, sS, i64_w, i32_w]
   rfl
  refine pure_ (i := 9) (N := some 43) (v := ?_) (a' := ?_) #[true, true, true, false, false, false, false, true, true, true, false, false, false, false, false, false] rfl rfl (any_of HT_.out (by kernel_rfl)) (fun _ _ _ h => h) (Or.inl ⟨by rfl, ?_⟩) ?_ ?_
  rotate_left
  ·intro w'
   go_simp
   with_reducible rfl
  rotate_left
  ·simp only [Act.put, sA, sZ, sS, i64_w, i32_w]
   rfl
  refine take_ (i := 3) (N := some 37) (v := ?_) (a' := ?_) #[true, true, true, true, false, false, false, true, true, true, false, false, false, false, false, false] rfl rfl (take_ofW HT_.out HW_.out (by kernel_rfl)) (fun _ _ _ h => h) (Or.inl ⟨by rfl, ?_⟩) hHeld ?_ ?_
  rotate_left
  ·rintro w' ⟨s0, s1, s2, s3, s4, s5, s6, s7, s8, s9, s10⟩
   go_simp
   with_reducible rfl
  rotate_left
  ·simp only [Act.put, sA, sZ, sS, i64_w, i32_w]
   rfl
  refine take_ (i := 10) (N := some 44) (v := ?_) (a' := ?_) #[true, true, true, true, false, false, false, true, true, true, true, false, false, false, false, false] rfl rfl (take_ofW HT_.out HW_.out (by kernel_rfl)) (fun _ _ _ h => h) (Or.inl ⟨by rfl, ?_⟩) hHeld ?_ ?_
  rotate_left
  ·rintro w' ⟨s0, s1, s2, s3, s4, s5, s6, s7, s8, s9, s10⟩
   go_simp
   with_reducible rfl
  rotate_left
  ·simp only [Act.put, sA, sZ, sS, i64_w, i32_w]
   rfl
  refine one_ (i := 4) (N := some 38) #[true, true, true, true, true, false, false, true, true, true, true, false, false, false, false, false] rfl rfl (one_of HT_.out (by kernel_rfl)) (by decide) (fun K hK => ?_)
  refine goes_ Tryz.func60 (by kernel_rfl) rfl #[.pointer (some ⟨gb112, 1, none⟩), .int .i64 a1_0] (by rfl) rfl rfl (by (try simp only [List.map_toArray, List.map_cons, List.map_nil]); first | done | rfl | (simp only [List.length_drop, List.length_take]; rfl)) ?_
  with_reducible refine (slab_side.calls gb112 1 2 2 3 a1_0 (.pointer (some ⟨gb112, 3, none⟩)) _ A28.out).mono ?_
  rintro e w' ⟨rfl, ⟨nd, rfl⟩⟩
  refine ⟨_, rfl, ?_⟩
  refine hK.out _ _ ⟨(zC BK113.out 0).trans rfl, (zC BK113.out 1).trans rfl, (zC BK113.out 2).trans rfl, (zC BK113.out 3).trans rfl, (zC BK112.out 0).trans rfl, (zC BK112.out 1).trans rfl, (zC BK112.out 2).trans rfl, (zC BK112.out 3).trans rfl, (zC BK112.out 4).trans rfl, (zC BK112.out 5).trans rfl, (zC BK112.out 6).trans rfl⟩ (fun hHeld => ?_)
  clear hK K
  refine norm_ (a' := ?_) ?_ ?_
  rotate_left
  ·show Act.put _ (some 38) _ = _
   simp only [Act.put, sA, sZ, sS, i64_w, i32_w]
   rfl
  refine pure_ (i := 5) (N := some 39) (v := ?_) (a' := ?_) #[true, true, true, true, true, true, false, true, true, true, true, false, false, false, false, false] rfl rfl (any_of HT_.out (by kernel_rfl)) (fun _ _ _ h => h) (Or.inl ⟨by rfl, ?_⟩) ?_ ?_
  rotate_left
  ·intro w'
   go_simp
   with_reducible rfl
  rotate_left
  ·simp only [Act.put, sA, sZ, sS, i64_w, i32_w]
   rfl
  refine take_ (i := 6) (N := some 40) (v := ?_) (a' := ?_) #[true, true, true, true, true, true, true, true, true, true, true, false, false, false, false, false] rfl rfl (take_ofW HT_.out HW_.out (by kernel_rfl)) (fun _ _ _ h => h) (Or.inl ⟨by rfl, ?_⟩) hHeld ?_ ?_
  rotate_left
  ·rintro w' ⟨s0, s1, s2, s3, s4, s5, s6, s7, s8, s9, s10⟩
   go_simp
   with_reducible rfl
  rotate_left
  ·simp only [Act.put, sA, sZ, sS, i64_w, i32_w]
   rfl
  refine one_ (i := 11) (N := some 45) #[true, true, true, true, true, true, true, true, true, true, true, true, false, false, false, false] rfl rfl (one_of HT_.out (by kernel_rfl)) (by decide) (fun K hK => ?_)
  refine goes_ Tryz.func60 (by kernel_rfl) rfl #[.pointer (some ⟨gb112, 4, none⟩), .int .i64 a1_0] (by rfl) rfl rfl (by (try simp only [List.map_toArray, List.map_cons, List.map_nil]); first | done | rfl | (simp only [List.length_drop, List.length_take]; rfl)) ?_
  with_reducible refine (slab_side.calls gb112 4 2 2 6 a1_0 (.pointer (some ⟨gb112, 6, none⟩)) _ A29.out).mono ?_
  rintro e w' ⟨rfl, ⟨nd, rfl⟩⟩
  refine ⟨_, rfl, ?_⟩
  refine hK.out _ _ ⟨(zC BK113.out 0).trans rfl, (zC BK113.out 1).trans rfl, (zC BK113.out 2).trans rfl, (zC BK113.out 3).trans rfl, (zC BK112.out 0).trans rfl, (zC BK112.out 1).trans rfl, (zC BK112.out 2).trans rfl, (zC BK112.out 3).trans rfl, (zC BK112.out 4).trans rfl, (zC BK112.out 5).trans rfl, (zC BK112.out 6).trans rfl⟩ (fun hHeld => ?_)
  clear hK K
  refine norm_ (a' := ?_) ?_ ?_
  rotate_left
  ·show Act.put _ (some 45) _ = _
   simp only [Act.put, sA, sZ, sS, i64_w, i32_w]
   rfl
  refine pure_ (i := 12) (N := some 46) (v := ?_) (a' := ?_) #[true, true, true, true, true, true, true, true, true, true, true, true, true, false, false, false] rfl rfl (any_of HT_.out (by kernel_rfl)) (fun _ _ _ h => h) (Or.inl ⟨by rfl, ?_⟩) ?_ ?_
  rotate_left
  ·intro w'
   go_simp
   with_reducible rfl
  rotate_left
  ·simp only [Act.put, sA, sZ, sS, i64_w, i32_w]
   rfl
  refine pure_ (i := 14) (N := some 9) (v := ?_) (a' := ?_) #[true, true, true, true, true, true, true, true, true, true, true, true, true, false, true, false] rfl rfl (any_of HT_.out (by kernel_rfl)) (fun _ _ _ h => h) (Or.inl ⟨by rfl, ?_⟩) ?_ ?_
  rotate_left
  ·intro w'
   go_simp
   with_reducible rfl
  rotate_left
  ·simp only [Act.put, sA, sZ, sS, i64_w, i32_w]
   rfl
  refine take_ (i := 13) (N := some 47) (v := ?_) (a' := ?_) #[true, true, true, true, true, true, true, true, true, true, true, true, true, true, true, false] rfl rfl (take_ofW HT_.out HW_.out (by kernel_rfl)) (fun _ _ _ h => h) (Or.inl ⟨by rfl, ?_⟩) hHeld ?_ ?_
  rotate_left
  ·rintro w' ⟨s0, s1, s2, s3, s4, s5, s6, s7, s8, s9, s10⟩
   go_simp
   with_reducible rfl
  rotate_left
  ·simp only [Act.put, sA, sZ, sS, i64_w, i32_w]
   rfl
  refine pure_ (i := 15) (N := some 10) (v := ?_) (a' := ?_) #[true, true, true, true, true, true, true, true, true, true, true, true, true, true, true, true] rfl rfl (any_of HT_.out (by kernel_rfl)) (fun _ _ _ h => h) (Or.inl ⟨by rfl, ?_⟩) ?_ ?_
  rotate_left
  ·intro w'
   go_simp
   with_reducible rfl
  rotate_left
  ·simp only [Act.put, sA, sZ, sS, i64_w, i32_w]
   rfl
  refine done_ (done_of HT_.out (by kernel_rfl)) ?_
  try go_wp2
  go_meet
  case rel => exact ⟨_, (a0_3), (a0_6), (by first | rfl | (simp; done) | (simp [*]; done)), (by first | rfl | (simp; done) | (simp [*]; done)), H', ⟨by first | omega | exact Nat.le_refl _⟩, ⟨BK112.out⟩, ⟨BK113.out⟩, ⟨by repeat (first | (with_reducible first | exact HB.out | apply yA | apply yN | apply yD | refine yS ?_ GE112.out | refine yS ?_ GE113.out) | exact HB.out)⟩⟩
 case rest =>
  clear HC9
  try clear c1
  try clear c2
  try clear p2
  try clear c4
  try clear c4b0
  try clear c4b1
  try clear c5
  try clear c6
  try clear c8
  try clear c8b0
  try clear c8b1
  try clear c12
  try clear c19
  try clear c19b0
  try clear c19b1
  try clear c21
  try clear c23
  try clear c23b0
  try clear c23b1
  try clear c27
  try clear c27b0
  try clear c27b1
  try clear hcz13_0
  try clear hcz13_1
  try clear hcz13_2
  try clear hcz13_3
  try clear hcz15_0
  try clear hcz15_1
  try clear hcz15_2
  try clear hcz15_3
  try clear hcz15_4
  try clear hcz15_5
  try clear hcz15_6
  try clear hcz17_0
  try clear hcz17_1
  try clear hcz17_2
  try clear hcz17_3
  try clear hcz17_4
  try clear hcz17_5
  try clear hcz17_6
  try clear hfz13_0
  try clear hfz13_1
  try clear hfz13_2
  try clear hfz13_3
  try clear hfz15_0
  try clear hfz15_1
  try clear hfz15_2
  try clear hfz15_3
  try clear hfz15_4
  try clear hfz15_5
  try clear hfz15_6
  try clear hfz17_0
  try clear hfz17_1
  try clear hfz17_2
  try clear hfz17_3
  try clear hfz17_4
  try clear hfz17_5
  try clear hfz17_6
  obtain ⟨kq, x9_8, x10_8, rfl, rfl, HA, HJ8, BK112, BK113, HB⟩ := hcut
  cases kq with
  | zero => exact absurd HA.out (by simp [slab_Make.j0])
  | succ kj8 =>
   have H := HA.out
   clear HA
   simp only [slab_Make.j0] at H
   replace H := Option.bind_eq_some_iff.mp H
   obtain ⟨⟨t117, t118⟩, A310, H⟩ := H
   replace H : (if a0_0.size + 1 ≤ 9223372036854775807 then ((strconv_Itoa.f (wrap64 ((wrap64 (a1_3 + t117)) - 1))).bind fun t119 => (if (a0_0 ++ (⟨#[95]⟩ : ByteArray)).size + t119.size ≤ 9223372036854775807 then (slab_Make.j1 kj8 x9_8 t117 ((a0_0 ++ (⟨#[95]⟩ : ByteArray)) ++ t119) a0_0 a0_1 a0_2 a0_3 a0_4 a0_5 a0_6 a1_0 a1_1 a1_2 a1_3) else (none))) else (none)) = some (r1, r2, r3) := H
   have A31 := aK A310
   clear A310
   have HC32 := aK H
   clear H
   have hnb33 := NB113_112.out
   have hnc33 := NB112_113.out
   have hcz34_0 := zI BK113 0 rfl
   have hcz34_1 := zI BK113 1 rfl
   have hcz34_2 := zI BK113 2 rfl
   have hcz34_3 := zI BK113 3 rfl
   have hfz34_0 := zF BK113.out 0
   have hfz34_1 := zF BK113.out 1
   have hfz34_2 := zF BK113.out 2
   have hfz34_3 := zF BK113.out 3
   go_upto_region 11 with (first | ((with_reducible refine gate_callee (f := 19) rfl ?_); refine goesL_ (some 53) rfl rfl Tryz.func19 (by kernel_rfl) rfl #[.agg #[.int .i64 a1_0, .int .i64 a1_1, .int .i64 a1_2, .int .i64 a1_3], .int .i64 (wrap64 (x10_8 - x9_8))] rfl (by (try simp only [List.map_toArray, List.map_cons, List.map_nil]); first | done | rfl | (simp only [List.length_drop, List.length_take]; rfl)) ?_; (with_reducible refine (slab_Count.calls a1_0 a1_1 a1_2 a1_3 (wrap64 (x10_8 - x9_8)) t117 t118 _ A31.out).mono ?_); rintro e w35 ⟨rfl, hb⟩; refine ⟨_, rfl, ?_⟩; have n0_ := aK (zB (g := gb112) (o := .cells #[.string a0_0, .int .i64 a0_1, .int .i64 a0_2, .int .i64 a0_3, .int .i64 a0_4, .int .i64 a0_5, .int .i64 a0_6] 45 (0, 0)) (BK112.out) hb); have n1_ := aK (zB (g := gb113) (o := .cells #[.int .i64 a1_0, .int .i64 a1_1, .int .i64 a1_2, .int .i64 a1_3] 50 (0, 0)) (BK113.out) hb); have n2_ := aK (yT (HB.out) hb); clear BK112; clear BK113; clear HB; have BK112 := n0_; have BK113 := n1_; have HB := n2_; clear n0_ n1_ n2_; (try clear hb)))
   (try simp only [Act.put, sA, sZ, sS])
   go_cut [13] (fun v13 wc => ∃ (kq : Nat) (x13_31 : ByteArray), v13 = .string x13_31 ∧ Aside0 (slab_Make.j1 kq x9_8 t117 x13_31 a0_0 a0_1 a0_2 a0_3 a0_4 a0_5 a0_6 a1_0 a1_1 a1_2 a1_3 = some (r1, r2, r3)) ∧ Aside0 (kq ≤ kj8) ∧ Aside0 (wc.heap[gb112]? = some (.cells #[.string a0_0, .int .i64 a0_1, .int .i64 a0_2, .int .i64 a0_3, .int .i64 a0_4, .int .i64 a0_5, .int .i64 a0_6] 45 (0, 0))) ∧ Aside0 (wc.heap[gb113]? = some (.cells #[.int .i64 a1_0, .int .i64 a1_1, .int .i64 a1_2, .int .i64 a1_3] 50 (0, 0))) ∧ Aside0 (Below w.heap.size w wc))
   case first =>
    have H := HC32.out
    clear HC32
    by_cases c36 : a0_0.size + 1 ≤ 9223372036854775807
    rotate_left
    ·rw [if_neg c36] at H
     exact absurd H (by simp)
    rw [if_pos c36] at H
    have c36b0 := eq_true c36
    have c36b1 : decide (a0_0.size + 1 ≤ 9223372036854775807) = true := decide_eq_true c36
    try have c36b2 : (9223372036854775807 < a0_0.size + 1) = False := eq_false (Nat.not_lt.2 c36)
    replace H := Option.bind_eq_some_iff.mp H
    obtain ⟨t119, A370, H⟩ := H
    replace H : (if (a0_0 ++ (⟨#[95]⟩ : ByteArray)).size + t119.size ≤ 9223372036854775807 then (slab_Make.j1 kj8 x9_8 t117 ((a0_0 ++ (⟨#[95]⟩ : ByteArray)) ++ t119) a0_0 a0_1 a0_2 a0_3 a0_4 a0_5 a0_6 a1_0 a1_1 a1_2 a1_3) else (none)) = some (r1, r2, r3) := H
    have A37 := aK A370
    clear A370
    by_cases c38 : (a0_0 ++ (⟨#[95]⟩ : ByteArray)).size + t119.size ≤ 9223372036854775807
    rotate_left
    ·rw [if_neg c38] at H
     exact absurd H (by simp)
    rw [if_pos c38] at H
    have c38b0 := eq_true c38
    have c38b1 : decide ((a0_0 ++ (⟨#[95]⟩ : ByteArray)).size + t119.size ≤ 9223372036854775807) = true := decide_eq_true c38
    try have c38b2 : (9223372036854775807 < (a0_0 ++ (⟨#[95]⟩ : ByteArray)).size + t119.size) = False := eq_false (Nat.not_lt.2 c38)
    try have c38b3 : (9223372036854775807 < a0_0.size + 1 + t119.size) = False := eq_false (by have h_ := c38; repeat rw [ByteArray.size_append] at h_; exact Nat.not_lt.2 h_)
    have H' := aK H
    clear H
    try go_wp2
    have n0_ := aK (zD BK112.out)
    have n1_ := aK (zD BK113.out)
    have n2_ := aK (yD HB.out)
    clear BK112
    clear BK113
    clear HB
    have BK112 := n0_
    have BK113 := n1_
    have HB := n2_
    clear n0_ n1_ n2_
    refine start_ (n := 11) (S := fun w' => w'.cell? ⟨gb112, 0, none⟩ = some (.string a0_0) ∧ w'.cell? ⟨gb112, 1, none⟩ = some (.int .i64 a0_1) ∧ w'.cell? ⟨gb112, 2, none⟩ = some (.int .i64 a0_2) ∧ w'.cell? ⟨gb112, 3, none⟩ = some (.int .i64 a0_3) ∧ w'.cell? ⟨gb112, 4, none⟩ = some (.int .i64 a0_4) ∧ w'.cell? ⟨gb112, 5, none⟩ = some (.int .i64 a0_5) ∧ w'.cell? ⟨gb112, 6, none⟩ = some (.int .i64 a0_6) ∧ w'.cell? ⟨gb113, 0, none⟩ = some (.int .i64 a1_0) ∧ w'.cell? ⟨gb113, 1, none⟩ = some (.int .i64 a1_1) ∧ w'.cell? ⟨gb113, 2, none⟩ = some (.int .i64 a1_2) ∧ w'.cell? ⟨gb113, 3, none⟩ = some (.int .i64 a1_3)) (ds := []) #[false, false, false, false, false, false, false, false, false, false, false] (by kernel_rfl) rfl rfl ⟨(zC BK112.out 0).trans rfl, (zC BK112.out 1).trans rfl, (zC BK112.out 2).trans rfl, (zC BK112.out 3).trans rfl, (zC BK112.out 4).trans rfl, (zC BK112.out 5).trans rfl, (zC BK112.out 6).trans rfl, (zC BK113.out 0).trans rfl, (zC BK113.out 1).trans rfl, (zC BK113.out 2).trans rfl, (zC BK113.out 3).trans rfl⟩ (fun hHeld => ?_); refine with_tabW slab_Make.tab11 slab_Make.bits11 (fun HT_ HW_ => ?_)
    generalize w35.drew = w39 at BK112 BK113 HB hHeld ⊢
    refine pure_ (i := 0) (N := some 56) (v := ?_) (a' := ?_) #[true, false, false, false, false, false, false, false, false, false, false] rfl rfl (any_of HT_.out (by kernel_rfl)) (fun _ _ _ h => h) (Or.inl ⟨by rfl, ?_⟩) ?_ ?_
    rotate_left
    ·intro w'
     go_simp
     with_reducible rfl
    rotate_left
    ·simp only [Act.put, sA, sZ, sS, i64_w, i32_w]
     rfl
    refine pure_ (i := 3) (N := some 59) (v := ?_) (a' := ?_) #[true, false, false, true, false, false, false, false, false, false, false] rfl rfl (any_of HT_.out (by kernel_rfl)) (fun _ _ _ h => h) (Or.inl ⟨by rfl, ?_⟩) ?_ ?_
    rotate_left
    ·intro w'
     go_simp
     with_reducible rfl
    rotate_left
    ·simp only [Act.put, sA, sZ, sS, i64_w, i32_w]
     rfl
    refine pure_ (i := 5) (N := some 61) (v := ?_) (a' := ?_) #[true, false, false, true, false, true, false, false, false, false, false] rfl rfl (any_of HT_.out (by kernel_rfl)) (fun _ _ _ h => h) (Or.inl ⟨by rfl, ?_⟩) ?_ ?_
    rotate_left
    ·intro w'
     go_simp
     with_reducible rfl
    rotate_left
    ·simp only [Act.put, sA, sZ, sS, i64_w, i32_w]
     rfl
    refine take_ (i := 1) (N := some 57) (v := ?_) (a' := ?_) #[true, true, false, true, false, true, false, false, false, false, false] rfl rfl (take_ofW HT_.out HW_.out (by kernel_rfl)) (fun _ _ _ h => h) (Or.inl ⟨by rfl, ?_⟩) hHeld ?_ ?_
    rotate_left
    ·rintro w' ⟨s0, s1, s2, s3, s4, s5, s6, s7, s8, s9, s10⟩
     go_simp
     with_reducible rfl
    rotate_left
    ·simp only [Act.put, sA, sZ, sS, i64_w, i32_w]
     rfl
    refine pure_ (i := 2) (N := some 58) (v := ?_) (a' := ?_) #[true, true, true, true, false, true, false, false, false, false, false] rfl rfl (any_of HT_.out (by kernel_rfl)) (fun _ _ _ h => h) (Or.inl ⟨by rfl, ?_⟩) ?_ ?_
    rotate_left
    ·intro w'
     go_simp
     with_reducible rfl
    rotate_left
    ·simp only [Act.put, sA, sZ, sS, i64_w, i32_w]
     rfl
    refine take_ (i := 4) (N := some 60) (v := ?_) (a' := ?_) #[true, true, true, true, true, true, false, false, false, false, false] rfl rfl (take_ofW HT_.out HW_.out (by kernel_rfl)) (fun _ _ _ h => h) (Or.inl ⟨by rfl, ?_⟩) hHeld ?_ ?_
    rotate_left
    ·rintro w' ⟨s0, s1, s2, s3, s4, s5, s6, s7, s8, s9, s10⟩
     go_simp
     with_reducible rfl
    rotate_left
    ·simp only [Act.put, sA, sZ, sS, i64_w, i32_w]
     rfl
    refine pure_ (i := 6) (N := some 62) (v := ?_) (a' := ?_) #[true, true, true, true, true, true, true, false, false, false, false] rfl rfl (any_of HT_.out (by kernel_rfl)) (fun _ _ _ h => h) (Or.inl ⟨by rfl, ?_⟩) ?_ ?_
    rotate_left
    ·intro w'
     go_simp
     with_reducible rfl
    rotate_left
    ·simp only [Act.put, sA, sZ, sS, i64_w, i32_w]
     rfl
    refine pure_ (i := 7) (N := some 63) (v := ?_) (a' := ?_) #[true, true, true, true, true, true, true, true, false, false, false] rfl rfl (any_of HT_.out (by kernel_rfl)) (fun _ _ _ h => h) (Or.inl ⟨by rfl, ?_⟩) ?_ ?_
    rotate_left
    ·intro w'
     go_simp
     with_reducible rfl
    rotate_left
    ·simp only [Act.put, sA, sZ, sS, i64_w, i32_w]
     rfl
    refine one_ (i := 8) (N := some 64) #[true, true, true, true, true, true, true, true, true, false, false] rfl rfl (one_of HT_.out (by kernel_rfl)) (by decide) (fun K hK => ?_)
    refine goes_ Tryz.func61 (by kernel_rfl) rfl #[.int .i64 (wrap64 ((wrap64 (a1_3 + t117)) - 1))] (by rfl) rfl rfl (by (try simp only [List.map_toArray, List.map_cons, List.map_nil]); first | done | rfl | (simp only [List.length_drop, List.length_take]; rfl)) ?_
    with_reducible refine (strconv_Itoa.calls (wrap64 ((wrap64 (a1_3 + t117)) - 1)) t119 _ HLD.out (HB.out) A37.out).mono ?_
    rintro e w40 ⟨rfl, hb⟩
    refine ⟨_, rfl, ?_⟩
    have n0_ := aK (zB (g := gb112) (o := .cells #[.string a0_0, .int .i64 a0_1, .int .i64 a0_2, .int .i64 a0_3, .int .i64 a0_4, .int .i64 a0_5, .int .i64 a0_6] 45 (0, 0)) (BK112.out) hb)
    have n1_ := aK (zB (g := gb113) (o := .cells #[.int .i64 a1_0, .int .i64 a1_1, .int .i64 a1_2, .int .i64 a1_3] 50 (0, 0)) (BK113.out) hb)
    have n2_ := aK (yT (HB.out) hb)
    clear BK112
    clear BK113
    clear HB
    have BK112 := n0_
    have BK113 := n1_
    have HB := n2_
    clear n0_ n1_ n2_
    (try clear hb)
    (try clear hb2)
    (try clear hk)
    (try clear hi)
    refine hK.out _ _ ⟨(zC BK112.out 0).trans rfl, (zC BK112.out 1).trans rfl, (zC BK112.out 2).trans rfl, (zC BK112.out 3).trans rfl, (zC BK112.out 4).trans rfl, (zC BK112.out 5).trans rfl, (zC BK112.out 6).trans rfl, (zC BK113.out 0).trans rfl, (zC BK113.out 1).trans rfl, (zC BK113.out 2).trans rfl, (zC BK113.out 3).trans rfl⟩ (fun hHeld => ?_)
    clear hK K
    refine norm_ (a' := ?_) ?_ ?_
    rotate_left
    ·show Act.put _ (some 64) _ = _
     simp only [Act.put, sA, sZ, sS, i64_w, i32_w]
     rfl
    refine pure_ (i := 9) (N := some 65) (v := ?_) (a' := ?_) #[true, true, true, true, true, true, true, true, true, true, false] rfl rfl (any_of HT_.out (by kernel_rfl)) (fun _ _ _ h => h) (Or.inl ⟨by rfl, ?_⟩) ?_ ?_
    rotate_left
    ·intro w'
     go_simp
     with_reducible rfl
    rotate_left
    ·simp only [Act.put, sA, sZ, sS, i64_w, i32_w]
     rfl
    refine pure_ (i := 10) (N := some 13) (v := ?_) (a' := ?_) #[true, true, true, true, true, true, true, true, true, true, true] rfl rfl (any_of HT_.out (by kernel_rfl)) (fun _ _ _ h => h) (Or.inl ⟨by rfl, ?_⟩) ?_ ?_
    rotate_left
    ·intro w'
     go_simp
     with_reducible rfl
    rotate_left
    ·simp only [Act.put, sA, sZ, sS, i64_w, i32_w]
     rfl
    refine done_ (done_of HT_.out (by kernel_rfl)) ?_
    try go_wp2
    go_meet
    case rel => exact ⟨_, ((a0_0 ++ (⟨#[95]⟩ : ByteArray)) ++ t119), (by first | rfl | (simp; done) | (simp [*]; done)), H', ⟨by have := HJ8.out; first | omega | exact Nat.le_refl _⟩, ⟨BK112.out⟩, ⟨BK113.out⟩, ⟨HB.out⟩⟩
   case rest =>
    clear HC32
    try clear c1
    try clear c2
    try clear p2
    try clear c3
    try clear c4
    try clear c4b0
    try clear c4b1
    try clear c5
    try clear c6
    try clear p6
    try clear c8
    try clear c8b0
    try clear c8b1
    try clear c12
    try clear c19
    try clear c19b0
    try clear c19b1
    try clear c21
    try clear c23
    try clear c23b0
    try clear c23b1
    try clear c27
    try clear c27b0
    try clear c27b1
    try clear c33
    try clear c36
    try clear c36b0
    try clear c36b1
    try clear c36b2
    try clear c38
    try clear c38b0
    try clear c38b1
    try clear c38b2
    try clear hcz13_0
    try clear hcz13_1
    try clear hcz13_2
    try clear hcz13_3
    try clear hcz15_0
    try clear hcz15_1
    try clear hcz15_2
    try clear hcz15_3
    try clear hcz15_4
    try clear hcz15_5
    try clear hcz15_6
    try clear hcz17_0
    try clear hcz17_1
    try clear hcz17_2
    try clear hcz17_3
    try clear hcz17_4
    try clear hcz17_5
    try clear hcz17_6
    try clear hcz34_0
    try clear hcz34_1
    try clear hcz34_2
    try clear hcz34_3
    try clear hfz13_0
    try clear hfz13_1
    try clear hfz13_2
    try clear hfz13_3
    try clear hfz15_0
    try clear hfz15_1
    try clear hfz15_2
    try clear hfz15_3
    try clear hfz15_4
    try clear hfz15_5
    try clear hfz15_6
    try clear hfz17_0
    try clear hfz17_1
    try clear hfz17_2
    try clear hfz17_3
    try clear hfz17_4
    try clear hfz17_5
    try clear hfz17_6
    try clear hfz34_0
    try clear hfz34_1
    try clear hfz34_2
    try clear hfz34_3
    try clear p2
    obtain ⟨kq, x13_31, rfl, HA, HJ31, BK112, BK113, HB⟩ := hcut
    cases kq with
    | zero => exact absurd HA.out (by simp [slab_Make.j1])
    | succ kj31 =>
     have H := HA.out
     clear HA
     simp only [slab_Make.j1] at H
     by_cases c41 : t117 = 0
     ·rw [if_pos c41] at H
      have c41b0 : (t117 == 0) = true := beq_iff_eq.mpr c41
      have c41b1 : (t117 != 0) = false := bne_eq_false_iff_eq.mpr c41
      clear c41
      simp only [Option.some.injEq, Prod.mk.injEq] at H
      obtain ⟨rfl, rfl, rfl⟩ := H
      go_wp2
      go_ret3
      exact ⟨_, _, rfl, by first | exact Kd.S_nil _ _ _ _ _ | exact Kd.N_nil _ _ _ _ _ | exact Kd.V_nil _ _ _ _ _ | exact Kd.Q_nil _ _ _ _ _ | exact Kd.R_nil _ _ _ _ _, by first | exact Kd.R_nil _ _ _ _ _ | exact Kd.N_nil _ _ _ _ _ | exact Kd.V_nil _ _ _ _ _ | exact Kd.Q_nil _ _ _ _ _ | exact Kd.S_nil _ _ _ _ _, HB.out⟩
     rw [if_neg c41] at H
     have c41b0 : (t117 == 0) = false := beq_eq_false_iff_ne.mpr c41
     have c41b1 : (t117 != 0) = true := bne_iff_ne.mpr c41
     by_cases c42 : t117 > 256
     ·rw [if_pos c42] at H
      have c42b0 : decide (256 < t117) = true := decide_eq_true c42
      clear c42
      simp only [Option.some.injEq, Prod.mk.injEq] at H
      obtain ⟨rfl, rfl, rfl⟩ := H
      go_wp2
      go_ret3
      exact ⟨_, _, rfl, by first | exact Kd.S_nil _ _ _ _ _ | exact Kd.N_nil _ _ _ _ _ | exact Kd.V_nil _ _ _ _ _ | exact Kd.Q_nil _ _ _ _ _ | exact Kd.R_nil _ _ _ _ _, by first | exact Kd.R_nil _ _ _ _ _ | exact Kd.N_nil _ _ _ _ _ | exact Kd.V_nil _ _ _ _ _ | exact Kd.Q_nil _ _ _ _ _ | exact Kd.S_nil _ _ _ _ _, HB.out⟩
     rw [if_neg c42] at H
     have c42b0 : decide (256 < t117) = false := decide_eq_false c42
     clear c42
     by_cases c43 : (wrap64 ((wrap64 (a1_3 + t117)) - 1)) > 1000000
     ·rw [if_pos c43] at H
      have c43b0 : decide (1000000 < (wrap64 ((wrap64 (a1_3 + t117)) - 1))) = true := decide_eq_true c43
      clear c43
      simp only [Option.some.injEq, Prod.mk.injEq] at H
      obtain ⟨rfl, rfl, rfl⟩ := H
      have hnb44 := NB113_112.out
      have hnc44 := NB112_113.out
      have hcz45_0 := zI BK113 0 rfl
      have hcz45_1 := zI BK113 1 rfl
      have hcz45_2 := zI BK113 2 rfl
      have hcz45_3 := zI BK113 3 rfl
      have hfz45_0 := zF BK113.out 0
      have hfz45_1 := zF BK113.out 1
      have hfz45_2 := zF BK113.out 2
      have hfz45_3 := zF BK113.out 3
      go_wp2
      go_ret3
      exact ⟨_, _, rfl, by first | exact Kd.S_nil _ _ _ _ _ | exact Kd.N_nil _ _ _ _ _ | exact Kd.V_nil _ _ _ _ _ | exact Kd.Q_nil _ _ _ _ _ | exact Kd.R_nil _ _ _ _ _, by first | exact Kd.R_nil _ _ _ _ _ | exact Kd.N_nil _ _ _ _ _ | exact Kd.V_nil _ _ _ _ _ | exact Kd.Q_nil _ _ _ _ _ | exact Kd.S_nil _ _ _ _ _, HB.out⟩
     rw [if_neg c43] at H
     have c43b0 : decide (1000000 < (wrap64 ((wrap64 (a1_3 + t117)) - 1))) = false := decide_eq_false c43
     clear c43
     replace H := Option.bind_eq_some_iff.mp H
     obtain ⟨t120, A460, H⟩ := H
     replace H : (if t120 = true then (slab_Make.l0 kj31 x9_8 t117 ([] : List (S35)) t117 0 a0_0 a0_1 a0_2 a0_3 a0_4 a0_5 a0_6 a1_0 a1_1 a1_2 a1_3) else (some (([] : List (S35)), ([] : List (S32)), 4))) = some (r1, r2, r3) := H
     have A46 := aK A460
     clear A460
     by_cases c47 : t120 = true
     rotate_left
     ·replace c47 := Bool.eq_false_iff.mpr c47
      subst c47
      have H1 : (some (([] : List (S35)), ([] : List (S32)), 4)) = some (r1, r2, r3) := by rw [if_neg (show ¬ (false = true) by decide)] at H; exact H
      clear H
      have H := H1
      clear H1
      simp only [Option.some.injEq, Prod.mk.injEq] at H
      obtain ⟨rfl, rfl, rfl⟩ := H
      have hnb136 := NB113_112.out
      have hnc136 := NB112_113.out
      have hcz137_0 := zI BK113 0 rfl
      have hcz137_1 := zI BK113 1 rfl
      have hcz137_2 := zI BK113 2 rfl
      have hcz137_3 := zI BK113 3 rfl
      have hfz137_0 := zF BK113.out 0
      have hfz137_1 := zF BK113.out 1
      have hfz137_2 := zF BK113.out 2
      have hfz137_3 := zF BK113.out 3
      go_wp2_with (first | ((with_reducible refine gate_callee (f := 58) rfl ?_); refine goesL_ (some 81) rfl rfl Tryz.func58 (by kernel_rfl) rfl #[.string x13_31] rfl (by (try simp only [List.map_toArray, List.map_cons, List.map_nil]); first | done | rfl | (simp only [List.length_drop, List.length_take]; rfl)) ?_; (with_reducible refine (lexer_Name.calls x13_31 false _ A46.out).mono ?_); rintro e w138 ⟨rfl, hb⟩; refine ⟨_, rfl, ?_⟩; have n0_ := aK (zB (g := gb112) (o := .cells #[.string a0_0, .int .i64 a0_1, .int .i64 a0_2, .int .i64 a0_3, .int .i64 a0_4, .int .i64 a0_5, .int .i64 a0_6] 45 (0, 0)) (BK112.out) hb); have n1_ := aK (zB (g := gb113) (o := .cells #[.int .i64 a1_0, .int .i64 a1_1, .int .i64 a1_2, .int .i64 a1_3] 50 (0, 0)) (BK113.out) hb); have n2_ := aK (yT (HB.out) hb); clear BK112; clear BK113; clear HB; have BK112 := n0_; have BK113 := n1_; have HB := n2_; clear n0_ n1_ n2_; (try clear hb)))
      go_ret3
      exact ⟨_, _, rfl, by first | exact Kd.S_nil _ _ _ _ _ | exact Kd.N_nil _ _ _ _ _ | exact Kd.V_nil _ _ _ _ _ | exact Kd.Q_nil _ _ _ _ _ | exact Kd.R_nil _ _ _ _ _, by first | exact Kd.R_nil _ _ _ _ _ | exact Kd.N_nil _ _ _ _ _ | exact Kd.V_nil _ _ _ _ _ | exact Kd.Q_nil _ _ _ _ _ | exact Kd.S_nil _ _ _ _ _, HB.out⟩
     subst c47
     have H1 : (slab_Make.l0 kj31 x9_8 t117 ([] : List (S35)) t117 0 a0_0 a0_1 a0_2 a0_3 a0_4 a0_5 a0_6 a1_0 a1_1 a1_2 a1_3) = some (r1, r2, r3) := by rw [if_pos rfl] at H; exact H
     clear H
     have H := H1
     clear H1
     have H' := aK H
     clear H
     have hnb48 := NB113_112.out
     have hnc48 := NB112_113.out
     have hcz49_0 := zI BK113 0 rfl
     have hcz49_1 := zI BK113 1 rfl
     have hcz49_2 := zI BK113 2 rfl
     have hcz49_3 := zI BK113 3 rfl
     have hfz49_0 := zF BK113.out 0
     have hfz49_1 := zF BK113.out 1
     have hfz49_2 := zF BK113.out 2
     have hfz49_3 := zF BK113.out 3
     go_wp2_with (first | ((with_reducible refine gate_callee (f := 58) rfl ?_); refine goesL_ (some 81) rfl rfl Tryz.func58 (by kernel_rfl) rfl #[.string x13_31] rfl (by (try simp only [List.map_toArray, List.map_cons, List.map_nil]); first | done | rfl | (simp only [List.length_drop, List.length_take]; rfl)) ?_; (with_reducible refine (lexer_Name.calls x13_31 true _ A46.out).mono ?_); rintro e w50 ⟨rfl, hb⟩; refine ⟨_, rfl, ?_⟩; have n0_ := aK (zB (g := gb112) (o := .cells #[.string a0_0, .int .i64 a0_1, .int .i64 a0_2, .int .i64 a0_3, .int .i64 a0_4, .int .i64 a0_5, .int .i64 a0_6] 45 (0, 0)) (BK112.out) hb); have n1_ := aK (zB (g := gb113) (o := .cells #[.int .i64 a1_0, .int .i64 a1_1, .int .i64 a1_2, .int .i64 a1_3] 50 (0, 0)) (BK113.out) hb); have n2_ := aK (yT (HB.out) hb); clear BK112; clear BK113; clear HB; have BK112 := n0_; have BK113 := n1_; have HB := n2_; clear n0_ n1_ n2_; (try clear hb)))
     go_loopg [14, 84] kj31 (fun kq v14 v84 w' => ∃ (x14_3 : List (S35)) (x84_3 : Int), v84 = .int .i64 x84_3 ∧ Aside0 (slab_Make.l0 kq x9_8 t117 x14_3 t117 x84_3 a0_0 a0_1 a0_2 a0_3 a0_4 a0_5 a0_6 a1_0 a1_1 a1_2 a1_3 = some (r1, r2, r3)) ∧ Aside0 (kq ≤ kj31) ∧ Aside0 (Kd.S k35 35 w' w.heap.size (fun _ => True) v14 x14_3) ∧ Aside0 (w'.heap[gb112]? = some (.cells #[.string a0_0, .int .i64 a0_1, .int .i64 a0_2, .int .i64 a0_3, .int .i64 a0_4, .int .i64 a0_5, .int .i64 a0_6] 45 (0, 0))) ∧ Aside0 (w'.heap[gb113]? = some (.cells #[.int .i64 a1_0, .int .i64 a1_1, .int .i64 a1_2, .int .i64 a1_3] 50 (0, 0))) ∧ Aside0 (Below w.heap.size w w'))
     case atStart => exact ⟨(([] : List (S35))), (0), (by first | rfl | (simp; done) | (simp [*]; done)), H', ⟨Nat.le_refl _⟩, ⟨by first | exact Kd.S_nil _ _ _ _ _ | exact Kd.N_nil _ _ _ _ _ | exact Kd.V_nil _ _ _ _ _ | exact Kd.Q_nil _ _ _ _ _ | exact Kd.R_nil _ _ _ _ _⟩, ⟨BK112.out⟩, ⟨BK113.out⟩, ⟨HB.out⟩⟩
     case round =>
      clear H'
      try clear c1
      try clear c2
      try clear p2
      try clear c3
      try clear c4
      try clear c4b0
      try clear c4b1
      try clear c5
      try clear c6
      try clear p6
      try clear c8
      try clear c8b0
      try clear c8b1
      try clear c12
      try clear c19
      try clear c19b0
      try clear c19b1
      try clear c21
      try clear c23
      try clear c23b0
      try clear c23b1
      try clear c27
      try clear c27b0
      try clear c27b1
      try clear c33
      try clear c36
      try clear c36b0
      try clear c36b1
      try clear c36b2
      try clear c38
      try clear c38b0
      try clear c38b1
      try clear c38b2
      try clear c41
      try clear c41b0
      try clear c41b1
      try clear c42
      try clear c42b0
      try clear c43
      try clear c43b0
      try clear c44
      try clear c47
      try clear c48
      try clear hcz13_0
      try clear hcz13_1
      try clear hcz13_2
      try clear hcz13_3
      try clear hcz15_0
      try clear hcz15_1
      try clear hcz15_2
      try clear hcz15_3
      try clear hcz15_4
      try clear hcz15_5
      try clear hcz15_6
      try clear hcz17_0
      try clear hcz17_1
      try clear hcz17_2
      try clear hcz17_3
      try clear hcz17_4
      try clear hcz17_5
      try clear hcz17_6
      try clear hcz34_0
      try clear hcz34_1
      try clear hcz34_2
      try clear hcz34_3
      try clear hcz45_0
      try clear hcz45_1
      try clear hcz45_2
      try clear hcz45_3
      try clear hcz49_0
      try clear hcz49_1
      try clear hcz49_2
      try clear hcz49_3
      try clear hfz13_0
      try clear hfz13_1
      try clear hfz13_2
      try clear hfz13_3
      try clear hfz15_0
      try clear hfz15_1
      try clear hfz15_2
      try clear hfz15_3
      try clear hfz15_4
      try clear hfz15_5
      try clear hfz15_6
      try clear hfz17_0
      try clear hfz17_1
      try clear hfz17_2
      try clear hfz17_3
      try clear hfz17_4
      try clear hfz17_5
      try clear hfz17_6
      try clear hfz34_0
      try clear hfz34_1
      try clear hfz34_2
      try clear hfz34_3
      try clear hfz45_0
      try clear hfz45_1
      try clear hfz45_2
      try clear hfz45_3
      try clear hfz49_0
      try clear hfz49_1
      try clear hfz49_2
      try clear hfz49_3
      try clear p2
      try clear p6
      obtain ⟨x14_3, x84_3, rfl, HA, HK3, HO_14, BK112, BK113, HB⟩ := hrel
      cases gk with
      | zero => exact absurd HA.out (by simp [slab_Make.l0])
      | succ k3 =>
       have H := HA.out
       clear HA
       simp only [slab_Make.l0] at H
       by_cases c51 : x84_3 < t117
       rotate_left
       ·rw [if_neg c51] at H
        have c51b0 : decide (x84_3 < t117) = false := decide_eq_false c51
        clear c51
        have HC101 := aK H
        clear H
        have hnb102 := NB112_113.out
        have hnc102 := NB113_112.out
        have hcz103_0 := zI BK112 0 rfl
        have hcz103_1 := zI BK112 1 rfl
        have hcz103_2 := zI BK112 2 rfl
        have hcz103_3 := zI BK112 3 rfl
        have hcz103_4 := zI BK112 4 rfl
        have hcz103_5 := zI BK112 5 rfl
        have hcz103_6 := zI BK112 6 rfl
        have hfz103_0 := zF BK112.out 0
        have hfz103_1 := zF BK112.out 1
        have hfz103_2 := zF BK112.out 2
        have hfz103_3 := zF BK112.out 3
        have hfz103_4 := zF BK112.out 4
        have hfz103_5 := zF BK112.out 5
        have hfz103_6 := zF BK112.out 6
        go_upto_region 30 with (first | ((with_reducible refine gate_dst (N := 18) rfl ?_); refine box_event ?hg (N := 18) ?hd (cs := #[.int .i64 0, .int .i64 0, .int .i64 0, .int .i64 0, .int .i64 0, .int .i64 0]) (t := 32) ?hr ?_; (case hd => rfl); (case hg => rfl); (case hr => first | (go_simp; done) | (go_simp; rfl)); intro gb126 hg w104 hbox hb; have n0_ := aK (Kd.S_below (HO_14.out) hb); have n1_ := aK (zB (g := gb112) (o := .cells #[.string a0_0, .int .i64 a0_1, .int .i64 a0_2, .int .i64 a0_3, .int .i64 a0_4, .int .i64 a0_5, .int .i64 a0_6] 45 (0, 0)) (BK112.out) hb); have n2_ := aK (zB (g := gb113) (o := .cells #[.int .i64 a1_0, .int .i64 a1_1, .int .i64 a1_2, .int .i64 a1_3] 50 (0, 0)) (BK113.out) hb); have n3_ := aK (yT (HB.out) hb); have n4_ := aK (hbox); have n5_ := aK ((by rw [hg]; exact (yZ (HB.out)) : w.heap.size ≤ gb126)); have n6_ := n5_; have n7_ := aK ((by rw [hg]; exact Nat.ne_of_lt (blk_lt (g := gb112) (o := .cells #[.string a0_0, .int .i64 a0_1, .int .i64 a0_2, .int .i64 a0_3, .int .i64 a0_4, .int .i64 a0_5, .int .i64 a0_6] 45 (0, 0)) (BK112.out)) : gb112 ≠ gb126)); have n8_ := aK ((by rw [hg]; exact Nat.ne_of_gt (blk_lt (g := gb112) (o := .cells #[.string a0_0, .int .i64 a0_1, .int .i64 a0_2, .int .i64 a0_3, .int .i64 a0_4, .int .i64 a0_5, .int .i64 a0_6] 45 (0, 0)) (BK112.out)) : gb126 ≠ gb112)); have n9_ := aK ((by rw [hg]; exact Nat.ne_of_lt (blk_lt (g := gb113) (o := .cells #[.int .i64 a1_0, .int .i64 a1_1, .int .i64 a1_2, .int .i64 a1_3] 50 (0, 0)) (BK113.out)) : gb113 ≠ gb126)); have n10_ := aK ((by rw [hg]; exact Nat.ne_of_gt (blk_lt (g := gb113) (o := .cells #[.int .i64 a1_0, .int .i64 a1_1, .int .i64 a1_2, .int .i64 a1_3] 50 (0, 0)) (BK113.out)) : gb126 ≠ gb113)); clear HO_14; clear BK112; clear BK113; clear HB; have HO_14 := n0_; have BK112 := n1_; have BK113 := n2_; have HB := n3_; have BK126 := n4_; have GW126 := n5_; have GE126 := n6_; have NB112_126 := n7_; have NB126_112 := n8_; have NB113_126 := n9_; have NB126_113 := n10_; clear n0_ n1_ n2_ n3_ n4_ n5_ n6_ n7_ n8_ n9_ n10_; clear hb hbox hg; have hnb105 := NB126_112.out; have hnc105 := NB112_126.out; have hnb106 := NB126_113.out; have hnc106 := NB113_126.out; have hcz107_0 := zI BK126 0 rfl; have hcz107_1 := zI BK126 1 rfl; have hcz107_2 := zI BK126 2 rfl; have hcz107_3 := zI BK126 3 rfl; have hcz107_4 := zI BK126 4 rfl; have hcz107_5 := zI BK126 5 rfl; have hfz107_0 := zF BK126.out 0; have hfz107_1 := zF BK126.out 1; have hfz107_2 := zF BK126.out 2; have hfz107_3 := zF BK126.out 3; have hfz107_4 := zF BK126.out 4; have hfz107_5 := zF BK126.out 5))
        (try simp only [Act.put, sA, sZ, sS])
        go_cut [] (fun wc => ∃ (kq : Nat) (x127000_100 : Int) (x127001_100 : Int) (x127002_100 : Int), Aside0 (slab_Make.j4 kq x14_3 x127000_100 x127001_100 x127002_100 a0_4 a0_5 a0_6 = some (r1, r2, r3)) ∧ Aside0 (kq ≤ k3) ∧ Aside0 (Kd.S k35 35 wc w.heap.size (fun _ => True) u14 x14_3) ∧ Aside0 (wc.heap[gb112]? = some (.cells #[.string a0_0, .int .i64 a0_1, .int .i64 a0_2, .int .i64 a0_3, .int .i64 a0_4, .int .i64 a0_5, .int .i64 a0_6] 45 (0, 0))) ∧ Aside0 (wc.heap[gb113]? = some (.cells #[.int .i64 a1_0, .int .i64 a1_1, .int .i64 a1_2, .int .i64 a1_3] 50 (0, 0))) ∧ Aside0 (wc.heap[gb126]? = some (.cells #[.int .i64 x127000_100, .int .i64 x127001_100, .int .i64 x127002_100, .int .i64 a0_4, .int .i64 a0_5, .int .i64 a0_6] 32 (0, 0))) ∧ Aside0 (Below w.heap.size w wc))
        case first =>
         have H := HC101.out
         clear HC101
         by_cases c108 : a1_0 = 0
         ·rw [if_pos c108] at H
          have c108b0 : (a1_0 == 0) = true := beq_iff_eq.mpr c108
          have c108b1 : (a1_0 != 0) = false := bne_eq_false_iff_eq.mpr c108
          clear c108
          (first | rw [c108b0] | (simp only [i64_w, i32_w]; rw [c108b0]) | skip)
          have A109 := aK (show a1_0 = (0 : Int) from by first | assumption | exact of_decide_eq_true (by assumption) | exact beq_iff_eq.mp (by assumption))
          have H' := aK H
          clear H
          try go_wp2
          obtain ⟨w110, hW_⟩ : ∃ W_, ((((((w104.setCell ⟨gb126, 0, none⟩ (.int .i64 a0_1)).setCell ⟨gb126, 1, none⟩ (.int .i64 a0_2)).setCell ⟨gb126, 2, none⟩ (.int .i64 a0_3)).setCell ⟨gb126, 3, none⟩ (.int .i64 a0_4)).setCell ⟨gb126, 4, none⟩ (.int .i64 a0_5)).setCell ⟨gb126, 5, none⟩ (.int .i64 a0_6)) = W_ := ⟨_, rfl⟩
          have n0_ : Aside0 (Kd.S k35 35 w110 w.heap.size (fun _ => True) u14 x14_3) := ⟨by subst hW_; (with_reducible repeat (first | apply Kd.S_alloc | apply Kd.S_drewN | apply Kd.S_drew)); exact Kd.S_mono (Kd.S_far (p := ⟨gb126, 5, none⟩) (Kd.S_far (p := ⟨gb126, 4, none⟩) (Kd.S_far (p := ⟨gb126, 3, none⟩) (Kd.S_far (p := ⟨gb126, 2, none⟩) (Kd.S_far (p := ⟨gb126, 1, none⟩) (Kd.S_far (p := ⟨gb126, 0, none⟩) (Kd.S_types HO_14.out BK126.out (by decide)) (fun _ hk => hk.2) _) (fun _ hk => hk.2) _) (fun _ hk => hk.2) _) (fun _ hk => hk.2) _) (fun _ hk => hk.2) _) (fun _ hk => hk.2) _) (fun _ hk => trivial)⟩
          have n1_ : Aside0 (w110.heap[gb112]? = some (.cells #[.string a0_0, .int .i64 a0_1, .int .i64 a0_2, .int .i64 a0_3, .int .i64 a0_4, .int .i64 a0_5, .int .i64 a0_6] 45 (0, 0))) := ⟨by subst hW_; (iterate 6 refine blk_far ?_ NB112_126.out _); exact BK112.out⟩
          have n2_ : Aside0 (w110.heap[gb113]? = some (.cells #[.int .i64 a1_0, .int .i64 a1_1, .int .i64 a1_2, .int .i64 a1_3] 50 (0, 0))) := ⟨by subst hW_; (iterate 6 refine blk_far ?_ NB113_126.out _); exact BK113.out⟩
          have n3_ : Aside0 (w110.heap[gb126]? = some (.cells #[.int .i64 a0_1, .int .i64 a0_2, .int .i64 a0_3, .int .i64 a0_4, .int .i64 a0_5, .int .i64 a0_6] 32 (0, 0))) := ⟨by subst hW_; refine Eq.trans (blk_put (blk_put (blk_put (blk_put (blk_put (blk_put BK126.out 0 _ rfl) 1 _ rfl) 2 _ rfl) 3 _ rfl) 4 _ rfl) 5 _ rfl) ?_; simp only [sA, sZ, sS]⟩
          have n4_ : Aside0 (Below w.heap.size w w110) := ⟨by subst hW_; repeat (first | (with_reducible first | exact HB.out | apply yA | apply yN | apply yD | refine yS ?_ GE112.out | refine yS ?_ GE113.out | refine yS ?_ GE126.out) | exact HB.out)⟩
          (try clear HO_14)
          (try clear BK112)
          (try clear BK113)
          (try clear BK126)
          (try clear HB)
          rw [hW_]
          clear hW_
          have HO_14 := n0_
          have BK112 := n1_
          have BK113 := n2_
          have BK126 := n3_
          have HB := n4_
          clear n0_ n1_ n2_ n3_ n4_
          have n0_ := aK (Kd.S_drew HO_14.out)
          have n1_ := aK (zD BK112.out)
          have n2_ := aK (zD BK113.out)
          have n3_ := aK (zD BK126.out)
          have n4_ := aK (yD HB.out)
          clear HO_14
          clear BK112
          clear BK113
          clear BK126
          clear HB
          have HO_14 := n0_
          have BK112 := n1_
          have BK113 := n2_
          have BK126 := n3_
          have HB := n4_
          clear n0_ n1_ n2_ n3_ n4_
          refine start_ (n := 15) (S := fun w' => w'.cell? ⟨gb113, 0, none⟩ = some (.int .i64 a1_0) ∧ w'.cell? ⟨gb113, 1, none⟩ = some (.int .i64 a1_1) ∧ w'.cell? ⟨gb113, 2, none⟩ = some (.int .i64 a1_2) ∧ w'.cell? ⟨gb113, 3, none⟩ = some (.int .i64 a1_3)) (ds := []) #[false, false, false, false, false, false, false, false, false, false, false, false, false, false, false] (by kernel_rfl) rfl rfl ⟨(zC BK113.out 0).trans rfl, (zC BK113.out 1).trans rfl, (zC BK113.out 2).trans rfl, (zC BK113.out 3).trans rfl⟩ (fun hHeld => ?_); refine with_tabW slab_Make.tab30 slab_Make.bits30 (fun HT_ HW_ => ?_)
          generalize w110.drew = w111 at HO_14 BK112 BK113 BK126 HB hHeld ⊢
          refine pure_ (i := 0) (N := some 138) (v := ?_) (a' := ?_) #[true, false, false, false, false, false, false, false, false, false, false, false, false, false, false] rfl rfl (any_of HT_.out (by kernel_rfl)) (fun _ _ _ h => h) (Or.inl ⟨by rfl, ?_⟩) ?_ ?_
          rotate_left
          ·intro w'
           go_simp
           with_reducible rfl
          rotate_left
          ·simp only [Act.put, sA, sZ, sS, i64_w, i32_w]
           rfl
          refine pure_ (i := 1) (N := some 139) (v := ?_) (a' := ?_) #[true, true, false, false, false, false, false, false, false, false, false, false, false, false, false] rfl rfl (any_of HT_.out (by kernel_rfl)) (fun _ _ _ h => h) (Or.inl ⟨by rfl, ?_⟩) ?_ ?_
          rotate_left
          ·intro w'
           go_simp
           with_reducible rfl
          rotate_left
          ·simp only [Act.put, sA, sZ, sS, i64_w, i32_w]
           rfl
          refine pure_ (i := 4) (N := some 142) (v := ?_) (a' := ?_) #[true, true, false, false, true, false, false, false, false, false, false, false, false, false, false] rfl rfl (any_of HT_.out (by kernel_rfl)) (fun _ _ _ h => h) (Or.inl ⟨by rfl, ?_⟩) ?_ ?_
          rotate_left
          ·intro w'
           go_simp
           with_reducible rfl
          rotate_left
          ·simp only [Act.put, sA, sZ, sS, i64_w, i32_w]
           rfl
          refine pure_ (i := 5) (N := some 143) (v := ?_) (a' := ?_) #[true, true, false, false, true, true, false, false, false, false, false, false, false, false, false] rfl rfl (any_of HT_.out (by kernel_rfl)) (fun _ _ _ h => h) (Or.inl ⟨by rfl, ?_⟩) ?_ ?_
          rotate_left
          ·intro w'
           go_simp
           with_reducible rfl
          rotate_left
          ·simp only [Act.put, sA, sZ, sS, i64_w, i32_w]
           rfl
          refine pure_ (i := 6) (N := some 144) (v := ?_) (a' := ?_) #[true, true, false, false, true, true, true, false, false, false, false, false, false, false, false] rfl rfl (any_of HT_.out (by kernel_rfl)) (fun _ _ _ h => h) (Or.inl ⟨by rfl, ?_⟩) ?_ ?_
          rotate_left
          ·intro w'
           go_simp
           with_reducible rfl
          rotate_left
          ·simp only [Act.put, sA, sZ, sS, i64_w, i32_w]
           rfl
          refine pure_ (i := 8) (N := some 146) (v := ?_) (a' := ?_) #[true, true, false, false, true, true, true, false, true, false, false, false, false, false, false] rfl rfl (any_of HT_.out (by kernel_rfl)) (fun _ _ _ h => h) (Or.inl ⟨by rfl, ?_⟩) ?_ ?_
          rotate_left
          ·intro w'
           go_simp
           with_reducible rfl
          rotate_left
          ·simp only [Act.put, sA, sZ, sS, i64_w, i32_w]
           rfl
          refine take_ (i := 2) (N := some 140) (v := ?_) (a' := ?_) #[true, true, true, false, true, true, true, false, true, false, false, false, false, false, false] rfl rfl (take_ofW HT_.out HW_.out (by kernel_rfl)) (fun _ _ _ h => h) (Or.inl ⟨by rfl, ?_⟩) hHeld ?_ ?_
          rotate_left
          ·rintro w' ⟨s0, s1, s2, s3⟩
           go_simp
           with_reducible rfl
          rotate_left
          ·simp only [Act.put, sA, sZ, sS, i64_w, i32_w]
           rfl
          refine take_ (i := 7) (N := some 145) (v := ?_) (a' := ?_) #[true, true, true, false, true, true, true, true, true, false, false, false, false, false, false] rfl rfl (take_ofW HT_.out HW_.out (by kernel_rfl)) (fun _ _ _ h => h) (Or.inl ⟨by rfl, ?_⟩) hHeld ?_ ?_
          rotate_left
          ·rintro w' ⟨s0, s1, s2, s3⟩
           go_simp
           with_reducible rfl
          rotate_left
          ·simp only [Act.put, sA, sZ, sS, i64_w, i32_w]
           rfl
          refine take_ (i := 9) (N := some 147) (v := ?_) (a' := ?_) #[true, true, true, false, true, true, true, true, true, true, false, false, false, false, false] rfl rfl (take_ofW HT_.out HW_.out (by kernel_rfl)) (fun _ _ _ h => h) (Or.inl ⟨by rfl, ?_⟩) hHeld ?_ ?_
          rotate_left
          ·rintro w' ⟨s0, s1, s2, s3⟩
           go_simp
           with_reducible rfl
          rotate_left
          ·simp only [Act.put, sA, sZ, sS, i64_w, i32_w]
           rfl
          refine pure_ (i := 10) (N := some 148) (v := ?_) (a' := ?_) #[true, true, true, false, true, true, true, true, true, true, true, false, false, false, false] rfl rfl (any_of HT_.out (by kernel_rfl)) (fun _ _ _ h => h) (Or.inl ⟨by rfl, ?_⟩) ?_ ?_
          rotate_left
          ·intro w'
           go_simp
           with_reducible rfl
          rotate_left
          ·simp only [Act.put, sA, sZ, sS, i64_w, i32_w]
           rfl
          refine pure_ (i := 11) (N := some 149) (v := ?_) (a' := ?_) #[true, true, true, false, true, true, true, true, true, true, true, true, false, false, false] rfl rfl (any_of HT_.out (by kernel_rfl)) (fun _ _ _ h => h) (Or.inl ⟨by rfl, ?_⟩) ?_ ?_
          rotate_left
          ·intro w'
           go_simp
           with_reducible rfl
          rotate_left
          ·simp only [Act.put, sA, sZ, sS, i64_w, i32_w]
           rfl
          refine pure_ (i := 12) (N := some 150) (v := ?_) (a' := ?_) #[true, true, true, false, true, true, true, true, true, true, true, true, true, false, false] rfl rfl (any_of HT_.out (by kernel_rfl)) (fun _ _ _ h => h) (Or.inl ⟨by rfl, ?_⟩) ?_ ?_
          rotate_left
          ·intro w'
           go_simp
           with_reducible rfl
          rotate_left
          ·simp only [Act.put, sA, sZ, sS, i64_w, i32_w]
           rfl
          refine one_ (i := 3) (N := some 141) #[true, true, true, true, true, true, true, true, true, true, true, true, true, false, false] rfl rfl (one_of HT_.out (by kernel_rfl)) (by decide) (fun K hK => ?_)
          refine goes_ Tryz.func60 (by kernel_rfl) rfl #[.pointer (some ⟨gb126, 0, none⟩), .int .i64 a1_0] (by rfl) rfl rfl (by (try simp only [List.map_toArray, List.map_cons, List.map_nil]); first | done | rfl | (simp only [List.length_drop, List.length_take]; rfl)) ?_
          with_reducible refine (slab_side.calls gb126 0 0 0 0 a1_0 (.pointer (some ⟨gb126, 0, none⟩)) _ A109.out).mono ?_
          rintro e w' ⟨rfl, ⟨nd, rfl⟩⟩
          refine ⟨_, rfl, ?_⟩
          refine hK.out _ _ ⟨(zC BK113.out 0).trans rfl, (zC BK113.out 1).trans rfl, (zC BK113.out 2).trans rfl, (zC BK113.out 3).trans rfl⟩ (fun hHeld => ?_)
          clear hK K
          refine norm_ (a' := ?_) ?_ ?_
          rotate_left
          ·show Act.put _ (some 141) _ = _
           simp only [Act.put, sA, sZ, sS, i64_w, i32_w]
           rfl
          refine pure_ (i := 13) (N := some 151) (v := ?_) (a' := ?_) #[true, true, true, true, true, true, true, true, true, true, true, true, true, true, false] rfl rfl (any_of HT_.out (by kernel_rfl)) (fun _ _ _ h => h) (Or.inl ⟨by rfl, ?_⟩) ?_ ?_
          rotate_left
          ·intro w'
           go_simp
           with_reducible rfl
          rotate_left
          ·simp only [Act.put, sA, sZ, sS, i64_w, i32_w]
           rfl
          refine one_ (i := 14) (N := none) #[true, true, true, true, true, true, true, true, true, true, true, true, true, true, true] rfl rfl (one_of HT_.out (by kernel_rfl)) (by decide) (fun K hK => ?_)
          have hs112 : w111.cell? ⟨gb126, 0, none⟩ = some (.int .i64 a0_1) := (zC BK126.out 0).trans rfl
          have hfs112 := zF BK126.out 0
          have hns112_0 := NB112_126.out
          have hns112_1 := NB113_126.out
          have hms112_0 := NB126_112.out
          have hms112_1 := NB126_113.out
          refine skip_ (w1 := ?_) (by rfl) rfl ?_ ?_
          rotate_left
          ·go_simp
           rfl
          refine hK.out _ _ ⟨((cell_far (p := ⟨gb126, _, none⟩) NB113_126.out _).trans (hHeld.1)), ((cell_far (p := ⟨gb126, _, none⟩) NB113_126.out _).trans (hHeld.2.1)), ((cell_far (p := ⟨gb126, _, none⟩) NB113_126.out _).trans (hHeld.2.2.1)), ((cell_far (p := ⟨gb126, _, none⟩) NB113_126.out _).trans (hHeld.2.2.2))⟩ (fun hHeld => ?_)
          clear hK K
          refine done_ (done_of HT_.out (by kernel_rfl)) ?_
          try go_wp2
          go_meet
          case rel => exact ⟨_, (wrap64 (x9_8 + (wrap64 (t117 * (wrap64 (a1_1 + a1_2)))))), (a0_2), (a0_3), H', ⟨by have := HJ8.out; have := HJ31.out; have := HK3.out; first | omega | exact Nat.le_refl _⟩, ⟨by (with_reducible repeat (first | apply Kd.S_alloc | apply Kd.S_drewN | apply Kd.S_drew)); exact Kd.S_mono (Kd.S_far (p := ⟨gb126, 0, none⟩) (Kd.S_types HO_14.out BK126.out (by decide)) (fun _ hk => hk.2) (.int .i64 (wrap64 (x9_8 + (wrap64 (t117 * (wrap64 (a1_1 + a1_2)))))))) (fun _ hk => trivial)⟩, ⟨by refine blk_far ?_ NB112_126.out _; exact BK112.out⟩, ⟨by refine blk_far ?_ NB113_126.out _; exact BK113.out⟩, ⟨by refine blk_put (cs := #[.int .i64 a0_1, .int .i64 a0_2, .int .i64 a0_3, .int .i64 a0_4, .int .i64 a0_5, .int .i64 a0_6]) ?_ 0 _ rfl; exact BK126.out⟩, ⟨by repeat (first | (with_reducible first | exact HB.out | apply yA | apply yN | apply yD | refine yS ?_ GE112.out | refine yS ?_ GE113.out | refine yS ?_ GE126.out) | exact HB.out)⟩⟩
         rw [if_neg c108] at H
         have c108b0 : (a1_0 == 0) = false := beq_eq_false_iff_ne.mpr c108
         have c108b1 : (a1_0 != 0) = true := bne_iff_ne.mpr c108
         (first | rw [c108b0] | (simp only [i64_w, i32_w]; rw [c108b0]) | skip)
         by_cases c113 : a1_0 = 1
         ·rw [if_pos c113] at H
          have c113b0 : (a1_0 == 1) = true := beq_iff_eq.mpr c113
          have c113b1 : (a1_0 != 1) = false := bne_eq_false_iff_eq.mpr c113
          clear c113
          have A114 := aK (show a1_0 = (1 : Int) from by first | assumption | exact of_decide_eq_true (by assumption) | exact beq_iff_eq.mp (by assumption))
          have H' := aK H
          clear H
          try go_wp2
          obtain ⟨w115, hW_⟩ : ∃ W_, ((((((w104.setCell ⟨gb126, 0, none⟩ (.int .i64 a0_1)).setCell ⟨gb126, 1, none⟩ (.int .i64 a0_2)).setCell ⟨gb126, 2, none⟩ (.int .i64 a0_3)).setCell ⟨gb126, 3, none⟩ (.int .i64 a0_4)).setCell ⟨gb126, 4, none⟩ (.int .i64 a0_5)).setCell ⟨gb126, 5, none⟩ (.int .i64 a0_6)) = W_ := ⟨_, rfl⟩
          have n0_ : Aside0 (Kd.S k35 35 w115 w.heap.size (fun _ => True) u14 x14_3) := ⟨by subst hW_; (with_reducible repeat (first | apply Kd.S_alloc | apply Kd.S_drewN | apply Kd.S_drew)); exact Kd.S_mono (Kd.S_far (p := ⟨gb126, 5, none⟩) (Kd.S_far (p := ⟨gb126, 4, none⟩) (Kd.S_far (p := ⟨gb126, 3, none⟩) (Kd.S_far (p := ⟨gb126, 2, none⟩) (Kd.S_far (p := ⟨gb126, 1, none⟩) (Kd.S_far (p := ⟨gb126, 0, none⟩) (Kd.S_types HO_14.out BK126.out (by decide)) (fun _ hk => hk.2) _) (fun _ hk => hk.2) _) (fun _ hk => hk.2) _) (fun _ hk => hk.2) _) (fun _ hk => hk.2) _) (fun _ hk => hk.2) _) (fun _ hk => trivial)⟩
          have n1_ : Aside0 (w115.heap[gb112]? = some (.cells #[.string a0_0, .int .i64 a0_1, .int .i64 a0_2, .int .i64 a0_3, .int .i64 a0_4, .int .i64 a0_5, .int .i64 a0_6] 45 (0, 0))) := ⟨by subst hW_; (iterate 6 refine blk_far ?_ NB112_126.out _); exact BK112.out⟩
          have n2_ : Aside0 (w115.heap[gb113]? = some (.cells #[.int .i64 a1_0, .int .i64 a1_1, .int .i64 a1_2, .int .i64 a1_3] 50 (0, 0))) := ⟨by subst hW_; (iterate 6 refine blk_far ?_ NB113_126.out _); exact BK113.out⟩
          have n3_ : Aside0 (w115.heap[gb126]? = some (.cells #[.int .i64 a0_1, .int .i64 a0_2, .int .i64 a0_3, .int .i64 a0_4, .int .i64 a0_5, .int .i64 a0_6] 32 (0, 0))) := ⟨by subst hW_; refine Eq.trans (blk_put (blk_put (blk_put (blk_put (blk_put (blk_put BK126.out 0 _ rfl) 1 _ rfl) 2 _ rfl) 3 _ rfl) 4 _ rfl) 5 _ rfl) ?_; simp only [sA, sZ, sS]⟩
          have n4_ : Aside0 (Below w.heap.size w w115) := ⟨by subst hW_; repeat (first | (with_reducible first | exact HB.out | apply yA | apply yN | apply yD | refine yS ?_ GE112.out | refine yS ?_ GE113.out | refine yS ?_ GE126.out) | exact HB.out)⟩
          (try clear HO_14)
          (try clear BK112)
          (try clear BK113)
          (try clear BK126)
          (try clear HB)
          rw [hW_]
          clear hW_
          have HO_14 := n0_
          have BK112 := n1_
          have BK113 := n2_
          have BK126 := n3_
          have HB := n4_
          clear n0_ n1_ n2_ n3_ n4_
          have n0_ := aK (Kd.S_drew HO_14.out)
          have n1_ := aK (zD BK112.out)
          have n2_ := aK (zD BK113.out)
          have n3_ := aK (zD BK126.out)
          have n4_ := aK (yD HB.out)
          clear HO_14
          clear BK112
          clear BK113
          clear BK126
          clear HB
          have HO_14 := n0_
          have BK112 := n1_
          have BK113 := n2_
          have BK126 := n3_
          have HB := n4_
          clear n0_ n1_ n2_ n3_ n4_
          refine start_ (n := 15) (S := fun w' => w'.cell? ⟨gb113, 0, none⟩ = some (.int .i64 a1_0) ∧ w'.cell? ⟨gb113, 1, none⟩ = some (.int .i64 a1_1) ∧ w'.cell? ⟨gb113, 2, none⟩ = some (.int .i64 a1_2) ∧ w'.cell? ⟨gb113, 3, none⟩ = some (.int .i64 a1_3)) (ds := []) #[false, false, false, false, false, false, false, false, false, false, false, false, false, false, false] (by kernel_rfl) rfl rfl ⟨(zC BK113.out 0).trans rfl, (zC BK113.out 1).trans rfl, (zC BK113.out 2).trans rfl, (zC BK113.out 3).trans rfl⟩ (fun hHeld => ?_); refine with_tabW slab_Make.tab30 slab_Make.bits30 (fun HT_ HW_ => ?_)
          generalize w115.drew = w116 at HO_14 BK112 BK113 BK126 HB hHeld ⊢
          refine pure_ (i := 0) (N := some 138) (v := ?_) (a' := ?_) #[true, false, false, false, false, false, false, false, false, false, false, false, false, false, false] rfl rfl (any_of HT_.out (by kernel_rfl)) (fun _ _ _ h => h) (Or.inl ⟨by rfl, ?_⟩) ?_ ?_
          rotate_left
          ·intro w'
           go_simp
           with_reducible rfl
          rotate_left
          ·simp only [Act.put, sA, sZ, sS, i64_w, i32_w]
           rfl
          refine pure_ (i := 1) (N := some 139) (v := ?_) (a' := ?_) #[true, true, false, false, false, false, false, false, false, false, false, false, false, false, false] rfl rfl (any_of HT_.out (by kernel_rfl)) (fun _ _ _ h => h) (Or.inl ⟨by rfl, ?_⟩) ?_ ?_
          rotate_left
          ·intro w'
           go_simp
           with_reducible rfl
          rotate_left
          ·simp only [Act.put, sA, sZ, sS, i64_w, i32_w]
           rfl
          refine pure_ (i := 4) (N := some 142) (v := ?_) (a' := ?_) #[true, true, false, false, true, false, false, false, false, false, false, false, false, false, false] rfl rfl (any_of HT_.out (by kernel_rfl)) (fun _ _ _ h => h) (Or.inl ⟨by rfl, ?_⟩) ?_ ?_
          rotate_left
          ·intro w'
           go_simp
           with_reducible rfl
          rotate_left
          ·simp only [Act.put, sA, sZ, sS, i64_w, i32_w]
           rfl
          refine pure_ (i := 5) (N := some 143) (v := ?_) (a' := ?_) #[true, true, false, false, true, true, false, false, false, false, false, false, false, false, false] rfl rfl (any_of HT_.out (by kernel_rfl)) (fun _ _ _ h => h) (Or.inl ⟨by rfl, ?_⟩) ?_ ?_
          rotate_left
          ·intro w'
           go_simp
           with_reducible rfl
          rotate_left
          ·simp only [Act.put, sA, sZ, sS, i64_w, i32_w]
           rfl
          refine pure_ (i := 6) (N := some 144) (v := ?_) (a' := ?_) #[true, true, false, false, true, true, true, false, false, false, false, false, false, false, false] rfl rfl (any_of HT_.out (by kernel_rfl)) (fun _ _ _ h => h) (Or.inl ⟨by rfl, ?_⟩) ?_ ?_
          rotate_left
          ·intro w'
           go_simp
           with_reducible rfl
          rotate_left
          ·simp only [Act.put, sA, sZ, sS, i64_w, i32_w]
           rfl
          refine pure_ (i := 8) (N := some 146) (v := ?_) (a' := ?_) #[true, true, false, false, true, true, true, false, true, false, false, false, false, false, false] rfl rfl (any_of HT_.out (by kernel_rfl)) (fun _ _ _ h => h) (Or.inl ⟨by rfl, ?_⟩) ?_ ?_
          rotate_left
          ·intro w'
           go_simp
           with_reducible rfl
          rotate_left
          ·simp only [Act.put, sA, sZ, sS, i64_w, i32_w]
           rfl
          refine take_ (i := 2) (N := some 140) (v := ?_) (a' := ?_) #[true, true, true, false, true, true, true, false, true, false, false, false, false, false, false] rfl rfl (take_ofW HT_.out HW_.out (by kernel_rfl)) (fun _ _ _ h => h) (Or.inl ⟨by rfl, ?_⟩) hHeld ?_ ?_
          rotate_left
          ·rintro w' ⟨s0, s1, s2, s3⟩
           go_simp
           with_reducible rfl
          rotate_left
          ·simp only [Act.put, sA, sZ, sS, i64_w, i32_w]
           rfl
          refine take_ (i := 7) (N := some 145) (v := ?_) (a' := ?_) #[true, true, true, false, true, true, true, true, true, false, false, false, false, false, false] rfl rfl (take_ofW HT_.out HW_.out (by kernel_rfl)) (fun _ _ _ h => h) (Or.inl ⟨by rfl, ?_⟩) hHeld ?_ ?_
          rotate_left
          ·rintro w' ⟨s0, s1, s2, s3⟩
           go_simp
           with_reducible rfl
          rotate_left
          ·simp only [Act.put, sA, sZ, sS, i64_w, i32_w]
           rfl
          refine take_ (i := 9) (N := some 147) (v := ?_) (a' := ?_) #[true, true, true, false, true, true, true, true, true, true, false, false, false, false, false] rfl rfl (take_ofW HT_.out HW_.out (by kernel_rfl)) (fun _ _ _ h => h) (Or.inl ⟨by rfl, ?_⟩) hHeld ?_ ?_
          rotate_left
          ·rintro w' ⟨s0, s1, s2, s3⟩
           go_simp
           with_reducible rfl
          rotate_left
          ·simp only [Act.put, sA, sZ, sS, i64_w, i32_w]
           rfl
          refine pure_ (i := 10) (N := some 148) (v := ?_) (a' := ?_) #[true, true, true, false, true, true, true, true, true, true, true, false, false, false, false] rfl rfl (any_of HT_.out (by kernel_rfl)) (fun _ _ _ h => h) (Or.inl ⟨by rfl, ?_⟩) ?_ ?_
          rotate_left
          ·intro w'
           go_simp
           with_reducible rfl
          rotate_left
          ·simp only [Act.put, sA, sZ, sS, i64_w, i32_w]
           rfl
          refine pure_ (i := 11) (N := some 149) (v := ?_) (a' := ?_) #[true, true, true, false, true, true, true, true, true, true, true, true, false, false, false] rfl rfl (any_of HT_.out (by kernel_rfl)) (fun _ _ _ h => h) (Or.inl ⟨by rfl, ?_⟩) ?_ ?_
          rotate_left
          ·intro w'
           go_simp
           with_reducible rfl
          rotate_left
          ·simp only [Act.put, sA, sZ, sS, i64_w, i32_w]
           rfl
          refine pure_ (i := 12) (N := some 150) (v := ?_) (a' := ?_) #[true, true, true, false, true, true, true, true, true, true, true, true, true, false, false] rfl rfl (any_of HT_.out (by kernel_rfl)) (fun _ _ _ h => h) (Or.inl ⟨by rfl, ?_⟩) ?_ ?_
          rotate_left
          ·intro w'
           go_simp
           with_reducible rfl
          rotate_left
          ·simp only [Act.put, sA, sZ, sS, i64_w, i32_w]
           rfl
          refine one_ (i := 3) (N := some 141) #[true, true, true, true, true, true, true, true, true, true, true, true, true, false, false] rfl rfl (one_of HT_.out (by kernel_rfl)) (by decide) (fun K hK => ?_)
          refine goes_ Tryz.func60 (by kernel_rfl) rfl #[.pointer (some ⟨gb126, 0, none⟩), .int .i64 a1_0] (by rfl) rfl rfl (by (try simp only [List.map_toArray, List.map_cons, List.map_nil]); first | done | rfl | (simp only [List.length_drop, List.length_take]; rfl)) ?_
          with_reducible refine (slab_side.calls gb126 0 1 1 1 a1_0 (.pointer (some ⟨gb126, 1, none⟩)) _ A114.out).mono ?_
          rintro e w' ⟨rfl, ⟨nd, rfl⟩⟩
          refine ⟨_, rfl, ?_⟩
          refine hK.out _ _ ⟨(zC BK113.out 0).trans rfl, (zC BK113.out 1).trans rfl, (zC BK113.out 2).trans rfl, (zC BK113.out 3).trans rfl⟩ (fun hHeld => ?_)
          clear hK K
          refine norm_ (a' := ?_) ?_ ?_
          rotate_left
          ·show Act.put _ (some 141) _ = _
           simp only [Act.put, sA, sZ, sS, i64_w, i32_w]
           rfl
          refine pure_ (i := 13) (N := some 151) (v := ?_) (a' := ?_) #[true, true, true, true, true, true, true, true, true, true, true, true, true, true, false] rfl rfl (any_of HT_.out (by kernel_rfl)) (fun _ _ _ h => h) (Or.inl ⟨by rfl, ?_⟩) ?_ ?_
          rotate_left
          ·intro w'
           go_simp
           with_reducible rfl
          rotate_left
          ·simp only [Act.put, sA, sZ, sS, i64_w, i32_w]
           rfl
          refine one_ (i := 14) (N := none) #[true, true, true, true, true, true, true, true, true, true, true, true, true, true, true] rfl rfl (one_of HT_.out (by kernel_rfl)) (by decide) (fun K hK => ?_)
          have hs117 : w116.cell? ⟨gb126, 1, none⟩ = some (.int .i64 a0_2) := (zC BK126.out 1).trans rfl
          have hfs117 := zF BK126.out 1
          have hns117_0 := NB112_126.out
          have hns117_1 := NB113_126.out
          have hms117_0 := NB126_112.out
          have hms117_1 := NB126_113.out
          refine skip_ (w1 := ?_) (by rfl) rfl ?_ ?_
          rotate_left
          ·go_simp
           rfl
          refine hK.out _ _ ⟨((cell_far (p := ⟨gb126, _, none⟩) NB113_126.out _).trans (hHeld.1)), ((cell_far (p := ⟨gb126, _, none⟩) NB113_126.out _).trans (hHeld.2.1)), ((cell_far (p := ⟨gb126, _, none⟩) NB113_126.out _).trans (hHeld.2.2.1)), ((cell_far (p := ⟨gb126, _, none⟩) NB113_126.out _).trans (hHeld.2.2.2))⟩ (fun hHeld => ?_)
          clear hK K
          refine done_ (done_of HT_.out (by kernel_rfl)) ?_
          try go_wp2
          go_meet
          case rel => exact ⟨_, (a0_1), (wrap64 (x9_8 + (wrap64 (t117 * (wrap64 (a1_1 + a1_2)))))), (a0_3), H', ⟨by have := HJ8.out; have := HJ31.out; have := HK3.out; first | omega | exact Nat.le_refl _⟩, ⟨by (with_reducible repeat (first | apply Kd.S_alloc | apply Kd.S_drewN | apply Kd.S_drew)); exact Kd.S_mono (Kd.S_far (p := ⟨gb126, 1, none⟩) (Kd.S_types HO_14.out BK126.out (by decide)) (fun _ hk => hk.2) (.int .i64 (wrap64 (x9_8 + (wrap64 (t117 * (wrap64 (a1_1 + a1_2)))))))) (fun _ hk => trivial)⟩, ⟨by refine blk_far ?_ NB112_126.out _; exact BK112.out⟩, ⟨by refine blk_far ?_ NB113_126.out _; exact BK113.out⟩, ⟨by refine blk_put (cs := #[.int .i64 a0_1, .int .i64 a0_2, .int .i64 a0_3, .int .i64 a0_4, .int .i64 a0_5, .int .i64 a0_6]) ?_ 1 _ rfl; exact BK126.out⟩, ⟨by repeat (first | (with_reducible first | exact HB.out | apply yA | apply yN | apply yD | refine yS ?_ GE112.out | refine yS ?_ GE113.out | refine yS ?_ GE126.out) | exact HB.out)⟩⟩
         rw [if_neg c113] at H
         have c113b0 : (a1_0 == 1) = false := beq_eq_false_iff_ne.mpr c113
         have c113b1 : (a1_0 != 1) = true := bne_iff_ne.mpr c113
         by_cases c118 : a1_0 = 2
         rotate_left
         ·rw [if_neg c118] at H
          exact absurd H (by simp)
         rw [if_pos c118] at H
         have c118b0 : (a1_0 == 2) = true := beq_iff_eq.mpr c118
         have c118b1 : (a1_0 != 2) = false := bne_eq_false_iff_eq.mpr c118
         clear c118
         have A119 := aK (show a1_0 = (2 : Int) from by first | assumption | exact of_decide_eq_true (by assumption) | exact beq_iff_eq.mp (by assumption))
         have H' := aK H
         clear H
         try go_wp2
         obtain ⟨w120, hW_⟩ : ∃ W_, ((((((w104.setCell ⟨gb126, 0, none⟩ (.int .i64 a0_1)).setCell ⟨gb126, 1, none⟩ (.int .i64 a0_2)).setCell ⟨gb126, 2, none⟩ (.int .i64 a0_3)).setCell ⟨gb126, 3, none⟩ (.int .i64 a0_4)).setCell ⟨gb126, 4, none⟩ (.int .i64 a0_5)).setCell ⟨gb126, 5, none⟩ (.int .i64 a0_6)) = W_ := ⟨_, rfl⟩
         have n0_ : Aside0 (Kd.S k35 35 w120 w.heap.size (fun _ => True) u14 x14_3) := ⟨by subst hW_; (with_reducible repeat (first | apply Kd.S_alloc | apply Kd.S_drewN | apply Kd.S_drew)); exact Kd.S_mono (Kd.S_far (p := ⟨gb126, 5, none⟩) (Kd.S_far (p := ⟨gb126, 4, none⟩) (Kd.S_far (p := ⟨gb126, 3, none⟩) (Kd.S_far (p := ⟨gb126, 2, none⟩) (Kd.S_far (p := ⟨gb126, 1, none⟩) (Kd.S_far (p := ⟨gb126, 0, none⟩) (Kd.S_types HO_14.out BK126.out (by decide)) (fun _ hk => hk.2) _) (fun _ hk => hk.2) _) (fun _ hk => hk.2) _) (fun _ hk => hk.2) _) (fun _ hk => hk.2) _) (fun _ hk => hk.2) _) (fun _ hk => trivial)⟩
         have n1_ : Aside0 (w120.heap[gb112]? = some (.cells #[.string a0_0, .int .i64 a0_1, .int .i64 a0_2, .int .i64 a0_3, .int .i64 a0_4, .int .i64 a0_5, .int .i64 a0_6] 45 (0, 0))) := ⟨by subst hW_; (iterate 6 refine blk_far ?_ NB112_126.out _); exact BK112.out⟩
         have n2_ : Aside0 (w120.heap[gb113]? = some (.cells #[.int .i64 a1_0, .int .i64 a1_1, .int .i64 a1_2, .int .i64 a1_3] 50 (0, 0))) := ⟨by subst hW_; (iterate 6 refine blk_far ?_ NB113_126.out _); exact BK113.out⟩
         have n3_ : Aside0 (w120.heap[gb126]? = some (.cells #[.int .i64 a0_1, .int .i64 a0_2, .int .i64 a0_3, .int .i64 a0_4, .int .i64 a0_5, .int .i64 a0_6] 32 (0, 0))) := ⟨by subst hW_; refine Eq.trans (blk_put (blk_put (blk_put (blk_put (blk_put (blk_put BK126.out 0 _ rfl) 1 _ rfl) 2 _ rfl) 3 _ rfl) 4 _ rfl) 5 _ rfl) ?_; simp only [sA, sZ, sS]⟩
         have n4_ : Aside0 (Below w.heap.size w w120) := ⟨by subst hW_; repeat (first | (with_reducible first | exact HB.out | apply yA | apply yN | apply yD | refine yS ?_ GE112.out | refine yS ?_ GE113.out | refine yS ?_ GE126.out) | exact HB.out)⟩
         (try clear HO_14)
         (try clear BK112)
         (try clear BK113)
         (try clear BK126)
         (try clear HB)
         rw [hW_]
         clear hW_
         have HO_14 := n0_
         have BK112 := n1_
         have BK113 := n2_
         have BK126 := n3_
         have HB := n4_
         clear n0_ n1_ n2_ n3_ n4_
         have n0_ := aK (Kd.S_drew HO_14.out)
         have n1_ := aK (zD BK112.out)
         have n2_ := aK (zD BK113.out)
         have n3_ := aK (zD BK126.out)
         have n4_ := aK (yD HB.out)
         clear HO_14
         clear BK112
         clear BK113
         clear BK126
         clear HB
         have HO_14 := n0_
         have BK112 := n1_
         have BK113 := n2_
         have BK126 := n3_
         have HB := n4_
         clear n0_ n1_ n2_ n3_ n4_
         refine start_ (n := 15) (S := fun w' => w'.cell? ⟨gb113, 0, none⟩ = some (.int .i64 a1_0) ∧ w'.cell? ⟨gb113, 1, none⟩ = some (.int .i64 a1_1) ∧ w'.cell? ⟨gb113, 2, none⟩ = some (.int .i64 a1_2) ∧ w'.cell? ⟨gb113, 3, none⟩ = some (.int .i64 a1_3)) (ds := []) #[false, false, false, false, false, false, false, false, false, false, false, false, false, false, false] (by kernel_rfl) rfl rfl ⟨(zC BK113.out 0).trans rfl, (zC BK113.out 1).trans rfl, (zC BK113.out 2).trans rfl, (zC BK113.out 3).trans rfl⟩ (fun hHeld => ?_); refine with_tabW slab_Make.tab30 slab_Make.bits30 (fun HT_ HW_ => ?_)
         generalize w120.drew = w121 at HO_14 BK112 BK113 BK126 HB hHeld ⊢
         refine pure_ (i := 0) (N := some 138) (v := ?_) (a' := ?_) #[true, false, false, false, false, false, false, false, false, false, false, false, false, false, false] rfl rfl (any_of HT_.out (by kernel_rfl)) (fun _ _ _ h => h) (Or.inl ⟨by rfl, ?_⟩) ?_ ?_
         rotate_left
         ·intro w'
          go_simp
          with_reducible rfl
         rotate_left
         ·simp only [Act.put, sA, sZ, sS, i64_w, i32_w]
          rfl
         refine pure_ (i := 1) (N := some 139) (v := ?_) (a' := ?_) #[true, true, false, false, false, false, false, false, false, false, false, false, false, false, false] rfl rfl (any_of HT_.out (by kernel_rfl)) (fun _ _ _ h => h) (Or.inl ⟨by rfl, ?_⟩) ?_ ?_
         rotate_left
         ·intro w'
          go_simp
          with_reducible rfl
         rotate_left
         ·simp only [Act.put, sA, sZ, sS, i64_w, i32_w]
          rfl
         refine pure_ (i := 4) (N := some 142) (v := ?_) (a' := ?_) #[true, true, false, false, true, false, false, false, false, false, false, false, false, false, false] rfl rfl (any_of HT_.out (by kernel_rfl)) (fun _ _ _ h => h) (Or.inl ⟨by rfl, ?_⟩) ?_ ?_
         rotate_left
         ·intro w'
          go_simp
          with_reducible rfl
         rotate_left
         ·simp only [Act.put, sA, sZ, sS, i64_w, i32_w]
          rfl
         refine pure_ (i := 5) (N := some 143) (v := ?_) (a' := ?_) #[true, true, false, false, true, true, false, false, false, false, false, false, false, false, false] rfl rfl (any_of HT_.out (by kernel_rfl)) (fun _ _ _ h => h) (Or.inl ⟨by rfl, ?_⟩) ?_ ?_
         rotate_left
         ·intro w'
          go_simp
          with_reducible rfl
         rotate_left
         ·simp only [Act.put, sA, sZ, sS, i64_w, i32_w]
          rfl
         refine pure_ (i := 6) (N := some 144) (v := ?_) (a' := ?_) #[true, true, false, false, true, true, true, false, false, false, false, false, false, false, false] rfl rfl (any_of HT_.out (by kernel_rfl)) (fun _ _ _ h => h) (Or.inl ⟨by rfl, ?_⟩) ?_ ?_
         rotate_left
         ·intro w'
          go_simp
          with_reducible rfl
         rotate_left
         ·simp only [Act.put, sA, sZ, sS, i64_w, i32_w]
          rfl
         refine pure_ (i := 8) (N := some 146) (v := ?_) (a' := ?_) #[true, true, false, false, true, true, true, false, true, false, false, false, false, false, false] rfl rfl (any_of HT_.out (by kernel_rfl)) (fun _ _ _ h => h) (Or.inl ⟨by rfl, ?_⟩) ?_ ?_
         rotate_left
         ·intro w'
          go_simp
          with_reducible rfl
         rotate_left
         ·simp only [Act.put, sA, sZ, sS, i64_w, i32_w]
          rfl
         refine take_ (i := 2) (N := some 140) (v := ?_) (a' := ?_) #[true, true, true, false, true, true, true, false, true, false, false, false, false, false, false] rfl rfl (take_ofW HT_.out HW_.out (by kernel_rfl)) (fun _ _ _ h => h) (Or.inl ⟨by rfl, ?_⟩) hHeld ?_ ?_
         rotate_left
         ·rintro w' ⟨s0, s1, s2, s3⟩
          go_simp
          with_reducible rfl
         rotate_left
         ·simp only [Act.put, sA, sZ, sS, i64_w, i32_w]
          rfl
         refine take_ (i := 7) (N := some 145) (v := ?_) (a' := ?_) #[true, true, true, false, true, true, true, true, true, false, false, false, false, false, false] rfl rfl (take_ofW HT_.out HW_.out (by kernel_rfl)) (fun _ _ _ h => h) (Or.inl ⟨by rfl, ?_⟩) hHeld ?_ ?_
         rotate_left
         ·rintro w' ⟨s0, s1, s2, s3⟩
          go_simp
          with_reducible rfl
         rotate_left
         ·simp only [Act.put, sA, sZ, sS, i64_w, i32_w]
          rfl
         refine take_ (i := 9) (N := some 147) (v := ?_) (a' := ?_) #[true, true, true, false, true, true, true, true, true, true, false, false, false, false, false] rfl rfl (take_ofW HT_.out HW_.out (by kernel_rfl)) (fun _ _ _ h => h) (Or.inl ⟨by rfl, ?_⟩) hHeld ?_ ?_
         rotate_left
         ·rintro w' ⟨s0, s1, s2, s3⟩
          go_simp
          with_reducible rfl
         rotate_left
         ·simp only [Act.put, sA, sZ, sS, i64_w, i32_w]
          rfl
         refine pure_ (i := 10) (N := some 148) (v := ?_) (a' := ?_) #[true, true, true, false, true, true, true, true, true, true, true, false, false, false, false] rfl rfl (any_of HT_.out (by kernel_rfl)) (fun _ _ _ h => h) (Or.inl ⟨by rfl, ?_⟩) ?_ ?_
         rotate_left
         ·intro w'
          go_simp
          with_reducible rfl
         rotate_left
         ·simp only [Act.put, sA, sZ, sS, i64_w, i32_w]
          rfl
         refine pure_ (i := 11) (N := some 149) (v := ?_) (a' := ?_) #[true, true, true, false, true, true, true, true, true, true, true, true, false, false, false] rfl rfl (any_of HT_.out (by kernel_rfl)) (fun _ _ _ h => h) (Or.inl ⟨by rfl, ?_⟩) ?_ ?_
         rotate_left
         ·intro w'
          go_simp
          with_reducible rfl
         rotate_left
         ·simp only [Act.put, sA, sZ, sS, i64_w, i32_w]
          rfl
         refine pure_ (i := 12) (N := some 150) (v := ?_) (a' := ?_) #[true, true, true, false, true, true, true, true, true, true, true, true, true, false, false] rfl rfl (any_of HT_.out (by kernel_rfl)) (fun _ _ _ h => h) (Or.inl ⟨by rfl, ?_⟩) ?_ ?_
         rotate_left
         ·intro w'
          go_simp
          with_reducible rfl
         rotate_left
         ·simp only [Act.put, sA, sZ, sS, i64_w, i32_w]
          rfl
         refine one_ (i := 3) (N := some 141) #[true, true, true, true, true, true, true, true, true, true, true, true, true, false, false] rfl rfl (one_of HT_.out (by kernel_rfl)) (by decide) (fun K hK => ?_)
         refine goes_ Tryz.func60 (by kernel_rfl) rfl #[.pointer (some ⟨gb126, 0, none⟩), .int .i64 a1_0] (by rfl) rfl rfl (by (try simp only [List.map_toArray, List.map_cons, List.map_nil]); first | done | rfl | (simp only [List.length_drop, List.length_take]; rfl)) ?_
         with_reducible refine (slab_side.calls gb126 0 2 2 2 a1_0 (.pointer (some ⟨gb126, 2, none⟩)) _ A119.out).mono ?_
         rintro e w' ⟨rfl, ⟨nd, rfl⟩⟩
         refine ⟨_, rfl, ?_⟩
         refine hK.out _ _ ⟨(zC BK113.out 0).trans rfl, (zC BK113.out 1).trans rfl, (zC BK113.out 2).trans rfl, (zC BK113.out 3).trans rfl⟩ (fun hHeld => ?_)
         clear hK K
         refine norm_ (a' := ?_) ?_ ?_
         rotate_left
         ·show Act.put _ (some 141) _ = _
          simp only [Act.put, sA, sZ, sS, i64_w, i32_w]
          rfl
         refine pure_ (i := 13) (N := some 151) (v := ?_) (a' := ?_) #[true, true, true, true, true, true, true, true, true, true, true, true, true, true, false] rfl rfl (any_of HT_.out (by kernel_rfl)) (fun _ _ _ h => h) (Or.inl ⟨by rfl, ?_⟩) ?_ ?_
         rotate_left
         ·intro w'
          go_simp
          with_reducible rfl
         rotate_left
         ·simp only [Act.put, sA, sZ, sS, i64_w, i32_w]
          rfl
         refine one_ (i := 14) (N := none) #[true, true, true, true, true, true, true, true, true, true, true, true, true, true, true] rfl rfl (one_of HT_.out (by kernel_rfl)) (by decide) (fun K hK => ?_)
         have hs122 : w121.cell? ⟨gb126, 2, none⟩ = some (.int .i64 a0_3) := (zC BK126.out 2).trans rfl
         have hfs122 := zF BK126.out 2
         have hns122_0 := NB112_126.out
         have hns122_1 := NB113_126.out
         have hms122_0 := NB126_112.out
         have hms122_1 := NB126_113.out
         refine skip_ (w1 := ?_) (by rfl) rfl ?_ ?_
         rotate_left
         ·go_simp
          rfl
         refine hK.out _ _ ⟨((cell_far (p := ⟨gb126, _, none⟩) NB113_126.out _).trans (hHeld.1)), ((cell_far (p := ⟨gb126, _, none⟩) NB113_126.out _).trans (hHeld.2.1)), ((cell_far (p := ⟨gb126, _, none⟩) NB113_126.out _).trans (hHeld.2.2.1)), ((cell_far (p := ⟨gb126, _, none⟩) NB113_126.out _).trans (hHeld.2.2.2))⟩ (fun hHeld => ?_)
         clear hK K
         refine done_ (done_of HT_.out (by kernel_rfl)) ?_
         try go_wp2
         go_meet
         case rel => exact ⟨_, (a0_1), (a0_2), (wrap64 (x9_8 + (wrap64 (t117 * (wrap64 (a1_1 + a1_2)))))), H', ⟨by have := HJ8.out; have := HJ31.out; have := HK3.out; first | omega | exact Nat.le_refl _⟩, ⟨by (with_reducible repeat (first | apply Kd.S_alloc | apply Kd.S_drewN | apply Kd.S_drew)); exact Kd.S_mono (Kd.S_far (p := ⟨gb126, 2, none⟩) (Kd.S_types HO_14.out BK126.out (by decide)) (fun _ hk => hk.2) (.int .i64 (wrap64 (x9_8 + (wrap64 (t117 * (wrap64 (a1_1 + a1_2)))))))) (fun _ hk => trivial)⟩, ⟨by refine blk_far ?_ NB112_126.out _; exact BK112.out⟩, ⟨by refine blk_far ?_ NB113_126.out _; exact BK113.out⟩, ⟨by refine blk_put (cs := #[.int .i64 a0_1, .int .i64 a0_2, .int .i64 a0_3, .int .i64 a0_4, .int .i64 a0_5, .int .i64 a0_6]) ?_ 2 _ rfl; exact BK126.out⟩, ⟨by repeat (first | (with_reducible first | exact HB.out | apply yA | apply yN | apply yD | refine yS ?_ GE112.out | refine yS ?_ GE113.out | refine yS ?_ GE126.out) | exact HB.out)⟩⟩
        case rest =>
         clear HC101
         try clear c1
         try clear p2
         try clear c5
         try clear c6
         try clear p6
         try clear c9
         try clear c10
         try clear c11
         try clear c51
         try clear c51b0
         try clear c52
         try clear c54
         try clear c60
         try clear p64
         try clear c96
         try clear c102
         try clear c105
         try clear c106
         try clear c108
         try clear c108b0
         try clear c108b1
         try clear c113
         try clear c113b0
         try clear c113b1
         try clear c118
         try clear c118b0
         try clear c118b1
         try clear hcz103_0
         try clear hcz103_1
         try clear hcz103_2
         try clear hcz103_3
         try clear hcz103_4
         try clear hcz103_5
         try clear hcz103_6
         try clear hcz107_0
         try clear hcz107_1
         try clear hcz107_2
         try clear hcz107_3
         try clear hcz107_4
         try clear hcz107_5
         try clear hcz99_10
         try clear hcz99_11
         try clear hcz99_4
         try clear hcz99_5
         try clear hcz99_6
         try clear hcz99_7
         try clear hcz99_8
         try clear hcz99_9
         try clear hfz103_0
         try clear hfz103_1
         try clear hfz103_2
         try clear hfz103_3
         try clear hfz103_4
         try clear hfz103_5
         try clear hfz103_6
         try clear hfz107_0
         try clear hfz107_1
         try clear hfz107_2
         try clear hfz107_3
         try clear hfz107_4
         try clear hfz107_5
         try clear hfz99_0
         try clear hfz99_1
         try clear hfz99_10
         try clear hfz99_11
         try clear hfz99_2
         try clear hfz99_3
         try clear hfz99_4
         try clear hfz99_5
         try clear hfz99_6
         try clear hfz99_7
         try clear hfz99_8
         try clear hfz99_9
         obtain ⟨kq, x127000_100, x127001_100, x127002_100, HA, HJ100, HO_14, BK112, BK113, BK126, HB⟩ := hcut
         cases kq with
         | zero => exact absurd HA.out (by simp [slab_Make.j4])
         | succ kj100 =>
          have H := HA.out
          clear HA
          simp only [slab_Make.j4] at H
          replace H := Option.bind_eq_some_iff.mp H
          obtain ⟨t127, A1230, H⟩ := H
          replace H : (if t127 = 0 then (some (x14_3, (([(⟨(⟨x127000_100, x127001_100, x127002_100⟩ : S30), (⟨a0_4, a0_5, a0_6⟩ : S30)⟩ : S32)] : List (S32))), 0)) else (some (x14_3, ([] : List (S32)), 0))) = some (r1, r2, r3) := H
          have A123 := aK A1230
          clear A1230
          by_cases c124 : t127 = 0
          rotate_left
          ·rw [if_neg c124] at H
           have c124b0 : (t127 == 0) = false := beq_eq_false_iff_ne.mpr c124
           have c124b1 : (t127 != 0) = true := bne_iff_ne.mpr c124
           simp only [Option.some.injEq, Prod.mk.injEq] at H
           obtain ⟨rfl, rfl, rfl⟩ := H
           have hnb132 := NB126_112.out
           have hnc132 := NB112_126.out
           have hnb133 := NB126_113.out
           have hnc133 := NB113_126.out
           have hcz134_0 := zI BK126 0 rfl
           have hcz134_1 := zI BK126 1 rfl
           have hcz134_2 := zI BK126 2 rfl
           have hcz134_3 := zI BK126 3 rfl
           have hcz134_4 := zI BK126 4 rfl
           have hcz134_5 := zI BK126 5 rfl
           have hfz134_0 := zF BK126.out 0
           have hfz134_1 := zF BK126.out 1
           have hfz134_2 := zF BK126.out 2
           have hfz134_3 := zF BK126.out 3
           have hfz134_4 := zF BK126.out 4
           have hfz134_5 := zF BK126.out 5
           go_wp2_with (first | ((with_reducible refine gate_callee (f := 59) rfl ?_); refine goesL_ (some 153) rfl rfl Tryz.func59 (by kernel_rfl) rfl #[.agg #[.int .i64 x127000_100, .int .i64 x127001_100, .int .i64 x127002_100, .int .i64 a0_4, .int .i64 a0_5, .int .i64 a0_6]] rfl (by (try simp only [List.map_toArray, List.map_cons, List.map_nil]); first | done | rfl | (simp only [List.length_drop, List.length_take]; rfl)) ?_; (with_reducible refine (box_Check.calls x127000_100 x127001_100 x127002_100 a0_4 a0_5 a0_6 t127 _ A123.out).mono ?_); rintro e w135 ⟨rfl, hb⟩; refine ⟨_, rfl, ?_⟩; have n0_ := aK (Kd.S_below (HO_14.out) hb); have n1_ := aK (zB (g := gb112) (o := .cells #[.string a0_0, .int .i64 a0_1, .int .i64 a0_2, .int .i64 a0_3, .int .i64 a0_4, .int .i64 a0_5, .int .i64 a0_6] 45 (0, 0)) (BK112.out) hb); have n2_ := aK (zB (g := gb113) (o := .cells #[.int .i64 a1_0, .int .i64 a1_1, .int .i64 a1_2, .int .i64 a1_3] 50 (0, 0)) (BK113.out) hb); have n3_ := aK (zB (g := gb126) (o := .cells #[.int .i64 x127000_100, .int .i64 x127001_100, .int .i64 x127002_100, .int .i64 a0_4, .int .i64 a0_5, .int .i64 a0_6] 32 (0, 0)) (BK126.out) hb); have n4_ := aK (yT (HB.out) hb); clear HO_14; clear BK112; clear BK113; clear BK126; clear HB; have HO_14 := n0_; have BK112 := n1_; have BK113 := n2_; have BK126 := n3_; have HB := n4_; clear n0_ n1_ n2_ n3_ n4_; (try clear hb)))
           go_ret3
           exact ⟨_, _, rfl, HO_14.out, by first | exact Kd.R_nil _ _ _ _ _ | exact Kd.N_nil _ _ _ _ _ | exact Kd.V_nil _ _ _ _ _ | exact Kd.Q_nil _ _ _ _ _ | exact Kd.S_nil _ _ _ _ _, HB.out⟩
          rw [if_pos c124] at H
          have c124b0 : (t127 == 0) = true := beq_iff_eq.mpr c124
          have c124b1 : (t127 != 0) = false := bne_eq_false_iff_eq.mpr c124
          clear c124
          obtain ⟨y128, hy128⟩ : ∃ y_ : List (S32), y_ = (([(⟨(⟨x127000_100, x127001_100, x127002_100⟩ : S30), (⟨a0_4, a0_5, a0_6⟩ : S30)⟩ : S32)] : List (S32))) := ⟨_, rfl⟩
          replace H : (some (x14_3, y128, 0)) = some (r1, r2, r3) := by first | (rw [hy128]; with_reducible exact H) | (have H2_ := (Option.bind_some _ _).symm.trans H; rw [hy128]; with_reducible exact H2_) | (have H2_ := (Option.bind_some _ _).symm.trans H; with_reducible exact H2_) | with_reducible exact H | (rw [hy128]; exact H) | exact H
          have Ny128 := aK hy128
          clear hy128
          simp only [Option.some.injEq, Prod.mk.injEq] at H
          obtain ⟨rfl, rfl, rfl⟩ := H
          have hnb125 := NB126_112.out
          have hnc125 := NB112_126.out
          have hnb126 := NB126_113.out
          have hnc126 := NB113_126.out
          have hcz127_0 := zI BK126 0 rfl
          have hcz127_1 := zI BK126 1 rfl
          have hcz127_2 := zI BK126 2 rfl
          have hcz127_3 := zI BK126 3 rfl
          have hcz127_4 := zI BK126 4 rfl
          have hcz127_5 := zI BK126 5 rfl
          have hfz127_0 := zF BK126.out 0
          have hfz127_1 := zF BK126.out 1
          have hfz127_2 := zF BK126.out 2
          have hfz127_3 := zF BK126.out 3
          have hfz127_4 := zF BK126.out 4
          have hfz127_5 := zF BK126.out 5
          try go_wp2_with (first | ((with_reducible refine gate_callee (f := 59) rfl ?_); refine goesL_ (some 153) rfl rfl Tryz.func59 (by kernel_rfl) rfl #[.agg #[.int .i64 x127000_100, .int .i64 x127001_100, .int .i64 x127002_100, .int .i64 a0_4, .int .i64 a0_5, .int .i64 a0_6]] rfl (by (try simp only [List.map_toArray, List.map_cons, List.map_nil]); first | done | rfl | (simp only [List.length_drop, List.length_take]; rfl)) ?_; (with_reducible refine (box_Check.calls x127000_100 x127001_100 x127002_100 a0_4 a0_5 a0_6 t127 _ A123.out).mono ?_); rintro e w128 ⟨rfl, hb⟩; refine ⟨_, rfl, ?_⟩; have n0_ := aK (Kd.S_below (HO_14.out) hb); have n1_ := aK (zB (g := gb112) (o := .cells #[.string a0_0, .int .i64 a0_1, .int .i64 a0_2, .int .i64 a0_3, .int .i64 a0_4, .int .i64 a0_5, .int .i64 a0_6] 45 (0, 0)) (BK112.out) hb); have n2_ := aK (zB (g := gb113) (o := .cells #[.int .i64 a1_0, .int .i64 a1_1, .int .i64 a1_2, .int .i64 a1_3] 50 (0, 0)) (BK113.out) hb); have n3_ := aK (zB (g := gb126) (o := .cells #[.int .i64 x127000_100, .int .i64 x127001_100, .int .i64 x127002_100, .int .i64 a0_4, .int .i64 a0_5, .int .i64 a0_6] 32 (0, 0)) (BK126.out) hb); have n4_ := aK (yT (HB.out) hb); clear HO_14; clear BK112; clear BK113; clear BK126; clear HB; have HO_14 := n0_; have BK112 := n1_; have BK113 := n2_; have BK126 := n3_; have HB := n4_; clear n0_ n1_ n2_ n3_ n4_; (try clear hb)))
          have n0_ := aK (Kd.S_drew HO_14.out)
          have n1_ := aK (zD BK112.out)
          have n2_ := aK (zD BK113.out)
          have n3_ := aK (zD BK126.out)
          have n4_ := aK (yD HB.out)
          clear HO_14
          clear BK112
          clear BK113
          clear BK126
          clear HB
          have HO_14 := n0_
          have BK112 := n1_
          have BK113 := n2_
          have BK126 := n3_
          have HB := n4_
          clear n0_ n1_ n2_ n3_ n4_
          refine start_ (n := 6) (S := fun w' => w'.cell? ⟨gb126, 0, none⟩ = some (.int .i64 x127000_100) ∧ w'.cell? ⟨gb126, 1, none⟩ = some (.int .i64 x127001_100) ∧ w'.cell? ⟨gb126, 2, none⟩ = some (.int .i64 x127002_100) ∧ w'.cell? ⟨gb126, 3, none⟩ = some (.int .i64 a0_4) ∧ w'.cell? ⟨gb126, 4, none⟩ = some (.int .i64 a0_5) ∧ w'.cell? ⟨gb126, 5, none⟩ = some (.int .i64 a0_6)) (ds := []) #[false, false, false, false, false, false] (by kernel_rfl) rfl rfl ⟨(zC BK126.out 0).trans rfl, (zC BK126.out 1).trans rfl, (zC BK126.out 2).trans rfl, (zC BK126.out 3).trans rfl, (zC BK126.out 4).trans rfl, (zC BK126.out 5).trans rfl⟩ (fun hHeld => ?_)
          generalize w128.drew = w129 at HO_14 BK112 BK113 BK126 HB hHeld ⊢
          refine pure_ (i := 0) (N := some 156) (v := ?_) (a' := ?_) #[true, false, false, false, false, false] rfl rfl (by kernel_rfl) (fun _ _ _ h => h) (Or.inl ⟨by rfl, ?_⟩) ?_ ?_
          rotate_left
          ·intro w'
           go_simp
           with_reducible rfl
          rotate_left
          ·simp only [Act.put, sA, sZ, sS, i64_w, i32_w]
           rfl
          refine pure_ (i := 3) (N := some 4) (v := ?_) (a' := ?_) #[true, false, false, true, false, false] rfl rfl (by kernel_rfl) (fun _ _ _ h => h) (Or.inl ⟨by rfl, ?_⟩) ?_ ?_
          rotate_left
          ·intro w'
           go_simp
           with_reducible rfl
          rotate_left
          ·simp only [Act.put, sA, sZ, sS, i64_w, i32_w]
           rfl
          refine take_ (i := 1) (N := some 157) (v := ?_) (a' := ?_) #[true, true, false, true, false, false] rfl rfl (by kernel_rfl) (fun _ _ _ h => h) (Or.inl ⟨by rfl, ?_⟩) hHeld ?_ ?_
          rotate_left
          ·rintro w' ⟨s0, s1, s2, s3, s4, s5⟩
           go_simp
           with_reducible rfl
          rotate_left
          ·simp only [Act.put, sA, sZ, sS, i64_w, i32_w]
           rfl
          refine one_ (i := 2) (N := some 158) #[true, true, true, true, false, false] rfl rfl (by kernel_rfl) (by decide) (fun K hK => ?_)
          refine Kd.R_lit_step k32 _ 32 ?hg (N := 158) ?hd (xs := ([(⟨(⟨x127000_100, x127001_100, x127002_100⟩ : S30), (⟨a0_4, a0_5, a0_6⟩ : S30)⟩ : S32)] : List (S32))) (inner := [.int .i64 x127000_100, .int .i64 x127001_100, .int .i64 x127002_100, .int .i64 a0_4, .int .i64 a0_5, .int .i64 a0_6]) (ok := fun _ => True) (okp := fun _ => True) ?hr ?hp (fun _ hk => hk) trivial (Below.refl _ _) (Nat.le_refl _) (by simp) ?_; (case hd => rfl); (case hg => rfl); (case hr => first | (go_simp; done) | (go_simp; rfl)); (case hp => exact (Reps.c6 (show Kd.M k32 _ _ _ (⟨(⟨x127000_100, x127001_100, x127002_100⟩ : S30), (⟨a0_4, a0_5, a0_6⟩ : S30)⟩ : S32) [.int .i64 x127000_100, .int .i64 x127001_100, .int .i64 x127002_100, .int .i64 a0_4, .int .i64 a0_5, .int .i64 a0_6] from (k32_mkM _ _ _ (⟨(⟨x127000_100, x127001_100, x127002_100⟩ : S30), (⟨a0_4, a0_5, a0_6⟩ : S30)⟩ : S32) )) (Reps.none _ _)))
          intro v129 w130 ho131 hb hg_ hnew_
          clear hg_ hnew_
          (first | rw [← Ny128.out] at ho131 | (simp only [Int.reduceToNat] at ho131; rw [← Ny128.out] at ho131))
          have n0_ := aK (Kd.S_below (HO_14.out) hb)
          have n1_ := aK (Kd.R_lower (Kd.R_newB ho131 (g := gb126) (o := .cells #[.int .i64 x127000_100, .int .i64 x127001_100, .int .i64 x127002_100, .int .i64 a0_4, .int .i64 a0_5, .int .i64 a0_6] 32 (0, 0)) (BK126.out)) (yZ (HB.out)))
          have n2_ := aK (zB (g := gb112) (o := .cells #[.string a0_0, .int .i64 a0_1, .int .i64 a0_2, .int .i64 a0_3, .int .i64 a0_4, .int .i64 a0_5, .int .i64 a0_6] 45 (0, 0)) (BK112.out) hb)
          have n3_ := aK (zB (g := gb113) (o := .cells #[.int .i64 a1_0, .int .i64 a1_1, .int .i64 a1_2, .int .i64 a1_3] 50 (0, 0)) (BK113.out) hb)
          have n4_ := aK (zB (g := gb126) (o := .cells #[.int .i64 x127000_100, .int .i64 x127001_100, .int .i64 x127002_100, .int .i64 a0_4, .int .i64 a0_5, .int .i64 a0_6] 32 (0, 0)) (BK126.out) hb)
          have n5_ := aK (yT (HB.out) hb)
          clear HO_14
          clear BK112
          clear BK113
          clear BK126
          clear HB
          have HO_14 := n0_
          have HO130 := n1_
          have BK112 := n2_
          have BK113 := n3_
          have BK126 := n4_
          have HB := n5_
          clear n0_ n1_ n2_ n3_ n4_ n5_
          clear hb ho131
          refine hK.out _ _ ⟨(zC BK126.out 0).trans rfl, (zC BK126.out 1).trans rfl, (zC BK126.out 2).trans rfl, (zC BK126.out 3).trans rfl, (zC BK126.out 4).trans rfl, (zC BK126.out 5).trans rfl⟩ (fun hHeld => ?_)
          clear hK K
          refine norm_ (a' := ?_) ?_ ?_
          rotate_left
          ·show Act.put _ (some 158) _ = _
           simp only [Act.put, sA, sZ, sS, i64_w, i32_w]
           rfl
          refine pure_ (i := 4) (N := some 5) (v := ?_) (a' := ?_) #[true, true, true, true, true, false] rfl rfl (by kernel_rfl) (fun _ _ _ h => h) (Or.inl ⟨by rfl, ?_⟩) ?_ ?_
          rotate_left
          ·intro w'
           go_simp
           with_reducible rfl
          rotate_left
          ·simp only [Act.put, sA, sZ, sS, i64_w, i32_w]
           rfl
          refine pure_ (i := 5) (N := some 6) (v := ?_) (a' := ?_) #[true, true, true, true, true, true] rfl rfl (by kernel_rfl) (fun _ _ _ h => h) (Or.inl ⟨by rfl, ?_⟩) ?_ ?_
          rotate_left
          ·intro w'
           go_simp
           with_reducible rfl
          rotate_left
          ·simp only [Act.put, sA, sZ, sS, i64_w, i32_w]
           rfl
          refine done_ (by kernel_rfl) ?_
          try go_wp2
          go_ret3
          exact ⟨_, _, rfl, HO_14.out, by (with_reducible repeat (first | apply Kd.R_alloc | apply Kd.R_drewN | apply Kd.R_drew)); exact Kd.R_mono HO130.out (fun _ hk => trivial), HB.out⟩
       rw [if_pos c51] at H
       have c51b0 : decide (x84_3 < t117) = true := decide_eq_true c51
       clear c51
       by_cases c52 : a0_0.size + 1 ≤ 9223372036854775807
       rotate_left
       ·rw [if_neg c52] at H
        exact absurd H (by simp)
       rw [if_pos c52] at H
       have c52b0 := eq_true c52
       have c52b1 : decide (a0_0.size + 1 ≤ 9223372036854775807) = true := decide_eq_true c52
       try have c52b2 : (9223372036854775807 < a0_0.size + 1) = False := eq_false (Nat.not_lt.2 c52)
       replace H := Option.bind_eq_some_iff.mp H
       obtain ⟨t121, A530, H⟩ := H
       replace H : (if (a0_0 ++ (⟨#[95]⟩ : ByteArray)).size + t121.size ≤ 9223372036854775807 then (if a1_0 = 0 then (slab_Make.j3 k3 x9_8 t117 x14_3 t117 x84_3 a0_0 a0_1 a0_2 a0_3 a0_4 a0_5 a0_6 a1_0 a1_1 a1_2 a1_3 ((a0_0 ++ (⟨#[95]⟩ : ByteArray)) ++ t121) a0_0 (wrap64 (a1_3 + x84_3)) (wrap64 (x9_8 + (wrap64 (x84_3 * (wrap64 (a1_1 + a1_2)))))) a0_2 a0_3 (wrap64 ((wrap64 (x9_8 + (wrap64 (x84_3 * (wrap64 (a1_1 + a1_2)))))) + a1_1)) a0_5 a0_6 0) else (if a1_0 = 1 then (slab_Make.j3 k3 x9_8 t117 x14_3 t117 x84_3 a0_0 a0_1 a0_2 a0_3 a0_4 a0_5 a0_6 a1_0 a1_1 a1_2 a1_3 ((a0_0 ++ (⟨#[95]⟩ : ByteArray)) ++ t121) a0_0 (wrap64 (a1_3 + x84_3)) a0_1 (wrap64 (x9_8 + (wrap64 (x84_3 * (wrap64 (a1_1 + a1_2)))))) a0_3 a0_4 (wrap64 ((wrap64 (x9_8 + (wrap64 (x84_3 * (wrap64 (a1_1 + a1_2)))))) + a1_1)) a0_6 0) else (if a1_0 = 2 then (slab_Make.j3 k3 x9_8 t117 x14_3 t117 x84_3 a0_0 a0_1 a0_2 a0_3 a0_4 a0_5 a0_6 a1_0 a1_1 a1_2 a1_3 ((a0_0 ++ (⟨#[95]⟩ : ByteArray)) ++ t121) a0_0 (wrap64 (a1_3 + x84_3)) a0_1 a0_2 (wrap64 (x9_8 + (wrap64 (x84_3 * (wrap64 (a1_1 + a1_2)))))) a0_4 a0_5 (wrap64 ((wrap64 (x9_8 + (wrap64 (x84_3 * (wrap64 (a1_1 + a1_2)))))) + a1_1)) 0) else (none)))) else (none)) = some (r1, r2, r3) := H
       have A53 := aK A530
       clear A530
       by_cases c54 : (a0_0 ++ (⟨#[95]⟩ : ByteArray)).size + t121.size ≤ 9223372036854775807
       rotate_left
       ·rw [if_neg c54] at H
        exact absurd H (by simp)
       rw [if_pos c54] at H
       have c54b0 := eq_true c54
       have c54b1 : decide ((a0_0 ++ (⟨#[95]⟩ : ByteArray)).size + t121.size ≤ 9223372036854775807) = true := decide_eq_true c54
       try have c54b2 : (9223372036854775807 < (a0_0 ++ (⟨#[95]⟩ : ByteArray)).size + t121.size) = False := eq_false (Nat.not_lt.2 c54)
       try have c54b3 : (9223372036854775807 < a0_0.size + 1 + t121.size) = False := eq_false (by have h_ := c54; repeat rw [ByteArray.size_append] at h_; exact Nat.not_lt.2 h_)
       have HC55 := aK H
       clear H
       try go_wp2
       have n0_ := aK (Kd.S_drew HO_14.out)
       have n1_ := aK (zD BK112.out)
       have n2_ := aK (zD BK113.out)
       have n3_ := aK (yD HB.out)
       clear HO_14
       clear BK112
       clear BK113
       clear HB
       have HO_14 := n0_
       have BK112 := n1_
       have BK113 := n2_
       have HB := n3_
       clear n0_ n1_ n2_ n3_
       refine start_ (n := 20) (S := fun w' => w'.cell? ⟨gb112, 0, none⟩ = some (.string a0_0) ∧ w'.cell? ⟨gb112, 1, none⟩ = some (.int .i64 a0_1) ∧ w'.cell? ⟨gb112, 2, none⟩ = some (.int .i64 a0_2) ∧ w'.cell? ⟨gb112, 3, none⟩ = some (.int .i64 a0_3) ∧ w'.cell? ⟨gb112, 4, none⟩ = some (.int .i64 a0_4) ∧ w'.cell? ⟨gb112, 5, none⟩ = some (.int .i64 a0_5) ∧ w'.cell? ⟨gb112, 6, none⟩ = some (.int .i64 a0_6) ∧ w'.cell? ⟨gb113, 0, none⟩ = some (.int .i64 a1_0) ∧ w'.cell? ⟨gb113, 1, none⟩ = some (.int .i64 a1_1) ∧ w'.cell? ⟨gb113, 2, none⟩ = some (.int .i64 a1_2) ∧ w'.cell? ⟨gb113, 3, none⟩ = some (.int .i64 a1_3)) (ds := []) #[false, false, false, false, false, false, false, false, false, false, false, false, false, false, false, false, false, false, false, false] (by kernel_rfl) rfl rfl ⟨(zC BK112.out 0).trans rfl, (zC BK112.out 1).trans rfl, (zC BK112.out 2).trans rfl, (zC BK112.out 3).trans rfl, (zC BK112.out 4).trans rfl, (zC BK112.out 5).trans rfl, (zC BK112.out 6).trans rfl, (zC BK113.out 0).trans rfl, (zC BK113.out 1).trans rfl, (zC BK113.out 2).trans rfl, (zC BK113.out 3).trans rfl⟩ (fun hHeld => ?_); refine with_tabW slab_Make.tab24 slab_Make.bits24 (fun HT_ HW_ => ?_)
       generalize wr.drew = w56 at HO_14 BK112 BK113 HB hHeld ⊢
       refine pure_ (i := 0) (N := some 87) (v := ?_) (a' := ?_) #[true, false, false, false, false, false, false, false, false, false, false, false, false, false, false, false, false, false, false, false] rfl rfl (any_of HT_.out (by kernel_rfl)) (fun _ _ _ h => h) (Or.inl ⟨by rfl, ?_⟩) ?_ ?_
       rotate_left
       ·intro w'
        go_simp
        with_reducible rfl
       rotate_left
       ·simp only [Act.put, sA, sZ, sS, i64_w, i32_w]
        rfl
       refine pure_ (i := 3) (N := some 90) (v := ?_) (a' := ?_) #[true, false, false, true, false, false, false, false, false, false, false, false, false, false, false, false, false, false, false, false] rfl rfl (any_of HT_.out (by kernel_rfl)) (fun _ _ _ h => h) (Or.inl ⟨by rfl, ?_⟩) ?_ ?_
       rotate_left
       ·intro w'
        go_simp
        with_reducible rfl
       rotate_left
       ·simp only [Act.put, sA, sZ, sS, i64_w, i32_w]
        rfl
       refine pure_ (i := 5) (N := some 92) (v := ?_) (a' := ?_) #[true, false, false, true, false, true, false, false, false, false, false, false, false, false, false, false, false, false, false, false] rfl rfl (any_of HT_.out (by kernel_rfl)) (fun _ _ _ h => h) (Or.inl ⟨by rfl, ?_⟩) ?_ ?_
       rotate_left
       ·intro w'
        go_simp
        with_reducible rfl
       rotate_left
       ·simp only [Act.put, sA, sZ, sS, i64_w, i32_w]
        rfl
       refine pure_ (i := 9) (N := some 96) (v := ?_) (a' := ?_) #[true, false, false, true, false, true, false, false, false, true, false, false, false, false, false, false, false, false, false, false] rfl rfl (any_of HT_.out (by kernel_rfl)) (fun _ _ _ h => h) (Or.inl ⟨by rfl, ?_⟩) ?_ ?_
       rotate_left
       ·intro w'
        go_simp
        with_reducible rfl
       rotate_left
       ·simp only [Act.put, sA, sZ, sS, i64_w, i32_w]
        rfl
       refine pure_ (i := 11) (N := some 98) (v := ?_) (a' := ?_) #[true, false, false, true, false, true, false, false, false, true, false, true, false, false, false, false, false, false, false, false] rfl rfl (any_of HT_.out (by kernel_rfl)) (fun _ _ _ h => h) (Or.inl ⟨by rfl, ?_⟩) ?_ ?_
       rotate_left
       ·intro w'
        go_simp
        with_reducible rfl
       rotate_left
       ·simp only [Act.put, sA, sZ, sS, i64_w, i32_w]
        rfl
       refine pure_ (i := 13) (N := some 100) (v := ?_) (a' := ?_) #[true, false, false, true, false, true, false, false, false, true, false, true, false, true, false, false, false, false, false, false] rfl rfl (any_of HT_.out (by kernel_rfl)) (fun _ _ _ h => h) (Or.inl ⟨by rfl, ?_⟩) ?_ ?_
       rotate_left
       ·intro w'
        go_simp
        with_reducible rfl
       rotate_left
       ·simp only [Act.put, sA, sZ, sS, i64_w, i32_w]
        rfl
       refine pure_ (i := 15) (N := some 102) (v := ?_) (a' := ?_) #[true, false, false, true, false, true, false, false, false, true, false, true, false, true, false, true, false, false, false, false] rfl rfl (any_of HT_.out (by kernel_rfl)) (fun _ _ _ h => h) (Or.inl ⟨by rfl, ?_⟩) ?_ ?_
       rotate_left
       ·intro w'
        go_simp
        with_reducible rfl
       rotate_left
       ·simp only [Act.put, sA, sZ, sS, i64_w, i32_w]
        rfl
       refine take_ (i := 1) (N := some 88) (v := ?_) (a' := ?_) #[true, true, false, true, false, true, false, false, false, true, false, true, false, true, false, true, false, false, false, false] rfl rfl (take_ofW HT_.out HW_.out (by kernel_rfl)) (fun _ _ _ h => h) (Or.inl ⟨by rfl, ?_⟩) hHeld ?_ ?_
       rotate_left
       ·rintro w' ⟨s0, s1, s2, s3, s4, s5, s6, s7, s8, s9, s10⟩
        go_simp
        with_reducible rfl
       rotate_left
       ·simp only [Act.put, sA, sZ, sS, i64_w, i32_w]
        rfl
       refine pure_ (i := 2) (N := some 89) (v := ?_) (a' := ?_) #[true, true, true, true, false, true, false, false, false, true, false, true, false, true, false, true, false, false, false, false] rfl rfl (any_of HT_.out (by kernel_rfl)) (fun _ _ _ h => h) (Or.inl ⟨by rfl, ?_⟩) ?_ ?_
       rotate_left
       ·intro w'
        go_simp
        with_reducible rfl
       rotate_left
       ·simp only [Act.put, sA, sZ, sS, i64_w, i32_w]
        rfl
       refine take_ (i := 4) (N := some 91) (v := ?_) (a' := ?_) #[true, true, true, true, true, true, false, false, false, true, false, true, false, true, false, true, false, false, false, false] rfl rfl (take_ofW HT_.out HW_.out (by kernel_rfl)) (fun _ _ _ h => h) (Or.inl ⟨by rfl, ?_⟩) hHeld ?_ ?_
       rotate_left
       ·rintro w' ⟨s0, s1, s2, s3, s4, s5, s6, s7, s8, s9, s10⟩
        go_simp
        with_reducible rfl
       rotate_left
       ·simp only [Act.put, sA, sZ, sS, i64_w, i32_w]
        rfl
       refine pure_ (i := 6) (N := some 93) (v := ?_) (a' := ?_) #[true, true, true, true, true, true, true, false, false, true, false, true, false, true, false, true, false, false, false, false] rfl rfl (any_of HT_.out (by kernel_rfl)) (fun _ _ _ h => h) (Or.inl ⟨by rfl, ?_⟩) ?_ ?_
       rotate_left
       ·intro w'
        go_simp
        with_reducible rfl
       rotate_left
       ·simp only [Act.put, sA, sZ, sS, i64_w, i32_w]
        rfl
       refine take_ (i := 10) (N := some 97) (v := ?_) (a' := ?_) #[true, true, true, true, true, true, true, false, false, true, true, true, false, true, false, true, false, false, false, false] rfl rfl (take_ofW HT_.out HW_.out (by kernel_rfl)) (fun _ _ _ h => h) (Or.inl ⟨by rfl, ?_⟩) hHeld ?_ ?_
       rotate_left
       ·rintro w' ⟨s0, s1, s2, s3, s4, s5, s6, s7, s8, s9, s10⟩
        go_simp
        with_reducible rfl
       rotate_left
       ·simp only [Act.put, sA, sZ, sS, i64_w, i32_w]
        rfl
       refine take_ (i := 12) (N := some 99) (v := ?_) (a' := ?_) #[true, true, true, true, true, true, true, false, false, true, true, true, true, true, false, true, false, false, false, false] rfl rfl (take_ofW HT_.out HW_.out (by kernel_rfl)) (fun _ _ _ h => h) (Or.inl ⟨by rfl, ?_⟩) hHeld ?_ ?_
       rotate_left
       ·rintro w' ⟨s0, s1, s2, s3, s4, s5, s6, s7, s8, s9, s10⟩
        go_simp
        with_reducible rfl
       rotate_left
       ·simp only [Act.put, sA, sZ, sS, i64_w, i32_w]
        rfl
       refine pure_ (i := 14) (N := some 101) (v := ?_) (a' := ?_) #[true, true, true, true, true, true, true, false, false, true, true, true, true, true, true, true, false, false, false, false] rfl rfl (any_of HT_.out (by kernel_rfl)) (fun _ _ _ h => h) (Or.inl ⟨by rfl, ?_⟩) ?_ ?_
       rotate_left
       ·intro w'
        go_simp
        with_reducible rfl
       rotate_left
       ·simp only [Act.put, sA, sZ, sS, i64_w, i32_w]
        rfl
       refine take_ (i := 16) (N := some 103) (v := ?_) (a' := ?_) #[true, true, true, true, true, true, true, false, false, true, true, true, true, true, true, true, true, false, false, false] rfl rfl (take_ofW HT_.out HW_.out (by kernel_rfl)) (fun _ _ _ h => h) (Or.inl ⟨by rfl, ?_⟩) hHeld ?_ ?_
       rotate_left
       ·rintro w' ⟨s0, s1, s2, s3, s4, s5, s6, s7, s8, s9, s10⟩
        go_simp
        with_reducible rfl
       rotate_left
       ·simp only [Act.put, sA, sZ, sS, i64_w, i32_w]
        rfl
       refine join_ (σ := Nat) 1 #[true, true, true, true, true, true, true, true, true, true, true, true, true, true, true, true, true, true, true, false] (fun s_ => [(94, .string t121), (16, .pointer (some ⟨s_, 0, none⟩)), (95, .string ((a0_0 ++ (⟨#[95]⟩ : ByteArray)) ++ t121)), (104, .agg #[.string ((a0_0 ++ (⟨#[95]⟩ : ByteArray)) ++ t121), .string a0_0, .int .i64 (wrap64 (a1_3 + x84_3)), .int .i64 a0_1, .int .i64 a0_2, .int .i64 a0_3, .int .i64 a0_4, .int .i64 a0_5, .int .i64 a0_6, .int .i64 0, .slice none 0 0, .slice none 0 0])]) (fun s_ w' => (w'.cell? ⟨gb112, 0, none⟩ = some (.string a0_0) ∧ w'.cell? ⟨gb112, 1, none⟩ = some (.int .i64 a0_1) ∧ w'.cell? ⟨gb112, 2, none⟩ = some (.int .i64 a0_2) ∧ w'.cell? ⟨gb112, 3, none⟩ = some (.int .i64 a0_3) ∧ w'.cell? ⟨gb112, 4, none⟩ = some (.int .i64 a0_4) ∧ w'.cell? ⟨gb112, 5, none⟩ = some (.int .i64 a0_5) ∧ w'.cell? ⟨gb112, 6, none⟩ = some (.int .i64 a0_6) ∧ w'.cell? ⟨gb113, 0, none⟩ = some (.int .i64 a1_0) ∧ w'.cell? ⟨gb113, 1, none⟩ = some (.int .i64 a1_1) ∧ w'.cell? ⟨gb113, 2, none⟩ = some (.int .i64 a1_2) ∧ w'.cell? ⟨gb113, 3, none⟩ = some (.int .i64 a1_3)) ∧ (Kd.S k35 35 w' w.heap.size (fun k_ => k_ ≠ s_) u14 x14_3) ∧ (w'.heap[gb112]? = some (.cells #[.string a0_0, .int .i64 a0_1, .int .i64 a0_2, .int .i64 a0_3, .int .i64 a0_4, .int .i64 a0_5, .int .i64 a0_6] 45 (0, 0))) ∧ (w'.heap[gb113]? = some (.cells #[.int .i64 a1_0, .int .i64 a1_1, .int .i64 a1_2, .int .i64 a1_3] 50 (0, 0))) ∧ (w'.heap[s_]? = some (.cells #[.string (⟨#[]⟩ : ByteArray), .string (⟨#[]⟩ : ByteArray), .int .i64 0, .int .i64 0, .int .i64 0, .int .i64 0, .int .i64 0, .int .i64 0, .int .i64 0, .int .i64 0, .slice none 0 0, .slice none 0 0] 35 (0, 0))) ∧ (w.heap.size ≤ s_) ∧ (w.heap.size ≤ s_) ∧ (gb112 ≠ s_) ∧ (s_ ≠ gb112) ∧ (gb113 ≠ s_) ∧ (s_ ≠ gb113) ∧ (Below w.heap.size w w')) ?_ ?_
       rotate_left
       ·intro hCont
        refine two_ (i := 7) (j := 18) (Ni := some 94) (Nj := some 16) #[true, true, true, true, true, true, true, true, false, true, true, true, true, true, true, true, true, false, false, false] #[true, true, true, true, true, true, true, false, false, true, true, true, true, true, true, true, true, false, true, false] rfl rfl rfl rfl (two_of HT_.out (by kernel_rfl)) (by decide) (by decide) (fun K hK => ?_) (fun K hK => ?_)
        ·skip
         refine goes_ Tryz.func61 (by kernel_rfl) rfl #[.int .i64 (wrap64 (a1_3 + x84_3))] (by rfl) rfl rfl (by (try simp only [List.map_toArray, List.map_cons, List.map_nil]); first | done | rfl | (simp only [List.length_drop, List.length_take]; rfl)) ?_
         with_reducible refine (strconv_Itoa.calls (wrap64 (a1_3 + x84_3)) t121 _ HLD.out (HB.out) A53.out).mono ?_
         rintro e w57 ⟨rfl, hb⟩
         refine ⟨_, rfl, ?_⟩
         have n0_ := aK (Kd.S_below (HO_14.out) hb)
         have n1_ := aK (zB (g := gb112) (o := .cells #[.string a0_0, .int .i64 a0_1, .int .i64 a0_2, .int .i64 a0_3, .int .i64 a0_4, .int .i64 a0_5, .int .i64 a0_6] 45 (0, 0)) (BK112.out) hb)
         have n2_ := aK (zB (g := gb113) (o := .cells #[.int .i64 a1_0, .int .i64 a1_1, .int .i64 a1_2, .int .i64 a1_3] 50 (0, 0)) (BK113.out) hb)
         have n3_ := aK (yT (HB.out) hb)
         clear HO_14
         clear BK112
         clear BK113
         clear HB
         have HO_14 := n0_
         have BK112 := n1_
         have BK113 := n2_
         have HB := n3_
         clear n0_ n1_ n2_ n3_
         (try clear hb)
         (try clear hb2)
         (try clear hk)
         (try clear hi)
         refine hK.out _ _ ⟨(zC BK112.out 0).trans rfl, (zC BK112.out 1).trans rfl, (zC BK112.out 2).trans rfl, (zC BK112.out 3).trans rfl, (zC BK112.out 4).trans rfl, (zC BK112.out 5).trans rfl, (zC BK112.out 6).trans rfl, (zC BK113.out 0).trans rfl, (zC BK113.out 1).trans rfl, (zC BK113.out 2).trans rfl, (zC BK113.out 3).trans rfl⟩ (fun hHeld => ?_)
         clear hK K
         refine norm_ (a' := ?_) ?_ ?_
         rotate_left
         ·show Act.put _ (some 94) _ = _
          simp only [Act.put, sA, sZ, sS, i64_w, i32_w]
          rfl
         refine pure_ (i := 8) (N := some 95) (v := ?_) (a' := ?_) #[true, true, true, true, true, true, true, true, true, true, true, true, true, true, true, true, true, false, false, false] rfl rfl (any_of HT_.out (by kernel_rfl)) (fun _ _ _ h => h) (Or.inl ⟨by rfl, ?_⟩) ?_ ?_
         rotate_left
         ·intro w'
          go_simp
          with_reducible rfl
         rotate_left
         ·simp only [Act.put, sA, sZ, sS, i64_w, i32_w]
          rfl
         refine pure_ (i := 17) (N := some 104) (v := ?_) (a' := ?_) #[true, true, true, true, true, true, true, true, true, true, true, true, true, true, true, true, true, true, false, false] rfl rfl (any_of HT_.out (by kernel_rfl)) (fun _ _ _ h => h) (Or.inl ⟨by rfl, ?_⟩) ?_ ?_
         rotate_left
         ·intro w'
          go_simp
          with_reducible rfl
         rotate_left
         ·simp only [Act.put, sA, sZ, sS, i64_w, i32_w]
          rfl
         refine one_ (i := 18) (N := some 16) #[true, true, true, true, true, true, true, true, true, true, true, true, true, true, true, true, true, true, true, false] rfl rfl (one_of HT_.out (by kernel_rfl)) (by decide) (fun K hK => ?_)
         refine box_step ?hg (N := 16) ?hd (cs := #[.string (⟨#[]⟩ : ByteArray), .string (⟨#[]⟩ : ByteArray), .int .i64 0, .int .i64 0, .int .i64 0, .int .i64 0, .int .i64 0, .int .i64 0, .int .i64 0, .int .i64 0, .slice none 0 0, .slice none 0 0]) (t := 35) ?hr ?_; (case hd => rfl); (case hg => rfl); (case hr => first | (go_simp; done) | (go_simp; rfl))
         intro gb122 hg w58 hbox hb
         have n0_ := aK (Kd.S_below (Kd.S_elderB (HO_14.out) gb122 (Nat.le_of_eq hg.symm)) hb)
         have n1_ := aK (zB (g := gb112) (o := .cells #[.string a0_0, .int .i64 a0_1, .int .i64 a0_2, .int .i64 a0_3, .int .i64 a0_4, .int .i64 a0_5, .int .i64 a0_6] 45 (0, 0)) (BK112.out) hb)
         have n2_ := aK (zB (g := gb113) (o := .cells #[.int .i64 a1_0, .int .i64 a1_1, .int .i64 a1_2, .int .i64 a1_3] 50 (0, 0)) (BK113.out) hb)
         have n3_ := aK (yT (HB.out) hb)
         have n4_ := aK (hbox)
         have n5_ := aK ((by rw [hg]; exact (yZ (HB.out)) : w.heap.size ≤ gb122))
         have n6_ := aK ((by rw [hg]; exact (yZ (HB.out)) : w.heap.size ≤ gb122))
         have n7_ := aK ((by rw [hg]; exact Nat.ne_of_lt (blk_lt (g := gb112) (o := .cells #[.string a0_0, .int .i64 a0_1, .int .i64 a0_2, .int .i64 a0_3, .int .i64 a0_4, .int .i64 a0_5, .int .i64 a0_6] 45 (0, 0)) (BK112.out)) : gb112 ≠ gb122))
         have n8_ := aK ((by rw [hg]; exact Nat.ne_of_gt (blk_lt (g := gb112) (o := .cells #[.string a0_0, .int .i64 a0_1, .int .i64 a0_2, .int .i64 a0_3, .int .i64 a0_4, .int .i64 a0_5, .int .i64 a0_6] 45 (0, 0)) (BK112.out)) : gb122 ≠ gb112))
         have n9_ := aK ((by rw [hg]; exact Nat.ne_of_lt (blk_lt (g := gb113) (o := .cells #[.int .i64 a1_0, .int .i64 a1_1, .int .i64 a1_2, .int .i64 a1_3] 50 (0, 0)) (BK113.out)) : gb113 ≠ gb122))
         have n10_ := aK ((by rw [hg]; exact Nat.ne_of_gt (blk_lt (g := gb113) (o := .cells #[.int .i64 a1_0, .int .i64 a1_1, .int .i64 a1_2, .int .i64 a1_3] 50 (0, 0)) (BK113.out)) : gb122 ≠ gb113))
         clear HO_14
         clear BK112
         clear BK113
         clear HB
         have HO_14 := n0_
         have BK112 := n1_
         have BK113 := n2_
         have HB := n3_
         have BK122 := n4_
         have GW122 := n5_
         have GE122 := n6_
         have NB112_122 := n7_
         have NB122_112 := n8_
         have NB113_122 := n9_
         have NB122_113 := n10_
         clear n0_ n1_ n2_ n3_ n4_ n5_ n6_ n7_ n8_ n9_ n10_
         clear hb hbox hg
         refine hK.out _ _ ⟨(zC BK112.out 0).trans rfl, (zC BK112.out 1).trans rfl, (zC BK112.out 2).trans rfl, (zC BK112.out 3).trans rfl, (zC BK112.out 4).trans rfl, (zC BK112.out 5).trans rfl, (zC BK112.out 6).trans rfl, (zC BK113.out 0).trans rfl, (zC BK113.out 1).trans rfl, (zC BK113.out 2).trans rfl, (zC BK113.out 3).trans rfl⟩ (fun hHeld => ?_)
         clear hK K
         refine norm_ (a' := ?_) ?_ ?_
         rotate_left
         ·show Act.put _ (some 16) _ = _
          simp only [Act.put, sA, sZ, sS, i64_w, i32_w]
          rfl
         exact norm_ (by simp only [putAll, Act.put, sA, sZ, sS]) (hCont (gb122) _ ⟨hHeld, (by (with_reducible repeat (first | apply Kd.S_alloc | apply Kd.S_drewN | apply Kd.S_drew)); exact Kd.S_mono HO_14.out (fun _ hk => hk.2)), (BK112.out), (BK113.out), (BK122.out), GW122.out, GE122.out, NB112_122.out, NB122_112.out, NB113_122.out, NB122_113.out, (HB.out)⟩)
        ·skip
         refine box_step ?hg (N := 16) ?hd (cs := #[.string (⟨#[]⟩ : ByteArray), .string (⟨#[]⟩ : ByteArray), .int .i64 0, .int .i64 0, .int .i64 0, .int .i64 0, .int .i64 0, .int .i64 0, .int .i64 0, .int .i64 0, .slice none 0 0, .slice none 0 0]) (t := 35) ?hr ?_; (case hd => rfl); (case hg => rfl); (case hr => first | (go_simp; done) | (go_simp; rfl))
         intro gb122 hg w57 hbox hb
         have n0_ := aK (Kd.S_below (Kd.S_elderB (HO_14.out) gb122 (Nat.le_of_eq hg.symm)) hb)
         have n1_ := aK (zB (g := gb112) (o := .cells #[.string a0_0, .int .i64 a0_1, .int .i64 a0_2, .int .i64 a0_3, .int .i64 a0_4, .int .i64 a0_5, .int .i64 a0_6] 45 (0, 0)) (BK112.out) hb)
         have n2_ := aK (zB (g := gb113) (o := .cells #[.int .i64 a1_0, .int .i64 a1_1, .int .i64 a1_2, .int .i64 a1_3] 50 (0, 0)) (BK113.out) hb)
         have n3_ := aK (yT (HB.out) hb)
         have n4_ := aK (hbox)
         have n5_ := aK ((by rw [hg]; exact (yZ (HB.out)) : w.heap.size ≤ gb122))
         have n6_ := aK ((by rw [hg]; exact (yZ (HB.out)) : w.heap.size ≤ gb122))
         have n7_ := aK ((by rw [hg]; exact Nat.ne_of_lt (blk_lt (g := gb112) (o := .cells #[.string a0_0, .int .i64 a0_1, .int .i64 a0_2, .int .i64 a0_3, .int .i64 a0_4, .int .i64 a0_5, .int .i64 a0_6] 45 (0, 0)) (BK112.out)) : gb112 ≠ gb122))
         have n8_ := aK ((by rw [hg]; exact Nat.ne_of_gt (blk_lt (g := gb112) (o := .cells #[.string a0_0, .int .i64 a0_1, .int .i64 a0_2, .int .i64 a0_3, .int .i64 a0_4, .int .i64 a0_5, .int .i64 a0_6] 45 (0, 0)) (BK112.out)) : gb122 ≠ gb112))
         have n9_ := aK ((by rw [hg]; exact Nat.ne_of_lt (blk_lt (g := gb113) (o := .cells #[.int .i64 a1_0, .int .i64 a1_1, .int .i64 a1_2, .int .i64 a1_3] 50 (0, 0)) (BK113.out)) : gb113 ≠ gb122))
         have n10_ := aK ((by rw [hg]; exact Nat.ne_of_gt (blk_lt (g := gb113) (o := .cells #[.int .i64 a1_0, .int .i64 a1_1, .int .i64 a1_2, .int .i64 a1_3] 50 (0, 0)) (BK113.out)) : gb122 ≠ gb113))
         clear HO_14
         clear BK112
         clear BK113
         clear HB
         have HO_14 := n0_
         have BK112 := n1_
         have BK113 := n2_
         have HB := n3_
         have BK122 := n4_
         have GW122 := n5_
         have GE122 := n6_
         have NB112_122 := n7_
         have NB122_112 := n8_
         have NB113_122 := n9_
         have NB122_113 := n10_
         clear n0_ n1_ n2_ n3_ n4_ n5_ n6_ n7_ n8_ n9_ n10_
         clear hb hbox hg
         refine hK.out _ _ ⟨(zC BK112.out 0).trans rfl, (zC BK112.out 1).trans rfl, (zC BK112.out 2).trans rfl, (zC BK112.out 3).trans rfl, (zC BK112.out 4).trans rfl, (zC BK112.out 5).trans rfl, (zC BK112.out 6).trans rfl, (zC BK113.out 0).trans rfl, (zC BK113.out 1).trans rfl, (zC BK113.out 2).trans rfl, (zC BK113.out 3).trans rfl⟩ (fun hHeld => ?_)
         clear hK K
         refine norm_ (a' := ?_) ?_ ?_
         rotate_left
         ·show Act.put _ (some 16) _ = _
          simp only [Act.put, sA, sZ, sS, i64_w, i32_w]
          rfl
         refine one_ (i := 7) (N := some 94) #[true, true, true, true, true, true, true, true, false, true, true, true, true, true, true, true, true, false, true, false] rfl rfl (one_of HT_.out (by kernel_rfl)) (by decide) (fun K hK => ?_)
         refine goes_ Tryz.func61 (by kernel_rfl) rfl #[.int .i64 (wrap64 (a1_3 + x84_3))] (by rfl) rfl rfl (by (try simp only [List.map_toArray, List.map_cons, List.map_nil]); first | done | rfl | (simp only [List.length_drop, List.length_take]; rfl)) ?_
         with_reducible refine (strconv_Itoa.calls (wrap64 (a1_3 + x84_3)) t121 _ HLD.out (HB.out) A53.out).mono ?_
         rintro e w58 ⟨rfl, hb⟩
         refine ⟨_, rfl, ?_⟩
         have n0_ := aK (Kd.S_below (HO_14.out) hb)
         have n1_ := aK (zB (g := gb112) (o := .cells #[.string a0_0, .int .i64 a0_1, .int .i64 a0_2, .int .i64 a0_3, .int .i64 a0_4, .int .i64 a0_5, .int .i64 a0_6] 45 (0, 0)) (BK112.out) hb)
         have n2_ := aK (zB (g := gb113) (o := .cells #[.int .i64 a1_0, .int .i64 a1_1, .int .i64 a1_2, .int .i64 a1_3] 50 (0, 0)) (BK113.out) hb)
         have n3_ := aK (zB (g := gb122) (o := .cells #[.string (⟨#[]⟩ : ByteArray), .string (⟨#[]⟩ : ByteArray), .int .i64 0, .int .i64 0, .int .i64 0, .int .i64 0, .int .i64 0, .int .i64 0, .int .i64 0, .int .i64 0, .slice none 0 0, .slice none 0 0] 35 (0, 0)) (BK122.out) hb)
         have n4_ := aK (yT (HB.out) hb)
         clear HO_14
         clear BK112
         clear BK113
         clear BK122
         clear HB
         have HO_14 := n0_
         have BK112 := n1_
         have BK113 := n2_
         have BK122 := n3_
         have HB := n4_
         clear n0_ n1_ n2_ n3_ n4_
         (try clear hb)
         (try clear hb2)
         (try clear hk)
         (try clear hi)
         refine hK.out _ _ ⟨(zC BK112.out 0).trans rfl, (zC BK112.out 1).trans rfl, (zC BK112.out 2).trans rfl, (zC BK112.out 3).trans rfl, (zC BK112.out 4).trans rfl, (zC BK112.out 5).trans rfl, (zC BK112.out 6).trans rfl, (zC BK113.out 0).trans rfl, (zC BK113.out 1).trans rfl, (zC BK113.out 2).trans rfl, (zC BK113.out 3).trans rfl⟩ (fun hHeld => ?_)
         clear hK K
         refine norm_ (a' := ?_) ?_ ?_
         rotate_left
         ·show Act.put _ (some 94) _ = _
          simp only [Act.put, sA, sZ, sS, i64_w, i32_w]
          rfl
         refine pure_ (i := 8) (N := some 95) (v := ?_) (a' := ?_) #[true, true, true, true, true, true, true, true, true, true, true, true, true, true, true, true, true, false, true, false] rfl rfl (any_of HT_.out (by kernel_rfl)) (fun _ _ _ h => h) (Or.inl ⟨by rfl, ?_⟩) ?_ ?_
         rotate_left
         ·intro w'
          go_simp
          with_reducible rfl
         rotate_left
         ·simp only [Act.put, sA, sZ, sS, i64_w, i32_w]
          rfl
         refine pure_ (i := 17) (N := some 104) (v := ?_) (a' := ?_) #[true, true, true, true, true, true, true, true, true, true, true, true, true, true, true, true, true, true, true, false] rfl rfl (any_of HT_.out (by kernel_rfl)) (fun _ _ _ h => h) (Or.inl ⟨by rfl, ?_⟩) ?_ ?_
         rotate_left
         ·intro w'
          go_simp
          with_reducible rfl
         rotate_left
         ·simp only [Act.put, sA, sZ, sS, i64_w, i32_w]
          rfl
         exact norm_ (by simp only [putAll, Act.put, sA, sZ, sS]) (hCont (gb122) _ ⟨hHeld, (by (with_reducible repeat (first | apply Kd.S_alloc | apply Kd.S_drewN | apply Kd.S_drew)); exact Kd.S_mono HO_14.out (fun _ hk => hk.2)), (BK112.out), (BK113.out), (BK122.out), GW122.out, GE122.out, NB112_122.out, NB122_112.out, NB113_122.out, NB122_113.out, (HB.out)⟩)
       rintro gb122 w59 ⟨hS_, h0_, h1_, h2_, h3_, h4_, h5_, h6_, h7_, h8_, h9_, h10_⟩
       have n0_ : Aside0 (Kd.S k35 35 w59 w.heap.size (fun k_ => k_ ≠ gb122) u14 x14_3) := ⟨h0_⟩
       have n1_ : Aside0 (w59.heap[gb112]? = some (.cells #[.string a0_0, .int .i64 a0_1, .int .i64 a0_2, .int .i64 a0_3, .int .i64 a0_4, .int .i64 a0_5, .int .i64 a0_6] 45 (0, 0))) := ⟨h1_⟩
       have n2_ : Aside0 (w59.heap[gb113]? = some (.cells #[.int .i64 a1_0, .int .i64 a1_1, .int .i64 a1_2, .int .i64 a1_3] 50 (0, 0))) := ⟨h2_⟩
       have n3_ : Aside0 (w59.heap[gb122]? = some (.cells #[.string (⟨#[]⟩ : ByteArray), .string (⟨#[]⟩ : ByteArray), .int .i64 0, .int .i64 0, .int .i64 0, .int .i64 0, .int .i64 0, .int .i64 0, .int .i64 0, .int .i64 0, .slice none 0 0, .slice none 0 0] 35 (0, 0))) := ⟨h3_⟩
       have n4_ : Aside0 (w.heap.size ≤ gb122) := ⟨h4_⟩
       have n5_ : Aside0 (w.heap.size ≤ gb122) := ⟨h5_⟩
       have n6_ : Aside0 (gb112 ≠ gb122) := ⟨h6_⟩
       have n7_ : Aside0 (gb122 ≠ gb112) := ⟨h7_⟩
       have n8_ : Aside0 (gb113 ≠ gb122) := ⟨h8_⟩
       have n9_ : Aside0 (gb122 ≠ gb113) := ⟨h9_⟩
       have n10_ : Aside0 (Below w.heap.size w w59) := ⟨h10_⟩
       clear HO_14
       clear BK112
       clear BK113
       clear HB
       clear h0_ h1_ h2_ h3_ h4_ h5_ h6_ h7_ h8_ h9_ h10_
       have HO_14 := n0_
       have BK112 := n1_
       have BK113 := n2_
       have BK122 := n3_
       have GW122 := n4_
       have GE122 := n5_
       have NB112_122 := n6_
       have NB122_112 := n7_
       have NB113_122 := n8_
       have NB122_113 := n9_
       have HB := n10_
       clear n0_ n1_ n2_ n3_ n4_ n5_ n6_ n7_ n8_ n9_ n10_
       have hHeld : w59.cell? ⟨gb112, 0, none⟩ = some (.string a0_0) ∧ w59.cell? ⟨gb112, 1, none⟩ = some (.int .i64 a0_1) ∧ w59.cell? ⟨gb112, 2, none⟩ = some (.int .i64 a0_2) ∧ w59.cell? ⟨gb112, 3, none⟩ = some (.int .i64 a0_3) ∧ w59.cell? ⟨gb112, 4, none⟩ = some (.int .i64 a0_4) ∧ w59.cell? ⟨gb112, 5, none⟩ = some (.int .i64 a0_5) ∧ w59.cell? ⟨gb112, 6, none⟩ = some (.int .i64 a0_6) ∧ w59.cell? ⟨gb113, 0, none⟩ = some (.int .i64 a1_0) ∧ w59.cell? ⟨gb113, 1, none⟩ = some (.int .i64 a1_1) ∧ w59.cell? ⟨gb113, 2, none⟩ = some (.int .i64 a1_2) ∧ w59.cell? ⟨gb113, 3, none⟩ = some (.int .i64 a1_3) := hS_
       refine norm_ (a' := ?_) ?_ ?_
       rotate_left
       ·simp only [putAll, Act.put, sA, sZ, sS]
        rfl
       refine one_ (i := 19) (N := none) #[true, true, true, true, true, true, true, true, true, true, true, true, true, true, true, true, true, true, true, true] rfl rfl (one_of HT_.out (by kernel_rfl)) (by decide) (fun K hK => ?_)
       have hs60 : w59.cell? ⟨gb122, 0, none⟩ = some (.string (⟨#[]⟩ : ByteArray)) := (zC BK122.out 0).trans rfl
       have hfs60 := zF BK122.out 0
       have hns60_0 := NB112_122.out
       have hns60_1 := NB113_122.out
       have hms60_0 := NB122_112.out
       have hms60_1 := NB122_113.out
       have hs61 : w59.cell? ⟨gb122, 1, none⟩ = some (.string (⟨#[]⟩ : ByteArray)) := (zC BK122.out 1).trans rfl
       have hfs61 := zF BK122.out 1
       have hns61_0 := NB112_122.out
       have hns61_1 := NB113_122.out
       have hms61_0 := NB122_112.out
       have hms61_1 := NB122_113.out
       have hs62 : w59.cell? ⟨gb122, 2, none⟩ = some (.int .i64 0) := (zC BK122.out 2).trans rfl
       have hfs62 := zF BK122.out 2
       have hns62_0 := NB112_122.out
       have hns62_1 := NB113_122.out
       have hms62_0 := NB122_112.out
       have hms62_1 := NB122_113.out
       have hs63 : w59.cell? ⟨gb122, 3, none⟩ = some (.int .i64 0) := (zC BK122.out 3).trans rfl
       have hfs63 := zF BK122.out 3
       have hns63_0 := NB112_122.out
       have hns63_1 := NB113_122.out
       have hms63_0 := NB122_112.out
       have hms63_1 := NB122_113.out
       have hs64 : w59.cell? ⟨gb122, 4, none⟩ = some (.int .i64 0) := (zC BK122.out 4).trans rfl
       have hfs64 := zF BK122.out 4
       have hns64_0 := NB112_122.out
       have hns64_1 := NB113_122.out
       have hms64_0 := NB122_112.out
       have hms64_1 := NB122_113.out
       have hs65 : w59.cell? ⟨gb122, 5, none⟩ = some (.int .i64 0) := (zC BK122.out 5).trans rfl
       have hfs65 := zF BK122.out 5
       have hns65_0 := NB112_122.out
       have hns65_1 := NB113_122.out
       have hms65_0 := NB122_112.out
       have hms65_1 := NB122_113.out
       have hs66 : w59.cell? ⟨gb122, 6, none⟩ = some (.int .i64 0) := (zC BK122.out 6).trans rfl
       have hfs66 := zF BK122.out 6
       have hns66_0 := NB112_122.out
       have hns66_1 := NB113_122.out
       have hms66_0 := NB122_112.out
       have hms66_1 := NB122_113.out
       have hs67 : w59.cell? ⟨gb122, 7, none⟩ = some (.int .i64 0) := (zC BK122.out 7).trans rfl
       have hfs67 := zF BK122.out 7
       have hns67_0 := NB112_122.out
       have hns67_1 := NB113_122.out
       have hms67_0 := NB122_112.out
       have hms67_1 := NB122_113.out
       have hs68 : w59.cell? ⟨gb122, 8, none⟩ = some (.int .i64 0) := (zC BK122.out 8).trans rfl
       have hfs68 := zF BK122.out 8
       have hns68_0 := NB112_122.out
       have hns68_1 := NB113_122.out
       have hms68_0 := NB122_112.out
       have hms68_1 := NB122_113.out
       have hs69 : w59.cell? ⟨gb122, 9, none⟩ = some (.int .i64 0) := (zC BK122.out 9).trans rfl
       have hfs69 := zF BK122.out 9
       have hns69_0 := NB112_122.out
       have hns69_1 := NB113_122.out
       have hms69_0 := NB122_112.out
       have hms69_1 := NB122_113.out
       have hs70 : w59.cell? ⟨gb122, 10, none⟩ = some (.slice none 0 0) := (zC BK122.out 10).trans rfl
       have hfs70 := zF BK122.out 10
       have hns70_0 := NB112_122.out
       have hns70_1 := NB113_122.out
       have hms70_0 := NB122_112.out
       have hms70_1 := NB122_113.out
       have hs71 : w59.cell? ⟨gb122, 11, none⟩ = some (.slice none 0 0) := (zC BK122.out 11).trans rfl
       have hfs71 := zF BK122.out 11
       have hns71_0 := NB112_122.out
       have hns71_1 := NB113_122.out
       have hms71_0 := NB122_112.out
       have hms71_1 := NB122_113.out
       refine skip_ (w1 := ?_) (by rfl) rfl ?_ ?_
       rotate_left
       ·go_simp
        rfl
       refine hK.out _ _ ⟨((cell_far (p := ⟨gb122, _, none⟩) NB112_122.out _).trans (((cell_far (p := ⟨gb122, _, none⟩) NB112_122.out _).trans (((cell_far (p := ⟨gb122, _, none⟩) NB112_122.out _).trans (((cell_far (p := ⟨gb122, _, none⟩) NB112_122.out _).trans (((cell_far (p := ⟨gb122, _, none⟩) NB112_122.out _).trans (((cell_far (p := ⟨gb122, _, none⟩) NB112_122.out _).trans (((cell_far (p := ⟨gb122, _, none⟩) NB112_122.out _).trans (((cell_far (p := ⟨gb122, _, none⟩) NB112_122.out _).trans (((cell_far (p := ⟨gb122, _, none⟩) NB112_122.out _).trans (((cell_far (p := ⟨gb122, _, none⟩) NB112_122.out _).trans (((cell_far (p := ⟨gb122, _, none⟩) NB112_122.out _).trans (((cell_far (p := ⟨gb122, _, none⟩) NB112_122.out _).trans (hHeld.1)))))))))))))))))))))))), ((cell_far (p := ⟨gb122, _, none⟩) NB112_122.out _).trans (((cell_far (p := ⟨gb122, _, none⟩) NB112_122.out _).trans (((cell_far (p := ⟨gb122, _, none⟩) NB112_122.out _).trans (((cell_far (p := ⟨gb122, _, none⟩) NB112_122.out _).trans (((cell_far (p := ⟨gb122, _, none⟩) NB112_122.out _).trans (((cell_far (p := ⟨gb122, _, none⟩) NB112_122.out _).trans (((cell_far (p := ⟨gb122, _, none⟩) NB112_122.out _).trans (((cell_far (p := ⟨gb122, _, none⟩) NB112_122.out _).trans (((cell_far (p := ⟨gb122, _, none⟩) NB112_122.out _).trans (((cell_far (p := ⟨gb122, _, none⟩) NB112_122.out _).trans (((cell_far (p := ⟨gb122, _, none⟩) NB112_122.out _).trans (((cell_far (p := ⟨gb122, _, none⟩) NB112_122.out _).trans (hHeld.2.1)))))))))))))))))))))))), ((cell_far (p := ⟨gb122, _, none⟩) NB112_122.out _).trans (((cell_far (p := ⟨gb122, _, none⟩) NB112_122.out _).trans (((cell_far (p := ⟨gb122, _, none⟩) NB112_122.out _).trans (((cell_far (p := ⟨gb122, _, none⟩) NB112_122.out _).trans (((cell_far (p := ⟨gb122, _, none⟩) NB112_122.out _).trans (((cell_far (p := ⟨gb122, _, none⟩) NB112_122.out _).trans (((cell_far (p := ⟨gb122, _, none⟩) NB112_122.out _).trans (((cell_far (p := ⟨gb122, _, none⟩) NB112_122.out _).trans (((cell_far (p := ⟨gb122, _, none⟩) NB112_122.out _).trans (((cell_far (p := ⟨gb122, _, none⟩) NB112_122.out _).trans (((cell_far (p := ⟨gb122, _, none⟩) NB112_122.out _).trans (((cell_far (p := ⟨gb122, _, none⟩) NB112_122.out _).trans (hHeld.2.2.1)))))))))))))))))))))))), ((cell_far (p := ⟨gb122, _, none⟩) NB112_122.out _).trans (((cell_far (p := ⟨gb122, _, none⟩) NB112_122.out _).trans (((cell_far (p := ⟨gb122, _, none⟩) NB112_122.out _).trans (((cell_far (p := ⟨gb122, _, none⟩) NB112_122.out _).trans (((cell_far (p := ⟨gb122, _, none⟩) NB112_122.out _).trans (((cell_far (p := ⟨gb122, _, none⟩) NB112_122.out _).trans (((cell_far (p := ⟨gb122, _, none⟩) NB112_122.out _).trans (((cell_far (p := ⟨gb122, _, none⟩) NB112_122.out _).trans (((cell_far (p := ⟨gb122, _, none⟩) NB112_122.out _).trans (((cell_far (p := ⟨gb122, _, none⟩) NB112_122.out _).trans (((cell_far (p := ⟨gb122, _, none⟩) NB112_122.out _).trans (((cell_far (p := ⟨gb122, _, none⟩) NB112_122.out _).trans (hHeld.2.2.2.1)))))))))))))))))))))))), ((cell_far (p := ⟨gb122, _, none⟩) NB112_122.out _).trans (((cell_far (p := ⟨gb122, _, none⟩) NB112_122.out _).trans (((cell_far (p := ⟨gb122, _, none⟩) NB112_122.out _).trans (((cell_far (p := ⟨gb122, _, none⟩) NB112_122.out _).trans (((cell_far (p := ⟨gb122, _, none⟩) NB112_122.out _).trans (((cell_far (p := ⟨gb122, _, none⟩) NB112_122.out _).trans (((cell_far (p := ⟨gb122, _, none⟩) NB112_122.out _).trans (((cell_far (p := ⟨gb122, _, none⟩) NB112_122.out _).trans (((cell_far (p := ⟨gb122, _, none⟩) NB112_122.out _).trans (((cell_far (p := ⟨gb122, _, none⟩) NB112_122.out _).trans (((cell_far (p := ⟨gb122, _, none⟩) NB112_122.out _).trans (((cell_far (p := ⟨gb122, _, none⟩) NB112_122.out _).trans (hHeld.2.2.2.2.1)))))))))))))))))))))))), ((cell_far (p := ⟨gb122, _, none⟩) NB112_122.out _).trans (((cell_far (p := ⟨gb122, _, none⟩) NB112_122.out _).trans (((cell_far (p := ⟨gb122, _, none⟩) NB112_122.out _).trans (((cell_far (p := ⟨gb122, _, none⟩) NB112_122.out _).trans (((cell_far (p := ⟨gb122, _, none⟩) NB112_122.out _).trans (((cell_far (p := ⟨gb122, _, none⟩) NB112_122.out _).trans (((cell_far (p := ⟨gb122, _, none⟩) NB112_122.out _).trans (((cell_far (p := ⟨gb122, _, none⟩) NB112_122.out _).trans (((cell_far (p := ⟨gb122, _, none⟩) NB112_122.out _).trans (((cell_far (p := ⟨gb122, _, none⟩) NB112_122.out _).trans (((cell_far (p := ⟨gb122, _, none⟩) NB112_122.out _).trans (((cell_far (p := ⟨gb122, _, none⟩) NB112_122.out _).trans (hHeld.2.2.2.2.2.1)))))))))))))))))))))))), ((cell_far (p := ⟨gb122, _, none⟩) NB112_122.out _).trans (((cell_far (p := ⟨gb122, _, none⟩) NB112_122.out _).trans (((cell_far (p := ⟨gb122, _, none⟩) NB112_122.out _).trans (((cell_far (p := ⟨gb122, _, none⟩) NB112_122.out _).trans (((cell_far (p := ⟨gb122, _, none⟩) NB112_122.out _).trans (((cell_far (p := ⟨gb122, _, none⟩) NB112_122.out _).trans (((cell_far (p := ⟨gb122, _, none⟩) NB112_122.out _).trans (((cell_far (p := ⟨gb122, _, none⟩) NB112_122.out _).trans (((cell_far (p := ⟨gb122, _, none⟩) NB112_122.out _).trans (((cell_far (p := ⟨gb122, _, none⟩) NB112_122.out _).trans (((cell_far (p := ⟨gb122, _, none⟩) NB112_122.out _).trans (((cell_far (p := ⟨gb122, _, none⟩) NB112_122.out _).trans (hHeld.2.2.2.2.2.2.1)))))))))))))))))))))))), ((cell_far (p := ⟨gb122, _, none⟩) NB113_122.out _).trans (((cell_far (p := ⟨gb122, _, none⟩) NB113_122.out _).trans (((cell_far (p := ⟨gb122, _, none⟩) NB113_122.out _).trans (((cell_far (p := ⟨gb122, _, none⟩) NB113_122.out _).trans (((cell_far (p := ⟨gb122, _, none⟩) NB113_122.out _).trans (((cell_far (p := ⟨gb122, _, none⟩) NB113_122.out _).trans (((cell_far (p := ⟨gb122, _, none⟩) NB113_122.out _).trans (((cell_far (p := ⟨gb122, _, none⟩) NB113_122.out _).trans (((cell_far (p := ⟨gb122, _, none⟩) NB113_122.out _).trans (((cell_far (p := ⟨gb122, _, none⟩) NB113_122.out _).trans (((cell_far (p := ⟨gb122, _, none⟩) NB113_122.out _).trans (((cell_far (p := ⟨gb122, _, none⟩) NB113_122.out _).trans (hHeld.2.2.2.2.2.2.2.1)))))))))))))))))))))))), ((cell_far (p := ⟨gb122, _, none⟩) NB113_122.out _).trans (((cell_far (p := ⟨gb122, _, none⟩) NB113_122.out _).trans (((cell_far (p := ⟨gb122, _, none⟩) NB113_122.out _).trans (((cell_far (p := ⟨gb122, _, none⟩) NB113_122.out _).trans (((cell_far (p := ⟨gb122, _, none⟩) NB113_122.out _).trans (((cell_far (p := ⟨gb122, _, none⟩) NB113_122.out _).trans (((cell_far (p := ⟨gb122, _, none⟩) NB113_122.out _).trans (((cell_far (p := ⟨gb122, _, none⟩) NB113_122.out _).trans (((cell_far (p := ⟨gb122, _, none⟩) NB113_122.out _).trans (((cell_far (p := ⟨gb122, _, none⟩) NB113_122.out _).trans (((cell_far (p := ⟨gb122, _, none⟩) NB113_122.out _).trans (((cell_far (p := ⟨gb122, _, none⟩) NB113_122.out _).trans (hHeld.2.2.2.2.2.2.2.2.1)))))))))))))))))))))))), ((cell_far (p := ⟨gb122, _, none⟩) NB113_122.out _).trans (((cell_far (p := ⟨gb122, _, none⟩) NB113_122.out _).trans (((cell_far (p := ⟨gb122, _, none⟩) NB113_122.out _).trans (((cell_far (p := ⟨gb122, _, none⟩) NB113_122.out _).trans (((cell_far (p := ⟨gb122, _, none⟩) NB113_122.out _).trans (((cell_far (p := ⟨gb122, _, none⟩) NB113_122.out _).trans (((cell_far (p := ⟨gb122, _, none⟩) NB113_122.out _).trans (((cell_far (p := ⟨gb122, _, none⟩) NB113_122.out _).trans (((cell_far (p := ⟨gb122, _, none⟩) NB113_122.out _).trans (((cell_far (p := ⟨gb122, _, none⟩) NB113_122.out _).trans (((cell_far (p := ⟨gb122, _, none⟩) NB113_122.out _).trans (((cell_far (p := ⟨gb122, _, none⟩) NB113_122.out _).trans (hHeld.2.2.2.2.2.2.2.2.2.1)))))))))))))))))))))))), ((cell_far (p := ⟨gb122, _, none⟩) NB113_122.out _).trans (((cell_far (p := ⟨gb122, _, none⟩) NB113_122.out _).trans (((cell_far (p := ⟨gb122, _, none⟩) NB113_122.out _).trans (((cell_far (p := ⟨gb122, _, none⟩) NB113_122.out _).trans (((cell_far (p := ⟨gb122, _, none⟩) NB113_122.out _).trans (((cell_far (p := ⟨gb122, _, none⟩) NB113_122.out _).trans (((cell_far (p := ⟨gb122, _, none⟩) NB113_122.out _).trans (((cell_far (p := ⟨gb122, _, none⟩) NB113_122.out _).trans (((cell_far (p := ⟨gb122, _, none⟩) NB113_122.out _).trans (((cell_far (p := ⟨gb122, _, none⟩) NB113_122.out _).trans (((cell_far (p := ⟨gb122, _, none⟩) NB113_122.out _).trans (((cell_far (p := ⟨gb122, _, none⟩) NB113_122.out _).trans (hHeld.2.2.2.2.2.2.2.2.2.2))))))))))))))))))))))))⟩ (fun hHeld => ?_)
       clear hK K
       refine done_ (done_of HT_.out (by kernel_rfl)) ?_
       have hnb72 := NB113_112.out
       have hnc72 := NB112_113.out
       have hnb73 := NB113_122.out
       have hnc73 := NB122_113.out
       have hcz74_0 := zI BK113 0 rfl
       have hcz74_1 := zI BK113 1 rfl
       have hcz74_2 := zI BK113 2 rfl
       have hcz74_3 := zI BK113 3 rfl
       have hfz74_0 := zF BK113.out 0
       have hfz74_1 := zF BK113.out 1
       have hfz74_2 := zF BK113.out 2
       have hfz74_3 := zF BK113.out 3
       go_upto_region 26 with (fail)
       go_cut [] (fun wc => ∃ (kq : Nat) (x123003_54 : Int) (x123004_54 : Int) (x123005_54 : Int) (x123006_54 : Int) (x123007_54 : Int) (x123008_54 : Int), Aside0 (slab_Make.j3 kq x9_8 t117 x14_3 t117 x84_3 a0_0 a0_1 a0_2 a0_3 a0_4 a0_5 a0_6 a1_0 a1_1 a1_2 a1_3 ((a0_0 ++ (⟨#[95]⟩ : ByteArray)) ++ t121) a0_0 (wrap64 (a1_3 + x84_3)) x123003_54 x123004_54 x123005_54 x123006_54 x123007_54 x123008_54 0 = some (r1, r2, r3)) ∧ Aside0 (kq ≤ k3) ∧ Aside0 (Kd.S k35 35 wc w.heap.size (fun k_ => k_ ≠ gb122) u14 x14_3) ∧ Aside0 (wc.heap[gb112]? = some (.cells #[.string a0_0, .int .i64 a0_1, .int .i64 a0_2, .int .i64 a0_3, .int .i64 a0_4, .int .i64 a0_5, .int .i64 a0_6] 45 (0, 0))) ∧ Aside0 (wc.heap[gb113]? = some (.cells #[.int .i64 a1_0, .int .i64 a1_1, .int .i64 a1_2, .int .i64 a1_3] 50 (0, 0))) ∧ Aside0 (wc.heap[gb122]? = some (.cells #[.string ((a0_0 ++ (⟨#[95]⟩ : ByteArray)) ++ t121), .string a0_0, .int .i64 (wrap64 (a1_3 + x84_3)), .int .i64 x123003_54, .int .i64 x123004_54, .int .i64 x123005_54, .int .i64 x123006_54, .int .i64 x123007_54, .int .i64 x123008_54, .int .i64 0, (.slice none 0 0), (.slice none 0 0)] 35 (0, 0))) ∧ Aside0 (Below w.heap.size w wc))
       case first =>
        have H := HC55.out
        clear HC55
        by_cases c75 : a1_0 = 0
        ·rw [if_pos c75] at H
         have c75b0 : (a1_0 == 0) = true := beq_iff_eq.mpr c75
         have c75b1 : (a1_0 != 0) = false := bne_eq_false_iff_eq.mpr c75
         clear c75
         (first | rw [c75b0] | (simp only [i64_w, i32_w]; rw [c75b0]) | skip)
         have A76 := aK (show a1_0 = (0 : Int) from by first | assumption | exact of_decide_eq_true (by assumption) | exact beq_iff_eq.mp (by assumption))
         have A77 := aK (show a1_0 = (0 : Int) from by first | assumption | exact of_decide_eq_true (by assumption) | exact beq_iff_eq.mp (by assumption))
         have H' := aK H
         clear H
         try go_wp2
         obtain ⟨w78, hW_⟩ : ∃ W_, ((((((((((((w59.setCell ⟨gb122, 0, none⟩ (.string ((a0_0 ++ (⟨#[95]⟩ : ByteArray)) ++ t121))).setCell ⟨gb122, 1, none⟩ (.string a0_0)).setCell ⟨gb122, 2, none⟩ (.int .i64 (wrap64 (a1_3 + x84_3)))).setCell ⟨gb122, 3, none⟩ (.int .i64 a0_1)).setCell ⟨gb122, 4, none⟩ (.int .i64 a0_2)).setCell ⟨gb122, 5, none⟩ (.int .i64 a0_3)).setCell ⟨gb122, 6, none⟩ (.int .i64 a0_4)).setCell ⟨gb122, 7, none⟩ (.int .i64 a0_5)).setCell ⟨gb122, 8, none⟩ (.int .i64 a0_6)).setCell ⟨gb122, 9, none⟩ (.int .i64 0)).setCell ⟨gb122, 10, none⟩ (.slice none 0 0)).setCell ⟨gb122, 11, none⟩ (.slice none 0 0)) = W_ := ⟨_, rfl⟩
         have n0_ : Aside0 (Kd.S k35 35 w78 w.heap.size (fun k_ => k_ ≠ gb122) u14 x14_3) := ⟨by subst hW_; (with_reducible repeat (first | apply Kd.S_alloc | apply Kd.S_drewN | apply Kd.S_drew)); exact Kd.S_mono (Kd.S_far (p := ⟨gb122, 11, none⟩) (Kd.S_far (p := ⟨gb122, 10, none⟩) (Kd.S_far (p := ⟨gb122, 9, none⟩) (Kd.S_far (p := ⟨gb122, 8, none⟩) (Kd.S_far (p := ⟨gb122, 7, none⟩) (Kd.S_far (p := ⟨gb122, 6, none⟩) (Kd.S_far (p := ⟨gb122, 5, none⟩) (Kd.S_far (p := ⟨gb122, 4, none⟩) (Kd.S_far (p := ⟨gb122, 3, none⟩) (Kd.S_far (p := ⟨gb122, 2, none⟩) (Kd.S_far (p := ⟨gb122, 1, none⟩) (Kd.S_far (p := ⟨gb122, 0, none⟩) (Kd.S_mono HO_14.out (fun k_ hk => (⟨hk, hk⟩ : _ ∧ k_ ≠ gb122))) (fun _ hk => hk.2) _) (fun _ hk => hk.2) _) (fun _ hk => hk.2) _) (fun _ hk => hk.2) _) (fun _ hk => hk.2) _) (fun _ hk => hk.2) _) (fun _ hk => hk.2) _) (fun _ hk => hk.2) _) (fun _ hk => hk.2) _) (fun _ hk => hk.2) _) (fun _ hk => hk.2) _) (fun _ hk => hk.2) _) (fun _ hk => hk.1)⟩
         have n1_ : Aside0 (w78.heap[gb112]? = some (.cells #[.string a0_0, .int .i64 a0_1, .int .i64 a0_2, .int .i64 a0_3, .int .i64 a0_4, .int .i64 a0_5, .int .i64 a0_6] 45 (0, 0))) := ⟨by subst hW_; (iterate 12 refine blk_far ?_ NB112_122.out _); exact BK112.out⟩
         have n2_ : Aside0 (w78.heap[gb113]? = some (.cells #[.int .i64 a1_0, .int .i64 a1_1, .int .i64 a1_2, .int .i64 a1_3] 50 (0, 0))) := ⟨by subst hW_; (iterate 12 refine blk_far ?_ NB113_122.out _); exact BK113.out⟩
         have n3_ : Aside0 (w78.heap[gb122]? = some (.cells #[.string ((a0_0 ++ (⟨#[95]⟩ : ByteArray)) ++ t121), .string a0_0, .int .i64 (wrap64 (a1_3 + x84_3)), .int .i64 a0_1, .int .i64 a0_2, .int .i64 a0_3, .int .i64 a0_4, .int .i64 a0_5, .int .i64 a0_6, .int .i64 0, .slice none 0 0, .slice none 0 0] 35 (0, 0))) := ⟨by subst hW_; refine Eq.trans (blk_put (blk_put (blk_put (blk_put (blk_put (blk_put (blk_put (blk_put (blk_put (blk_put (blk_put (blk_put BK122.out 0 _ rfl) 1 _ rfl) 2 _ rfl) 3 _ rfl) 4 _ rfl) 5 _ rfl) 6 _ rfl) 7 _ rfl) 8 _ rfl) 9 _ rfl) 10 _ rfl) 11 _ rfl) ?_; simp only [sA, sZ, sS]⟩
         have n4_ : Aside0 (Below w.heap.size w w78) := ⟨by subst hW_; repeat (first | (with_reducible first | exact HB.out | apply yA | apply yN | apply yD | refine yS ?_ GE112.out | refine yS ?_ GE113.out | refine yS ?_ GE122.out) | exact HB.out)⟩
         (try clear HO_14)
         (try clear BK112)
         (try clear BK113)
         (try clear BK122)
         (try clear HB)
         rw [hW_]
         clear hW_
         have HO_14 := n0_
         have BK112 := n1_
         have BK113 := n2_
         have BK122 := n3_
         have HB := n4_
         clear n0_ n1_ n2_ n3_ n4_
         have n0_ := aK (Kd.S_drew HO_14.out)
         have n1_ := aK (zD BK112.out)
         have n2_ := aK (zD BK113.out)
         have n3_ := aK (zD BK122.out)
         have n4_ := aK (yD HB.out)
         clear HO_14
         clear BK112
         clear BK113
         clear BK122
         clear HB
         have HO_14 := n0_
         have BK112 := n1_
         have BK113 := n2_
         have BK122 := n3_
         have HB := n4_
         clear n0_ n1_ n2_ n3_ n4_
         refine start_ (n := 19) (S := fun w' => w'.cell? ⟨gb113, 0, none⟩ = some (.int .i64 a1_0) ∧ w'.cell? ⟨gb113, 1, none⟩ = some (.int .i64 a1_1) ∧ w'.cell? ⟨gb113, 2, none⟩ = some (.int .i64 a1_2) ∧ w'.cell? ⟨gb113, 3, none⟩ = some (.int .i64 a1_3)) (ds := []) #[false, false, false, false, false, false, false, false, false, false, false, false, false, false, false, false, false, false, false] (by kernel_rfl) rfl rfl ⟨(zC BK113.out 0).trans rfl, (zC BK113.out 1).trans rfl, (zC BK113.out 2).trans rfl, (zC BK113.out 3).trans rfl⟩ (fun hHeld => ?_); refine with_tabW slab_Make.tab26 slab_Make.bits26 (fun HT_ HW_ => ?_)
         generalize w78.drew = w79 at HO_14 BK112 BK113 BK122 HB hHeld ⊢
         refine pure_ (i := 0) (N := some 114) (v := ?_) (a' := ?_) #[true, false, false, false, false, false, false, false, false, false, false, false, false, false, false, false, false, false, false] rfl rfl (any_of HT_.out (by kernel_rfl)) (fun _ _ _ h => h) (Or.inl ⟨by rfl, ?_⟩) ?_ ?_
         rotate_left
         ·intro w'
          go_simp
          with_reducible rfl
         rotate_left
         ·simp only [Act.put, sA, sZ, sS, i64_w, i32_w]
          rfl
         refine pure_ (i := 1) (N := some 115) (v := ?_) (a' := ?_) #[true, true, false, false, false, false, false, false, false, false, false, false, false, false, false, false, false, false, false] rfl rfl (any_of HT_.out (by kernel_rfl)) (fun _ _ _ h => h) (Or.inl ⟨by rfl, ?_⟩) ?_ ?_
         rotate_left
         ·intro w'
          go_simp
          with_reducible rfl
         rotate_left
         ·simp only [Act.put, sA, sZ, sS, i64_w, i32_w]
          rfl
         refine pure_ (i := 2) (N := some 116) (v := ?_) (a' := ?_) #[true, true, true, false, false, false, false, false, false, false, false, false, false, false, false, false, false, false, false] rfl rfl (any_of HT_.out (by kernel_rfl)) (fun _ _ _ h => h) (Or.inl ⟨by rfl, ?_⟩) ?_ ?_
         rotate_left
         ·intro w'
          go_simp
          with_reducible rfl
         rotate_left
         ·simp only [Act.put, sA, sZ, sS, i64_w, i32_w]
          rfl
         refine pure_ (i := 5) (N := some 119) (v := ?_) (a' := ?_) #[true, true, true, false, false, true, false, false, false, false, false, false, false, false, false, false, false, false, false] rfl rfl (any_of HT_.out (by kernel_rfl)) (fun _ _ _ h => h) (Or.inl ⟨by rfl, ?_⟩) ?_ ?_
         rotate_left
         ·intro w'
          go_simp
          with_reducible rfl
         rotate_left
         ·simp only [Act.put, sA, sZ, sS, i64_w, i32_w]
          rfl
         refine pure_ (i := 6) (N := some 120) (v := ?_) (a' := ?_) #[true, true, true, false, false, true, true, false, false, false, false, false, false, false, false, false, false, false, false] rfl rfl (any_of HT_.out (by kernel_rfl)) (fun _ _ _ h => h) (Or.inl ⟨by rfl, ?_⟩) ?_ ?_
         rotate_left
         ·intro w'
          go_simp
          with_reducible rfl
         rotate_left
         ·simp only [Act.put, sA, sZ, sS, i64_w, i32_w]
          rfl
         refine pure_ (i := 7) (N := some 121) (v := ?_) (a' := ?_) #[true, true, true, false, false, true, true, true, false, false, false, false, false, false, false, false, false, false, false] rfl rfl (any_of HT_.out (by kernel_rfl)) (fun _ _ _ h => h) (Or.inl ⟨by rfl, ?_⟩) ?_ ?_
         rotate_left
         ·intro w'
          go_simp
          with_reducible rfl
         rotate_left
         ·simp only [Act.put, sA, sZ, sS, i64_w, i32_w]
          rfl
         refine pure_ (i := 10) (N := some 124) (v := ?_) (a' := ?_) #[true, true, true, false, false, true, true, true, false, false, true, false, false, false, false, false, false, false, false] rfl rfl (any_of HT_.out (by kernel_rfl)) (fun _ _ _ h => h) (Or.inl ⟨by rfl, ?_⟩) ?_ ?_
         rotate_left
         ·intro w'
          go_simp
          with_reducible rfl
         rotate_left
         ·simp only [Act.put, sA, sZ, sS, i64_w, i32_w]
          rfl
         refine pure_ (i := 11) (N := some 125) (v := ?_) (a' := ?_) #[true, true, true, false, false, true, true, true, false, false, true, true, false, false, false, false, false, false, false] rfl rfl (any_of HT_.out (by kernel_rfl)) (fun _ _ _ h => h) (Or.inl ⟨by rfl, ?_⟩) ?_ ?_
         rotate_left
         ·intro w'
          go_simp
          with_reducible rfl
         rotate_left
         ·simp only [Act.put, sA, sZ, sS, i64_w, i32_w]
          rfl
         refine pure_ (i := 12) (N := some 126) (v := ?_) (a' := ?_) #[true, true, true, false, false, true, true, true, false, false, true, true, true, false, false, false, false, false, false] rfl rfl (any_of HT_.out (by kernel_rfl)) (fun _ _ _ h => h) (Or.inl ⟨by rfl, ?_⟩) ?_ ?_
         rotate_left
         ·intro w'
          go_simp
          with_reducible rfl
         rotate_left
         ·simp only [Act.put, sA, sZ, sS, i64_w, i32_w]
          rfl
         refine take_ (i := 3) (N := some 117) (v := ?_) (a' := ?_) #[true, true, true, true, false, true, true, true, false, false, true, true, true, false, false, false, false, false, false] rfl rfl (take_ofW HT_.out HW_.out (by kernel_rfl)) (fun _ _ _ h => h) (Or.inl ⟨by rfl, ?_⟩) hHeld ?_ ?_
         rotate_left
         ·rintro w' ⟨s0, s1, s2, s3⟩
          go_simp
          with_reducible rfl
         rotate_left
         ·simp only [Act.put, sA, sZ, sS, i64_w, i32_w]
          rfl
         refine take_ (i := 8) (N := some 122) (v := ?_) (a' := ?_) #[true, true, true, true, false, true, true, true, true, false, true, true, true, false, false, false, false, false, false] rfl rfl (take_ofW HT_.out HW_.out (by kernel_rfl)) (fun _ _ _ h => h) (Or.inl ⟨by rfl, ?_⟩) hHeld ?_ ?_
         rotate_left
         ·rintro w' ⟨s0, s1, s2, s3⟩
          go_simp
          with_reducible rfl
         rotate_left
         ·simp only [Act.put, sA, sZ, sS, i64_w, i32_w]
          rfl
         refine take_ (i := 13) (N := some 127) (v := ?_) (a' := ?_) #[true, true, true, true, false, true, true, true, true, false, true, true, true, true, false, false, false, false, false] rfl rfl (take_ofW HT_.out HW_.out (by kernel_rfl)) (fun _ _ _ h => h) (Or.inl ⟨by rfl, ?_⟩) hHeld ?_ ?_
         rotate_left
         ·rintro w' ⟨s0, s1, s2, s3⟩
          go_simp
          with_reducible rfl
         rotate_left
         ·simp only [Act.put, sA, sZ, sS, i64_w, i32_w]
          rfl
         refine pure_ (i := 14) (N := some 128) (v := ?_) (a' := ?_) #[true, true, true, true, false, true, true, true, true, false, true, true, true, true, true, false, false, false, false] rfl rfl (any_of HT_.out (by kernel_rfl)) (fun _ _ _ h => h) (Or.inl ⟨by rfl, ?_⟩) ?_ ?_
         rotate_left
         ·intro w'
          go_simp
          with_reducible rfl
         rotate_left
         ·simp only [Act.put, sA, sZ, sS, i64_w, i32_w]
          rfl
         refine one_ (i := 4) (N := some 118) #[true, true, true, true, true, true, true, true, true, false, true, true, true, true, true, false, false, false, false] rfl rfl (one_of HT_.out (by kernel_rfl)) (by decide) (fun K hK => ?_)
         refine goes_ Tryz.func60 (by kernel_rfl) rfl #[.pointer (some ⟨gb122, 3, none⟩), .int .i64 a1_0] (by rfl) rfl rfl (by (try simp only [List.map_toArray, List.map_cons, List.map_nil]); first | done | rfl | (simp only [List.length_drop, List.length_take]; rfl)) ?_
         with_reducible refine (slab_side.calls gb122 3 0 0 3 a1_0 (.pointer (some ⟨gb122, 3, none⟩)) _ A76.out).mono ?_
         rintro e w' ⟨rfl, ⟨nd, rfl⟩⟩
         refine ⟨_, rfl, ?_⟩
         refine hK.out _ _ ⟨(zC BK113.out 0).trans rfl, (zC BK113.out 1).trans rfl, (zC BK113.out 2).trans rfl, (zC BK113.out 3).trans rfl⟩ (fun hHeld => ?_)
         clear hK K
         refine norm_ (a' := ?_) ?_ ?_
         rotate_left
         ·show Act.put _ (some 118) _ = _
          simp only [Act.put, sA, sZ, sS, i64_w, i32_w]
          rfl
         refine one_ (i := 9) (N := some 123) #[true, true, true, true, true, true, true, true, true, true, true, true, true, true, true, false, false, false, false] rfl rfl (one_of HT_.out (by kernel_rfl)) (by decide) (fun K hK => ?_)
         refine goes_ Tryz.func60 (by kernel_rfl) rfl #[.pointer (some ⟨gb122, 6, none⟩), .int .i64 a1_0] (by rfl) rfl rfl (by (try simp only [List.map_toArray, List.map_cons, List.map_nil]); first | done | rfl | (simp only [List.length_drop, List.length_take]; rfl)) ?_
         with_reducible refine (slab_side.calls gb122 6 0 0 6 a1_0 (.pointer (some ⟨gb122, 6, none⟩)) _ A77.out).mono ?_
         rintro e w' ⟨rfl, ⟨nd, rfl⟩⟩
         refine ⟨_, rfl, ?_⟩
         refine hK.out _ _ ⟨(zC BK113.out 0).trans rfl, (zC BK113.out 1).trans rfl, (zC BK113.out 2).trans rfl, (zC BK113.out 3).trans rfl⟩ (fun hHeld => ?_)
         clear hK K
         refine norm_ (a' := ?_) ?_ ?_
         rotate_left
         ·show Act.put _ (some 123) _ = _
          simp only [Act.put, sA, sZ, sS, i64_w, i32_w]
          rfl
         refine pure_ (i := 15) (N := some 129) (v := ?_) (a' := ?_) #[true, true, true, true, true, true, true, true, true, true, true, true, true, true, true, true, false, false, false] rfl rfl (any_of HT_.out (by kernel_rfl)) (fun _ _ _ h => h) (Or.inl ⟨by rfl, ?_⟩) ?_ ?_
         rotate_left
         ·intro w'
          go_simp
          with_reducible rfl
         rotate_left
         ·simp only [Act.put, sA, sZ, sS, i64_w, i32_w]
          rfl
         refine one_ (i := 16) (N := none) #[true, true, true, true, true, true, true, true, true, true, true, true, true, true, true, true, true, false, false] rfl rfl (one_of HT_.out (by kernel_rfl)) (by decide) (fun K hK => ?_)
         have hs80 : w79.cell? ⟨gb122, 3, none⟩ = some (.int .i64 a0_1) := (zC BK122.out 3).trans rfl
         have hfs80 := zF BK122.out 3
         have hns80_0 := NB112_122.out
         have hns80_1 := NB113_122.out
         have hms80_0 := NB122_112.out
         have hms80_1 := NB122_113.out
         refine skip_ (w1 := ?_) (by rfl) rfl ?_ ?_
         rotate_left
         ·go_simp
          rfl
         refine hK.out _ _ ⟨((cell_far (p := ⟨gb122, _, none⟩) NB113_122.out _).trans (hHeld.1)), ((cell_far (p := ⟨gb122, _, none⟩) NB113_122.out _).trans (hHeld.2.1)), ((cell_far (p := ⟨gb122, _, none⟩) NB113_122.out _).trans (hHeld.2.2.1)), ((cell_far (p := ⟨gb122, _, none⟩) NB113_122.out _).trans (hHeld.2.2.2))⟩ (fun hHeld => ?_)
         clear hK K
         refine pure_ (i := 17) (N := some 130) (v := ?_) (a' := ?_) #[true, true, true, true, true, true, true, true, true, true, true, true, true, true, true, true, true, true, false] rfl rfl (any_of HT_.out (by kernel_rfl)) (fun _ _ _ h => h) (Or.inl ⟨by rfl, ?_⟩) ?_ ?_
         rotate_left
         ·intro w'
          go_simp
          with_reducible rfl
         rotate_left
         ·simp only [Act.put, sA, sZ, sS, i64_w, i32_w]
          rfl
         refine one_ (i := 18) (N := none) #[true, true, true, true, true, true, true, true, true, true, true, true, true, true, true, true, true, true, true] rfl rfl (one_of HT_.out (by kernel_rfl)) (by decide) (fun K hK => ?_)
         have hs81 : w79.cell? ⟨gb122, 6, none⟩ = some (.int .i64 a0_4) := (zC BK122.out 6).trans rfl
         have hfs81 := zF BK122.out 6
         have hns81_0 := NB112_122.out
         have hns81_1 := NB113_122.out
         have hms81_0 := NB122_112.out
         have hms81_1 := NB122_113.out
         refine skip_ (w1 := ?_) (by rfl) rfl ?_ ?_
         rotate_left
         ·go_simp
          rfl
         refine hK.out _ _ ⟨((cell_far (p := ⟨gb122, _, none⟩) NB113_122.out _).trans (hHeld.1)), ((cell_far (p := ⟨gb122, _, none⟩) NB113_122.out _).trans (hHeld.2.1)), ((cell_far (p := ⟨gb122, _, none⟩) NB113_122.out _).trans (hHeld.2.2.1)), ((cell_far (p := ⟨gb122, _, none⟩) NB113_122.out _).trans (hHeld.2.2.2))⟩ (fun hHeld => ?_)
         clear hK K
         refine done_ (done_of HT_.out (by kernel_rfl)) ?_
         try go_wp2
         go_meet
         case rel => exact ⟨_, (wrap64 (x9_8 + (wrap64 (x84_3 * (wrap64 (a1_1 + a1_2)))))), (a0_2), (a0_3), (wrap64 ((wrap64 (x9_8 + (wrap64 (x84_3 * (wrap64 (a1_1 + a1_2)))))) + a1_1)), (a0_5), (a0_6), H', ⟨by have := HJ8.out; have := HJ31.out; have := HK3.out; first | omega | exact Nat.le_refl _⟩, ⟨by (with_reducible repeat (first | apply Kd.S_alloc | apply Kd.S_drewN | apply Kd.S_drew)); exact Kd.S_mono (Kd.S_far (p := ⟨gb122, 6, none⟩) (Kd.S_far (p := ⟨gb122, 3, none⟩) (Kd.S_mono HO_14.out (fun k_ hk => (⟨hk, hk⟩ : _ ∧ k_ ≠ gb122))) (fun _ hk => hk.2) (.int .i64 (wrap64 (x9_8 + (wrap64 (x84_3 * (wrap64 (a1_1 + a1_2)))))))) (fun _ hk => hk.2) (.int .i64 (wrap64 ((wrap64 (x9_8 + (wrap64 (x84_3 * (wrap64 (a1_1 + a1_2)))))) + a1_1)))) (fun _ hk => hk.1)⟩, ⟨by refine blk_far ?_ NB112_122.out _; refine blk_far ?_ NB112_122.out _; exact BK112.out⟩, ⟨by refine blk_far ?_ NB113_122.out _; refine blk_far ?_ NB113_122.out _; exact BK113.out⟩, ⟨by refine blk_put (cs := #[.string ((a0_0 ++ (⟨#[95]⟩ : ByteArray)) ++ t121), .string a0_0, .int .i64 (wrap64 (a1_3 + x84_3)), .int .i64 (wrap64 (x9_8 + (wrap64 (x84_3 * (wrap64 (a1_1 + a1_2)))))), .int .i64 a0_2, .int .i64 a0_3, .int .i64 a0_4, .int .i64 a0_5, .int .i64 a0_6, .int .i64 0, .slice none 0 0, .slice none 0 0]) ?_ 6 _ rfl; refine blk_put (cs := #[.string ((a0_0 ++ (⟨#[95]⟩ : ByteArray)) ++ t121), .string a0_0, .int .i64 (wrap64 (a1_3 + x84_3)), .int .i64 a0_1, .int .i64 a0_2, .int .i64 a0_3, .int .i64 a0_4, .int .i64 a0_5, .int .i64 a0_6, .int .i64 0, .slice none 0 0, .slice none 0 0]) ?_ 3 _ rfl; exact BK122.out⟩, ⟨by repeat (first | (with_reducible first | exact HB.out | apply yA | apply yN | apply yD | refine yS ?_ GE112.out | refine yS ?_ GE113.out | refine yS ?_ GE122.out) | exact HB.out)⟩⟩
        rw [if_neg c75] at H
        have c75b0 : (a1_0 == 0) = false := beq_eq_false_iff_ne.mpr c75
        have c75b1 : (a1_0 != 0) = true := bne_iff_ne.mpr c75
        (first | rw [c75b0] | (simp only [i64_w, i32_w]; rw [c75b0]) | skip)
        by_cases c82 : a1_0 = 1
        ·rw [if_pos c82] at H
         have c82b0 : (a1_0 == 1) = true := beq_iff_eq.mpr c82
         have c82b1 : (a1_0 != 1) = false := bne_eq_false_iff_eq.mpr c82
         clear c82
         have A83 := aK (show a1_0 = (1 : Int) from by first | assumption | exact of_decide_eq_true (by assumption) | exact beq_iff_eq.mp (by assumption))
         have A84 := aK (show a1_0 = (1 : Int) from by first | assumption | exact of_decide_eq_true (by assumption) | exact beq_iff_eq.mp (by assumption))
         have H' := aK H
         clear H
         try go_wp2
         obtain ⟨w85, hW_⟩ : ∃ W_, ((((((((((((w59.setCell ⟨gb122, 0, none⟩ (.string ((a0_0 ++ (⟨#[95]⟩ : ByteArray)) ++ t121))).setCell ⟨gb122, 1, none⟩ (.string a0_0)).setCell ⟨gb122, 2, none⟩ (.int .i64 (wrap64 (a1_3 + x84_3)))).setCell ⟨gb122, 3, none⟩ (.int .i64 a0_1)).setCell ⟨gb122, 4, none⟩ (.int .i64 a0_2)).setCell ⟨gb122, 5, none⟩ (.int .i64 a0_3)).setCell ⟨gb122, 6, none⟩ (.int .i64 a0_4)).setCell ⟨gb122, 7, none⟩ (.int .i64 a0_5)).setCell ⟨gb122, 8, none⟩ (.int .i64 a0_6)).setCell ⟨gb122, 9, none⟩ (.int .i64 0)).setCell ⟨gb122, 10, none⟩ (.slice none 0 0)).setCell ⟨gb122, 11, none⟩ (.slice none 0 0)) = W_ := ⟨_, rfl⟩
         have n0_ : Aside0 (Kd.S k35 35 w85 w.heap.size (fun k_ => k_ ≠ gb122) u14 x14_3) := ⟨by subst hW_; (with_reducible repeat (first | apply Kd.S_alloc | apply Kd.S_drewN | apply Kd.S_drew)); exact Kd.S_mono (Kd.S_far (p := ⟨gb122, 11, none⟩) (Kd.S_far (p := ⟨gb122, 10, none⟩) (Kd.S_far (p := ⟨gb122, 9, none⟩) (Kd.S_far (p := ⟨gb122, 8, none⟩) (Kd.S_far (p := ⟨gb122, 7, none⟩) (Kd.S_far (p := ⟨gb122, 6, none⟩) (Kd.S_far (p := ⟨gb122, 5, none⟩) (Kd.S_far (p := ⟨gb122, 4, none⟩) (Kd.S_far (p := ⟨gb122, 3, none⟩) (Kd.S_far (p := ⟨gb122, 2, none⟩) (Kd.S_far (p := ⟨gb122, 1, none⟩) (Kd.S_far (p := ⟨gb122, 0, none⟩) (Kd.S_mono HO_14.out (fun k_ hk => (⟨hk, hk⟩ : _ ∧ k_ ≠ gb122))) (fun _ hk => hk.2) _) (fun _ hk => hk.2) _) (fun _ hk => hk.2) _) (fun _ hk => hk.2) _) (fun _ hk => hk.2) _) (fun _ hk => hk.2) _) (fun _ hk => hk.2) _) (fun _ hk => hk.2) _) (fun _ hk => hk.2) _) (fun _ hk => hk.2) _) (fun _ hk => hk.2) _) (fun _ hk => hk.2) _) (fun _ hk => hk.1)⟩
         have n1_ : Aside0 (w85.heap[gb112]? = some (.cells #[.string a0_0, .int .i64 a0_1, .int .i64 a0_2, .int .i64 a0_3, .int .i64 a0_4, .int .i64 a0_5, .int .i64 a0_6] 45 (0, 0))) := ⟨by subst hW_; (iterate 12 refine blk_far ?_ NB112_122.out _); exact BK112.out⟩
         have n2_ : Aside0 (w85.heap[gb113]? = some (.cells #[.int .i64 a1_0, .int .i64 a1_1, .int .i64 a1_2, .int .i64 a1_3] 50 (0, 0))) := ⟨by subst hW_; (iterate 12 refine blk_far ?_ NB113_122.out _); exact BK113.out⟩
         have n3_ : Aside0 (w85.heap[gb122]? = some (.cells #[.string ((a0_0 ++ (⟨#[95]⟩ : ByteArray)) ++ t121), .string a0_0, .int .i64 (wrap64 (a1_3 + x84_3)), .int .i64 a0_1, .int .i64 a0_2, .int .i64 a0_3, .int .i64 a0_4, .int .i64 a0_5, .int .i64 a0_6, .int .i64 0, .slice none 0 0, .slice none 0 0] 35 (0, 0))) := ⟨by subst hW_; refine Eq.trans (blk_put (blk_put (blk_put (blk_put (blk_put (blk_put (blk_put (blk_put (blk_put (blk_put (blk_put (blk_put BK122.out 0 _ rfl) 1 _ rfl) 2 _ rfl) 3 _ rfl) 4 _ rfl) 5 _ rfl) 6 _ rfl) 7 _ rfl) 8 _ rfl) 9 _ rfl) 10 _ rfl) 11 _ rfl) ?_; simp only [sA, sZ, sS]⟩
         have n4_ : Aside0 (Below w.heap.size w w85) := ⟨by subst hW_; repeat (first | (with_reducible first | exact HB.out | apply yA | apply yN | apply yD | refine yS ?_ GE112.out | refine yS ?_ GE113.out | refine yS ?_ GE122.out) | exact HB.out)⟩
         (try clear HO_14)
         (try clear BK112)
         (try clear BK113)
         (try clear BK122)
         (try clear HB)
         rw [hW_]
         clear hW_
         have HO_14 := n0_
         have BK112 := n1_
         have BK113 := n2_
         have BK122 := n3_
         have HB := n4_
         clear n0_ n1_ n2_ n3_ n4_
         have n0_ := aK (Kd.S_drew HO_14.out)
         have n1_ := aK (zD BK112.out)
         have n2_ := aK (zD BK113.out)
         have n3_ := aK (zD BK122.out)
         have n4_ := aK (yD HB.out)
         clear HO_14
         clear BK112
         clear BK113
         clear BK122
         clear HB
         have HO_14 := n0_
         have BK112 := n1_
         have BK113 := n2_
         have BK122 := n3_
         have HB := n4_
         clear n0_ n1_ n2_ n3_ n4_
         refine start_ (n := 19) (S := fun w' => w'.cell? ⟨gb113, 0, none⟩ = some (.int .i64 a1_0) ∧ w'.cell? ⟨gb113, 1, none⟩ = some (.int .i64 a1_1) ∧ w'.cell? ⟨gb113, 2, none⟩ = some (.int .i64 a1_2) ∧ w'.cell? ⟨gb113, 3, none⟩ = some (.int .i64 a1_3)) (ds := []) #[false, false, false, false, false, false, false, false, false, false, false, false, false, false, false, false, false, false, false] (by kernel_rfl) rfl rfl ⟨(zC BK113.out 0).trans rfl, (zC BK113.out 1).trans rfl, (zC BK113.out 2).trans rfl, (zC BK113.out 3).trans rfl⟩ (fun hHeld => ?_); refine with_tabW slab_Make.tab26 slab_Make.bits26 (fun HT_ HW_ => ?_)
         generalize w85.drew = w86 at HO_14 BK112 BK113 BK122 HB hHeld ⊢
         refine pure_ (i := 0) (N := some 114) (v := ?_) (a' := ?_) #[true, false, false, false, false, false, false, false, false, false, false, false, false, false, false, false, false, false, false] rfl rfl (any_of HT_.out (by kernel_rfl)) (fun _ _ _ h => h) (Or.inl ⟨by rfl, ?_⟩) ?_ ?_
         rotate_left
         ·intro w'
          go_simp
          with_reducible rfl
         rotate_left
         ·simp only [Act.put, sA, sZ, sS, i64_w, i32_w]
          rfl
         refine pure_ (i := 1) (N := some 115) (v := ?_) (a' := ?_) #[true, true, false, false, false, false, false, false, false, false, false, false, false, false, false, false, false, false, false] rfl rfl (any_of HT_.out (by kernel_rfl)) (fun _ _ _ h => h) (Or.inl ⟨by rfl, ?_⟩) ?_ ?_
         rotate_left
         ·intro w'
          go_simp
          with_reducible rfl
         rotate_left
         ·simp only [Act.put, sA, sZ, sS, i64_w, i32_w]
          rfl
         refine pure_ (i := 2) (N := some 116) (v := ?_) (a' := ?_) #[true, true, true, false, false, false, false, false, false, false, false, false, false, false, false, false, false, false, false] rfl rfl (any_of HT_.out (by kernel_rfl)) (fun _ _ _ h => h) (Or.inl ⟨by rfl, ?_⟩) ?_ ?_
         rotate_left
         ·intro w'
          go_simp
          with_reducible rfl
         rotate_left
         ·simp only [Act.put, sA, sZ, sS, i64_w, i32_w]
          rfl
         refine pure_ (i := 5) (N := some 119) (v := ?_) (a' := ?_) #[true, true, true, false, false, true, false, false, false, false, false, false, false, false, false, false, false, false, false] rfl rfl (any_of HT_.out (by kernel_rfl)) (fun _ _ _ h => h) (Or.inl ⟨by rfl, ?_⟩) ?_ ?_
         rotate_left
         ·intro w'
          go_simp
          with_reducible rfl
         rotate_left
         ·simp only [Act.put, sA, sZ, sS, i64_w, i32_w]
          rfl
         refine pure_ (i := 6) (N := some 120) (v := ?_) (a' := ?_) #[true, true, true, false, false, true, true, false, false, false, false, false, false, false, false, false, false, false, false] rfl rfl (any_of HT_.out (by kernel_rfl)) (fun _ _ _ h => h) (Or.inl ⟨by rfl, ?_⟩) ?_ ?_
         rotate_left
         ·intro w'
          go_simp
          with_reducible rfl
         rotate_left
         ·simp only [Act.put, sA, sZ, sS, i64_w, i32_w]
          rfl
         refine pure_ (i := 7) (N := some 121) (v := ?_) (a' := ?_) #[true, true, true, false, false, true, true, true, false, false, false, false, false, false, false, false, false, false, false] rfl rfl (any_of HT_.out (by kernel_rfl)) (fun _ _ _ h => h) (Or.inl ⟨by rfl, ?_⟩) ?_ ?_
         rotate_left
         ·intro w'
          go_simp
          with_reducible rfl
         rotate_left
         ·simp only [Act.put, sA, sZ, sS, i64_w, i32_w]
          rfl
         refine pure_ (i := 10) (N := some 124) (v := ?_) (a' := ?_) #[true, true, true, false, false, true, true, true, false, false, true, false, false, false, false, false, false, false, false] rfl rfl (any_of HT_.out (by kernel_rfl)) (fun _ _ _ h => h) (Or.inl ⟨by rfl, ?_⟩) ?_ ?_
         rotate_left
         ·intro w'
          go_simp
          with_reducible rfl
         rotate_left
         ·simp only [Act.put, sA, sZ, sS, i64_w, i32_w]
          rfl
         refine pure_ (i := 11) (N := some 125) (v := ?_) (a' := ?_) #[true, true, true, false, false, true, true, true, false, false, true, true, false, false, false, false, false, false, false] rfl rfl (any_of HT_.out (by kernel_rfl)) (fun _ _ _ h => h) (Or.inl ⟨by rfl, ?_⟩) ?_ ?_
         rotate_left
         ·intro w'
          go_simp
          with_reducible rfl
         rotate_left
         ·simp only [Act.put, sA, sZ, sS, i64_w, i32_w]
          rfl
         refine pure_ (i := 12) (N := some 126) (v := ?_) (a' := ?_) #[true, true, true, false, false, true, true, true, false, false, true, true, true, false, false, false, false, false, false] rfl rfl (any_of HT_.out (by kernel_rfl)) (fun _ _ _ h => h) (Or.inl ⟨by rfl, ?_⟩) ?_ ?_
         rotate_left
         ·intro w'
          go_simp
          with_reducible rfl
         rotate_left
         ·simp only [Act.put, sA, sZ, sS, i64_w, i32_w]
          rfl
         refine take_ (i := 3) (N := some 117) (v := ?_) (a' := ?_) #[true, true, true, true, false, true, true, true, false, false, true, true, true, false, false, false, false, false, false] rfl rfl (take_ofW HT_.out HW_.out (by kernel_rfl)) (fun _ _ _ h => h) (Or.inl ⟨by rfl, ?_⟩) hHeld ?_ ?_
         rotate_left
         ·rintro w' ⟨s0, s1, s2, s3⟩
          go_simp
          with_reducible rfl
         rotate_left
         ·simp only [Act.put, sA, sZ, sS, i64_w, i32_w]
          rfl
         refine take_ (i := 8) (N := some 122) (v := ?_) (a' := ?_) #[true, true, true, true, false, true, true, true, true, false, true, true, true, false, false, false, false, false, false] rfl rfl (take_ofW HT_.out HW_.out (by kernel_rfl)) (fun _ _ _ h => h) (Or.inl ⟨by rfl, ?_⟩) hHeld ?_ ?_
         rotate_left
         ·rintro w' ⟨s0, s1, s2, s3⟩
          go_simp
          with_reducible rfl
         rotate_left
         ·simp only [Act.put, sA, sZ, sS, i64_w, i32_w]
          rfl
         refine take_ (i := 13) (N := some 127) (v := ?_) (a' := ?_) #[true, true, true, true, false, true, true, true, true, false, true, true, true, true, false, false, false, false, false] rfl rfl (take_ofW HT_.out HW_.out (by kernel_rfl)) (fun _ _ _ h => h) (Or.inl ⟨by rfl, ?_⟩) hHeld ?_ ?_
         rotate_left
         ·rintro w' ⟨s0, s1, s2, s3⟩
          go_simp
          with_reducible rfl
         rotate_left
         ·simp only [Act.put, sA, sZ, sS, i64_w, i32_w]
          rfl
         refine pure_ (i := 14) (N := some 128) (v := ?_) (a' := ?_) #[true, true, true, true, false, true, true, true, true, false, true, true, true, true, true, false, false, false, false] rfl rfl (any_of HT_.out (by kernel_rfl)) (fun _ _ _ h => h) (Or.inl ⟨by rfl, ?_⟩) ?_ ?_
         rotate_left
         ·intro w'
          go_simp
          with_reducible rfl
         rotate_left
         ·simp only [Act.put, sA, sZ, sS, i64_w, i32_w]
          rfl
         refine one_ (i := 4) (N := some 118) #[true, true, true, true, true, true, true, true, true, false, true, true, true, true, true, false, false, false, false] rfl rfl (one_of HT_.out (by kernel_rfl)) (by decide) (fun K hK => ?_)
         refine goes_ Tryz.func60 (by kernel_rfl) rfl #[.pointer (some ⟨gb122, 3, none⟩), .int .i64 a1_0] (by rfl) rfl rfl (by (try simp only [List.map_toArray, List.map_cons, List.map_nil]); first | done | rfl | (simp only [List.length_drop, List.length_take]; rfl)) ?_
         with_reducible refine (slab_side.calls gb122 3 1 1 4 a1_0 (.pointer (some ⟨gb122, 4, none⟩)) _ A83.out).mono ?_
         rintro e w' ⟨rfl, ⟨nd, rfl⟩⟩
         refine ⟨_, rfl, ?_⟩
         refine hK.out _ _ ⟨(zC BK113.out 0).trans rfl, (zC BK113.out 1).trans rfl, (zC BK113.out 2).trans rfl, (zC BK113.out 3).trans rfl⟩ (fun hHeld => ?_)
         clear hK K
         refine norm_ (a' := ?_) ?_ ?_
         rotate_left
         ·show Act.put _ (some 118) _ = _
          simp only [Act.put, sA, sZ, sS, i64_w, i32_w]
          rfl
         refine one_ (i := 9) (N := some 123) #[true, true, true, true, true, true, true, true, true, true, true, true, true, true, true, false, false, false, false] rfl rfl (one_of HT_.out (by kernel_rfl)) (by decide) (fun K hK => ?_)
         refine goes_ Tryz.func60 (by kernel_rfl) rfl #[.pointer (some ⟨gb122, 6, none⟩), .int .i64 a1_0] (by rfl) rfl rfl (by (try simp only [List.map_toArray, List.map_cons, List.map_nil]); first | done | rfl | (simp only [List.length_drop, List.length_take]; rfl)) ?_
         with_reducible refine (slab_side.calls gb122 6 1 1 7 a1_0 (.pointer (some ⟨gb122, 7, none⟩)) _ A84.out).mono ?_
         rintro e w' ⟨rfl, ⟨nd, rfl⟩⟩
         refine ⟨_, rfl, ?_⟩
         refine hK.out _ _ ⟨(zC BK113.out 0).trans rfl, (zC BK113.out 1).trans rfl, (zC BK113.out 2).trans rfl, (zC BK113.out 3).trans rfl⟩ (fun hHeld => ?_)
         clear hK K
         refine norm_ (a' := ?_) ?_ ?_
         rotate_left
         ·show Act.put _ (some 123) _ = _
          simp only [Act.put, sA, sZ, sS, i64_w, i32_w]
          rfl
         refine pure_ (i := 15) (N := some 129) (v := ?_) (a' := ?_) #[true, true, true, true, true, true, true, true, true, true, true, true, true, true, true, true, false, false, false] rfl rfl (any_of HT_.out (by kernel_rfl)) (fun _ _ _ h => h) (Or.inl ⟨by rfl, ?_⟩) ?_ ?_
         rotate_left
         ·intro w'
          go_simp
          with_reducible rfl
         rotate_left
         ·simp only [Act.put, sA, sZ, sS, i64_w, i32_w]
          rfl
         refine one_ (i := 16) (N := none) #[true, true, true, true, true, true, true, true, true, true, true, true, true, true, true, true, true, false, false] rfl rfl (one_of HT_.out (by kernel_rfl)) (by decide) (fun K hK => ?_)
         have hs87 : w86.cell? ⟨gb122, 4, none⟩ = some (.int .i64 a0_2) := (zC BK122.out 4).trans rfl
         have hfs87 := zF BK122.out 4
         have hns87_0 := NB112_122.out
         have hns87_1 := NB113_122.out
         have hms87_0 := NB122_112.out
         have hms87_1 := NB122_113.out
         refine skip_ (w1 := ?_) (by rfl) rfl ?_ ?_
         rotate_left
         ·go_simp
          rfl
         refine hK.out _ _ ⟨((cell_far (p := ⟨gb122, _, none⟩) NB113_122.out _).trans (hHeld.1)), ((cell_far (p := ⟨gb122, _, none⟩) NB113_122.out _).trans (hHeld.2.1)), ((cell_far (p := ⟨gb122, _, none⟩) NB113_122.out _).trans (hHeld.2.2.1)), ((cell_far (p := ⟨gb122, _, none⟩) NB113_122.out _).trans (hHeld.2.2.2))⟩ (fun hHeld => ?_)
         clear hK K
         refine pure_ (i := 17) (N := some 130) (v := ?_) (a' := ?_) #[true, true, true, true, true, true, true, true, true, true, true, true, true, true, true, true, true, true, false] rfl rfl (any_of HT_.out (by kernel_rfl)) (fun _ _ _ h => h) (Or.inl ⟨by rfl, ?_⟩) ?_ ?_
         rotate_left
         ·intro w'
          go_simp
          with_reducible rfl
         rotate_left
         ·simp only [Act.put, sA, sZ, sS, i64_w, i32_w]
          rfl
         refine one_ (i := 18) (N := none) #[true, true, true, true, true, true, true, true, true, true, true, true, true, true, true, true, true, true, true] rfl rfl (one_of HT_.out (by kernel_rfl)) (by decide) (fun K hK => ?_)
         have hs88 : w86.cell? ⟨gb122, 7, none⟩ = some (.int .i64 a0_5) := (zC BK122.out 7).trans rfl
         have hfs88 := zF BK122.out 7
         have hns88_0 := NB112_122.out
         have hns88_1 := NB113_122.out
         have hms88_0 := NB122_112.out
         have hms88_1 := NB122_113.out
         refine skip_ (w1 := ?_) (by rfl) rfl ?_ ?_
         rotate_left
         ·go_simp
          rfl
         refine hK.out _ _ ⟨((cell_far (p := ⟨gb122, _, none⟩) NB113_122.out _).trans (hHeld.1)), ((cell_far (p := ⟨gb122, _, none⟩) NB113_122.out _).trans (hHeld.2.1)), ((cell_far (p := ⟨gb122, _, none⟩) NB113_122.out _).trans (hHeld.2.2.1)), ((cell_far (p := ⟨gb122, _, none⟩) NB113_122.out _).trans (hHeld.2.2.2))⟩ (fun hHeld => ?_)
         clear hK K
         refine done_ (done_of HT_.out (by kernel_rfl)) ?_
         try go_wp2
         go_meet
         case rel => exact ⟨_, (a0_1), (wrap64 (x9_8 + (wrap64 (x84_3 * (wrap64 (a1_1 + a1_2)))))), (a0_3), (a0_4), (wrap64 ((wrap64 (x9_8 + (wrap64 (x84_3 * (wrap64 (a1_1 + a1_2)))))) + a1_1)), (a0_6), H', ⟨by have := HJ8.out; have := HJ31.out; have := HK3.out; first | omega | exact Nat.le_refl _⟩, ⟨by (with_reducible repeat (first | apply Kd.S_alloc | apply Kd.S_drewN | apply Kd.S_drew)); exact Kd.S_mono (Kd.S_far (p := ⟨gb122, 7, none⟩) (Kd.S_far (p := ⟨gb122, 4, none⟩) (Kd.S_mono HO_14.out (fun k_ hk => (⟨hk, hk⟩ : _ ∧ k_ ≠ gb122))) (fun _ hk => hk.2) (.int .i64 (wrap64 (x9_8 + (wrap64 (x84_3 * (wrap64 (a1_1 + a1_2)))))))) (fun _ hk => hk.2) (.int .i64 (wrap64 ((wrap64 (x9_8 + (wrap64 (x84_3 * (wrap64 (a1_1 + a1_2)))))) + a1_1)))) (fun _ hk => hk.1)⟩, ⟨by refine blk_far ?_ NB112_122.out _; refine blk_far ?_ NB112_122.out _; exact BK112.out⟩, ⟨by refine blk_far ?_ NB113_122.out _; refine blk_far ?_ NB113_122.out _; exact BK113.out⟩, ⟨by refine blk_put (cs := #[.string ((a0_0 ++ (⟨#[95]⟩ : ByteArray)) ++ t121), .string a0_0, .int .i64 (wrap64 (a1_3 + x84_3)), .int .i64 a0_1, .int .i64 (wrap64 (x9_8 + (wrap64 (x84_3 * (wrap64 (a1_1 + a1_2)))))), .int .i64 a0_3, .int .i64 a0_4, .int .i64 a0_5, .int .i64 a0_6, .int .i64 0, .slice none 0 0, .slice none 0 0]) ?_ 7 _ rfl; refine blk_put (cs := #[.string ((a0_0 ++ (⟨#[95]⟩ : ByteArray)) ++ t121), .string a0_0, .int .i64 (wrap64 (a1_3 + x84_3)), .int .i64 a0_1, .int .i64 a0_2, .int .i64 a0_3, .int .i64 a0_4, .int .i64 a0_5, .int .i64 a0_6, .int .i64 0, .slice none 0 0, .slice none 0 0]) ?_ 4 _ rfl; exact BK122.out⟩, ⟨by repeat (first | (with_reducible first | exact HB.out | apply yA | apply yN | apply yD | refine yS ?_ GE112.out | refine yS ?_ GE113.out | refine yS ?_ GE122.out) | exact HB.out)⟩⟩
        rw [if_neg c82] at H
        have c82b0 : (a1_0 == 1) = false := beq_eq_false_iff_ne.mpr c82
        have c82b1 : (a1_0 != 1) = true := bne_iff_ne.mpr c82
        by_cases c89 : a1_0 = 2
        rotate_left
        ·rw [if_neg c89] at H
         exact absurd H (by simp)
        rw [if_pos c89] at H
        have c89b0 : (a1_0 == 2) = true := beq_iff_eq.mpr c89
        have c89b1 : (a1_0 != 2) = false := bne_eq_false_iff_eq.mpr c89
        clear c89
        have A90 := aK (show a1_0 = (2 : Int) from by first | assumption | exact of_decide_eq_true (by assumption) | exact beq_iff_eq.mp (by assumption))
        have A91 := aK (show a1_0 = (2 : Int) from by first | assumption | exact of_decide_eq_true (by assumption) | exact beq_iff_eq.mp (by assumption))
        have H' := aK H
        clear H
        try go_wp2
        obtain ⟨w92, hW_⟩ : ∃ W_, ((((((((((((w59.setCell ⟨gb122, 0, none⟩ (.string ((a0_0 ++ (⟨#[95]⟩ : ByteArray)) ++ t121))).setCell ⟨gb122, 1, none⟩ (.string a0_0)).setCell ⟨gb122, 2, none⟩ (.int .i64 (wrap64 (a1_3 + x84_3)))).setCell ⟨gb122, 3, none⟩ (.int .i64 a0_1)).setCell ⟨gb122, 4, none⟩ (.int .i64 a0_2)).setCell ⟨gb122, 5, none⟩ (.int .i64 a0_3)).setCell ⟨gb122, 6, none⟩ (.int .i64 a0_4)).setCell ⟨gb122, 7, none⟩ (.int .i64 a0_5)).setCell ⟨gb122, 8, none⟩ (.int .i64 a0_6)).setCell ⟨gb122, 9, none⟩ (.int .i64 0)).setCell ⟨gb122, 10, none⟩ (.slice none 0 0)).setCell ⟨gb122, 11, none⟩ (.slice none 0 0)) = W_ := ⟨_, rfl⟩
        have n0_ : Aside0 (Kd.S k35 35 w92 w.heap.size (fun k_ => k_ ≠ gb122) u14 x14_3) := ⟨by subst hW_; (with_reducible repeat (first | apply Kd.S_alloc | apply Kd.S_drewN | apply Kd.S_drew)); exact Kd.S_mono (Kd.S_far (p := ⟨gb122, 11, none⟩) (Kd.S_far (p := ⟨gb122, 10, none⟩) (Kd.S_far (p := ⟨gb122, 9, none⟩) (Kd.S_far (p := ⟨gb122, 8, none⟩) (Kd.S_far (p := ⟨gb122, 7, none⟩) (Kd.S_far (p := ⟨gb122, 6, none⟩) (Kd.S_far (p := ⟨gb122, 5, none⟩) (Kd.S_far (p := ⟨gb122, 4, none⟩) (Kd.S_far (p := ⟨gb122, 3, none⟩) (Kd.S_far (p := ⟨gb122, 2, none⟩) (Kd.S_far (p := ⟨gb122, 1, none⟩) (Kd.S_far (p := ⟨gb122, 0, none⟩) (Kd.S_mono HO_14.out (fun k_ hk => (⟨hk, hk⟩ : _ ∧ k_ ≠ gb122))) (fun _ hk => hk.2) _) (fun _ hk => hk.2) _) (fun _ hk => hk.2) _) (fun _ hk => hk.2) _) (fun _ hk => hk.2) _) (fun _ hk => hk.2) _) (fun _ hk => hk.2) _) (fun _ hk => hk.2) _) (fun _ hk => hk.2) _) (fun _ hk => hk.2) _) (fun _ hk => hk.2) _) (fun _ hk => hk.2) _) (fun _ hk => hk.1)⟩
        have n1_ : Aside0 (w92.heap[gb112]? = some (.cells #[.string a0_0, .int .i64 a0_1, .int .i64 a0_2, .int .i64 a0_3, .int .i64 a0_4, .int .i64 a0_5, .int .i64 a0_6] 45 (0, 0))) := ⟨by subst hW_; (iterate 12 refine blk_far ?_ NB112_122.out _); exact BK112.out⟩
        have n2_ : Aside0 (w92.heap[gb113]? = some (.cells #[.int .i64 a1_0, .int .i64 a1_1, .int .i64 a1_2, .int .i64 a1_3] 50 (0, 0))) := ⟨by subst hW_; (iterate 12 refine blk_far ?_ NB113_122.out _); exact BK113.out⟩
        have n3_ : Aside0 (w92.heap[gb122]? = some (.cells #[.string ((a0_0 ++ (⟨#[95]⟩ : ByteArray)) ++ t121), .string a0_0, .int .i64 (wrap64 (a1_3 + x84_3)), .int .i64 a0_1, .int .i64 a0_2, .int .i64 a0_3, .int .i64 a0_4, .int .i64 a0_5, .int .i64 a0_6, .int .i64 0, .slice none 0 0, .slice none 0 0] 35 (0, 0))) := ⟨by subst hW_; refine Eq.trans (blk_put (blk_put (blk_put (blk_put (blk_put (blk_put (blk_put (blk_put (blk_put (blk_put (blk_put (blk_put BK122.out 0 _ rfl) 1 _ rfl) 2 _ rfl) 3 _ rfl) 4 _ rfl) 5 _ rfl) 6 _ rfl) 7 _ rfl) 8 _ rfl) 9 _ rfl) 10 _ rfl) 11 _ rfl) ?_; simp only [sA, sZ, sS]⟩
        have n4_ : Aside0 (Below w.heap.size w w92) := ⟨by subst hW_; repeat (first | (with_reducible first | exact HB.out | apply yA | apply yN | apply yD | refine yS ?_ GE112.out | refine yS ?_ GE113.out | refine yS ?_ GE122.out) | exact HB.out)⟩
        (try clear HO_14)
        (try clear BK112)
        (try clear BK113)
        (try clear BK122)
        (try clear HB)
        rw [hW_]
        clear hW_
        have HO_14 := n0_
        have BK112 := n1_
        have BK113 := n2_
        have BK122 := n3_
        have HB := n4_
        clear n0_ n1_ n2_ n3_ n4_
        have n0_ := aK (Kd.S_drew HO_14.out)
        have n1_ := aK (zD BK112.out)
        have n2_ := aK (zD BK113.out)
        have n3_ := aK (zD BK122.out)
        have n4_ := aK (yD HB.out)
        clear HO_14
        clear BK112
        clear BK113
        clear BK122
        clear HB
        have HO_14 := n0_
        have BK112 := n1_
        have BK113 := n2_
        have BK122 := n3_
        have HB := n4_
        clear n0_ n1_ n2_ n3_ n4_
        refine start_ (n := 19) (S := fun w' => w'.cell? ⟨gb113, 0, none⟩ = some (.int .i64 a1_0) ∧ w'.cell? ⟨gb113, 1, none⟩ = some (.int .i64 a1_1) ∧ w'.cell? ⟨gb113, 2, none⟩ = some (.int .i64 a1_2) ∧ w'.cell? ⟨gb113, 3, none⟩ = some (.int .i64 a1_3)) (ds := []) #[false, false, false, false, false, false, false, false, false, false, false, false, false, false, false, false, false, false, false] (by kernel_rfl) rfl rfl ⟨(zC BK113.out 0).trans rfl, (zC BK113.out 1).trans rfl, (zC BK113.out 2).trans rfl, (zC BK113.out 3).trans rfl⟩ (fun hHeld => ?_); refine with_tabW slab_Make.tab26 slab_Make.bits26 (fun HT_ HW_ => ?_)
        generalize w92.drew = w93 at HO_14 BK112 BK113 BK122 HB hHeld ⊢
        refine pure_ (i := 0) (N := some 114) (v := ?_) (a' := ?_) #[true, false, false, false, false, false, false, false, false, false, false, false, false, false, false, false, false, false, false] rfl rfl (any_of HT_.out (by kernel_rfl)) (fun _ _ _ h => h) (Or.inl ⟨by rfl, ?_⟩) ?_ ?_
        rotate_left
        ·intro w'
         go_simp
         with_reducible rfl
        rotate_left
        ·simp only [Act.put, sA, sZ, sS, i64_w, i32_w]
         rfl
        refine pure_ (i := 1) (N := some 115) (v := ?_) (a' := ?_) #[true, true, false, false, false, false, false, false, false, false, false, false, false, false, false, false, false, false, false] rfl rfl (any_of HT_.out (by kernel_rfl)) (fun _ _ _ h => h) (Or.inl ⟨by rfl, ?_⟩) ?_ ?_
        rotate_left
        ·intro w'
         go_simp
         with_reducible rfl
        rotate_left
        ·simp only [Act.put, sA, sZ, sS, i64_w, i32_w]
         rfl
        refine pure_ (i := 2) (N := some 116) (v := ?_) (a' := ?_) #[true, true, true, false, false, false, false, false, false, false, false, false, false, false, false, false, false, false, false] rfl rfl (any_of HT_.out (by kernel_rfl)) (fun _ _ _ h => h) (Or.inl ⟨by rfl, ?_⟩) ?_ ?_
        rotate_left
        ·intro w'
         go_simp
         with_reducible rfl
        rotate_left
        ·simp only [Act.put, sA, sZ, sS, i64_w, i32_w]
         rfl
        refine pure_ (i := 5) (N := some 119) (v := ?_) (a' := ?_) #[true, true, true, false, false, true, false, false, false, false, false, false, false, false, false, false, false, false, false] rfl rfl (any_of HT_.out (by kernel_rfl)) (fun _ _ _ h => h) (Or.inl ⟨by rfl, ?_⟩) ?_ ?_
        rotate_left
        ·intro w'
         go_simp
         with_reducible rfl
        rotate_left
        ·simp only [Act.put, sA, sZ, sS, i64_w, i32_w]
         rfl
        refine pure_ (i := 6) (N := some 120) (v := ?_) (a' := ?_) #[true, true, true, false, false, true, true, false, false, false, false, false, false, false, false, false, false, false, false] rfl rfl (any_of HT_.out (by kernel_rfl)) (fun _ _ _ h => h) (Or.inl ⟨by rfl, ?_⟩) ?_ ?_
        rotate_left
        ·intro w'
         go_simp
         with_reducible rfl
        rotate_left
        ·simp only [Act.put, sA, sZ, sS, i64_w, i32_w]
         rfl
        refine pure_ (i := 7) (N := some 121) (v := ?_) (a' := ?_) #[true, true, true, false, false, true, true, true, false, false, false, false, false, false, false, false, false, false, false] rfl rfl (any_of HT_.out (by kernel_rfl)) (fun _ _ _ h => h) (Or.inl ⟨by rfl, ?_⟩) ?_ ?_
        rotate_left
        ·intro w'
         go_simp
         with_reducible rfl
        rotate_left
        ·simp only [Act.put, sA, sZ, sS, i64_w, i32_w]
         rfl
        refine pure_ (i := 10) (N := some 124) (v := ?_) (a' := ?_) #[true, true, true, false, false, true, true, true, false, false, true, false, false, false, false, false, false, false, false] rfl rfl (any_of HT_.out (by kernel_rfl)) (fun _ _ _ h => h) (Or.inl ⟨by rfl, ?_⟩) ?_ ?_
        rotate_left
        ·intro w'
         go_simp
         with_reducible rfl
        rotate_left
        ·simp only [Act.put, sA, sZ, sS, i64_w, i32_w]
         rfl
        refine pure_ (i := 11) (N := some 125) (v := ?_) (a' := ?_) #[true, true, true, false, false, true, true, true, false, false, true, true, false, false, false, false, false, false, false] rfl rfl (any_of HT_.out (by kernel_rfl)) (fun _ _ _ h => h) (Or.inl ⟨by rfl, ?_⟩) ?_ ?_
        rotate_left
        ·intro w'
         go_simp
         with_reducible rfl
        rotate_left
        ·simp only [Act.put, sA, sZ, sS, i64_w, i32_w]
         rfl
        refine pure_ (i := 12) (N := some 126) (v := ?_) (a' := ?_) #[true, true, true, false, false, true, true, true, false, false, true, true, true, false, false, false, false, false, false] rfl rfl (any_of HT_.out (by kernel_rfl)) (fun _ _ _ h => h) (Or.inl ⟨by rfl, ?_⟩) ?_ ?_
        rotate_left
        ·intro w'
         go_simp
         with_reducible rfl
        rotate_left
        ·simp only [Act.put, sA, sZ, sS, i64_w, i32_w]
         rfl
        refine take_ (i := 3) (N := some 117) (v := ?_) (a' := ?_) #[true, true, true, true, false, true, true, true, false, false, true, true, true, false, false, false, false, false, false] rfl rfl (take_ofW HT_.out HW_.out (by kernel_rfl)) (fun _ _ _ h => h) (Or.inl ⟨by rfl, ?_⟩) hHeld ?_ ?_
        rotate_left
        ·rintro w' ⟨s0, s1, s2, s3⟩
         go_simp
         with_reducible rfl
        rotate_left
        ·simp only [Act.put, sA, sZ, sS, i64_w, i32_w]
         rfl
        refine take_ (i := 8) (N := some 122) (v := ?_) (a' := ?_) #[true, true, true, true, false, true, true, true, true, false, true, true, true, false, false, false, false, false, false] rfl rfl (take_ofW HT_.out HW_.out (by kernel_rfl)) (fun _ _ _ h => h) (Or.inl ⟨by rfl, ?_⟩) hHeld ?_ ?_
        rotate_left
        ·rintro w' ⟨s0, s1, s2, s3⟩
         go_simp
         with_reducible rfl
        rotate_left
        ·simp only [Act.put, sA, sZ, sS, i64_w, i32_w]
         rfl
        refine take_ (i := 13) (N := some 127) (v := ?_) (a' := ?_) #[true, true, true, true, false, true, true, true, true, false, true, true, true, true, false, false, false, false, false] rfl rfl (take_ofW HT_.out HW_.out (by kernel_rfl)) (fun _ _ _ h => h) (Or.inl ⟨by rfl, ?_⟩) hHeld ?_ ?_
        rotate_left
        ·rintro w' ⟨s0, s1, s2, s3⟩
         go_simp
         with_reducible rfl
        rotate_left
        ·simp only [Act.put, sA, sZ, sS, i64_w, i32_w]
         rfl
        refine pure_ (i := 14) (N := some 128) (v := ?_) (a' := ?_) #[true, true, true, true, false, true, true, true, true, false, true, true, true, true, true, false, false, false, false] rfl rfl (any_of HT_.out (by kernel_rfl)) (fun _ _ _ h => h) (Or.inl ⟨by rfl, ?_⟩) ?_ ?_
        rotate_left
        ·intro w'
         go_simp
         with_reducible rfl
        rotate_left
        ·simp only [Act.put, sA, sZ, sS, i64_w, i32_w]
         rfl
        refine one_ (i := 4) (N := some 118) #[true, true, true, true, true, true, true, true, true, false, true, true, true, true, true, false, false, false, false] rfl rfl (one_of HT_.out (by kernel_rfl)) (by decide) (fun K hK => ?_)
        refine goes_ Tryz.func60 (by kernel_rfl) rfl #[.pointer (some ⟨gb122, 3, none⟩), .int .i64 a1_0] (by rfl) rfl rfl (by (try simp only [List.map_toArray, List.map_cons, List.map_nil]); first | done | rfl | (simp only [List.length_drop, List.length_take]; rfl)) ?_
        with_reducible refine (slab_side.calls gb122 3 2 2 5 a1_0 (.pointer (some ⟨gb122, 5, none⟩)) _ A90.out).mono ?_
        rintro e w' ⟨rfl, ⟨nd, rfl⟩⟩
        refine ⟨_, rfl, ?_⟩
        refine hK.out _ _ ⟨(zC BK113.out 0).trans rfl, (zC BK113.out 1).trans rfl, (zC BK113.out 2).trans rfl, (zC BK113.out 3).trans rfl⟩ (fun hHeld => ?_)
        clear hK K
        refine norm_ (a' := ?_) ?_ ?_
        rotate_left
        ·show Act.put _ (some 118) _ = _
         simp only [Act.put, sA, sZ, sS, i64_w, i32_w]
         rfl
        refine one_ (i := 9) (N := some 123) #[true, true, true, true, true, true, true, true, true, true, true, true, true, true, true, false, false, false, false] rfl rfl (one_of HT_.out (by kernel_rfl)) (by decide) (fun K hK => ?_)
        refine goes_ Tryz.func60 (by kernel_rfl) rfl #[.pointer (some ⟨gb122, 6, none⟩), .int .i64 a1_0] (by rfl) rfl rfl (by (try simp only [List.map_toArray, List.map_cons, List.map_nil]); first | done | rfl | (simp only [List.length_drop, List.length_take]; rfl)) ?_
        with_reducible refine (slab_side.calls gb122 6 2 2 8 a1_0 (.pointer (some ⟨gb122, 8, none⟩)) _ A91.out).mono ?_
        rintro e w' ⟨rfl, ⟨nd, rfl⟩⟩
        refine ⟨_, rfl, ?_⟩
        refine hK.out _ _ ⟨(zC BK113.out 0).trans rfl, (zC BK113.out 1).trans rfl, (zC BK113.out 2).trans rfl, (zC BK113.out 3).trans rfl⟩ (fun hHeld => ?_)
        clear hK K
        refine norm_ (a' := ?_) ?_ ?_
        rotate_left
        ·show Act.put _ (some 123) _ = _
         simp only [Act.put, sA, sZ, sS, i64_w, i32_w]
         rfl
        refine pure_ (i := 15) (N := some 129) (v := ?_) (a' := ?_) #[true, true, true, true, true, true, true, true, true, true, true, true, true, true, true, true, false, false, false] rfl rfl (any_of HT_.out (by kernel_rfl)) (fun _ _ _ h => h) (Or.inl ⟨by rfl, ?_⟩) ?_ ?_
        rotate_left
        ·intro w'
         go_simp
         with_reducible rfl
        rotate_left
        ·simp only [Act.put, sA, sZ, sS, i64_w, i32_w]
         rfl
        refine one_ (i := 16) (N := none) #[true, true, true, true, true, true, true, true, true, true, true, true, true, true, true, true, true, false, false] rfl rfl (one_of HT_.out (by kernel_rfl)) (by decide) (fun K hK => ?_)
        have hs94 : w93.cell? ⟨gb122, 5, none⟩ = some (.int .i64 a0_3) := (zC BK122.out 5).trans rfl
        have hfs94 := zF BK122.out 5
        have hns94_0 := NB112_122.out
        have hns94_1 := NB113_122.out
        have hms94_0 := NB122_112.out
        have hms94_1 := NB122_113.out
        refine skip_ (w1 := ?_) (by rfl) rfl ?_ ?_
        rotate_left
        ·go_simp
         rfl
        refine hK.out _ _ ⟨((cell_far (p := ⟨gb122, _, none⟩) NB113_122.out _).trans (hHeld.1)), ((cell_far (p := ⟨gb122, _, none⟩) NB113_122.out _).trans (hHeld.2.1)), ((cell_far (p := ⟨gb122, _, none⟩) NB113_122.out _).trans (hHeld.2.2.1)), ((cell_far (p := ⟨gb122, _, none⟩) NB113_122.out _).trans (hHeld.2.2.2))⟩ (fun hHeld => ?_)
        clear hK K
        refine pure_ (i := 17) (N := some 130) (v := ?_) (a' := ?_) #[true, true, true, true, true, true, true, true, true, true, true, true, true, true, true, true, true, true, false] rfl rfl (any_of HT_.out (by kernel_rfl)) (fun _ _ _ h => h) (Or.inl ⟨by rfl, ?_⟩) ?_ ?_
        rotate_left
        ·intro w'
         go_simp
         with_reducible rfl
        rotate_left
        ·simp only [Act.put, sA, sZ, sS, i64_w, i32_w]
         rfl
        refine one_ (i := 18) (N := none) #[true, true, true, true, true, true, true, true, true, true, true, true, true, true, true, true, true, true, true] rfl rfl (one_of HT_.out (by kernel_rfl)) (by decide) (fun K hK => ?_)
        have hs95 : w93.cell? ⟨gb122, 8, none⟩ = some (.int .i64 a0_6) := (zC BK122.out 8).trans rfl
        have hfs95 := zF BK122.out 8
        have hns95_0 := NB112_122.out
        have hns95_1 := NB113_122.out
        have hms95_0 := NB122_112.out
        have hms95_1 := NB122_113.out
        refine skip_ (w1 := ?_) (by rfl) rfl ?_ ?_
        rotate_left
        ·go_simp
         rfl
        refine hK.out _ _ ⟨((cell_far (p := ⟨gb122, _, none⟩) NB113_122.out _).trans (hHeld.1)), ((cell_far (p := ⟨gb122, _, none⟩) NB113_122.out _).trans (hHeld.2.1)), ((cell_far (p := ⟨gb122, _, none⟩) NB113_122.out _).trans (hHeld.2.2.1)), ((cell_far (p := ⟨gb122, _, none⟩) NB113_122.out _).trans (hHeld.2.2.2))⟩ (fun hHeld => ?_)
        clear hK K
        refine done_ (done_of HT_.out (by kernel_rfl)) ?_
        try go_wp2
        go_meet
        case rel => exact ⟨_, (a0_1), (a0_2), (wrap64 (x9_8 + (wrap64 (x84_3 * (wrap64 (a1_1 + a1_2)))))), (a0_4), (a0_5), (wrap64 ((wrap64 (x9_8 + (wrap64 (x84_3 * (wrap64 (a1_1 + a1_2)))))) + a1_1)), H', ⟨by have := HJ8.out; have := HJ31.out; have := HK3.out; first | omega | exact Nat.le_refl _⟩, ⟨by (with_reducible repeat (first | apply Kd.S_alloc | apply Kd.S_drewN | apply Kd.S_drew)); exact Kd.S_mono (Kd.S_far (p := ⟨gb122, 8, none⟩) (Kd.S_far (p := ⟨gb122, 5, none⟩) (Kd.S_mono HO_14.out (fun k_ hk => (⟨hk, hk⟩ : _ ∧ k_ ≠ gb122))) (fun _ hk => hk.2) (.int .i64 (wrap64 (x9_8 + (wrap64 (x84_3 * (wrap64 (a1_1 + a1_2)))))))) (fun _ hk => hk.2) (.int .i64 (wrap64 ((wrap64 (x9_8 + (wrap64 (x84_3 * (wrap64 (a1_1 + a1_2)))))) + a1_1)))) (fun _ hk => hk.1)⟩, ⟨by refine blk_far ?_ NB112_122.out _; refine blk_far ?_ NB112_122.out _; exact BK112.out⟩, ⟨by refine blk_far ?_ NB113_122.out _; refine blk_far ?_ NB113_122.out _; exact BK113.out⟩, ⟨by refine blk_put (cs := #[.string ((a0_0 ++ (⟨#[95]⟩ : ByteArray)) ++ t121), .string a0_0, .int .i64 (wrap64 (a1_3 + x84_3)), .int .i64 a0_1, .int .i64 a0_2, .int .i64 (wrap64 (x9_8 + (wrap64 (x84_3 * (wrap64 (a1_1 + a1_2)))))), .int .i64 a0_4, .int .i64 a0_5, .int .i64 a0_6, .int .i64 0, .slice none 0 0, .slice none 0 0]) ?_ 8 _ rfl; refine blk_put (cs := #[.string ((a0_0 ++ (⟨#[95]⟩ : ByteArray)) ++ t121), .string a0_0, .int .i64 (wrap64 (a1_3 + x84_3)), .int .i64 a0_1, .int .i64 a0_2, .int .i64 a0_3, .int .i64 a0_4, .int .i64 a0_5, .int .i64 a0_6, .int .i64 0, .slice none 0 0, .slice none 0 0]) ?_ 5 _ rfl; exact BK122.out⟩, ⟨by repeat (first | (with_reducible first | exact HB.out | apply yA | apply yN | apply yD | refine yS ?_ GE112.out | refine yS ?_ GE113.out | refine yS ?_ GE122.out) | exact HB.out)⟩⟩
       case rest =>
        clear HC55
        try clear p2
        try clear c6
        try clear p6
        try clear c7
        try clear c8
        try clear c60
        try clear p64
        try clear c75
        try clear c75b0
        try clear c75b1
        try clear c82
        try clear c82b0
        try clear c82b1
        try clear c89
        try clear c89b0
        try clear c89b1
        obtain ⟨kq, x123003_54, x123004_54, x123005_54, x123006_54, x123007_54, x123008_54, HA, HJ54, HO_14, BK112, BK113, BK122, HB⟩ := hcut
        cases kq with
        | zero => exact absurd HA.out (by simp [slab_Make.j3])
        | succ kj54 =>
         have H := HA.out
         clear HA
         simp only [slab_Make.j3] at H
         by_cases c96 : x14_3.length < 977343669134
         rotate_left
         ·rw [if_neg c96] at H
          exact absurd H (by simp)
         rw [if_pos c96] at H
         have LMc96 := aK c96
         clear c96
         obtain ⟨y123, hy123⟩ : ∃ y_ : List (S35), y_ = (x14_3 ++ [(⟨((a0_0 ++ (⟨#[95]⟩ : ByteArray)) ++ t121), a0_0, (wrap64 (a1_3 + x84_3)), (⟨(⟨x123003_54, x123004_54, x123005_54⟩ : S30), (⟨x123006_54, x123007_54, x123008_54⟩ : S30)⟩ : S32), 0, ([] : List Int), ([] : List Int)⟩ : S35)]) := ⟨_, rfl⟩
         replace H : (slab_Make.l0 kj54 x9_8 t117 y123 t117 (wrap64 (x84_3 + 1)) a0_0 a0_1 a0_2 a0_3 a0_4 a0_5 a0_6 a1_0 a1_1 a1_2 a1_3) = some (r1, r2, r3) := by first | (rw [hy123]; with_reducible exact H) | (have H2_ := (Option.bind_some _ _).symm.trans H; rw [hy123]; with_reducible exact H2_) | (have H2_ := (Option.bind_some _ _).symm.trans H; with_reducible exact H2_) | with_reducible exact H | (rw [hy123]; exact H) | exact H
         have Ny123 := aK hy123
         clear hy123
         have H' := aK H
         clear H
         have hnb97 := NB122_112.out
         have hnc97 := NB112_122.out
         have hnb98 := NB122_113.out
         have hnc98 := NB113_122.out
         have hcz99_0 := zI BK122 0 rfl
         have hcz99_1 := zI BK122 1 rfl
         have hcz99_2 := zI BK122 2 rfl
         have hcz99_3 := zI BK122 3 rfl
         have hcz99_4 := zI BK122 4 rfl
         have hcz99_5 := zI BK122 5 rfl
         have hcz99_6 := zI BK122 6 rfl
         have hcz99_7 := zI BK122 7 rfl
         have hcz99_8 := zI BK122 8 rfl
         have hcz99_9 := zI BK122 9 rfl
         have hcz99_10 := zI BK122 10 rfl
         have hcz99_11 := zI BK122 11 rfl
         have hfz99_0 := zF BK122.out 0
         have hfz99_1 := zF BK122.out 1
         have hfz99_2 := zF BK122.out 2
         have hfz99_3 := zF BK122.out 3
         have hfz99_4 := zF BK122.out 4
         have hfz99_5 := zF BK122.out 5
         have hfz99_6 := zF BK122.out 6
         have hfz99_7 := zF BK122.out 7
         have hfz99_8 := zF BK122.out 8
         have hfz99_9 := zF BK122.out 9
         have hfz99_10 := zF BK122.out 10
         have hfz99_11 := zF BK122.out 11
         go_wp2_with (first | ((with_reducible refine gate_builtin (b := .append) (xs := #[.tmp 131, .tmp 133]) rfl ?_); at_builtin; refine Kd.S_append k35 (w0 := w) w.heap.size rfl (.tmp 131) (.tmp 133) 22 35 (.agg #[(.string ⟨#[]⟩), (.string ⟨#[]⟩), (.int .i64 0), (.int .i64 0), (.int .i64 0), (.int .i64 0), (.int .i64 0), (.int .i64 0), (.int .i64 0), (.int .i64 0), (.slice none 0 0), (.slice none 0 0)]) 144 rfl Tryz.underlying22 info35 rfl (by decide) (by omega) u14 x14_3 (⟨((a0_0 ++ (⟨#[95]⟩ : ByteArray)) ++ t121), a0_0, (wrap64 (a1_3 + x84_3)), (⟨(⟨x123003_54, x123004_54, x123005_54⟩ : S30), (⟨x123006_54, x123007_54, x123008_54⟩ : S30)⟩ : S32), 0, ([] : List Int), ([] : List Int)⟩ : S35) [.string ((a0_0 ++ (⟨#[95]⟩ : ByteArray)) ++ t121), .string a0_0, .int .i64 (wrap64 (a1_3 + x84_3)), .int .i64 x123003_54, .int .i64 x123004_54, .int .i64 x123005_54, .int .i64 x123006_54, .int .i64 x123007_54, .int .i64 x123008_54, .int .i64 0, .slice none 0 0, .slice none 0 0] (fun k_ => k_ ≠ gb122) (fun _ => False) rfl rfl ?aP (fun k_ hk_ => hk_.elim) ?aF ?aO ?aB ?aS ?aL ?_; (case aP => exact k35_mkM _ _ _ (⟨((a0_0 ++ (⟨#[95]⟩ : ByteArray)) ++ t121), a0_0, (wrap64 (a1_3 + x84_3)), (⟨(⟨x123003_54, x123004_54, x123005_54⟩ : S30), (⟨x123006_54, x123007_54, x123008_54⟩ : S30)⟩ : S32), 0, ([] : List Int), ([] : List Int)⟩ : S35) (Kd.R_nil _ _ _ _ _) (Kd.R_nil _ _ _ _ _)); (case aB => exact (HB.out)); (case aF => exact (fun k_ hk => Kd.freshB (g := gb122) (o := .cells #[.string ((a0_0 ++ (⟨#[95]⟩ : ByteArray)) ++ t121), .string a0_0, .int .i64 (wrap64 (a1_3 + x84_3)), .int .i64 x123003_54, .int .i64 x123004_54, .int .i64 x123005_54, .int .i64 x123006_54, .int .i64 x123007_54, .int .i64 x123008_54, .int .i64 0, .slice none 0 0, .slice none 0 0] 35 (0, 0)) (BK122.out) k_ hk)); (case aO => exact (by (with_reducible repeat (first | apply Kd.S_alloc | apply Kd.S_drewN | apply Kd.S_drew)); exact Kd.S_mono HO_14.out (fun k_ hk => ⟨hk, fun e_ => e_⟩))); (case aS => exact (yZ (HB.out))); (case aL => have := LMc96.out; omega); intro v124 w100 ho hb hg hat; rw [← Ny123.out] at ho; have n0_ := aK (blk_grown (g := gb112) (o := .cells #[.string a0_0, .int .i64 a0_1, .int .i64 a0_2, .int .i64 a0_3, .int .i64 a0_4, .int .i64 a0_5, .int .i64 a0_6] 45 (0, 0)) (BK112.out) hg (Kd.S_ne HO_14.out BK112.out (by decide))); have n1_ := aK (blk_grown (g := gb113) (o := .cells #[.int .i64 a1_0, .int .i64 a1_1, .int .i64 a1_2, .int .i64 a1_3] 50 (0, 0)) (BK113.out) hg (Kd.S_ne HO_14.out BK113.out (by decide))); have n2_ := aK (blk_grown (g := gb122) (o := .cells #[.string ((a0_0 ++ (⟨#[95]⟩ : ByteArray)) ++ t121), .string a0_0, .int .i64 (wrap64 (a1_3 + x84_3)), .int .i64 x123003_54, .int .i64 x123004_54, .int .i64 x123005_54, .int .i64 x123006_54, .int .i64 x123007_54, .int .i64 x123008_54, .int .i64 0, .slice none 0 0, .slice none 0 0] 35 (0, 0)) (BK122.out) hg (Kd.S_away HO_14.out (fun _ hk => hk))); have n3_ := aK (hb); have n4_ := aK (ho); clear BK112; clear BK113; clear BK122; clear HB; clear HO_14; have BK112 := n0_; have BK113 := n1_; have BK122 := n2_; have HB := n3_; have HO125 := n4_; clear n0_ n1_ n2_ n3_ n4_; clear ho hb hg hat))
         go_roundg kj54
         case measure => have := HJ8.out; have := HJ31.out; have := HK3.out; have := HJ54.out; omega
         case rel => exact ⟨(y123), (wrap64 (x84_3 + 1)), (by first | rfl | (simp; done) | (simp [*]; done)), H', ⟨by have := HJ8.out; have := HJ31.out; have := HK3.out; have := HJ54.out; omega⟩, ⟨by (with_reducible repeat (first | apply Kd.S_alloc | apply Kd.S_drewN | apply Kd.S_drew)); exact Kd.S_mono HO125.out (fun _ hk => trivial)⟩, ⟨BK112.out⟩, ⟨BK113.out⟩, ⟨HB.out⟩⟩

end Go.Proofs.YtnaahepnabmibaaGreatDoor.P
