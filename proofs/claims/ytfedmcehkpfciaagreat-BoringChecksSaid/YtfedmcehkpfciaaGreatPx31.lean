/- What functions of the program return: each contract says so of one function, for every input at which its pure function yields. -/
import Derived.Test.YtfedmcehkpfciaaGreatPx0
import Derived.Test.YtfedmcehkpfciaaGreatPx4
import Derived.Test.YtfedmcehkpfciaaGreatPx12
import Derived.Test.YtfedmcehkpfciaaGreatPx25
import Derived.Test.YtfedmcehkpfciaaGreatAwk
import Derived.Test.YtfedmcehkpfciaaGreatChk14
namespace Go.Proofs.YtfedmcehkpfciaaGreat.P
open Go.RowKit Go.Proofs.YtfedmcehkpfciaaGreatW.PrintWords Go.Proofs.YtfedmcehkpfciaaGreatW.PrintLast Go.Proofs.YtfedmcehkpfciaaGreatW.PrintMore
attribute [local go_sem] max2_int min2_int max_two min_two max_three min_three max_four min_four   -- for this text's walks alone
set_option linter.unusedVariables false
set_option linter.unusedSimpArgs false

open Go.Proofs.YtfedmcehkpfciaaGreat.Awk Go.Proofs.YtfedmcehkpfciaaGreat.Chk14
mutual
def gangsawlaw14_BoringChecks.j0 : Nat → List (S33) → Bool → Int → Int → Int → Int → Int → Int → Option (Bool)
 | 0, _, _, _, _, _, _, _, _ => none
 | k + 1, x0, x21, x524000, x524001, x524002, x524003, x524004, x524005 => if x21 = true then (some true) else (gangsawlaw14_BoringChecks.l0 k x0 0 x524000 x524001 x524002 x524003 x524004 x524005)
def gangsawlaw14_BoringChecks.l0 : Nat → List (S33) → Int → Int → Int → Int → Int → Int → Int → Option (Bool)
 | 0, _, _, _, _, _, _, _, _ => none
 | k + 1, x0, x5, x524000, x524001, x524002, x524003, x524004, x524005 => if x5 < (x0.length : Int) then (if 0 ≤ x5 then ((gangsawref14_Small.f ((rd_T33 x0 x5).f0) ((rd_T33 x0 x5).f1.f0) ((rd_T33 x0 x5).f1.f1) ((rd_T33 x0 x5).f2)).bind fun t526 => (if t526 = true then (gangsawlaw14_BoringChecks.l0 k x0 (wrap64 (x5 + 1)) x524000 x524001 x524002 x524003 x524004 x524005) else (some true))) else (none)) else (gangsawlaw14_BoringChecks.l1 k x0 0 x524000 x524001 x524002 x524003 x524004 x524005)
def gangsawlaw14_BoringChecks.l1 : Nat → List (S33) → Int → Int → Int → Int → Int → Int → Int → Option (Bool)
 | 0, _, _, _, _, _, _, _, _ => none
 | k + 1, x0, x6, x524000, x524001, x524002, x524003, x524004, x524005 => if x6 < (x0.length : Int) then (gangsawlaw14_BoringChecks.j3 k x0 x6 (decide (x6 < 8)) x524000 x524001 x524002 x524003 x524004 x524005) else (gangsawlaw14_BoringChecks.j3 k x0 x6 false x524000 x524001 x524002 x524003 x524004 x524005)
def gangsawlaw14_BoringChecks.j3 : Nat → List (S33) → Int → Bool → Int → Int → Int → Int → Int → Int → Option (Bool)
 | 0, _, _, _, _, _, _, _, _, _ => none
 | k + 1, x0, x6, x41, x524000, x524001, x524002, x524003, x524004, x524005 => if x41 = true then (if 0 ≤ x6 then (if x6 < (x0.length : Int) then ((boring_Check.f ((rd_T33 x0 x6).f0) ((rd_T33 x0 x6).f1.f0) ((rd_T33 x0 x6).f1.f1) ((rd_T33 x0 x6).f2) x524000 x524001 x524002 x524003 x524004 x524005).bind fun t530 => ((gangsawref14_Check.f k ((rd_T33 x0 x6).f0) ((rd_T33 x0 x6).f1.f0) ((rd_T33 x0 x6).f1.f1) ((rd_T33 x0 x6).f2) x524000 x524001 x524002 x524003 x524004 x524005).bind fun t532 => (if t530 = t532 then (gangsawlaw14_BoringChecks.l1 k x0 (wrap64 (x6 + 1)) x524000 x524001 x524002 x524003 x524004 x524005) else (some false)))) else (none)) else (none)) else ((boring_CheckAll.f k x0 x524000 x524001 x524002 x524003 x524004 x524005).bind fun t527 => ((gangsawref14_CheckAll.f k x0 x524000 x524001 x524002 x524003 x524004 x524005).bind fun t528 => (some (t527 == t528))))
end
def gangsawlaw14_BoringChecks.f (k : Nat) (l0 : List (S33)) (a1_0 : Int) (a1_1 : Int) (a1_2 : Int) (a1_3 : Int) (a1_4 : Int) (a1_5 : Int) : Option (Bool) := (gangsawlaw14_awake.f).bind fun t524 => (if t524 = true then (if (l0.length : Int) > 8 then (if (l0.length : Int) ≤ 64 then (gangsawlaw14_BoringChecks.j0 k l0 true a1_0 a1_1 a1_2 a1_3 a1_4 a1_5) else (gangsawlaw14_BoringChecks.j0 k l0 (decide ((l0.length : Int) > 100)) a1_0 a1_1 a1_2 a1_3 a1_4 a1_5)) else (gangsawlaw14_BoringChecks.j0 k l0 (decide ((l0.length : Int) > 100)) a1_0 a1_1 a1_2 a1_3 a1_4 a1_5)) else (some false))
theorem gangsawlaw14_BoringChecks.mono_l : ∀ k, (∀ y0 y1 y2 y3 y4 y5 y6 y7, LeO (gangsawlaw14_BoringChecks.j0 k y0 y1 y2 y3 y4 y5 y6 y7) (gangsawlaw14_BoringChecks.j0 (k + 1) y0 y1 y2 y3 y4 y5 y6 y7)) ∧ (∀ y0 y1 y2 y3 y4 y5 y6 y7, LeO (gangsawlaw14_BoringChecks.l0 k y0 y1 y2 y3 y4 y5 y6 y7) (gangsawlaw14_BoringChecks.l0 (k + 1) y0 y1 y2 y3 y4 y5 y6 y7)) ∧ (∀ y0 y1 y2 y3 y4 y5 y6 y7, LeO (gangsawlaw14_BoringChecks.l1 k y0 y1 y2 y3 y4 y5 y6 y7) (gangsawlaw14_BoringChecks.l1 (k + 1) y0 y1 y2 y3 y4 y5 y6 y7)) ∧ (∀ y0 y1 y2 y3 y4 y5 y6 y7 y8, LeO (gangsawlaw14_BoringChecks.j3 k y0 y1 y2 y3 y4 y5 y6 y7 y8) (gangsawlaw14_BoringChecks.j3 (k + 1) y0 y1 y2 y3 y4 y5 y6 y7 y8))
 | 0 => ⟨fun _ _ _ _ _ _ _ _ r h => by simp [gangsawlaw14_BoringChecks.j0] at h, fun _ _ _ _ _ _ _ _ r h => by simp [gangsawlaw14_BoringChecks.l0] at h, fun _ _ _ _ _ _ _ _ r h => by simp [gangsawlaw14_BoringChecks.l1] at h, fun _ _ _ _ _ _ _ _ _ r h => by simp [gangsawlaw14_BoringChecks.j3] at h⟩
 | k + 1 => by
  obtain ⟨ih0, ih1, ih2, ih3⟩ := gangsawlaw14_BoringChecks.mono_l k
  refine ⟨?_, ?_, ?_, ?_⟩
  ·intro y0 y1 y2 y3 y4 y5 y6 y7
   unfold gangsawlaw14_BoringChecks.j0
   repeat' first
   | (with_reducible exact ih0 _ _ _ _ _ _ _ _)
   | (with_reducible exact ih1 _ _ _ _ _ _ _ _)
   | (with_reducible exact ih2 _ _ _ _ _ _ _ _)
   | (with_reducible exact ih3 _ _ _ _ _ _ _ _ _)
   | (with_reducible exact boring_CheckAll.mono _ _ _ _ _ _ _ _)
   | (with_reducible exact gangsawref14_Check.mono _ _ _ _ _ _ _ _ _ _ _)
   | (with_reducible exact gangsawref14_CheckAll.mono _ _ _ _ _ _ _ _)
   | (with_reducible refine contains3.mono2 (fun x_ => ?_))
   | (with_reducible refine contains33.mono2 (fun x_ => ?_))
   | (with_reducible refine contains48.mono2 (fun x_ => ?_))
   | (with_reducible refine contains9.mono2 (fun x_ => ?_))
   | (with_reducible refine index3.mono2 (fun x_ => ?_))
   | (with_reducible refine index33.mono2 (fun x_ => ?_))
   | (with_reducible refine index48.mono2 (fun x_ => ?_))
   | (with_reducible refine index9.mono2 (fun x_ => ?_))
   | (with_reducible exact LeO.refl _)
   | (with_reducible exact LeO.none _)
   | (with_reducible refine LeO.ite ?_ ?_)
   | (with_reducible refine LeO.bind ?_ (fun _ => ?_))
   | exact ih0 _ _ _ _ _ _ _ _
   | exact ih1 _ _ _ _ _ _ _ _
   | exact ih2 _ _ _ _ _ _ _ _
   | exact ih3 _ _ _ _ _ _ _ _ _
   | exact boring_CheckAll.mono _ _ _ _ _ _ _ _
   | exact gangsawref14_Check.mono _ _ _ _ _ _ _ _ _ _ _
   | exact gangsawref14_CheckAll.mono _ _ _ _ _ _ _ _
   | exact LeO.none _
   | refine LeO.ite ?_ ?_
   | refine LeO.bind ?_ (fun _ => ?_)
  ·intro y0 y1 y2 y3 y4 y5 y6 y7
   unfold gangsawlaw14_BoringChecks.l0
   repeat' first
   | (with_reducible exact ih0 _ _ _ _ _ _ _ _)
   | (with_reducible exact ih1 _ _ _ _ _ _ _ _)
   | (with_reducible exact ih2 _ _ _ _ _ _ _ _)
   | (with_reducible exact ih3 _ _ _ _ _ _ _ _ _)
   | (with_reducible exact boring_CheckAll.mono _ _ _ _ _ _ _ _)
   | (with_reducible exact gangsawref14_Check.mono _ _ _ _ _ _ _ _ _ _ _)
   | (with_reducible exact gangsawref14_CheckAll.mono _ _ _ _ _ _ _ _)
   | (with_reducible refine contains3.mono2 (fun x_ => ?_))
   | (with_reducible refine contains33.mono2 (fun x_ => ?_))
   | (with_reducible refine contains48.mono2 (fun x_ => ?_))
   | (with_reducible refine contains9.mono2 (fun x_ => ?_))
   | (with_reducible refine index3.mono2 (fun x_ => ?_))
   | (with_reducible refine index33.mono2 (fun x_ => ?_))
   | (with_reducible refine index48.mono2 (fun x_ => ?_))
   | (with_reducible refine index9.mono2 (fun x_ => ?_))
   | (with_reducible exact LeO.refl _)
   | (with_reducible exact LeO.none _)
   | (with_reducible refine LeO.ite ?_ ?_)
   | (with_reducible refine LeO.bind ?_ (fun _ => ?_))
   | exact ih0 _ _ _ _ _ _ _ _
   | exact ih1 _ _ _ _ _ _ _ _
   | exact ih2 _ _ _ _ _ _ _ _
   | exact ih3 _ _ _ _ _ _ _ _ _
   | exact boring_CheckAll.mono _ _ _ _ _ _ _ _
   | exact gangsawref14_Check.mono _ _ _ _ _ _ _ _ _ _ _
   | exact gangsawref14_CheckAll.mono _ _ _ _ _ _ _ _
   | exact LeO.none _
   | refine LeO.ite ?_ ?_
   | refine LeO.bind ?_ (fun _ => ?_)
  ·intro y0 y1 y2 y3 y4 y5 y6 y7
   unfold gangsawlaw14_BoringChecks.l1
   repeat' first
   | (with_reducible exact ih0 _ _ _ _ _ _ _ _)
   | (with_reducible exact ih1 _ _ _ _ _ _ _ _)
   | (with_reducible exact ih2 _ _ _ _ _ _ _ _)
   | (with_reducible exact ih3 _ _ _ _ _ _ _ _ _)
   | (with_reducible exact boring_CheckAll.mono _ _ _ _ _ _ _ _)
   | (with_reducible exact gangsawref14_Check.mono _ _ _ _ _ _ _ _ _ _ _)
   | (with_reducible exact gangsawref14_CheckAll.mono _ _ _ _ _ _ _ _)
   | (with_reducible refine contains3.mono2 (fun x_ => ?_))
   | (with_reducible refine contains33.mono2 (fun x_ => ?_))
   | (with_reducible refine contains48.mono2 (fun x_ => ?_))
   | (with_reducible refine contains9.mono2 (fun x_ => ?_))
   | (with_reducible refine index3.mono2 (fun x_ => ?_))
   | (with_reducible refine index33.mono2 (fun x_ => ?_))
   | (with_reducible refine index48.mono2 (fun x_ => ?_))
   | (with_reducible refine index9.mono2 (fun x_ => ?_))
   | (with_reducible exact LeO.refl _)
   | (with_reducible exact LeO.none _)
   | (with_reducible refine LeO.ite ?_ ?_)
   | (with_reducible refine LeO.bind ?_ (fun _ => ?_))
   | exact ih0 _ _ _ _ _ _ _ _
   | exact ih1 _ _ _ _ _ _ _ _
   | exact ih2 _ _ _ _ _ _ _ _
   | exact ih3 _ _ _ _ _ _ _ _ _
   | exact boring_CheckAll.mono _ _ _ _ _ _ _ _
   | exact gangsawref14_Check.mono _ _ _ _ _ _ _ _ _ _ _
   | exact gangsawref14_CheckAll.mono _ _ _ _ _ _ _ _
   | exact LeO.none _
   | refine LeO.ite ?_ ?_
   | refine LeO.bind ?_ (fun _ => ?_)
  ·intro y0 y1 y2 y3 y4 y5 y6 y7 y8
   unfold gangsawlaw14_BoringChecks.j3
   repeat' first
   | (with_reducible exact ih0 _ _ _ _ _ _ _ _)
   | (with_reducible exact ih1 _ _ _ _ _ _ _ _)
   | (with_reducible exact ih2 _ _ _ _ _ _ _ _)
   | (with_reducible exact ih3 _ _ _ _ _ _ _ _ _)
   | (with_reducible exact boring_CheckAll.mono _ _ _ _ _ _ _ _)
   | (with_reducible exact gangsawref14_Check.mono _ _ _ _ _ _ _ _ _ _ _)
   | (with_reducible exact gangsawref14_CheckAll.mono _ _ _ _ _ _ _ _)
   | (with_reducible refine contains3.mono2 (fun x_ => ?_))
   | (with_reducible refine contains33.mono2 (fun x_ => ?_))
   | (with_reducible refine contains48.mono2 (fun x_ => ?_))
   | (with_reducible refine contains9.mono2 (fun x_ => ?_))
   | (with_reducible refine index3.mono2 (fun x_ => ?_))
   | (with_reducible refine index33.mono2 (fun x_ => ?_))
   | (with_reducible refine index48.mono2 (fun x_ => ?_))
   | (with_reducible refine index9.mono2 (fun x_ => ?_))
   | (with_reducible exact LeO.refl _)
   | (with_reducible exact LeO.none _)
   | (with_reducible refine LeO.ite ?_ ?_)
   | (with_reducible refine LeO.bind ?_ (fun _ => ?_))
   | exact ih0 _ _ _ _ _ _ _ _
   | exact ih1 _ _ _ _ _ _ _ _
   | exact ih2 _ _ _ _ _ _ _ _
   | exact ih3 _ _ _ _ _ _ _ _ _
   | exact boring_CheckAll.mono _ _ _ _ _ _ _ _
   | exact gangsawref14_Check.mono _ _ _ _ _ _ _ _ _ _ _
   | exact gangsawref14_CheckAll.mono _ _ _ _ _ _ _ _
   | exact LeO.none _
   | refine LeO.ite ?_ ?_
   | refine LeO.bind ?_ (fun _ => ?_)
theorem gangsawlaw14_BoringChecks.mono : ∀ a0 a1 a2 a3 a4 a5 a6 k, LeO (gangsawlaw14_BoringChecks.f k a0 a1 a2 a3 a4 a5 a6) (gangsawlaw14_BoringChecks.f (k + 1) a0 a1 a2 a3 a4 a5 a6) := by
 intro a0 a1 a2 a3 a4 a5 a6 k
 obtain ⟨ih0, ih1, ih2, ih3⟩ := gangsawlaw14_BoringChecks.mono_l k
 unfold gangsawlaw14_BoringChecks.f
 repeat' first
   | (with_reducible exact ih0 _ _ _ _ _ _ _ _)
   | (with_reducible exact ih1 _ _ _ _ _ _ _ _)
   | (with_reducible exact ih2 _ _ _ _ _ _ _ _)
   | (with_reducible exact ih3 _ _ _ _ _ _ _ _ _)
   | (with_reducible exact boring_CheckAll.mono _ _ _ _ _ _ _ _)
   | (with_reducible exact gangsawref14_Check.mono _ _ _ _ _ _ _ _ _ _ _)
   | (with_reducible exact gangsawref14_CheckAll.mono _ _ _ _ _ _ _ _)
   | (with_reducible refine contains3.mono2 (fun x_ => ?_))
   | (with_reducible refine contains33.mono2 (fun x_ => ?_))
   | (with_reducible refine contains48.mono2 (fun x_ => ?_))
   | (with_reducible refine contains9.mono2 (fun x_ => ?_))
   | (with_reducible refine index3.mono2 (fun x_ => ?_))
   | (with_reducible refine index33.mono2 (fun x_ => ?_))
   | (with_reducible refine index48.mono2 (fun x_ => ?_))
   | (with_reducible refine index9.mono2 (fun x_ => ?_))
   | (with_reducible exact LeO.refl _)
   | (with_reducible exact LeO.none _)
   | (with_reducible refine LeO.ite ?_ ?_)
   | (with_reducible refine LeO.bind ?_ (fun _ => ?_))
   | exact ih0 _ _ _ _ _ _ _ _
   | exact ih1 _ _ _ _ _ _ _ _
   | exact ih2 _ _ _ _ _ _ _ _
   | exact ih3 _ _ _ _ _ _ _ _ _
   | exact boring_CheckAll.mono _ _ _ _ _ _ _ _
   | exact gangsawref14_Check.mono _ _ _ _ _ _ _ _ _ _ _
   | exact gangsawref14_CheckAll.mono _ _ _ _ _ _ _ _
   | exact LeO.none _
   | refine LeO.ite ?_ ?_
   | refine LeO.bind ?_ (fun _ => ?_)
def gangsawlaw14_BoringChecks.T13 : Bool × List (List Nat × List Nat) := (true, [([], []), ([], []), ([0, 1], [0, 1]), ([2], [2]), ([], []), ([3, 4], [3, 4]), ([], []), ([], []), ([6, 7], [6, 7]), ([8], [8]), ([], []), ([9, 10, 5], [9, 10]), ([5, 11], [5, 11])])
def gangsawlaw14_BoringChecks.B13 : List Nat := [0, 0, 3, 7, 0, 31, 0, 0, 192, 448, 0, 2047, 4095]
theorem gangsawlaw14_BoringChecks.tab13 : rtab .any (opsOf Tryz.f3 13) = gangsawlaw14_BoringChecks.T13 := by kernel_rfl
theorem gangsawlaw14_BoringChecks.bits13 : waitsOk gangsawlaw14_BoringChecks.T13.2 gangsawlaw14_BoringChecks.B13 = true := by kernel_rfl
def gangsawlaw14_BoringChecks.T15 : Bool × List (List Nat × List Nat) := (true, [([], []), ([], []), ([0, 1], [0, 1]), ([], []), ([], []), ([3, 4, 2], [3, 4]), ([2, 5], [2, 5]), ([6, 5, 0, 1, 2, 3, 4, 5, 6], [6])])
def gangsawlaw14_BoringChecks.B15 : List Nat := [0, 0, 3, 0, 0, 31, 63, 127]
theorem gangsawlaw14_BoringChecks.tab15 : rtab .any (opsOf Tryz.f3 15) = gangsawlaw14_BoringChecks.T15 := by kernel_rfl
theorem gangsawlaw14_BoringChecks.bits15 : waitsOk gangsawlaw14_BoringChecks.T15.2 gangsawlaw14_BoringChecks.B15 = true := by kernel_rfl
set_option maxHeartbeats 8000000 in
set_option maxRecDepth 100000 in
theorem gangsawlaw14_BoringChecks.calls (k : Nat) (A0 : Option Addr) (c0 : Nat) (l0 : List (S33)) (a1_0 : Int) (a1_1 : Int) (a1_2 : Int) (a1_3 : Int) (a1_4 : Int) (a1_5 : Int) (r : Bool) (w : World) (hr0 : Kd.C k33 w A0 l0.length l0) (hc0 : l0.length ≤ c0) (h : gangsawlaw14_BoringChecks.f k l0 a1_0 a1_1 a1_2 a1_3 a1_4 a1_5 = some r) (hr : r = true) :
  Calls Tryz.prog 3 #[.slice A0 l0.length c0, .agg #[.int .i64 a1_0, .int .i64 a1_1, .int .i64 a1_2, .int .i64 a1_3, .int .i64 a1_4, .int .i64 a1_5]] w fun e w' => e = .returned (.bool r) ∧ Below w.heap.size w w' := by
 have hu26 := Tryz.underlying26
 have hu33 := Tryz.underlying33
 have HR0 := aK hr0
 have HC0 := aK hc0
 clear hr0 hc0
 have HB := aK (Below.refl w.heap.size w)
 have H : ((gangsawlaw14_awake.f).bind fun t524 => (if t524 = true then (if (l0.length : Int) > 8 then (if (l0.length : Int) ≤ 64 then (gangsawlaw14_BoringChecks.j0 k l0 true a1_0 a1_1 a1_2 a1_3 a1_4 a1_5) else (gangsawlaw14_BoringChecks.j0 k l0 (decide ((l0.length : Int) > 100)) a1_0 a1_1 a1_2 a1_3 a1_4 a1_5)) else (gangsawlaw14_BoringChecks.j0 k l0 (decide ((l0.length : Int) > 100)) a1_0 a1_1 a1_2 a1_3 a1_4 a1_5)) else (some false))) = some r := h
 clear h
 replace H := Option.bind_eq_some_iff.mp H
 obtain ⟨t524, A30, H⟩ := H
 replace H : (if t524 = true then (if (l0.length : Int) > 8 then (if (l0.length : Int) ≤ 64 then (gangsawlaw14_BoringChecks.j0 k l0 true a1_0 a1_1 a1_2 a1_3 a1_4 a1_5) else (gangsawlaw14_BoringChecks.j0 k l0 (decide ((l0.length : Int) > 100)) a1_0 a1_1 a1_2 a1_3 a1_4 a1_5)) else (gangsawlaw14_BoringChecks.j0 k l0 (decide ((l0.length : Int) > 100)) a1_0 a1_1 a1_2 a1_3 a1_4 a1_5)) else (some false)) = some r := H
 have A3 := aK A30
 clear A30
 by_cases c4 : t524 = true
 ·subst c4
  have H1 : (if (l0.length : Int) > 8 then (if (l0.length : Int) ≤ 64 then (gangsawlaw14_BoringChecks.j0 k l0 true a1_0 a1_1 a1_2 a1_3 a1_4 a1_5) else (gangsawlaw14_BoringChecks.j0 k l0 (decide ((l0.length : Int) > 100)) a1_0 a1_1 a1_2 a1_3 a1_4 a1_5)) else (gangsawlaw14_BoringChecks.j0 k l0 (decide ((l0.length : Int) > 100)) a1_0 a1_1 a1_2 a1_3 a1_4 a1_5)) = some r := by rw [if_pos rfl] at H; exact H
  clear H
  have H := H1
  clear H1
  have HC5 := aK H
  clear H
  go_enter Tryz.func3, Tryz.ntmps3
  go_upto_region 3 with (first | ((with_reducible refine gate_dst (N := 3) rfl ?_); (try (refine gate_guard (by rfl) ?_; dsimp only)); refine box_event ?hg (N := 3) ?hd (cs := #[.int .i64 a1_0, .int .i64 a1_1, .int .i64 a1_2, .int .i64 a1_3, .int .i64 a1_4, .int .i64 a1_5]) (t := 26) ?hr ?_; (case hd => rfl); (case hg => rfl); (case hr => first | (go_simp; done) | (go_simp; rfl)); intro gb523 hg w6 hbox hb; have ⟨n0_, n2_⟩ := zV (w := w) hb hg (by repeat (first | (with_reducible first | exact HB.out | apply yA | apply yN | apply yD) | exact HB.out)); have n1_ := aK (hbox); have n3_ := n2_; clear HB; have HB := n0_; have BK523 := n1_; have GW523 := n2_; have GE523 := n3_; clear n0_ n1_ n2_ n3_; clear hb hbox hg) | ((with_reducible refine gate_callee (f := 11) rfl ?_); refine goesL_ (some 7) rfl rfl Tryz.func11 (by kernel_rfl) rfl #[] rfl (by (try simp only [List.map_toArray, List.map_cons, List.map_nil]); first | done | rfl | (simp only [List.length_drop, List.length_take]; rfl)) ?_; (with_reducible refine (gangsawlaw14_awake.calls  true _ A3.out).mono ?_); rintro e w7 ⟨rfl, hb⟩; refine ⟨_, rfl, ?_⟩; have n0_ := zG BK523 hb (fun h => by (with_reducible repeat (first | refine zN ?_ _ | refine zD ?_ | refine zA ?_ _)); exact h); have n1_ := aK (yT (by repeat (first | (with_reducible first | exact HB.out | apply yA | apply yN | apply yD | refine yS ?_ GE523.out) | exact HB.out)) hb); clear BK523; clear HB; have BK523 := n0_; have HB := n1_; clear n0_ n1_; (try clear hb); (try clear hb2); (try clear hk); (try clear hi)))
  (try simp only [Act.put, sA, sZ, sS])
  go_cut [21] (fun v21 wc => ∃ (kq : Nat) (x21_4 : Bool), v21 = .bool x21_4 ∧ Aside0 (gangsawlaw14_BoringChecks.j0 kq l0 x21_4 a1_0 a1_1 a1_2 a1_3 a1_4 a1_5 = some r) ∧ Aside0 (kq ≤ k) ∧ Aside0 (wc.heap[gb523]? = some (.cells #[.int .i64 a1_0, .int .i64 a1_1, .int .i64 a1_2, .int .i64 a1_3, .int .i64 a1_4, .int .i64 a1_5] 26 (0, 0))) ∧ Aside0 (Below w.heap.size w wc))
  case first =>
   have H := HC5.out
   clear HC5
   by_cases c8 : (l0.length : Int) > 8
   ·rw [if_pos c8] at H
    have c8b0 : decide (8 < (l0.length : Int)) = true := decide_eq_true c8
    have c8b1 : decide (8 < l0.length) = true := decide_eq_true (by omega)
    clear c8
    (first | rw [c8b0] | (simp only [i64_w, i32_w]; rw [c8b0]) | skip)
    by_cases c9 : (l0.length : Int) ≤ 64
    ·rw [if_pos c9] at H
     have c9b0 : decide ((l0.length : Int) ≤ 64) = true := decide_eq_true c9
     have c9b1 : decide (l0.length ≤ 64) = true := decide_eq_true (by omega)
     clear c9
     have H' := aK H
     clear H
     go_wp2
     go_meet
     case rel => exact ⟨_, (true), (by first | rfl | (simp; done) | (simp [*]; done)), H', ⟨by first | omega | exact Nat.le_refl _⟩, ⟨by (with_reducible repeat (first | refine zN ?_ _ | refine zD ?_ | refine zA ?_ _)); exact BK523.out⟩, ⟨by repeat (first | (with_reducible first | exact HB.out | apply yA | apply yN | apply yD | refine yS ?_ GE523.out) | exact HB.out)⟩⟩
    ·rw [if_neg c9] at H
     have c9b0 : decide ((l0.length : Int) ≤ 64) = false := decide_eq_false c9
     have c9b1 : decide (l0.length ≤ 64) = false := decide_eq_false (by omega)
     clear c9
     have H' := aK H
     clear H
     go_wp2
     go_meet
     case rel => exact ⟨_, (decide ((l0.length : Int) > 100)), (by first | rfl | (simp; done) | (simp [*]; done)), H', ⟨by first | omega | exact Nat.le_refl _⟩, ⟨by (with_reducible repeat (first | refine zN ?_ _ | refine zD ?_ | refine zA ?_ _)); exact BK523.out⟩, ⟨by repeat (first | (with_reducible first | exact HB.out | apply yA | apply yN | apply yD | refine yS ?_ GE523.out) | exact HB.out)⟩⟩
   ·rw [if_neg c8] at H
    have c8b0 : decide (8 < (l0.length : Int)) = false := decide_eq_false c8
    have c8b1 : decide (8 < l0.length) = false := decide_eq_false (by omega)
    clear c8
    (first | rw [c8b0] | (simp only [i64_w, i32_w]; rw [c8b0]) | skip)
    have H' := aK H
    clear H
    go_wp2
    go_meet
    case rel => exact ⟨_, (decide ((l0.length : Int) > 100)), (by first | rfl | (simp; done) | (simp [*]; done)), H', ⟨by first | omega | exact Nat.le_refl _⟩, ⟨by (with_reducible repeat (first | refine zN ?_ _ | refine zD ?_ | refine zA ?_ _)); exact BK523.out⟩, ⟨by repeat (first | (with_reducible first | exact HB.out | apply yA | apply yN | apply yD | refine yS ?_ GE523.out) | exact HB.out)⟩⟩
  case rest =>
   clear HC5
   try clear c1
   try clear p2
   try clear c3
   try clear c4
   try clear c8
   try clear c8b0
   try clear c8b1
   try clear c9
   try clear c9b0
   try clear c9b1
   obtain ⟨kq, x21_4, rfl, HA, HJ4, BK523, HB⟩ := hcut
   cases kq with
   | zero => exact absurd HA.out (by simp [gangsawlaw14_BoringChecks.j0])
   | succ kj4 =>
    have H := HA.out
    clear HA
    simp only [gangsawlaw14_BoringChecks.j0] at H
    by_cases c10 : x21_4 = true
    ·subst c10
     have H1 : (some true) = some r := by rw [if_pos rfl] at H; exact H
     clear H
     have H := H1
     clear H1
     obtain rfl := Option.some.inj H
     simp only [Option.some.injEq, Prod.mk.injEq] at H
     obtain ⟨rfl⟩ := H
     go_wp2
     go_ret
     exact ⟨by first | rfl | (simp [errW_none, errW_some] <;> rfl) | (simp [*, errW_none, errW_some] <;> rfl), by repeat (first | (with_reducible first | exact HB.out | apply yA | apply yN | apply yD | refine yS ?_ GE523.out) | exact HB.out)⟩
    ·replace c10 := Bool.eq_false_iff.mpr c10
     subst c10
     have H1 : (gangsawlaw14_BoringChecks.l0 kj4 l0 0 a1_0 a1_1 a1_2 a1_3 a1_4 a1_5) = some r := by rw [if_neg (show ¬ (false = true) by decide)] at H; exact H
     clear H
     have H := H1
     clear H1
     have H' := aK H
     clear H
     go_wp2
     go_loopg [5] kj4 (fun kq v5 w' => ∃ (x5_2 : Int), v5 = .int .i64 x5_2 ∧ Aside0 (gangsawlaw14_BoringChecks.l0 kq l0 x5_2 a1_0 a1_1 a1_2 a1_3 a1_4 a1_5 = some r) ∧ Aside0 (kq ≤ kj4) ∧ Aside0 (w'.heap[gb523]? = some (.cells #[.int .i64 a1_0, .int .i64 a1_1, .int .i64 a1_2, .int .i64 a1_3, .int .i64 a1_4, .int .i64 a1_5] 26 (0, 0))) ∧ Aside0 (Below w.heap.size w w'))
     case atStart => exact ⟨(0), (by first | rfl | (simp; done) | (simp [*]; done)), H', ⟨Nat.le_refl _⟩, ⟨by (with_reducible repeat (first | refine zN ?_ _ | refine zD ?_ | refine zA ?_ _)); exact BK523.out⟩, ⟨by repeat (first | (with_reducible first | exact HB.out | apply yA | apply yN | apply yD | refine yS ?_ GE523.out) | exact HB.out)⟩⟩
     case round =>
      clear H'
      try clear c1
      try clear p2
      try clear c3
      try clear c4
      try clear c8
      try clear c8b0
      try clear c8b1
      try clear c9
      try clear c9b0
      try clear c9b1
      try clear c10
      try clear p2
      obtain ⟨x5_2, rfl, HA, HK2, BK523, HB⟩ := hrel
      cases gk with
      | zero => exact absurd HA.out (by simp [gangsawlaw14_BoringChecks.l0])
      | succ k2 =>
       have H := HA.out
       clear HA
       simp only [gangsawlaw14_BoringChecks.l0] at H
       by_cases c11 : x5_2 < (l0.length : Int)
       ·rw [if_pos c11] at H
        have c11b0 : decide (x5_2 < (l0.length : Int)) = true := decide_eq_true c11
        clear c11
        by_cases c12 : 0 ≤ x5_2
        ·rw [if_pos c12] at H
         have c12b0 : decide (0 ≤ x5_2) = true := decide_eq_true c12
         clear c12
         replace H := Option.bind_eq_some_iff.mp H
         obtain ⟨t526, A130, H⟩ := H
         replace H : (if t526 = true then (gangsawlaw14_BoringChecks.l0 k2 l0 (wrap64 (x5_2 + 1)) a1_0 a1_1 a1_2 a1_3 a1_4 a1_5) else (some true)) = some r := H
         have A13 := aK A130
         clear A130
         by_cases c14 : t526 = true
         ·subst c14
          have H1 : (gangsawlaw14_BoringChecks.l0 k2 l0 (wrap64 (x5_2 + 1)) a1_0 a1_1 a1_2 a1_3 a1_4 a1_5) = some r := by rw [if_pos rfl] at H; exact H
          clear H
          have H := H1
          clear H1
          have H' := aK H
          clear H
          have p525 : 0 ≤ (x5_2 : Int) := of_decide_eq_true (by first | (with_reducible assumption) | assumption)
          have q525 : x5_2 < (l0.length : Int) := of_decide_eq_true (by first | (with_reducible assumption) | assumption)
          obtain ⟨ad525, A525_3, c525_3, e525, hx525_0, hx525_1, hx525_2, hx525_3, hl525_3, hi525_3⟩ := at_T33 HR0.out x5_2 p525 q525
          cases e525
          replace hx525_0 := (HB.out.cell (World.block_lt_of_cell? w _ hx525_0)).trans hx525_0
          replace hx525_1 := (HB.out.cell (World.block_lt_of_cell? w _ hx525_1)).trans hx525_1
          replace hx525_2 := (HB.out.cell (World.block_lt_of_cell? w _ hx525_2)).trans hx525_2
          replace hx525_3 := (HB.out.cell (World.block_lt_of_cell? w _ hx525_3)).trans hx525_3
          have HR525_3 := aK hi525_3
          have HC525_3 := aK hl525_3
          clear hi525_3 hl525_3
          replace p525 := eq_true p525
          replace q525 := eq_true q525
          go_wp2_with (first | ((with_reducible refine gate_callee (f := 12) rfl ?_); refine goesL_ (some 32) rfl rfl Tryz.func12 (by kernel_rfl) rfl #[.agg #[.string ((rd_T33 l0 x5_2).f0), .int .i64 ((rd_T33 l0 x5_2).f1.f0), .int .i64 ((rd_T33 l0 x5_2).f1.f1), .slice A525_3 ((rd_T33 l0 x5_2).f2).length c525_3]] rfl (by (try simp only [List.map_toArray, List.map_cons, List.map_nil]); first | done | rfl | (simp only [List.length_drop, List.length_take]; rfl)) ?_; (with_reducible refine (gangsawref14_Small.calls ((rd_T33 l0 x5_2).f0) ((rd_T33 l0 x5_2).f1.f0) ((rd_T33 l0 x5_2).f1.f1) _ _ ((rd_T33 l0 x5_2).f2) true _ ?side1 ?side2 A13.out).mono ?_); (case side1 => repeat (first | exact (Kd.C_below HR525_3.out HB.out) | (with_reducible refine Kd.C_alloc ?_ _) | (with_reducible refine Kd.C_drewN ?_ _) | (with_reducible refine Kd.C_drew ?_))); (case side2 => exact HC525_3.out); rintro e w15 ⟨rfl, hb⟩; refine ⟨_, rfl, ?_⟩; have n0_ := zG BK523 hb (fun h => by (with_reducible repeat (first | refine zN ?_ _ | refine zD ?_ | refine zA ?_ _)); exact h); have n1_ := aK (yT (by repeat (first | (with_reducible first | exact HB.out | apply yA | apply yN | apply yD | refine yS ?_ GE523.out) | exact HB.out)) hb); clear BK523; clear HB; have BK523 := n0_; have HB := n1_; clear n0_ n1_; (try clear hb); (try clear hb2); (try clear hk); (try clear hi)))
          go_roundg k2
          case measure => have := HJ4.out; have := HK2.out; omega
          case rel => exact ⟨(wrap64 (x5_2 + 1)), (by first | rfl | (simp; done) | (simp [*]; done)), H', ⟨by have := HJ4.out; have := HK2.out; omega⟩, ⟨by (with_reducible repeat (first | refine zN ?_ _ | refine zD ?_ | refine zA ?_ _)); exact BK523.out⟩, ⟨by repeat (first | (with_reducible first | exact HB.out | apply yA | apply yN | apply yD | refine yS ?_ GE523.out) | exact HB.out)⟩⟩
         ·replace c14 := Bool.eq_false_iff.mpr c14
          subst c14
          have H1 : (some true) = some r := by rw [if_neg (show ¬ (false = true) by decide)] at H; exact H
          clear H
          have H := H1
          clear H1
          obtain rfl := Option.some.inj H
          simp only [Option.some.injEq, Prod.mk.injEq] at H
          obtain ⟨rfl⟩ := H
          have p525 : 0 ≤ (x5_2 : Int) := of_decide_eq_true (by first | (with_reducible assumption) | assumption)
          have q525 : x5_2 < (l0.length : Int) := of_decide_eq_true (by first | (with_reducible assumption) | assumption)
          obtain ⟨ad525, A525_3, c525_3, e525, hx525_0, hx525_1, hx525_2, hx525_3, hl525_3, hi525_3⟩ := at_T33 HR0.out x5_2 p525 q525
          cases e525
          replace hx525_0 := (HB.out.cell (World.block_lt_of_cell? w _ hx525_0)).trans hx525_0
          replace hx525_1 := (HB.out.cell (World.block_lt_of_cell? w _ hx525_1)).trans hx525_1
          replace hx525_2 := (HB.out.cell (World.block_lt_of_cell? w _ hx525_2)).trans hx525_2
          replace hx525_3 := (HB.out.cell (World.block_lt_of_cell? w _ hx525_3)).trans hx525_3
          have HR525_3 := aK hi525_3
          have HC525_3 := aK hl525_3
          clear hi525_3 hl525_3
          replace p525 := eq_true p525
          replace q525 := eq_true q525
          go_wp2_with (first | ((with_reducible refine gate_callee (f := 12) rfl ?_); refine goesL_ (some 32) rfl rfl Tryz.func12 (by kernel_rfl) rfl #[.agg #[.string ((rd_T33 l0 x5_2).f0), .int .i64 ((rd_T33 l0 x5_2).f1.f0), .int .i64 ((rd_T33 l0 x5_2).f1.f1), .slice A525_3 ((rd_T33 l0 x5_2).f2).length c525_3]] rfl (by (try simp only [List.map_toArray, List.map_cons, List.map_nil]); first | done | rfl | (simp only [List.length_drop, List.length_take]; rfl)) ?_; (with_reducible refine (gangsawref14_Small.calls ((rd_T33 l0 x5_2).f0) ((rd_T33 l0 x5_2).f1.f0) ((rd_T33 l0 x5_2).f1.f1) _ _ ((rd_T33 l0 x5_2).f2) false _ ?side1 ?side2 A13.out).mono ?_); (case side1 => repeat (first | exact (Kd.C_below HR525_3.out HB.out) | (with_reducible refine Kd.C_alloc ?_ _) | (with_reducible refine Kd.C_drewN ?_ _) | (with_reducible refine Kd.C_drew ?_))); (case side2 => exact HC525_3.out); rintro e w16 ⟨rfl, hb⟩; refine ⟨_, rfl, ?_⟩; have n0_ := zG BK523 hb (fun h => by (with_reducible repeat (first | refine zN ?_ _ | refine zD ?_ | refine zA ?_ _)); exact h); have n1_ := aK (yT (by repeat (first | (with_reducible first | exact HB.out | apply yA | apply yN | apply yD | refine yS ?_ GE523.out) | exact HB.out)) hb); clear BK523; clear HB; have BK523 := n0_; have HB := n1_; clear n0_ n1_; (try clear hb); (try clear hb2); (try clear hk); (try clear hi)))
          go_ret
          exact ⟨by first | rfl | (simp [errW_none, errW_some] <;> rfl) | (simp [*, errW_none, errW_some] <;> rfl), by repeat (first | (with_reducible first | exact HB.out | apply yA | apply yN | apply yD | refine yS ?_ GE523.out) | exact HB.out)⟩
        ·rw [if_neg c12] at H
         exact absurd H (by simp)
       ·rw [if_neg c11] at H
        have c11b0 : decide (x5_2 < (l0.length : Int)) = false := decide_eq_false c11
        clear c11
        have H' := aK H
        clear H
        go_wp2
        go_loopg [6] k2 (fun kq v6 w' => ∃ (x6_3 : Int), v6 = .int .i64 x6_3 ∧ Aside0 (gangsawlaw14_BoringChecks.l1 kq l0 x6_3 a1_0 a1_1 a1_2 a1_3 a1_4 a1_5 = some r) ∧ Aside0 (kq ≤ k2) ∧ Aside0 (w'.heap[gb523]? = some (.cells #[.int .i64 a1_0, .int .i64 a1_1, .int .i64 a1_2, .int .i64 a1_3, .int .i64 a1_4, .int .i64 a1_5] 26 (0, 0))) ∧ Aside0 (Below w.heap.size w w'))
        case atStart => exact ⟨(0), (by first | rfl | (simp; done) | (simp [*]; done)), H', ⟨Nat.le_refl _⟩, ⟨by (with_reducible repeat (first | refine zN ?_ _ | refine zD ?_ | refine zA ?_ _)); exact BK523.out⟩, ⟨by repeat (first | (with_reducible first | exact HB.out | apply yA | apply yN | apply yD | refine yS ?_ GE523.out) | exact HB.out)⟩⟩
        case round =>
         clear H'
         try clear c1
         try clear p2
         try clear c3
         try clear c4
         try clear c5
         try clear p5
         try clear q5
         try clear hx5
         try clear p6
         try clear c8
         try clear c8b0
         try clear c8b1
         try clear c9
         try clear c9b0
         try clear c9b1
         try clear c10
         try clear c11
         try clear c11b0
         try clear c12
         try clear c12b0
         try clear c14
         try clear hx525_0
         try clear hx525_1
         try clear hx525_2
         try clear hx525_3
         try clear p2
         try clear p525
         try clear q525
         obtain ⟨x6_3, rfl, HA, HK3, BK523, HB⟩ := hrel
         cases gk with
         | zero => exact absurd HA.out (by simp [gangsawlaw14_BoringChecks.l1])
         | succ k3 =>
          have H := HA.out
          clear HA
          simp only [gangsawlaw14_BoringChecks.l1] at H
          have HC17 := aK H
          clear H
          go_upto_region 11 with (fail)
          go_cut [41] (fun v41 wc => ∃ (kq : Nat) (x41_16 : Bool), v41 = .bool x41_16 ∧ Aside0 (gangsawlaw14_BoringChecks.j3 kq l0 x6_3 x41_16 a1_0 a1_1 a1_2 a1_3 a1_4 a1_5 = some r) ∧ Aside0 (kq ≤ k3) ∧ Aside0 (wc.heap[gb523]? = some (.cells #[.int .i64 a1_0, .int .i64 a1_1, .int .i64 a1_2, .int .i64 a1_3, .int .i64 a1_4, .int .i64 a1_5] 26 (0, 0))) ∧ Aside0 (Below w.heap.size w wc))
          case first =>
           have H := HC17.out
           clear HC17
           by_cases c18 : x6_3 < (l0.length : Int)
           ·rw [if_pos c18] at H
            have c18b0 : decide (x6_3 < (l0.length : Int)) = true := decide_eq_true c18
            clear c18
            (first | rw [c18b0] | (simp only [i64_w, i32_w]; rw [c18b0]) | skip)
            have H' := aK H
            clear H
            go_wp2
            go_meet
            case rel => exact ⟨_, (decide (x6_3 < 8)), (by first | rfl | (simp; done) | (simp [*]; done)), H', ⟨by have := HJ4.out; have := HK2.out; have := HK3.out; first | omega | exact Nat.le_refl _⟩, ⟨by (with_reducible repeat (first | refine zN ?_ _ | refine zD ?_ | refine zA ?_ _)); exact BK523.out⟩, ⟨by repeat (first | (with_reducible first | exact HB.out | apply yA | apply yN | apply yD | refine yS ?_ GE523.out) | exact HB.out)⟩⟩
           ·rw [if_neg c18] at H
            have c18b0 : decide (x6_3 < (l0.length : Int)) = false := decide_eq_false c18
            clear c18
            (first | rw [c18b0] | (simp only [i64_w, i32_w]; rw [c18b0]) | skip)
            have H' := aK H
            clear H
            go_wp2
            go_meet
            case rel => exact ⟨_, (false), (by first | rfl | (simp; done) | (simp [*]; done)), H', ⟨by have := HJ4.out; have := HK2.out; have := HK3.out; first | omega | exact Nat.le_refl _⟩, ⟨by (with_reducible repeat (first | refine zN ?_ _ | refine zD ?_ | refine zA ?_ _)); exact BK523.out⟩, ⟨by repeat (first | (with_reducible first | exact HB.out | apply yA | apply yN | apply yD | refine yS ?_ GE523.out) | exact HB.out)⟩⟩
          case rest =>
           clear HC17
           try clear c1
           try clear p2
           try clear c3
           try clear c4
           try clear c5
           try clear p5
           try clear q5
           try clear hx5
           try clear p6
           try clear c8
           try clear c8b0
           try clear c8b1
           try clear c9
           try clear c9b0
           try clear c9b1
           try clear c10
           try clear c11
           try clear c11b0
           try clear c12
           try clear c12b0
           try clear c14
           try clear c18
           try clear c18b0
           try clear hx525_0
           try clear hx525_1
           try clear hx525_2
           try clear hx525_3
           try clear p2
           try clear p5
           try clear p525
           try clear p6
           try clear q5
           try clear q525
           obtain ⟨kq, x41_16, rfl, HA, HJ16, BK523, HB⟩ := hcut
           cases kq with
           | zero => exact absurd HA.out (by simp [gangsawlaw14_BoringChecks.j3])
           | succ kj16 =>
            have H := HA.out
            clear HA
            simp only [gangsawlaw14_BoringChecks.j3] at H
            by_cases c19 : x41_16 = true
            ·subst c19
             have H1 : (if 0 ≤ x6_3 then (if x6_3 < (l0.length : Int) then ((boring_Check.f ((rd_T33 l0 x6_3).f0) ((rd_T33 l0 x6_3).f1.f0) ((rd_T33 l0 x6_3).f1.f1) ((rd_T33 l0 x6_3).f2) a1_0 a1_1 a1_2 a1_3 a1_4 a1_5).bind fun t530 => ((gangsawref14_Check.f kj16 ((rd_T33 l0 x6_3).f0) ((rd_T33 l0 x6_3).f1.f0) ((rd_T33 l0 x6_3).f1.f1) ((rd_T33 l0 x6_3).f2) a1_0 a1_1 a1_2 a1_3 a1_4 a1_5).bind fun t532 => (if t530 = t532 then (gangsawlaw14_BoringChecks.l1 kj16 l0 (wrap64 (x6_3 + 1)) a1_0 a1_1 a1_2 a1_3 a1_4 a1_5) else (some false)))) else (none)) else (none)) = some r := by rw [if_pos rfl] at H; exact H
             clear H
             have H := H1
             clear H1
             by_cases c20 : 0 ≤ x6_3
             ·rw [if_pos c20] at H
              have c20b0 : decide (0 ≤ x6_3) = true := decide_eq_true c20
              clear c20
              by_cases c21 : x6_3 < (l0.length : Int)
              ·rw [if_pos c21] at H
               have c21b0 : decide (x6_3 < (l0.length : Int)) = true := decide_eq_true c21
               clear c21
               replace H := Option.bind_eq_some_iff.mp H
               obtain ⟨t530, A220, H⟩ := H
               replace H : ((gangsawref14_Check.f kj16 ((rd_T33 l0 x6_3).f0) ((rd_T33 l0 x6_3).f1.f0) ((rd_T33 l0 x6_3).f1.f1) ((rd_T33 l0 x6_3).f2) a1_0 a1_1 a1_2 a1_3 a1_4 a1_5).bind fun t532 => (if t530 = t532 then (gangsawlaw14_BoringChecks.l1 kj16 l0 (wrap64 (x6_3 + 1)) a1_0 a1_1 a1_2 a1_3 a1_4 a1_5) else (some false))) = some r := H
               have A22 := aK A220
               clear A220
               replace H := Option.bind_eq_some_iff.mp H
               obtain ⟨t532, A230, H⟩ := H
               replace H : (if t530 = t532 then (gangsawlaw14_BoringChecks.l1 kj16 l0 (wrap64 (x6_3 + 1)) a1_0 a1_1 a1_2 a1_3 a1_4 a1_5) else (some false)) = some r := H
               have A23 := aK A230
               clear A230
               by_cases c24 : t530 = t532
               ·rw [if_pos c24] at H
                have c24b0 : (t530 == t532) = true := beq_iff_eq.mpr c24
                have c24b1 : (t530 != t532) = false := bne_eq_false_iff_eq.mpr c24
                clear c24
                have H' := aK H
                clear H
                try go_wp2
                have n0_ := aK (zD BK523.out)
                have n1_ := aK (yD HB.out)
                clear BK523
                clear HB
                have BK523 := n0_
                have HB := n1_
                clear n0_ n1_
                have p529 : 0 ≤ (x6_3 : Int) := of_decide_eq_true (by first | (with_reducible assumption) | assumption)
                have q529 : x6_3 < (l0.length : Int) := of_decide_eq_true (by first | (with_reducible assumption) | assumption)
                obtain ⟨ad529, A529_3, c529_3, e529, hx529_0, hx529_1, hx529_2, hx529_3, hl529_3, hi529_3⟩ := at_T33 HR0.out x6_3 p529 q529
                have hw529_3 := hx529_3
                have hw529_2 := hx529_2
                have hw529_1 := hx529_1
                have hw529_0 := hx529_0
                cases e529
                replace hx529_0 := (HB.out.cell (World.block_lt_of_cell? w _ hx529_0)).trans hx529_0
                replace hx529_1 := (HB.out.cell (World.block_lt_of_cell? w _ hx529_1)).trans hx529_1
                replace hx529_2 := (HB.out.cell (World.block_lt_of_cell? w _ hx529_2)).trans hx529_2
                replace hx529_3 := (HB.out.cell (World.block_lt_of_cell? w _ hx529_3)).trans hx529_3
                have HR529_3 := aK hi529_3
                have HC529_3 := aK hl529_3
                clear hi529_3 hl529_3
                replace p529 := eq_true p529
                replace q529 := eq_true q529
                have p531 : 0 ≤ (x6_3 : Int) := of_decide_eq_true (by first | (with_reducible assumption) | assumption)
                have q531 : x6_3 < (l0.length : Int) := of_decide_eq_true (by first | (with_reducible assumption) | assumption)
                obtain ⟨ad531, A531_3, c531_3, e531, hx531_0, hx531_1, hx531_2, hx531_3, hl531_3, hi531_3⟩ := at_T33 HR0.out x6_3 p531 q531
                have hw531_3 := hx531_3
                have hw531_2 := hx531_2
                have hw531_1 := hx531_1
                have hw531_0 := hx531_0
                obtain rfl : ad529 = ad531 := (by injection e531)
                replace hx531_0 := (HB.out.cell (World.block_lt_of_cell? w _ hx531_0)).trans hx531_0
                replace hx531_1 := (HB.out.cell (World.block_lt_of_cell? w _ hx531_1)).trans hx531_1
                replace hx531_2 := (HB.out.cell (World.block_lt_of_cell? w _ hx531_2)).trans hx531_2
                replace hx531_3 := (HB.out.cell (World.block_lt_of_cell? w _ hx531_3)).trans hx531_3
                have HR531_3 := aK hi531_3
                have HC531_3 := aK hl531_3
                clear hi531_3 hl531_3
                replace p531 := eq_true p531
                replace q531 := eq_true q531
                have ea_ := Option.some.inj (hx529_3.symm.trans hx531_3)
                injection ea_ with ea_ en_ ec_
                subst ea_
                subst ec_
                clear en_
                refine start_ (n := 13) (S := fun w' => w'.cell? ⟨gb523, 0, none⟩ = some (.int .i64 a1_0) ∧ w'.cell? ⟨gb523, 1, none⟩ = some (.int .i64 a1_1) ∧ w'.cell? ⟨gb523, 2, none⟩ = some (.int .i64 a1_2) ∧ w'.cell? ⟨gb523, 3, none⟩ = some (.int .i64 a1_3) ∧ w'.cell? ⟨gb523, 4, none⟩ = some (.int .i64 a1_4) ∧ w'.cell? ⟨gb523, 5, none⟩ = some (.int .i64 a1_5) ∧ w'.cell? (ad529.add ((x6_3).toNat * 4)) = some (.string ((rd_T33 l0 x6_3).f0)) ∧ w'.cell? ⟨(ad529.add ((x6_3).toNat * 4)).block, (ad529.add ((x6_3).toNat * 4)).off + 1, none⟩ = some (.int .i64 ((rd_T33 l0 x6_3).f1.f0)) ∧ w'.cell? ⟨(ad529.add ((x6_3).toNat * 4)).block, (ad529.add ((x6_3).toNat * 4)).off + 2, none⟩ = some (.int .i64 ((rd_T33 l0 x6_3).f1.f1)) ∧ w'.cell? ⟨(ad529.add ((x6_3).toNat * 4)).block, (ad529.add ((x6_3).toNat * 4)).off + 3, none⟩ = some (.slice A529_3 ((rd_T33 l0 x6_3).f2).length c529_3) ∧ w'.cell? (ad529.add ((x6_3).toNat * 4)) = some (.string ((rd_T33 l0 x6_3).f0)) ∧ w'.cell? ⟨(ad529.add ((x6_3).toNat * 4)).block, (ad529.add ((x6_3).toNat * 4)).off + 1, none⟩ = some (.int .i64 ((rd_T33 l0 x6_3).f1.f0)) ∧ w'.cell? ⟨(ad529.add ((x6_3).toNat * 4)).block, (ad529.add ((x6_3).toNat * 4)).off + 2, none⟩ = some (.int .i64 ((rd_T33 l0 x6_3).f1.f1)) ∧ w'.cell? ⟨(ad529.add ((x6_3).toNat * 4)).block, (ad529.add ((x6_3).toNat * 4)).off + 3, none⟩ = some (.slice A529_3 ((rd_T33 l0 x6_3).f2).length c529_3)) (ds := []) #[false, false, false, false, false, false, false, false, false, false, false, false, false] (by kernel_rfl) rfl rfl ⟨(zC BK523.out 0).trans rfl, (zC BK523.out 1).trans rfl, (zC BK523.out 2).trans rfl, (zC BK523.out 3).trans rfl, (zC BK523.out 4).trans rfl, (zC BK523.out 5).trans rfl, ((HB.out.cell (World.block_lt_of_cell? w _ hw529_0)).trans hw529_0), ((HB.out.cell (World.block_lt_of_cell? w _ hw529_1)).trans hw529_1), ((HB.out.cell (World.block_lt_of_cell? w _ hw529_2)).trans hw529_2), ((HB.out.cell (World.block_lt_of_cell? w _ hw529_3)).trans hw529_3), ((HB.out.cell (World.block_lt_of_cell? w _ hw531_0)).trans hw531_0), ((HB.out.cell (World.block_lt_of_cell? w _ hw531_1)).trans hw531_1), ((HB.out.cell (World.block_lt_of_cell? w _ hw531_2)).trans hw531_2), ((HB.out.cell (World.block_lt_of_cell? w _ hw531_3)).trans hw531_3)⟩ (fun hHeld => ?_); refine with_tabW gangsawlaw14_BoringChecks.tab13 gangsawlaw14_BoringChecks.bits13 (fun HT_ HW_ => ?_)
                generalize wc.drew = w25 at BK523 HB HR529_3 HR531_3 hx529_0 hx529_1 hx529_2 hx529_3 hx531_0 hx531_1 hx531_2 hx531_3 hHeld ⊢
                refine pure_ (i := 0) (N := some 44) (v := ?_) (a' := ?_) #[true, false, false, false, false, false, false, false, false, false, false, false, false] rfl rfl (any_of HT_.out (by kernel_rfl)) (fun _ _ _ h => h) (Or.inl ⟨by rfl, ?_⟩) ?_ ?_
                rotate_left
                ·intro w'
                 go_simp
                 with_reducible rfl
                rotate_left
                ·simp only [Act.put, sA, sZ, sS, i64_w, i32_w]
                 rfl
                refine pure_ (i := 1) (N := some 45) (v := ?_) (a' := ?_) #[true, true, false, false, false, false, false, false, false, false, false, false, false] rfl rfl (any_of HT_.out (by kernel_rfl)) (fun _ _ _ h => h) (Or.inl ⟨by rfl, ?_⟩) ?_ ?_
                rotate_left
                ·intro w'
                 go_simp
                 with_reducible rfl
                rotate_left
                ·simp only [Act.put, sA, sZ, sS, i64_w, i32_w]
                 rfl
                refine pure_ (i := 2) (N := some 46) (v := ?_) (a' := ?_) #[true, true, true, false, false, false, false, false, false, false, false, false, false] rfl rfl (any_of HT_.out (by kernel_rfl)) (fun _ _ _ h => h) (Or.inl ⟨by rfl, ?_⟩) ?_ ?_
                rotate_left
                ·intro w'
                 go_simp
                 with_reducible rfl
                rotate_left
                ·simp only [Act.put, sA, sZ, sS, i64_w, i32_w]
                 rfl
                refine pure_ (i := 6) (N := some 50) (v := ?_) (a' := ?_) #[true, true, true, false, false, false, true, false, false, false, false, false, false] rfl rfl (any_of HT_.out (by kernel_rfl)) (fun _ _ _ h => h) (Or.inl ⟨by rfl, ?_⟩) ?_ ?_
                rotate_left
                ·intro w'
                 go_simp
                 with_reducible rfl
                rotate_left
                ·simp only [Act.put, sA, sZ, sS, i64_w, i32_w]
                 rfl
                refine pure_ (i := 7) (N := some 51) (v := ?_) (a' := ?_) #[true, true, true, false, false, false, true, true, false, false, false, false, false] rfl rfl (any_of HT_.out (by kernel_rfl)) (fun _ _ _ h => h) (Or.inl ⟨by rfl, ?_⟩) ?_ ?_
                rotate_left
                ·intro w'
                 go_simp
                 with_reducible rfl
                rotate_left
                ·simp only [Act.put, sA, sZ, sS, i64_w, i32_w]
                 rfl
                refine pure_ (i := 8) (N := some 52) (v := ?_) (a' := ?_) #[true, true, true, false, false, false, true, true, true, false, false, false, false] rfl rfl (any_of HT_.out (by kernel_rfl)) (fun _ _ _ h => h) (Or.inl ⟨by rfl, ?_⟩) ?_ ?_
                rotate_left
                ·intro w'
                 go_simp
                 with_reducible rfl
                rotate_left
                ·simp only [Act.put, sA, sZ, sS, i64_w, i32_w]
                 rfl
                refine take_ (i := 3) (N := some 47) (v := ?_) (a' := ?_) #[true, true, true, true, false, false, true, true, true, false, false, false, false] rfl rfl (take_ofW HT_.out HW_.out (by kernel_rfl)) (fun _ _ _ h => h) (Or.inl ⟨by rfl, ?_⟩) hHeld ?_ ?_
                rotate_left
                ·rintro w' ⟨s0, s1, s2, s3, s4, s5, s6, s7, s8, s9, s10, s11, s12, s13⟩
                 go_simp
                 with_reducible rfl
                rotate_left
                ·simp only [Act.put, sA, sZ, sS, i64_w, i32_w]
                 rfl
                refine take_ (i := 4) (N := some 48) (v := ?_) (a' := ?_) #[true, true, true, true, true, false, true, true, true, false, false, false, false] rfl rfl (take_ofW HT_.out HW_.out (by kernel_rfl)) (fun _ _ _ h => h) (Or.inl ⟨by rfl, ?_⟩) hHeld ?_ ?_
                rotate_left
                ·rintro w' ⟨s0, s1, s2, s3, s4, s5, s6, s7, s8, s9, s10, s11, s12, s13⟩
                 go_simp
                 with_reducible rfl
                rotate_left
                ·simp only [Act.put, sA, sZ, sS, i64_w, i32_w]
                 rfl
                refine take_ (i := 9) (N := some 53) (v := ?_) (a' := ?_) #[true, true, true, true, true, false, true, true, true, true, false, false, false] rfl rfl (take_ofW HT_.out HW_.out (by kernel_rfl)) (fun _ _ _ h => h) (Or.inl ⟨by rfl, ?_⟩) hHeld ?_ ?_
                rotate_left
                ·rintro w' ⟨s0, s1, s2, s3, s4, s5, s6, s7, s8, s9, s10, s11, s12, s13⟩
                 go_simp
                 with_reducible rfl
                rotate_left
                ·simp only [Act.put, sA, sZ, sS, i64_w, i32_w]
                 rfl
                refine take_ (i := 10) (N := some 54) (v := ?_) (a' := ?_) #[true, true, true, true, true, false, true, true, true, true, true, false, false] rfl rfl (take_ofW HT_.out HW_.out (by kernel_rfl)) (fun _ _ _ h => h) (Or.inl ⟨by rfl, ?_⟩) hHeld ?_ ?_
                rotate_left
                ·rintro w' ⟨s0, s1, s2, s3, s4, s5, s6, s7, s8, s9, s10, s11, s12, s13⟩
                 go_simp
                 with_reducible rfl
                rotate_left
                ·simp only [Act.put, sA, sZ, sS, i64_w, i32_w]
                 rfl
                refine one_ (i := 5) (N := some 49) #[true, true, true, true, true, true, true, true, true, true, true, false, false] rfl rfl (one_of HT_.out (by kernel_rfl)) (by decide) (fun K hK => ?_)
                refine goes_ Tryz.func13 (by kernel_rfl) rfl #[.agg #[.string ((rd_T33 l0 x6_3).f0), .int .i64 ((rd_T33 l0 x6_3).f1.f0), .int .i64 ((rd_T33 l0 x6_3).f1.f1), .slice A529_3 ((rd_T33 l0 x6_3).f2).length c529_3], .agg #[.int .i64 a1_0, .int .i64 a1_1, .int .i64 a1_2, .int .i64 a1_3, .int .i64 a1_4, .int .i64 a1_5]] (by rfl) rfl rfl (by (try simp only [List.map_toArray, List.map_cons, List.map_nil]); first | done | rfl | (simp only [List.length_drop, List.length_take]; rfl)) ?_
                with_reducible refine (boring_Check.calls ((rd_T33 l0 x6_3).f0) ((rd_T33 l0 x6_3).f1.f0) ((rd_T33 l0 x6_3).f1.f1) _ _ ((rd_T33 l0 x6_3).f2) a1_0 a1_1 a1_2 a1_3 a1_4 a1_5 t530 _ ?side1 ?side2 A22.out).mono ?_
                (case side1 => repeat (first | exact (Kd.C_below HR529_3.out HB.out) | (with_reducible refine Kd.C_alloc ?_ _) | (with_reducible refine Kd.C_drewN ?_ _) | (with_reducible refine Kd.C_drew ?_)))
                (case side2 => exact HC529_3.out)
                rintro e w26 ⟨rfl, hb⟩
                refine ⟨_, rfl, ?_⟩
                have n0_ := zG BK523 hb (fun h => by (with_reducible repeat (first | refine zN ?_ _ | refine zD ?_ | refine zA ?_ _)); exact h)
                have n1_ := aK (yT (by repeat (first | (with_reducible first | exact HB.out | apply yA | apply yN | apply yD | refine yS ?_ GE523.out) | exact HB.out)) hb)
                clear BK523
                clear HB
                have BK523 := n0_
                have HB := n1_
                clear n0_ n1_
                (try clear hb)
                (try clear hb2)
                (try clear hk)
                (try clear hi)
                refine hK.out _ _ ⟨(zC BK523.out 0).trans rfl, (zC BK523.out 1).trans rfl, (zC BK523.out 2).trans rfl, (zC BK523.out 3).trans rfl, (zC BK523.out 4).trans rfl, (zC BK523.out 5).trans rfl, ((HB.out.cell (World.block_lt_of_cell? w _ hw529_0)).trans hw529_0), ((HB.out.cell (World.block_lt_of_cell? w _ hw529_1)).trans hw529_1), ((HB.out.cell (World.block_lt_of_cell? w _ hw529_2)).trans hw529_2), ((HB.out.cell (World.block_lt_of_cell? w _ hw529_3)).trans hw529_3), ((HB.out.cell (World.block_lt_of_cell? w _ hw531_0)).trans hw531_0), ((HB.out.cell (World.block_lt_of_cell? w _ hw531_1)).trans hw531_1), ((HB.out.cell (World.block_lt_of_cell? w _ hw531_2)).trans hw531_2), ((HB.out.cell (World.block_lt_of_cell? w _ hw531_3)).trans hw531_3)⟩ (fun hHeld => ?_)
                clear hK K
                refine norm_ (a' := ?_) ?_ ?_
                rotate_left
                ·show Act.put _ (some 49) _ = _
                 simp only [Act.put, sA, sZ, sS, i64_w, i32_w]
                 rfl
                refine one_ (i := 11) (N := some 55) #[true, true, true, true, true, true, true, true, true, true, true, true, false] rfl rfl (one_of HT_.out (by kernel_rfl)) (by decide) (fun K hK => ?_)
                refine goes_ Tryz.func14 (by kernel_rfl) rfl #[.agg #[.string ((rd_T33 l0 x6_3).f0), .int .i64 ((rd_T33 l0 x6_3).f1.f0), .int .i64 ((rd_T33 l0 x6_3).f1.f1), .slice A529_3 ((rd_T33 l0 x6_3).f2).length c529_3], .agg #[.int .i64 a1_0, .int .i64 a1_1, .int .i64 a1_2, .int .i64 a1_3, .int .i64 a1_4, .int .i64 a1_5]] (by rfl) rfl rfl (by (try simp only [List.map_toArray, List.map_cons, List.map_nil]); first | done | rfl | (simp only [List.length_drop, List.length_take]; rfl)) ?_
                with_reducible refine (gangsawref14_Check.calls kj16 ((rd_T33 l0 x6_3).f0) ((rd_T33 l0 x6_3).f1.f0) ((rd_T33 l0 x6_3).f1.f1) (fun k_ => k_ < w.heap.size) _ _ ((rd_T33 l0 x6_3).f2) a1_0 a1_1 a1_2 a1_3 a1_4 a1_5 t532 _ ?side1 A23.out).mono ?_
                (case side1 => exact Kd.V_mk HC531_3.out (Kd.F_below (Kd.C_F k48_heap HR531_3.out) (by repeat (first | (with_reducible first | exact HB.out | apply yA | apply yN | apply yD | refine yS ?_ GE523.out) | exact HB.out))))
                rintro e w27 ⟨rfl, hb⟩
                refine ⟨_, rfl, ?_⟩
                have n0_ := zG BK523 hb (fun h => by (with_reducible repeat (first | refine zN ?_ _ | refine zD ?_ | refine zA ?_ _)); exact h)
                have n1_ := aK (yT (by repeat (first | (with_reducible first | exact HB.out | apply yA | apply yN | apply yD | refine yS ?_ GE523.out) | exact HB.out)) hb)
                clear BK523
                clear HB
                have BK523 := n0_
                have HB := n1_
                clear n0_ n1_
                (try clear hb)
                (try clear hb2)
                (try clear hk)
                (try clear hi)
                refine hK.out _ _ ⟨(zC BK523.out 0).trans rfl, (zC BK523.out 1).trans rfl, (zC BK523.out 2).trans rfl, (zC BK523.out 3).trans rfl, (zC BK523.out 4).trans rfl, (zC BK523.out 5).trans rfl, ((HB.out.cell (World.block_lt_of_cell? w _ hw529_0)).trans hw529_0), ((HB.out.cell (World.block_lt_of_cell? w _ hw529_1)).trans hw529_1), ((HB.out.cell (World.block_lt_of_cell? w _ hw529_2)).trans hw529_2), ((HB.out.cell (World.block_lt_of_cell? w _ hw529_3)).trans hw529_3), ((HB.out.cell (World.block_lt_of_cell? w _ hw531_0)).trans hw531_0), ((HB.out.cell (World.block_lt_of_cell? w _ hw531_1)).trans hw531_1), ((HB.out.cell (World.block_lt_of_cell? w _ hw531_2)).trans hw531_2), ((HB.out.cell (World.block_lt_of_cell? w _ hw531_3)).trans hw531_3)⟩ (fun hHeld => ?_)
                clear hK K
                refine norm_ (a' := ?_) ?_ ?_
                rotate_left
                ·show Act.put _ (some 55) _ = _
                 simp only [Act.put, sA, sZ, sS, i64_w, i32_w]
                 rfl
                refine pure_ (i := 12) (N := some 56) (v := ?_) (a' := ?_) #[true, true, true, true, true, true, true, true, true, true, true, true, true] rfl rfl (any_of HT_.out (by kernel_rfl)) (fun _ _ _ h => h) (Or.inl ⟨by rfl, ?_⟩) ?_ ?_
                rotate_left
                ·intro w'
                 go_simp
                 with_reducible rfl
                rotate_left
                ·simp only [Act.put, sA, sZ, sS, i64_w, i32_w]
                 rfl
                refine done_ (done_of HT_.out (by kernel_rfl)) ?_
                try go_wp2
                go_roundg kj16
                case measure => have := HJ4.out; have := HK2.out; have := HK3.out; have := HJ16.out; omega
                case rel => exact ⟨(wrap64 (x6_3 + 1)), (by first | rfl | (simp; done) | (simp [*]; done)), H', ⟨by have := HJ4.out; have := HK2.out; have := HK3.out; have := HJ16.out; omega⟩, ⟨by (with_reducible repeat (first | refine zN ?_ _ | refine zD ?_ | refine zA ?_ _)); exact BK523.out⟩, ⟨by repeat (first | (with_reducible first | exact HB.out | apply yA | apply yN | apply yD | refine yS ?_ GE523.out) | exact HB.out)⟩⟩
               ·rw [if_neg c24] at H
                have c24b0 : (t530 == t532) = false := beq_eq_false_iff_ne.mpr c24
                have c24b1 : (t530 != t532) = true := bne_iff_ne.mpr c24
                obtain rfl := Option.some.inj H
                exact absurd hr (by decide)
              ·rw [if_neg c21] at H
               exact absurd H (by simp)
             ·rw [if_neg c20] at H
              exact absurd H (by simp)
            ·replace c19 := Bool.eq_false_iff.mpr c19
             subst c19
             have H1 : ((boring_CheckAll.f kj16 l0 a1_0 a1_1 a1_2 a1_3 a1_4 a1_5).bind fun t527 => ((gangsawref14_CheckAll.f kj16 l0 a1_0 a1_1 a1_2 a1_3 a1_4 a1_5).bind fun t528 => (some (t527 == t528)))) = some r := by rw [if_neg (show ¬ (false = true) by decide)] at H; exact H
             clear H
             have H := H1
             clear H1
             replace H := Option.bind_eq_some_iff.mp H
             obtain ⟨t527, A280, H⟩ := H
             replace H : ((gangsawref14_CheckAll.f kj16 l0 a1_0 a1_1 a1_2 a1_3 a1_4 a1_5).bind fun t528 => (some (t527 == t528))) = some r := H
             have A28 := aK A280
             clear A280
             replace H := Option.bind_eq_some_iff.mp H
             obtain ⟨t528, A290, H⟩ := H
             replace H : (some (t527 == t528)) = some r := H
             have A29 := aK A290
             clear A290
             obtain rfl := Option.some.inj H
             simp only [Option.some.injEq, Prod.mk.injEq] at H
             obtain ⟨rfl⟩ := H
             try go_wp2
             have n0_ := aK (zD BK523.out)
             have n1_ := aK (yD HB.out)
             clear BK523
             clear HB
             have BK523 := n0_
             have HB := n1_
             clear n0_ n1_
             refine start_ (n := 8) (S := fun w' => w'.cell? ⟨gb523, 0, none⟩ = some (.int .i64 a1_0) ∧ w'.cell? ⟨gb523, 1, none⟩ = some (.int .i64 a1_1) ∧ w'.cell? ⟨gb523, 2, none⟩ = some (.int .i64 a1_2) ∧ w'.cell? ⟨gb523, 3, none⟩ = some (.int .i64 a1_3) ∧ w'.cell? ⟨gb523, 4, none⟩ = some (.int .i64 a1_4) ∧ w'.cell? ⟨gb523, 5, none⟩ = some (.int .i64 a1_5)) (ds := []) #[false, false, false, false, false, false, false, false] (by kernel_rfl) rfl rfl ⟨(zC BK523.out 0).trans rfl, (zC BK523.out 1).trans rfl, (zC BK523.out 2).trans rfl, (zC BK523.out 3).trans rfl, (zC BK523.out 4).trans rfl, (zC BK523.out 5).trans rfl⟩ (fun hHeld => ?_); refine with_tabW gangsawlaw14_BoringChecks.tab15 gangsawlaw14_BoringChecks.bits15 (fun HT_ HW_ => ?_)
             generalize wc.drew = w30 at BK523 HB hHeld ⊢
             refine pure_ (i := 0) (N := some 57) (v := ?_) (a' := ?_) #[true, false, false, false, false, false, false, false] rfl rfl (any_of HT_.out (by kernel_rfl)) (fun _ _ _ h => h) (Or.inl ⟨by rfl, ?_⟩) ?_ ?_
             rotate_left
             ·intro w'
              go_simp
              with_reducible rfl
             rotate_left
             ·simp only [Act.put, sA, sZ, sS, i64_w, i32_w]
              rfl
             refine pure_ (i := 3) (N := some 60) (v := ?_) (a' := ?_) #[true, false, false, true, false, false, false, false] rfl rfl (any_of HT_.out (by kernel_rfl)) (fun _ _ _ h => h) (Or.inl ⟨by rfl, ?_⟩) ?_ ?_
             rotate_left
             ·intro w'
              go_simp
              with_reducible rfl
             rotate_left
             ·simp only [Act.put, sA, sZ, sS, i64_w, i32_w]
              rfl
             refine take_ (i := 1) (N := some 58) (v := ?_) (a' := ?_) #[true, true, false, true, false, false, false, false] rfl rfl (take_ofW HT_.out HW_.out (by kernel_rfl)) (fun _ _ _ h => h) (Or.inl ⟨by rfl, ?_⟩) hHeld ?_ ?_
             rotate_left
             ·rintro w' ⟨s0, s1, s2, s3, s4, s5⟩
              go_simp
              with_reducible rfl
             rotate_left
             ·simp only [Act.put, sA, sZ, sS, i64_w, i32_w]
              rfl
             refine take_ (i := 4) (N := some 61) (v := ?_) (a' := ?_) #[true, true, false, true, true, false, false, false] rfl rfl (take_ofW HT_.out HW_.out (by kernel_rfl)) (fun _ _ _ h => h) (Or.inl ⟨by rfl, ?_⟩) hHeld ?_ ?_
             rotate_left
             ·rintro w' ⟨s0, s1, s2, s3, s4, s5⟩
              go_simp
              with_reducible rfl
             rotate_left
             ·simp only [Act.put, sA, sZ, sS, i64_w, i32_w]
              rfl
             refine one_ (i := 2) (N := some 59) #[true, true, true, true, true, false, false, false] rfl rfl (one_of HT_.out (by kernel_rfl)) (by decide) (fun K hK => ?_)
             refine goes_ Tryz.func15 (by kernel_rfl) rfl #[.slice A0 l0.length c0, .agg #[.int .i64 a1_0, .int .i64 a1_1, .int .i64 a1_2, .int .i64 a1_3, .int .i64 a1_4, .int .i64 a1_5]] (by rfl) rfl rfl (by (try simp only [List.map_toArray, List.map_cons, List.map_nil]); first | done | rfl | (simp only [List.length_drop, List.length_take]; rfl)) ?_
             with_reducible refine (boring_CheckAll.calls kj16 _ _ l0 a1_0 a1_1 a1_2 a1_3 a1_4 a1_5 t527 _ ?side1 ?side2 A28.out).mono ?_
             (case side1 => repeat (first | exact (Kd.C_below HR0.out HB.out) | (with_reducible refine Kd.C_alloc ?_ _) | (with_reducible refine Kd.C_drewN ?_ _) | (with_reducible refine Kd.C_drew ?_)))
             (case side2 => exact HC0.out)
             rintro e w31 ⟨rfl, hb⟩
             refine ⟨_, rfl, ?_⟩
             have n0_ := zG BK523 hb (fun h => by (with_reducible repeat (first | refine zN ?_ _ | refine zD ?_ | refine zA ?_ _)); exact h)
             have n1_ := aK (yT (by repeat (first | (with_reducible first | exact HB.out | apply yA | apply yN | apply yD | refine yS ?_ GE523.out) | exact HB.out)) hb)
             clear BK523
             clear HB
             have BK523 := n0_
             have HB := n1_
             clear n0_ n1_
             (try clear hb)
             (try clear hb2)
             (try clear hk)
             (try clear hi)
             refine hK.out _ _ ⟨(zC BK523.out 0).trans rfl, (zC BK523.out 1).trans rfl, (zC BK523.out 2).trans rfl, (zC BK523.out 3).trans rfl, (zC BK523.out 4).trans rfl, (zC BK523.out 5).trans rfl⟩ (fun hHeld => ?_)
             clear hK K
             refine norm_ (a' := ?_) ?_ ?_
             rotate_left
             ·show Act.put _ (some 59) _ = _
              simp only [Act.put, sA, sZ, sS, i64_w, i32_w]
              rfl
             refine one_ (i := 5) (N := some 62) #[true, true, true, true, true, true, false, false] rfl rfl (one_of HT_.out (by kernel_rfl)) (by decide) (fun K hK => ?_)
             refine goes_ Tryz.func16 (by kernel_rfl) rfl #[.slice A0 l0.length c0, .agg #[.int .i64 a1_0, .int .i64 a1_1, .int .i64 a1_2, .int .i64 a1_3, .int .i64 a1_4, .int .i64 a1_5]] (by rfl) rfl rfl (by (try simp only [List.map_toArray, List.map_cons, List.map_nil]); first | done | rfl | (simp only [List.length_drop, List.length_take]; rfl)) ?_
             with_reducible refine (gangsawref14_CheckAll.calls kj16 _ _ l0 a1_0 a1_1 a1_2 a1_3 a1_4 a1_5 t528 _ ?side1 ?side2 A29.out).mono ?_
             (case side1 => repeat (first | exact (Kd.C_below HR0.out HB.out) | (with_reducible refine Kd.C_alloc ?_ _) | (with_reducible refine Kd.C_drewN ?_ _) | (with_reducible refine Kd.C_drew ?_)))
             (case side2 => exact HC0.out)
             rintro e w32 ⟨rfl, hb⟩
             refine ⟨_, rfl, ?_⟩
             have n0_ := zG BK523 hb (fun h => by (with_reducible repeat (first | refine zN ?_ _ | refine zD ?_ | refine zA ?_ _)); exact h)
             have n1_ := aK (yT (by repeat (first | (with_reducible first | exact HB.out | apply yA | apply yN | apply yD | refine yS ?_ GE523.out) | exact HB.out)) hb)
             clear BK523
             clear HB
             have BK523 := n0_
             have HB := n1_
             clear n0_ n1_
             (try clear hb)
             (try clear hb2)
             (try clear hk)
             (try clear hi)
             refine hK.out _ _ ⟨(zC BK523.out 0).trans rfl, (zC BK523.out 1).trans rfl, (zC BK523.out 2).trans rfl, (zC BK523.out 3).trans rfl, (zC BK523.out 4).trans rfl, (zC BK523.out 5).trans rfl⟩ (fun hHeld => ?_)
             clear hK K
             refine norm_ (a' := ?_) ?_ ?_
             rotate_left
             ·show Act.put _ (some 62) _ = _
              simp only [Act.put, sA, sZ, sS, i64_w, i32_w]
              rfl
             refine pure_ (i := 6) (N := some 63) (v := ?_) (a' := ?_) #[true, true, true, true, true, true, true, false] rfl rfl (any_of HT_.out (by kernel_rfl)) (fun _ _ _ h => h) (Or.inl ⟨by rfl, ?_⟩) ?_ ?_
             rotate_left
             ·intro w'
              go_simp
              with_reducible rfl
             rotate_left
             ·simp only [Act.put, sA, sZ, sS, i64_w, i32_w]
              rfl
             refine pure_ (i := 7) (N := some 4) (v := ?_) (a' := ?_) #[true, true, true, true, true, true, true, true] rfl rfl (any_of HT_.out (by kernel_rfl)) (fun _ _ _ h => h) (Or.inl ⟨by rfl, ?_⟩) ?_ ?_
             rotate_left
             ·intro w'
              go_simp
              with_reducible rfl
             rotate_left
             ·simp only [Act.put, sA, sZ, sS, i64_w, i32_w]
              rfl
             refine done_ (done_of HT_.out (by kernel_rfl)) ?_
             try go_wp2
             go_ret
             exact ⟨by first | rfl | (simp [errW_none, errW_some] <;> rfl) | (simp [*, errW_none, errW_some] <;> rfl), by repeat (first | (with_reducible first | exact HB.out | apply yA | apply yN | apply yD | refine yS ?_ GE523.out) | exact HB.out)⟩
 ·replace c4 := Bool.eq_false_iff.mpr c4
  subst c4
  have H1 : (some false) = some r := by rw [if_neg (show ¬ (false = true) by decide)] at H; exact H
  clear H
  have H := H1
  clear H1
  obtain rfl := Option.some.inj H
  exact absurd hr (by decide)

end Go.Proofs.YtfedmcehkpfciaaGreat.P
