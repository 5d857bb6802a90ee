/- What functions of the program return: each contract says so of one function, for every input at which its pure function yields. -/
import Derived.Test.YtfedmcehkpfciaaGreatPx0
import Derived.Test.YtfedmcehkpfciaaGreatPx6
import Derived.Test.YtfedmcehkpfciaaGreatPx11
import Derived.Test.YtfedmcehkpfciaaGreatHof
namespace Go.Proofs.YtfedmcehkpfciaaGreat.P
open Go.RowKit Go.Proofs.YtfedmcehkpfciaaGreatW.PrintWords Go.Proofs.YtfedmcehkpfciaaGreatW.PrintLast Go.Proofs.YtfedmcehkpfciaaGreatW.PrintMore
attribute [local go_sem] max2_int min2_int max_two min_two max_three min_three max_four min_four   -- for this text's walks alone
set_option linter.unusedVariables false
set_option linter.unusedSimpArgs false

open Go.Proofs.YtfedmcehkpfciaaGreat.Hof
def gangsawref14_Check.f (k : Nat) (a0_0 : ByteArray) (a0_1 : Int) (a0_2 : Int) (l0_3 : List (S48)) (a1_0 : Int) (a1_1 : Int) (a1_2 : Int) (a1_3 : Int) (a1_4 : Int) (a1_5 : Int) : Option (Int) := (gangsawref06_Check.f k a1_0 a1_1 a1_2 a1_3 a1_4 a1_5).bind fun t152 => (if t152 = 0 then ((gangsawref14_all.f k (([(⟨a0_0, (⟨a0_1, a0_2⟩ : S30), l0_3⟩ : S33)] : List (S33))) a1_0 a1_1 a1_2 a1_3 a1_4 a1_5).bind fun t156 => (some t156)) else (some t152))
theorem gangsawref14_Check.mono : ∀ a0 a1 a2 a3 a4 a5 a6 a7 a8 a9 k, LeO (gangsawref14_Check.f k a0 a1 a2 a3 a4 a5 a6 a7 a8 a9) (gangsawref14_Check.f (k + 1) a0 a1 a2 a3 a4 a5 a6 a7 a8 a9) := by
 intro a0 a1 a2 a3 a4 a5 a6 a7 a8 a9 k
 unfold gangsawref14_Check.f
 repeat' first
   | (with_reducible exact gangsawref06_Check.mono _ _ _ _ _ _ _)
   | (with_reducible exact gangsawref14_all.mono _ _ _ _ _ _ _ _)
   | (with_reducible exact LeO.refl _)
   | (with_reducible exact LeO.none _)
   | (with_reducible refine LeO.ite ?_ ?_)
   | (with_reducible refine LeO.bind ?_ (fun _ => ?_))
   | exact gangsawref06_Check.mono _ _ _ _ _ _ _
   | exact gangsawref14_all.mono _ _ _ _ _ _ _ _
   | exact LeO.none _
   | refine LeO.ite ?_ ?_
   | refine LeO.bind ?_ (fun _ => ?_)
def boring_CheckAll_1.f (a0_0 : ByteArray) (a0_1 : Int) (a0_2 : Int) (l0_3 : List (S48)) (a1_0 : ByteArray) (a1_1 : Int) (a1_2 : Int) (l1_3 : List (S48)) : Option (Bool) := some (a0_0.toList == a1_0.toList)
mutual
def gangsawref14_CheckAll.l0 : Nat → List (S33) → Int → Option (Int)
 | 0, _, _ => none
 | k + 1, x0, x7 => if x7 < (x0.length : Int) then (gangsawref14_CheckAll.l1 k x0 x7 0) else (some 0)
def gangsawref14_CheckAll.l1 : Nat → List (S33) → Int → Int → Option (Int)
 | 0, _, _, _ => none
 | k + 1, x0, x7, x8 => if x8 < x7 then (if 0 ≤ x7 then (if x7 < (x0.length : Int) then (if 0 ≤ x8 then (if x8 < (x0.length : Int) then (if ((rd_T33 x0 x7).f0).toList = ((rd_T33 x0 x8).f0).toList then (some 5) else (gangsawref14_CheckAll.l1 k x0 x7 (wrap64 (x8 + 1)))) else (none)) else (none)) else (none)) else (none)) else (gangsawref14_CheckAll.l0 k x0 (wrap64 (x7 + 1)))
end
def gangsawref14_CheckAll.f (k : Nat) (l0 : List (S33)) (a1_0 : Int) (a1_1 : Int) (a1_2 : Int) (a1_3 : Int) (a1_4 : Int) (a1_5 : Int) : Option (Int) := if (l0.length : Int) > 64 then (some 7) else ((gangsawref06_Check.f k a1_0 a1_1 a1_2 a1_3 a1_4 a1_5).bind fun t159 => (if t159 = 0 then ((gangsawref14_all.f k l0 a1_0 a1_1 a1_2 a1_3 a1_4 a1_5).bind fun t160 => (if t160 = 0 then (gangsawref14_CheckAll.l0 k l0 0) else (some t160))) else (some t159)))
theorem gangsawref14_CheckAll.mono_l : ∀ k, (∀ y0 y1, LeO (gangsawref14_CheckAll.l0 k y0 y1) (gangsawref14_CheckAll.l0 (k + 1) y0 y1)) ∧ (∀ y0 y1 y2, LeO (gangsawref14_CheckAll.l1 k y0 y1 y2) (gangsawref14_CheckAll.l1 (k + 1) y0 y1 y2))
 | 0 => ⟨fun _ _ r h => by simp [gangsawref14_CheckAll.l0] at h, fun _ _ _ r h => by simp [gangsawref14_CheckAll.l1] at h⟩
 | k + 1 => by
  obtain ⟨ih0, ih1⟩ := gangsawref14_CheckAll.mono_l k
  refine ⟨?_, ?_⟩
  ·intro y0 y1
   unfold gangsawref14_CheckAll.l0
   repeat' first
   | (with_reducible exact ih0 _ _)
   | (with_reducible exact ih1 _ _ _)
   | (with_reducible exact gangsawref06_Check.mono _ _ _ _ _ _ _)
   | (with_reducible exact gangsawref14_all.mono _ _ _ _ _ _ _ _)
   | (with_reducible exact LeO.refl _)
   | (with_reducible exact LeO.none _)
   | (with_reducible refine LeO.ite ?_ ?_)
   | (with_reducible refine LeO.bind ?_ (fun _ => ?_))
   | exact ih0 _ _
   | exact ih1 _ _ _
   | exact gangsawref06_Check.mono _ _ _ _ _ _ _
   | exact gangsawref14_all.mono _ _ _ _ _ _ _ _
   | exact LeO.none _
   | refine LeO.ite ?_ ?_
   | refine LeO.bind ?_ (fun _ => ?_)
  ·intro y0 y1 y2
   unfold gangsawref14_CheckAll.l1
   repeat' first
   | (with_reducible exact ih0 _ _)
   | (with_reducible exact ih1 _ _ _)
   | (with_reducible exact gangsawref06_Check.mono _ _ _ _ _ _ _)
   | (with_reducible exact gangsawref14_all.mono _ _ _ _ _ _ _ _)
   | (with_reducible exact LeO.refl _)
   | (with_reducible exact LeO.none _)
   | (with_reducible refine LeO.ite ?_ ?_)
   | (with_reducible refine LeO.bind ?_ (fun _ => ?_))
   | exact ih0 _ _
   | exact ih1 _ _ _
   | exact gangsawref06_Check.mono _ _ _ _ _ _ _
   | exact gangsawref14_all.mono _ _ _ _ _ _ _ _
   | exact LeO.none _
   | refine LeO.ite ?_ ?_
   | refine LeO.bind ?_ (fun _ => ?_)
theorem gangsawref14_CheckAll.mono : ∀ a0 a1 a2 a3 a4 a5 a6 k, LeO (gangsawref14_CheckAll.f k a0 a1 a2 a3 a4 a5 a6) (gangsawref14_CheckAll.f (k + 1) a0 a1 a2 a3 a4 a5 a6) := by
 intro a0 a1 a2 a3 a4 a5 a6 k
 obtain ⟨ih0, ih1⟩ := gangsawref14_CheckAll.mono_l k
 unfold gangsawref14_CheckAll.f
 repeat' first
   | (with_reducible exact ih0 _ _)
   | (with_reducible exact ih1 _ _ _)
   | (with_reducible exact gangsawref06_Check.mono _ _ _ _ _ _ _)
   | (with_reducible exact gangsawref14_all.mono _ _ _ _ _ _ _ _)
   | (with_reducible exact LeO.refl _)
   | (with_reducible exact LeO.none _)
   | (with_reducible refine LeO.ite ?_ ?_)
   | (with_reducible refine LeO.bind ?_ (fun _ => ?_))
   | exact ih0 _ _
   | exact ih1 _ _ _
   | exact gangsawref06_Check.mono _ _ _ _ _ _ _
   | exact gangsawref14_all.mono _ _ _ _ _ _ _ _
   | exact LeO.none _
   | refine LeO.ite ?_ ?_
   | refine LeO.bind ?_ (fun _ => ?_)
end Go.Proofs.YtfedmcehkpfciaaGreat.P
