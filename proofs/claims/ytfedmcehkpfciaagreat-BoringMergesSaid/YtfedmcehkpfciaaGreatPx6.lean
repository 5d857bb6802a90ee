/- What functions of the program return: each contract says so of one function, for every input at which its pure function yields. -/
import Derived.Test.YtfedmcehkpfciaaGreatPx0
import Derived.Test.YtfedmcehkpfciaaGreatPx5
namespace Go.Proofs.YtfedmcehkpfciaaGreat.P
open Go.RowKit Go.Proofs.YtfedmcehkpfciaaGreatW.PrintWords Go.Proofs.YtfedmcehkpfciaaGreatW.PrintLast Go.Proofs.YtfedmcehkpfciaaGreatW.PrintMore
attribute [local go_sem] max2_int min2_int max_two min_two max_three min_three max_four min_four   -- for this text's walks alone
set_option linter.unusedVariables false
set_option linter.unusedSimpArgs false

mutual
def gangsawref06_Check.l0 : Nat → Int → Int → Int → Int → Int → Int → Int → Option (Int)
 | 0, _, _, _, _, _, _, _ => none
 | k + 1, x3, x118000, x118001, x118002, x118003, x118004, x118005 => if x3 < 3 then ((gangsawref06_At.f x118000 x118001 x118002 x3).bind fun t118 => ((gangsawref06_At.f x118003 x118004 x118005 x3).bind fun t119 => (if t118 < (-1000000) then (some 6) else (if t118 > 1000000 then (some 6) else (if t119 < (-1000000) then (some 6) else (if t119 > 1000000 then (some 6) else (gangsawref06_Check.l0 k (wrap64 (x3 + 1)) x118000 x118001 x118002 x118003 x118004 x118005))))))) else (gangsawref06_Check.l1 k 0 x118000 x118001 x118002 x118003 x118004 x118005)
def gangsawref06_Check.l1 : Nat → Int → Int → Int → Int → Int → Int → Int → Option (Int)
 | 0, _, _, _, _, _, _, _ => none
 | k + 1, x6, x118000, x118001, x118002, x118003, x118004, x118005 => if x6 < 3 then ((gangsawref06_At.f x118000 x118001 x118002 x6).bind fun t120 => ((gangsawref06_At.f x118003 x118004 x118005 x6).bind fun t121 => (if t120 ≥ t121 then (some 1) else (gangsawref06_Check.l1 k (wrap64 (x6 + 1)) x118000 x118001 x118002 x118003 x118004 x118005)))) else (some 0)
end
def gangsawref06_Check.f (k : Nat) (a0_0 : Int) (a0_1 : Int) (a0_2 : Int) (a0_3 : Int) (a0_4 : Int) (a0_5 : Int) : Option (Int) := gangsawref06_Check.l0 k 0 a0_0 a0_1 a0_2 a0_3 a0_4 a0_5
theorem gangsawref06_Check.mono_l : ∀ k, (∀ y0 y1 y2 y3 y4 y5 y6, LeO (gangsawref06_Check.l0 k y0 y1 y2 y3 y4 y5 y6) (gangsawref06_Check.l0 (k + 1) y0 y1 y2 y3 y4 y5 y6)) ∧ (∀ y0 y1 y2 y3 y4 y5 y6, LeO (gangsawref06_Check.l1 k y0 y1 y2 y3 y4 y5 y6) (gangsawref06_Check.l1 (k + 1) y0 y1 y2 y3 y4 y5 y6))
 | 0 => ⟨fun _ _ _ _ _ _ _ r h => by simp [gangsawref06_Check.l0] at h, fun _ _ _ _ _ _ _ r h => by simp [gangsawref06_Check.l1] at h⟩
 | k + 1 => by
  obtain ⟨ih0, ih1⟩ := gangsawref06_Check.mono_l k
  refine ⟨?_, ?_⟩
  ·intro y0 y1 y2 y3 y4 y5 y6
   unfold gangsawref06_Check.l0
   repeat' first
   | (with_reducible exact ih0 _ _ _ _ _ _ _)
   | (with_reducible exact ih1 _ _ _ _ _ _ _)
   | (with_reducible exact LeO.refl _)
   | (with_reducible exact LeO.none _)
   | (with_reducible refine LeO.ite ?_ ?_)
   | (with_reducible refine LeO.bind ?_ (fun _ => ?_))
   | exact ih0 _ _ _ _ _ _ _
   | exact ih1 _ _ _ _ _ _ _
   | exact LeO.none _
   | refine LeO.ite ?_ ?_
   | refine LeO.bind ?_ (fun _ => ?_)
  ·intro y0 y1 y2 y3 y4 y5 y6
   unfold gangsawref06_Check.l1
   repeat' first
   | (with_reducible exact ih0 _ _ _ _ _ _ _)
   | (with_reducible exact ih1 _ _ _ _ _ _ _)
   | (with_reducible exact LeO.refl _)
   | (with_reducible exact LeO.none _)
   | (with_reducible refine LeO.ite ?_ ?_)
   | (with_reducible refine LeO.bind ?_ (fun _ => ?_))
   | exact ih0 _ _ _ _ _ _ _
   | exact ih1 _ _ _ _ _ _ _
   | exact LeO.none _
   | refine LeO.ite ?_ ?_
   | refine LeO.bind ?_ (fun _ => ?_)
theorem gangsawref06_Check.mono : ∀ a0 a1 a2 a3 a4 a5 k, LeO (gangsawref06_Check.f k a0 a1 a2 a3 a4 a5) (gangsawref06_Check.f (k + 1) a0 a1 a2 a3 a4 a5) := by
 intro a0 a1 a2 a3 a4 a5 k
 obtain ⟨ih0, ih1⟩ := gangsawref06_Check.mono_l k
 unfold gangsawref06_Check.f
 repeat' first
   | (with_reducible exact ih0 _ _ _ _ _ _ _)
   | (with_reducible exact ih1 _ _ _ _ _ _ _)
   | (with_reducible exact LeO.refl _)
   | (with_reducible exact LeO.none _)
   | (with_reducible refine LeO.ite ?_ ?_)
   | (with_reducible refine LeO.bind ?_ (fun _ => ?_))
   | exact ih0 _ _ _ _ _ _ _
   | exact ih1 _ _ _ _ _ _ _
   | exact LeO.none _
   | refine LeO.ite ?_ ?_
   | refine LeO.bind ?_ (fun _ => ?_)
end Go.Proofs.YtfedmcehkpfciaaGreat.P
