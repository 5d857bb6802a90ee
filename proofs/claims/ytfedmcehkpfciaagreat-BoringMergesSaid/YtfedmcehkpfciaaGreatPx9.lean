/- What functions of the program return: each contract says so of one function, for every input at which its pure function yields. -/
import Derived.Test.YtfedmcehkpfciaaGreatPx0
import Derived.Test.YtfedmcehkpfciaaGreatPx8
namespace Go.Proofs.YtfedmcehkpfciaaGreat.P
open Go.RowKit Go.Proofs.YtfedmcehkpfciaaGreatW.PrintWords Go.Proofs.YtfedmcehkpfciaaGreatW.PrintLast Go.Proofs.YtfedmcehkpfciaaGreatW.PrintMore
attribute [local go_sem] max2_int min2_int max_two min_two max_three min_three max_four min_four   -- for this text's walks alone
set_option linter.unusedVariables false
set_option linter.unusedSimpArgs false

def gangsawref14_part.l0 : Nat → Int → ByteArray → Int → Int → List (S48) → Option (Bool)
 | 0, _, _, _, _, _ => none
 | k + 1, x5, x131000, x131001, x131002, x131003 => if x5 < (x131003.length : Int) then (if 0 ≤ x5 then (if ((rd_T48 x131003 x5).f0) ≥ ((rd_T48 x131003 x5).f1) then (some true) else (if ((rd_T48 x131003 x5).f2) = 1 then (gangsawref14_part.l0 k (wrap64 (x5 + 1)) x131000 x131001 x131002 x131003) else (if ((rd_T48 x131003 x5).f2) = 2 then (gangsawref14_part.l0 k (wrap64 (x5 + 1)) x131000 x131001 x131002 x131003) else (some true)))) else (none)) else (some false)
def gangsawref14_part.f (k : Nat) (a0_0 : ByteArray) (a0_1 : Int) (a0_2 : Int) (l0_3 : List (S48)) (a1 : Int) : Option (Bool) := if a1 = 4 then ((gangsawref09_Name.f k a0_0).bind fun t131 => (some (!t131))) else (if a1 = 7 then (some (decide ((l0_3.length : Int) > 64))) else (gangsawref14_part.l0 k 0 a0_0 a0_1 a0_2 l0_3))
theorem gangsawref14_part.mono_l : ∀ k, (∀ y0 y1 y2 y3 y4, LeO (gangsawref14_part.l0 k y0 y1 y2 y3 y4) (gangsawref14_part.l0 (k + 1) y0 y1 y2 y3 y4))
 | 0 => fun _ _ _ _ _ r h => by simp [gangsawref14_part.l0] at h
 | k + 1 => by
  have ih0 := gangsawref14_part.mono_l k
  ·intro y0 y1 y2 y3 y4
   unfold gangsawref14_part.l0
   repeat' first
   | (with_reducible exact ih0 _ _ _ _ _)
   | (with_reducible exact gangsawref09_Name.mono _ _)
   | (with_reducible exact LeO.refl _)
   | (with_reducible exact LeO.none _)
   | (with_reducible refine LeO.ite ?_ ?_)
   | (with_reducible refine LeO.bind ?_ (fun _ => ?_))
   | exact ih0 _ _ _ _ _
   | exact gangsawref09_Name.mono _ _
   | exact LeO.none _
   | refine LeO.ite ?_ ?_
   | refine LeO.bind ?_ (fun _ => ?_)
theorem gangsawref14_part.mono : ∀ a0 a1 a2 a3 a4 k, LeO (gangsawref14_part.f k a0 a1 a2 a3 a4) (gangsawref14_part.f (k + 1) a0 a1 a2 a3 a4) := by
 intro a0 a1 a2 a3 a4 k
 have ih0 := gangsawref14_part.mono_l k
 unfold gangsawref14_part.f
 repeat' first
   | (with_reducible exact ih0 _ _ _ _ _)
   | (with_reducible exact gangsawref09_Name.mono _ _)
   | (with_reducible exact LeO.refl _)
   | (with_reducible exact LeO.none _)
   | (with_reducible refine LeO.ite ?_ ?_)
   | (with_reducible refine LeO.bind ?_ (fun _ => ?_))
   | exact ih0 _ _ _ _ _
   | exact gangsawref09_Name.mono _ _
   | exact LeO.none _
   | refine LeO.ite ?_ ?_
   | refine LeO.bind ?_ (fun _ => ?_)
end Go.Proofs.YtfedmcehkpfciaaGreat.P
