/- What functions of the program return: each contract says so of one function, for every input at which its pure function yields. -/
import Derived.Test.YtfedmcehkpfciaaGreatPx0
import Derived.Test.YtfedmcehkpfciaaGreatPx8
namespace Go.Proofs.YtfedmcehkpfciaaGreat.P
open Go.RowKit Go.Proofs.YtfedmcehkpfciaaGreatW.PrintWords Go.Proofs.YtfedmcehkpfciaaGreatW.PrintLast Go.Proofs.YtfedmcehkpfciaaGreatW.PrintMore
attribute [local go_sem] max2_int min2_int max_two min_two max_three min_three max_four min_four   -- for this text's walks alone
set_option linter.unusedVariables false
set_option linter.unusedSimpArgs false

def gangsawref14_named.l0 : Nat → Int → ByteArray → Int → Int → List (S48) → Option (Int)
 | 0, _, _, _, _, _ => none
 | k + 1, x3, x187000, x187001, x187002, x187003 => if x3 < (x187003.length : Int) then (if 0 ≤ x3 then (if ((rd_T48 x187003 x3).f0) ≥ ((rd_T48 x187003 x3).f1) then (some 1) else (if ((rd_T48 x187003 x3).f2) = 1 then (gangsawref14_named.l0 k (wrap64 (x3 + 1)) x187000 x187001 x187002 x187003) else (if ((rd_T48 x187003 x3).f2) = 2 then (gangsawref14_named.l0 k (wrap64 (x3 + 1)) x187000 x187001 x187002 x187003) else (some 1)))) else (none)) else (some 0)
def gangsawref14_named.f (k : Nat) (a0_0 : ByteArray) (a0_1 : Int) (a0_2 : Int) (l0_3 : List (S48)) : Option (Int) := (gangsawref09_Name.f k a0_0).bind fun t187 => (if t187 = true then (if (l0_3.length : Int) > 64 then (some 7) else (gangsawref14_named.l0 k 0 a0_0 a0_1 a0_2 l0_3)) else (some 4))
theorem gangsawref14_named.mono_l : ∀ k, (∀ y0 y1 y2 y3 y4, LeO (gangsawref14_named.l0 k y0 y1 y2 y3 y4) (gangsawref14_named.l0 (k + 1) y0 y1 y2 y3 y4))
 | 0 => fun _ _ _ _ _ r h => by simp [gangsawref14_named.l0] at h
 | k + 1 => by
  have ih0 := gangsawref14_named.mono_l k
  ·intro y0 y1 y2 y3 y4
   unfold gangsawref14_named.l0
   repeat' first
   | (with_reducible exact ih0 _ _ _ _ _)
   | (with_reducible exact gangsawref09_Name.mono _ _)
   | (with_reducible refine contains3.mono2 (fun x_ => ?_))
   | (with_reducible refine contains33.mono2 (fun x_ => ?_))
   | (with_reducible refine contains48.mono2 (fun x_ => ?_))
   | (with_reducible refine contains9.mono2 (fun x_ => ?_))
   | (with_reducible refine index3.mono2 (fun x_ => ?_))
   | (with_reducible refine index33.mono2 (fun x_ => ?_))
   | (with_reducible refine index48.mono2 (fun x_ => ?_))
   | (with_reducible refine index9.mono2 (fun x_ => ?_))
   | (with_reducible exact LeO.refl _)
   | (with_reducible exact LeO.none _)
   | (with_reducible refine LeO.ite ?_ ?_)
   | (with_reducible refine LeO.bind ?_ (fun _ => ?_))
   | exact ih0 _ _ _ _ _
   | exact gangsawref09_Name.mono _ _
   | exact LeO.none _
   | refine LeO.ite ?_ ?_
   | refine LeO.bind ?_ (fun _ => ?_)
theorem gangsawref14_named.mono : ∀ a0 a1 a2 a3 k, LeO (gangsawref14_named.f k a0 a1 a2 a3) (gangsawref14_named.f (k + 1) a0 a1 a2 a3) := by
 intro a0 a1 a2 a3 k
 have ih0 := gangsawref14_named.mono_l k
 unfold gangsawref14_named.f
 repeat' first
   | (with_reducible exact ih0 _ _ _ _ _)
   | (with_reducible exact gangsawref09_Name.mono _ _)
   | (with_reducible refine contains3.mono2 (fun x_ => ?_))
   | (with_reducible refine contains33.mono2 (fun x_ => ?_))
   | (with_reducible refine contains48.mono2 (fun x_ => ?_))
   | (with_reducible refine contains9.mono2 (fun x_ => ?_))
   | (with_reducible refine index3.mono2 (fun x_ => ?_))
   | (with_reducible refine index33.mono2 (fun x_ => ?_))
   | (with_reducible refine index48.mono2 (fun x_ => ?_))
   | (with_reducible refine index9.mono2 (fun x_ => ?_))
   | (with_reducible exact LeO.refl _)
   | (with_reducible exact LeO.none _)
   | (with_reducible refine LeO.ite ?_ ?_)
   | (with_reducible refine LeO.bind ?_ (fun _ => ?_))
   | exact ih0 _ _ _ _ _
   | exact gangsawref09_Name.mono _ _
   | exact LeO.none _
   | refine LeO.ite ?_ ?_
   | refine LeO.bind ?_ (fun _ => ?_)
end Go.Proofs.YtfedmcehkpfciaaGreat.P
