/- What functions of the program return: each contract says so of one function, for every input at which its pure function yields. -/
import Derived.Test.YtfedmcehkpfciaaGreatPx0
namespace Go.Proofs.YtfedmcehkpfciaaGreat.P
open Go.RowKit Go.Proofs.YtfedmcehkpfciaaGreatW.PrintWords Go.Proofs.YtfedmcehkpfciaaGreatW.PrintLast Go.Proofs.YtfedmcehkpfciaaGreatW.PrintMore
attribute [local go_sem] max2_int min2_int max_two min_two max_three min_three max_four min_four   -- for this text's walks alone
set_option linter.unusedVariables false
set_option linter.unusedSimpArgs false

def gangsawref14_stacked.l0 : Nat → Int → ByteArray → Int → Int → List (S48) → Option (Bool)
 | 0, _, _, _, _, _ => none
 | k + 1, x3, x123000, x123001, x123002, x123003 => if x3 < (x123003.length : Int) then (if 0 ≤ x3 then (if 0 ≤ (wrap64 (x3 - 1)) then (if (wrap64 (x3 - 1)) < (x123003.length : Int) then (if ((rd_T48 x123003 x3).f0) < ((rd_T48 x123003 (wrap64 (x3 - 1))).f1) then (some false) else (gangsawref14_stacked.l0 k (wrap64 (x3 + 1)) x123000 x123001 x123002 x123003)) else (none)) else (none)) else (none)) else (some true)
def gangsawref14_stacked.f (k : Nat) (a0_0 : ByteArray) (a0_1 : Int) (a0_2 : Int) (l0_3 : List (S48)) : Option (Bool) := gangsawref14_stacked.l0 k 1 a0_0 a0_1 a0_2 l0_3
theorem gangsawref14_stacked.mono_l : ∀ k, (∀ y0 y1 y2 y3 y4, LeO (gangsawref14_stacked.l0 k y0 y1 y2 y3 y4) (gangsawref14_stacked.l0 (k + 1) y0 y1 y2 y3 y4))
 | 0 => fun _ _ _ _ _ r h => by simp [gangsawref14_stacked.l0] at h
 | k + 1 => by
  have ih0 := gangsawref14_stacked.mono_l k
  ·intro y0 y1 y2 y3 y4
   unfold gangsawref14_stacked.l0
   repeat' first
   | (with_reducible exact ih0 _ _ _ _ _)
   | (with_reducible refine contains3.mono2 (fun x_ => ?_))
   | (with_reducible refine contains33.mono2 (fun x_ => ?_))
   | (with_reducible refine contains48.mono2 (fun x_ => ?_))
   | (with_reducible refine contains9.mono2 (fun x_ => ?_))
   | (with_reducible refine index3.mono2 (fun x_ => ?_))
   | (with_reducible refine index33.mono2 (fun x_ => ?_))
   | (with_reducible refine index48.mono2 (fun x_ => ?_))
   | (with_reducible refine index9.mono2 (fun x_ => ?_))
   | (with_reducible exact LeO.refl _)
   | (with_reducible exact LeO.none _)
   | (with_reducible refine LeO.ite ?_ ?_)
   | (with_reducible refine LeO.bind ?_ (fun _ => ?_))
   | exact ih0 _ _ _ _ _
   | exact LeO.none _
   | refine LeO.ite ?_ ?_
   | refine LeO.bind ?_ (fun _ => ?_)
theorem gangsawref14_stacked.mono : ∀ a0 a1 a2 a3 k, LeO (gangsawref14_stacked.f k a0 a1 a2 a3) (gangsawref14_stacked.f (k + 1) a0 a1 a2 a3) := by
 intro a0 a1 a2 a3 k
 have ih0 := gangsawref14_stacked.mono_l k
 unfold gangsawref14_stacked.f
 repeat' first
   | (with_reducible exact ih0 _ _ _ _ _)
   | (with_reducible refine contains3.mono2 (fun x_ => ?_))
   | (with_reducible refine contains33.mono2 (fun x_ => ?_))
   | (with_reducible refine contains48.mono2 (fun x_ => ?_))
   | (with_reducible refine contains9.mono2 (fun x_ => ?_))
   | (with_reducible refine index3.mono2 (fun x_ => ?_))
   | (with_reducible refine index33.mono2 (fun x_ => ?_))
   | (with_reducible refine index48.mono2 (fun x_ => ?_))
   | (with_reducible refine index9.mono2 (fun x_ => ?_))
   | (with_reducible exact LeO.refl _)
   | (with_reducible exact LeO.none _)
   | (with_reducible refine LeO.ite ?_ ?_)
   | (with_reducible refine LeO.bind ?_ (fun _ => ?_))
   | exact ih0 _ _ _ _ _
   | exact LeO.none _
   | refine LeO.ite ?_ ?_
   | refine LeO.bind ?_ (fun _ => ?_)
def gangsawref09_letter.f (a0 : Int) : Option (Bool) := if a0 ≥ 97 then (if a0 ≤ 122 then (some true) else (if a0 ≥ 65 then (some (decide (a0 ≤ 90))) else (some false))) else (if a0 ≥ 65 then (some (decide (a0 ≤ 90))) else (some false))
def gangsawref09_digit.f (a0 : Int) : Option (Bool) := if a0 ≥ 48 then (some (decide (a0 ≤ 57))) else (some false)
def gangsawref09_part.f (a0 : Int) : Option (Bool) := (gangsawref09_digit.f a0).bind fun t125 => (if t125 = true then (some true) else ((gangsawref09_letter.f a0).bind fun t126 => (if t126 = true then (some true) else (some (a0 == 95)))))
end Go.Proofs.YtfedmcehkpfciaaGreat.P
