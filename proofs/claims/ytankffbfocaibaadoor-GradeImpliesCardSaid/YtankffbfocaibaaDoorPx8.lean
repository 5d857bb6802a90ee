/- What functions of the program return: each contract says so of one function, for every input at which its pure function yields. -/
import Derived.Test.YtankffbfocaibaaDoorPx0
import Derived.Test.YtankffbfocaibaaDoorPx7
namespace Go.Proofs.YtankffbfocaibaaDoor.P
open Go.RowKit Go.Proofs.YtankffbfocaibaaDoorW.PrintWords Go.Proofs.YtankffbfocaibaaDoorW.PrintLast Go.Proofs.YtankffbfocaibaaDoorW.PrintMore
attribute [local go_sem] max2_int min2_int max_two min_two max_three min_three max_four min_four   -- for this text's walks alone
set_option linter.unusedVariables false
set_option linter.unusedSimpArgs false

def grade_meets.f (k : Nat) (a0_0 : ByteArray) (a0_1 : Int) (a0_2 : Int) (a0_3 : Int) (l1 : List (S46)) : Option (Bool) := if (l1.length : Int) ≥ a0_1 then ((grade_count.f k l1 (fun x_ => grade_meets_1.f x_.f0 x_.f1 x_.f2 a0_0 a0_1 a0_2 a0_3)).bind fun t196 => (if t196 < a0_1 then ((grade_count.f k l1 (fun x_ => grade_meets_2.f x_.f0 x_.f1 x_.f2 a0_0 a0_1 a0_2 a0_3)).bind fun t197 => (some (decide (t197 < a0_1)))) else (some false))) else (some false)
theorem grade_meets.mono : ∀ a0 a1 a2 a3 a4 k, LeO (grade_meets.f k a0 a1 a2 a3 a4) (grade_meets.f (k + 1) a0 a1 a2 a3 a4) := by
 intro a0 a1 a2 a3 a4 k
 unfold grade_meets.f
 repeat' first
   | (with_reducible exact grade_count.mono _ _ _)
   | (with_reducible refine contains32.mono2 (fun x_ => ?_))
   | (with_reducible refine contains46.mono2 (fun x_ => ?_))
   | (with_reducible refine index32.mono2 (fun x_ => ?_))
   | (with_reducible refine index46.mono2 (fun x_ => ?_))
   | (with_reducible exact LeO.refl _)
   | (with_reducible exact LeO.none _)
   | (with_reducible refine LeO.ite ?_ ?_)
   | (with_reducible refine LeO.bind ?_ (fun _ => ?_))
   | exact grade_count.mono _ _ _
   | exact LeO.none _
   | refine LeO.ite ?_ ?_
   | refine LeO.bind ?_ (fun _ => ?_)
end Go.Proofs.YtankffbfocaibaaDoor.P
