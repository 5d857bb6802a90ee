/- What functions of the program return: each contract says so of one function, for every input at which its pure function yields. -/
import Derived.Test.YthkpgjjakdbbfaaPx0
import Derived.Test.YthkpgjjakdbbfaaPx2
import Derived.Test.YthkpgjjakdbbfaaPx3
import Derived.Test.YthkpgjjakdbbfaaPx14
import Derived.Test.YthkpgjjakdbbfaaPx17
namespace Go.Proofs.Ythkpgjjakdbbfaa.P
open Go.RowKit Go.Proofs.YthkpgjjakdbbfaaW.PrintWords Go.Proofs.YthkpgjjakdbbfaaW.PrintLast Go.Proofs.YthkpgjjakdbbfaaW.PrintMore
attribute [local go_sem] max2_int min2_int max_two min_two max_three min_three max_four min_four   -- for this text's walks alone
set_option linter.unusedVariables false
set_option linter.unusedSimpArgs false

def sample_Median.f (k : Nat) (l0 : List (S51)) : Option (Int × Int × Int) := (sample_Check.f k l0).bind fun t362 => (if t362 = 0 then (if (l0.length : Int) = 0 then (some (0, 0, 9)) else ((sample_sorted.f k l0 (fun x_ => sample_strength.f x_.f0 x_.f1 x_.f2)).bind fun t363 => (if 0 ≤ (wrap64 ((wrap64 (Int.tdiv (wrap64 ((l0.length : Int) + 1)) 2)) - 1)) then (if (wrap64 ((wrap64 (Int.tdiv (wrap64 ((l0.length : Int) + 1)) 2)) - 1)) < (t363.length : Int) then (if 0 ≤ (wrap64 ((l0.length : Int) / 2)) then (if (wrap64 ((l0.length : Int) / 2)) < (t363.length : Int) then (some (rd t363 (wrap64 ((wrap64 (Int.tdiv (wrap64 ((l0.length : Int) + 1)) 2)) - 1)), rd t363 (wrap64 ((l0.length : Int) / 2)), 0)) else (none)) else (none)) else (none)) else (none)))) else (some (0, 0, t362)))
def gangsawref33_Median.f (k : Nat) (l0 : List (S51)) : Option (Int × Int × Int) := (gangsawref33_Check.f k l0).bind fun t368 => (if t368 = 0 then (if (l0.length : Int) = 0 then (some (0, 0, 9)) else ((gangsawref33_strengths.f k l0).bind fun t369 => (if 0 ≤ (wrap64 ((wrap64 (Int.tdiv (wrap64 ((l0.length : Int) + 1)) 2)) - 1)) then (if (wrap64 ((wrap64 (Int.tdiv (wrap64 ((l0.length : Int) + 1)) 2)) - 1)) < (t369.length : Int) then (if 0 ≤ (wrap64 ((l0.length : Int) / 2)) then (if (wrap64 ((l0.length : Int) / 2)) < (t369.length : Int) then (some (rd t369 (wrap64 ((wrap64 (Int.tdiv (wrap64 ((l0.length : Int) + 1)) 2)) - 1)), rd t369 (wrap64 ((l0.length : Int) / 2)), 0)) else (none)) else (none)) else (none)) else (none)))) else (some (0, 0, t368)))
end Go.Proofs.Ythkpgjjakdbbfaa.P
