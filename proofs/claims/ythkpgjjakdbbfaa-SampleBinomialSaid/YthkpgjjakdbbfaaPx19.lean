/- What functions of the program return: each contract says so of one function, for every input at which its pure function yields. -/
import Derived.Test.YthkpgjjakdbbfaaPx0
import Derived.Test.YthkpgjjakdbbfaaPx2
import Derived.Test.YthkpgjjakdbbfaaPx3
import Derived.Test.YthkpgjjakdbbfaaSort
namespace Go.Proofs.Ythkpgjjakdbbfaa.P
open Go.RowKit Go.Proofs.YthkpgjjakdbbfaaW.PrintWords Go.Proofs.YthkpgjjakdbbfaaW.PrintLast Go.Proofs.YthkpgjjakdbbfaaW.PrintMore
attribute [local go_sem] max2_int min2_int max_two min_two max_three min_three max_four min_four   -- for this text's walks alone
set_option linter.unusedVariables false
set_option linter.unusedSimpArgs false

open Go.Proofs.Ythkpgjjakdbbfaa.Sort
def sample_Outliers.l0 : Nat → Int → Int → List ByteArray → List (S51) → Int → Int → Option (List ByteArray × Int)
 | 0, _, _, _, _, _, _ => none
 | k + 1, x7, x8, x9, x38, x39, x40 => if x40 < x39 then (if 0 ≤ x40 then (if x40 < (x38.length : Int) then (if (wrap64 (2 * ((rd_T51 x38 x40).f1))) < (wrap64 ((wrap64 (2 * x7)) - (wrap64 (3 * (wrap64 (x8 - x7)))))) then (if x9.length < 8796093022208 then (sample_Outliers.l0 k x7 x8 (x9 ++ [(rd_T51 x38 x40).f0]) x38 x39 (wrap64 (x40 + 1))) else (none)) else (sample_Outliers.l0 k x7 x8 x9 x38 x39 (wrap64 (x40 + 1)))) else (none)) else (none)) else ((slices_Sort_string.f x9).bind fun t359 => (some (t359, 0)))
def sample_Outliers.f (k : Nat) (l0 : List (S51)) : Option (List ByteArray × Int) := (sample_Check.f k l0).bind fun t348 => (if t348 = 0 then (if (l0.length : Int) < 4 then (some (([] : List ByteArray), 9)) else ((sample_sorted.f k l0 (fun x_ => sample_strength.f x_.f0 x_.f1 x_.f2)).bind fun t349 => (if 0 ≤ (wrap64 ((wrap64 (Int.tdiv (wrap64 ((l0.length : Int) + 3)) 4)) - 1)) then (if (wrap64 ((wrap64 (Int.tdiv (wrap64 ((l0.length : Int) + 3)) 4)) - 1)) < (t349.length : Int) then (if 0 ≤ (wrap64 ((wrap64 (Int.tdiv (wrap64 ((wrap64 (3 * (l0.length : Int))) + 3)) 4)) - 1)) then (if (wrap64 ((wrap64 (Int.tdiv (wrap64 ((wrap64 (3 * (l0.length : Int))) + 3)) 4)) - 1)) < (t349.length : Int) then (sample_Outliers.l0 k (rd t349 (wrap64 ((wrap64 (Int.tdiv (wrap64 ((l0.length : Int) + 3)) 4)) - 1))) (rd t349 (wrap64 ((wrap64 (Int.tdiv (wrap64 ((wrap64 (3 * (l0.length : Int))) + 3)) 4)) - 1))) ([] : List ByteArray) l0 (l0.length : Int) 0) else (none)) else (none)) else (none)) else (none)))) else (some (([] : List ByteArray), t348)))
def gangsawref33_Same.l0 : Nat → List ByteArray → List ByteArray → Int → Option (Bool)
 | 0, _, _, _ => none
 | k + 1, x0, x1, x5 => if x5 < (x0.length : Int) then (if 0 ≤ x5 then (if x5 < (x1.length : Int) then (if (rdOf ByteArray.empty x0 x5).toList = (rdOf ByteArray.empty x1 x5).toList then (gangsawref33_Same.l0 k x0 x1 (wrap64 (x5 + 1))) else (some false)) else (none)) else (none)) else (some true)
def gangsawref33_Same.f (k : Nat) (l0 : List ByteArray) (l1 : List ByteArray) : Option (Bool) := if (l0.length : Int) = (l1.length : Int) then (gangsawref33_Same.l0 k l0 l1 0) else (some false)
end Go.Proofs.Ythkpgjjakdbbfaa.P
