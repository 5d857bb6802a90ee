/- What functions of the program return: each contract says so of one function, for every input at which its pure function yields. -/
import Derived.Test.YthkpgjjakdbbfaaPx0
import Derived.Test.YthkpgjjakdbbfaaPx13
namespace Go.Proofs.Ythkpgjjakdbbfaa.P
open Go.RowKit Go.Proofs.YthkpgjjakdbbfaaW.PrintWords Go.Proofs.YthkpgjjakdbbfaaW.PrintLast Go.Proofs.YthkpgjjakdbbfaaW.PrintMore
attribute [local go_sem] max2_int min2_int max_two min_two max_three min_three max_four min_four   -- for this text's walks alone
set_option linter.unusedVariables false
set_option linter.unusedSimpArgs false

mutual
def gangsawref33_Check.l0 : Nat → List (S51) → Int → Option (Int)
 | 0, _, _ => none
 | k + 1, x0, x3 => if x3 < (x0.length : Int) then (if 0 ≤ x3 then ((gangsawref09_Name.f k ((rd_T51 x0 x3).f0)).bind fun t236 => (if t236 = true then (gangsawref33_Check.l0 k x0 (wrap64 (x3 + 1))) else (some 4))) else (none)) else (gangsawref33_Check.l1 k x0 0)
def gangsawref33_Check.l1 : Nat → List (S51) → Int → Option (Int)
 | 0, _, _ => none
 | k + 1, x0, x4 => if x4 < (x0.length : Int) then (if 0 ≤ x4 then (if ((rd_T51 x0 x4).f1) < 0 then (some 6) else (if ((rd_T51 x0 x4).f1) > 1000000 then (some 6) else (if ((rd_T51 x0 x4).f2) < 0 then (some 6) else (if ((rd_T51 x0 x4).f2) > 1000000 then (some 6) else (gangsawref33_Check.l1 k x0 (wrap64 (x4 + 1))))))) else (none)) else (gangsawref33_Check.l2 k x0 0)
def gangsawref33_Check.l2 : Nat → List (S51) → Int → Option (Int)
 | 0, _, _ => none
 | k + 1, x0, x5 => if x5 < (x0.length : Int) then (gangsawref33_Check.l3 k x0 x5 0) else (some 0)
def gangsawref33_Check.l3 : Nat → List (S51) → Int → Int → Option (Int)
 | 0, _, _, _ => none
 | k + 1, x0, x5, x6 => if x6 < x5 then (if 0 ≤ x5 then (if x5 < (x0.length : Int) then (if 0 ≤ x6 then (if x6 < (x0.length : Int) then (if ((rd_T51 x0 x5).f0).toList = ((rd_T51 x0 x6).f0).toList then (some 5) else (gangsawref33_Check.l3 k x0 x5 (wrap64 (x6 + 1)))) else (none)) else (none)) else (none)) else (none)) else (gangsawref33_Check.l2 k x0 (wrap64 (x5 + 1)))
end
def gangsawref33_Check.f (k : Nat) (l0 : List (S51)) : Option (Int) := if (l0.length : Int) > 256 then (some 7) else (gangsawref33_Check.l0 k l0 0)
end Go.Proofs.Ythkpgjjakdbbfaa.P
