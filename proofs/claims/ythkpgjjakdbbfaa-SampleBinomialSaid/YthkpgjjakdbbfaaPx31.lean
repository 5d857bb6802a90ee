/- What functions of the program return: each contract says so of one function, for every input at which its pure function yields. -/
import Derived.Test.YthkpgjjakdbbfaaPx0
import Derived.Test.YthkpgjjakdbbfaaPx11
import Derived.Test.YthkpgjjakdbbfaaPx12
import Derived.Test.YthkpgjjakdbbfaaPx22
import Derived.Test.YthkpgjjakdbbfaaPx28
import Derived.Test.YthkpgjjakdbbfaaPx30
namespace Go.Proofs.Ythkpgjjakdbbfaa.P
open Go.RowKit Go.Proofs.YthkpgjjakdbbfaaW.PrintWords Go.Proofs.YthkpgjjakdbbfaaW.PrintLast Go.Proofs.YthkpgjjakdbbfaaW.PrintMore
attribute [local go_sem] max2_int min2_int max_two min_two max_three min_three max_four min_four   -- for this text's walks alone
set_option linter.unusedVariables false
set_option linter.unusedSimpArgs false

mutual
def gangsawref33_Least.j0 : Nat → Int → Bool → Int → Int → Int → Int → Option (Int × Int)
 | 0, _, _, _, _, _, _ => none
 | k + 1, x0, x26, x593000, x593001, x594000, x594001 => if x26 = true then (some (0, 1)) else (gangsawref33_Least.l0 k x0 x0 x593000 x593001 x594000 x594001)
def gangsawref33_Least.l0 : Nat → Int → Int → Int → Int → Int → Int → Option (Int × Int)
 | 0, _, _, _, _, _, _ => none
 | k + 1, x0, x8, x593000, x593001, x594000, x594001 => if x8 ≤ 59 then ((gangsawref33_Confidence.f k x8 x0 x593000 x593001).bind fun bt596 => (if bt596.2.2 = 0 then ((gangsawref04_Cmp.f bt596.1 bt596.2.1 x594000 x594001).bind fun t600 => (if t600 ≥ 0 then (some (x8, 0)) else (gangsawref33_Least.l0 k x0 (wrap64 (x8 + 1)) x593000 x593001 x594000 x594001))) else (some (0, 9)))) else (some (0, 9))
end
def gangsawref33_Least.f (k : Nat) (a0 : Int) (a1_0 : Int) (a1_1 : Int) (a2_0 : Int) (a2_1 : Int) : Option (Int × Int) := (gangsawref33_unit.f k a1_0 a1_1).bind fun t594 => (if t594 = true then ((gangsawref33_unit.f k a2_0 a2_1).bind fun t595 => (if t595 = true then (if a0 < 1 then (gangsawref33_Least.j0 k a0 true a1_0 a1_1 a2_0 a2_1) else (gangsawref33_Least.j0 k a0 (decide (a0 > 59)) a1_0 a1_1 a2_0 a2_1)) else (gangsawref33_Least.j0 k a0 true a1_0 a1_1 a2_0 a2_1))) else (gangsawref33_Least.j0 k a0 true a1_0 a1_1 a2_0 a2_1))
def gangsawlaw33_SampleLeast.f (k : Nat) (a0 : Int) (a1_0 : Int) (a1_1 : Int) (a2_0 : Int) (a2_1 : Int) : Option (Bool) := (gangsawlaw33_awake_N.f).bind fun t603 => (if t603 = true then ((sample_Least.f k a0 a1_0 a1_1 a2_0 a2_1).bind fun bt604 => ((gangsawref33_Least.f k a0 a1_0 a1_1 a2_0 a2_1).bind fun bt606 => (if bt604.1 = bt606.1 then (some (bt604.2 == bt606.2)) else (some false)))) else (some false))
end Go.Proofs.Ythkpgjjakdbbfaa.P
