/- What functions of the program return: each contract says so of one function, for every input at which its pure function yields. -/
import Derived.Test.YthkpgjjakdbbfaaPx0
import Derived.Test.YthkpgjjakdbbfaaPx12
import Derived.Test.YthkpgjjakdbbfaaPx19
import Derived.Test.YthkpgjjakdbbfaaPx20
import Derived.Test.YthkpgjjakdbbfaaPx21
namespace Go.Proofs.Ythkpgjjakdbbfaa.P
open Go.RowKit Go.Proofs.YthkpgjjakdbbfaaW.PrintWords Go.Proofs.YthkpgjjakdbbfaaW.PrintLast Go.Proofs.YthkpgjjakdbbfaaW.PrintMore
attribute [local go_sem] max2_int min2_int max_two min_two max_three min_three max_four min_four   -- for this text's walks alone
set_option linter.unusedVariables false
set_option linter.unusedSimpArgs false

def gangsawlaw33_SampleMiddles.f (k : Nat) (l0 : List (S51)) : Option (Bool) := (gangsawlaw33_awake_N.f).bind fun t434 => (if t434 = true then ((gangsawref33_Few.f k l0).bind fun t435 => (if t435 = true then ((sample_Median.f k l0).bind fun bt436 => ((sample_Outliers.f k l0).bind fun bt439 => ((gangsawref33_Median.f k l0).bind fun bt443 => ((gangsawref33_Outliers.f k l0).bind fun bt446 => (if bt436.1 = bt443.1 then (if bt436.2.1 = bt443.2.1 then (if bt436.2.2 = bt443.2.2 then ((gangsawref33_Same.f k bt439.1 bt446.1).bind fun t450 => (if t450 = true then (some (bt439.2 == bt446.2)) else (some false))) else (some false)) else (some false)) else (some false)))))) else (some true))) else (some false))
def gangsawref04_gcd.l0 : Nat → Int → Int → Option (Int)
 | 0, _, _ => none
 | k + 1, x0, x1 => if x1 = 0 then (some x0) else (gangsawref04_gcd.l0 k x1 (Int.tmod x0 x1))
def gangsawref04_gcd.f (k : Nat) (a0 : Int) (a1 : Int) : Option (Int) := gangsawref04_gcd.l0 k a0 a1
def gangsawref04_size.f (a0 : Int) : Option (Int) := if a0 < 0 then (some (IntKind.u64.wrap (-(IntKind.u64.wrap (a0))))) else (some (IntKind.u64.wrap (a0)))
def gangsawref04_Valid.f (k : Nat) (a0_0 : Int) (a0_1 : Int) : Option (Bool) := if a0_1 ≥ 1 then (if a0_1 < 1000000000000000000 then (if a0_0 > (-1000000000000000000) then (if a0_0 < 1000000000000000000 then ((gangsawref04_size.f a0_0).bind fun t452 => ((gangsawref04_gcd.f k t452 (IntKind.u64.wrap (a0_1))).bind fun t453 => (some (t453 == 1)))) else (some false)) else (some false)) else (some false)) else (some false)
def gangsawref33_unit.f (k : Nat) (a0_0 : Int) (a0_1 : Int) : Option (Bool) := (gangsawref04_Valid.f k a0_0 a0_1).bind fun t455 => (if t455 = true then (if a0_0 ≥ 0 then (some (decide (a0_0 ≤ a0_1))) else (some false)) else (some false))
end Go.Proofs.Ythkpgjjakdbbfaa.P
