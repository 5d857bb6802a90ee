/- What functions of the program return: each contract says so of one function, for every input at which its pure function yields. -/
import Derived.Test.YthkpgjjakdbbfaaPx0
import Derived.Test.YthkpgjjakdbbfaaPx23
import Derived.Test.YthkpgjjakdbbfaaPx24
namespace Go.Proofs.Ythkpgjjakdbbfaa.P
open Go.RowKit Go.Proofs.YthkpgjjakdbbfaaW.PrintWords Go.Proofs.YthkpgjjakdbbfaaW.PrintLast Go.Proofs.YthkpgjjakdbbfaaW.PrintMore
attribute [local go_sem] max2_int min2_int max_two min_two max_three min_three max_four min_four   -- for this text's walks alone
set_option linter.unusedVariables false
set_option linter.unusedSimpArgs false

def gangsawref04_common.l0 : Nat → Int → Int → Bool → Int → Int → Bool → Option (Int × Int × Bool)
 | 0, _, _, _, _, _, _ => none
 | k + 1, x497000, x497001, x497002, x498000, x498001, x498002 => (gangsawref04_wide_zero.f x498000 x498001 x498002).bind fun t499 => (if t499 = true then (some (x497000, x497001, false)) else ((gangsawref04_divide.f k x497000 x497001 x497002 x498000 x498001 x498002).bind fun bt500 => (gangsawref04_common.l0 k x498000 x498001 x498002 bt500.2.2.2.1 bt500.2.2.2.2.1 bt500.2.2.2.2.2)))
def gangsawref04_common.f (k : Nat) (a0_0 : Int) (a0_1 : Int) (a0_2 : Bool) (a1_0 : Int) (a1_1 : Int) (a1_2 : Bool) : Option (Int × Int × Bool) := gangsawref04_common.l0 k a0_0 a0_1 a0_2 a1_0 a1_1 a1_2
end Go.Proofs.Ythkpgjjakdbbfaa.P
