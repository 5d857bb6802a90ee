/- What functions of the program return: each contract says so of one function, for every input at which its pure function yields. -/
import Derived.Test.YthkpgjjakdbbfaaPx0
import Derived.Test.YthkpgjjakdbbfaaPx23
import Derived.Test.YthkpgjjakdbbfaaPx26
namespace Go.Proofs.Ythkpgjjakdbbfaa.P
open Go.RowKit Go.Proofs.YthkpgjjakdbbfaaW.PrintWords Go.Proofs.YthkpgjjakdbbfaaW.PrintLast Go.Proofs.YthkpgjjakdbbfaaW.PrintMore
attribute [local go_sem] max2_int min2_int max_two min_two max_three min_three max_four min_four   -- for this text's walks alone
set_option linter.unusedVariables false
set_option linter.unusedSimpArgs false

def gangsawref04_New.j0 : Nat → Int → Int → Bool → Int → Int → Bool → Option (Int × Int × Int)
 | 0, _, _, _, _, _, _ => none
 | k + 1, x540000, x540001, x540002, x541000, x541001, x541002 => (gangsawref04_lowest.f k x540000 x540001 x540002 x541000 x541001 x541002).bind fun bt541 => (some (bt541.1, bt541.2.1, bt541.2.2))
def gangsawref04_New.f (k : Nat) (a0 : Int) (a1 : Int) : Option (Int × Int × Int) := if a1 = 0 then (some (0, 0, 1)) else ((gangsawref04_one.f a0).bind fun bt533 => ((gangsawref04_one.f a1).bind fun bt536 => (gangsawref04_New.j0 k bt533.1 bt533.2.1 (bt533.2.2 != bt536.2.2) bt536.1 bt536.2.1 false)))
end Go.Proofs.Ythkpgjjakdbbfaa.P
