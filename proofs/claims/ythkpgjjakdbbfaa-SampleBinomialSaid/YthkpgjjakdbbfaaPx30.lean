/- What functions of the program return: each contract says so of one function, for every input at which its pure function yields. -/
import Derived.Test.YthkpgjjakdbbfaaPx0
import Derived.Test.YthkpgjjakdbbfaaPx23
import Derived.Test.YthkpgjjakdbbfaaPx29
namespace Go.Proofs.Ythkpgjjakdbbfaa.P
open Go.RowKit Go.Proofs.YthkpgjjakdbbfaaW.PrintWords Go.Proofs.YthkpgjjakdbbfaaW.PrintLast Go.Proofs.YthkpgjjakdbbfaaW.PrintMore
attribute [local go_sem] max2_int min2_int max_two min_two max_three min_three max_four min_four   -- for this text's walks alone
set_option linter.unusedVariables false
set_option linter.unusedSimpArgs false

def gangsawref04_Cmp.f (a0_0 : Int) (a0_1 : Int) (a1_0 : Int) (a1_1 : Int) : Option (Int) := (gangsawref04_times.f a0_0 a1_1).bind fun bt578 => ((gangsawref04_times.f a1_0 a0_1).bind fun bt581 => ((gangsawref04_minus.f bt581.1 bt581.2.1 bt581.2.2).bind fun bt584 => ((gangsawref04_plus.f bt578.1 bt578.2.1 bt578.2.2 bt584.1 bt584.2.1 bt584.2.2).bind fun bt587 => ((gangsawref04_wide_zero.f bt587.1 bt587.2.1 bt587.2.2).bind fun t591 => (if t591 = true then (some 0) else (if bt587.2.2 = true then (some (-1)) else (some 1)))))))
end Go.Proofs.Ythkpgjjakdbbfaa.P
