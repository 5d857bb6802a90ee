/- What functions of the program return: each contract says so of one function, for every input at which its pure function yields. -/
import Derived.Test.YthkpgjjakdbbfaaPx0
import Derived.Test.YthkpgjjakdbbfaaPx1
import Derived.Test.YthkpgjjakdbbfaaPx7
import Derived.Test.YthkpgjjakdbbfaaPx12
import Derived.Test.YthkpgjjakdbbfaaPx28
namespace Go.Proofs.Ythkpgjjakdbbfaa.P
open Go.RowKit Go.Proofs.YthkpgjjakdbbfaaW.PrintWords Go.Proofs.YthkpgjjakdbbfaaW.PrintLast Go.Proofs.YthkpgjjakdbbfaaW.PrintMore
attribute [local go_sem] max2_int min2_int max_two min_two max_three min_three max_four min_four   -- for this text's walks alone
set_option linter.unusedVariables false
set_option linter.unusedSimpArgs false

attribute [local go_sem high] eqA33
def gangsawlaw33_SampleConfidences.f (k : Nat) (a0 : Int) (a1 : Int) (a2_0 : Int) (a2_1 : Int) : Option (Bool) := (gangsawlaw33_awake_N.f).bind fun t565 => (if t565 = true then ((sample_Confidence.f k a0 a1 a2_0 a2_1).bind fun bt566 => ((gangsawref33_Confidence.f k a0 a1 a2_0 a2_1).bind fun bt570 => (if (bt566.1 == bt570.1 && (bt566.2.1 == bt570.2.1)) = true then (some (bt566.2.2 == bt570.2.2)) else (some false)))) else (some false))
def gangsawref04_minus.f (a0_0 : Int) (a0_1 : Int) (a0_2 : Bool) : Option (Int × Int × Bool) := some (a0_0, a0_1, !a0_2)
end Go.Proofs.Ythkpgjjakdbbfaa.P
