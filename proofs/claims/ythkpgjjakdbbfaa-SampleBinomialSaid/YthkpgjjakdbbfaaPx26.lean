/- What functions of the program return: each contract says so of one function, for every input at which its pure function yields. -/
import Derived.Test.YthkpgjjakdbbfaaPx0
import Derived.Test.YthkpgjjakdbbfaaPx24
import Derived.Test.YthkpgjjakdbbfaaPx25
namespace Go.Proofs.Ythkpgjjakdbbfaa.P
open Go.RowKit Go.Proofs.YthkpgjjakdbbfaaW.PrintWords Go.Proofs.YthkpgjjakdbbfaaW.PrintLast Go.Proofs.YthkpgjjakdbbfaaW.PrintMore
attribute [local go_sem] max2_int min2_int max_two min_two max_three min_three max_four min_four   -- for this text's walks alone
set_option linter.unusedVariables false
set_option linter.unusedSimpArgs false

def gangsawref04_lowest.j0 : Nat → Bool → Int → Int → Bool → Int → Int → Bool → Int → Int → Bool → Option (Int × Int × Int)
 | 0, _, _, _, _, _, _, _, _, _, _ => none
 | k + 1, x48, x509000, x509001, x509002, x522000, x522001, x522002, x530000, x530001, x530002 => if x48 = true then (some (0, 0, 6)) else (if x509002 = true then (some (wrap64 (-(wrap64 (x522001))), wrap64 (x530001), 0)) else (some (wrap64 (x522001), wrap64 (x530001), 0)))
def gangsawref04_lowest.f (k : Nat) (a0_0 : Int) (a0_1 : Int) (a0_2 : Bool) (a1_0 : Int) (a1_1 : Int) (a1_2 : Bool) : Option (Int × Int × Int) := (gangsawref04_common.f k a1_0 a1_1 a1_2 a0_0 a0_1 false).bind fun bt511 => ((gangsawref04_divide.f k a0_0 a0_1 a0_2 bt511.1 bt511.2.1 bt511.2.2).bind fun bt515 => ((gangsawref04_divide.f k a1_0 a1_1 a1_2 bt511.1 bt511.2.1 bt511.2.2).bind fun bt523 => (if bt515.1 > 0 then (gangsawref04_lowest.j0 k true a0_0 a0_1 a0_2 bt515.1 bt515.2.1 bt515.2.2.1 bt523.1 bt523.2.1 bt523.2.2.1) else (if bt515.2.1 ≥ 1000000000000000000 then (gangsawref04_lowest.j0 k true a0_0 a0_1 a0_2 bt515.1 bt515.2.1 bt515.2.2.1 bt523.1 bt523.2.1 bt523.2.2.1) else (if bt523.1 > 0 then (gangsawref04_lowest.j0 k true a0_0 a0_1 a0_2 bt515.1 bt515.2.1 bt515.2.2.1 bt523.1 bt523.2.1 bt523.2.2.1) else (gangsawref04_lowest.j0 k (decide (bt523.2.1 ≥ 1000000000000000000)) a0_0 a0_1 a0_2 bt515.1 bt515.2.1 bt515.2.2.1 bt523.1 bt523.2.1 bt523.2.2.1))))))
end Go.Proofs.Ythkpgjjakdbbfaa.P
