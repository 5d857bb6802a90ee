/- What functions of the program return: each contract says so of one function, for every input at which its pure function yields. -/
import Derived.Test.YthkpgjjakdbbfaaPx0
import Derived.Test.YthkpgjjakdbbfaaPx14
import Derived.Test.YthkpgjjakdbbfaaPx16
namespace Go.Proofs.Ythkpgjjakdbbfaa.P
open Go.RowKit Go.Proofs.YthkpgjjakdbbfaaW.PrintWords Go.Proofs.YthkpgjjakdbbfaaW.PrintLast Go.Proofs.YthkpgjjakdbbfaaW.PrintMore
attribute [local go_sem] max2_int min2_int max_two min_two max_three min_three max_four min_four   -- for this text's walks alone
set_option linter.unusedVariables false
set_option linter.unusedSimpArgs false

def gangsawref33_strengths.l0 : Nat → List (S51) → List Int → Int → Option (List Int)
 | 0, _, _, _ => none
 | k + 1, x0, x3, x4 => if x4 < (x0.length : Int) then (if 0 ≤ x4 then (if x3.length < 17592186044416 then (gangsawref33_strengths.l0 k x0 (x3 ++ [(rd_T51 x0 x4).f1]) (wrap64 (x4 + 1))) else (none)) else (none)) else ((gangsawref33_sorted.f k x3).bind fun t309 => (some t309))
def gangsawref33_absorptions.l0 : Nat → List (S51) → List Int → Int → Option (List Int)
 | 0, _, _, _ => none
 | k + 1, x0, x3, x4 => if x4 < (x0.length : Int) then (if 0 ≤ x4 then (if x3.length < 17592186044416 then (gangsawref33_absorptions.l0 k x0 (x3 ++ [(rd_T51 x0 x4).f2]) (wrap64 (x4 + 1))) else (none)) else (none)) else ((gangsawref33_sorted.f k x3).bind fun t324 => (some t324))
end Go.Proofs.Ythkpgjjakdbbfaa.P
