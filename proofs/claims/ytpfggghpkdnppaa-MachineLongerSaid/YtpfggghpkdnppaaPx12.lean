/- What functions of the program return: each contract says so of one function, for every input at which its pure function yields. -/
import Derived.Test.YtpfggghpkdnppaaPx0
import Derived.Test.YtpfggghpkdnppaaPx11
namespace Go.Proofs.Ytpfggghpkdnppaa.P
open Go.RowKit Go.Proofs.YtpfggghpkdnppaaW.PrintWords Go.Proofs.YtpfggghpkdnppaaW.PrintLast Go.Proofs.YtpfggghpkdnppaaW.PrintMore
attribute [local go_sem] max2_int min2_int max_two min_two max_three min_three max_four min_four   -- for this text's walks alone
set_option linter.unusedVariables false
set_option linter.unusedSimpArgs false

mutual
def gangsawref49_Check.l0 : Nat → List (S34) → Int → Option (Int)
 | 0, _, _ => none
 | k + 1, x0, x3 => if x3 < (x0.length : Int) then (if 0 ≤ x3 then ((gangsawref09_Name.f k ((rd_T34 x0 x3).f0)).bind fun t250 => (if t250 = true then ((gangsawref09_Name.f k ((rd_T34 x0 x3).f1)).bind fun t252 => (if t252 = true then (gangsawref49_Check.l0 k x0 (wrap64 (x3 + 1))) else (some 4))) else (some 4))) else (none)) else (gangsawref49_Check.l1 k x0 0)
def gangsawref49_Check.l1 : Nat → List (S34) → Int → Option (Int)
 | 0, _, _ => none
 | k + 1, x0, x4 => if x4 < (x0.length : Int) then (if 0 ≤ x4 then ((gangsawref49_in.f ((rd_T34 x0 x4).f2) 0 100000).bind fun t254 => (if t254 = true then (gangsawref49_Check.l1 k x0 (wrap64 (x4 + 1))) else (some 6))) else (none)) else (gangsawref49_Check.l2 k x0 1)
def gangsawref49_Check.l2 : Nat → List (S34) → Int → Option (Int)
 | 0, _, _ => none
 | k + 1, x0, x5 => if x5 < (x0.length : Int) then (if 0 ≤ (wrap64 (x5 - 1)) then (if (wrap64 (x5 - 1)) < (x0.length : Int) then (if 0 ≤ x5 then (if ((Op.bytesLess (((rd_T34 x0 (wrap64 (x5 - 1))).f0).toList) (((rd_T34 x0 x5).f0).toList)) = true) then (gangsawref49_Check.l2 k x0 (wrap64 (x5 + 1))) else (some 5)) else (none)) else (none)) else (none)) else (some 0)
end
end Go.Proofs.Ytpfggghpkdnppaa.P
