/- What functions of the program return: each contract says so of one function, for every input at which its pure function yields. -/
import Derived.Test.YtpfggghpkdnppaaPx0
import Derived.Test.YtpfggghpkdnppaaPx16
import Derived.Test.YtpfggghpkdnppaaPx17
namespace Go.Proofs.Ytpfggghpkdnppaa.P
open Go.RowKit Go.Proofs.YtpfggghpkdnppaaW.PrintWords Go.Proofs.YtpfggghpkdnppaaW.PrintLast Go.Proofs.YtpfggghpkdnppaaW.PrintMore
attribute [local go_sem] max2_int min2_int max_two min_two max_three min_three max_four min_four   -- for this text's walks alone
set_option linter.unusedVariables false
set_option linter.unusedSimpArgs false

mutual
def gangsawref49_each.l0 : Nat → List (S34) → List (S47) → Bool → Int → Option (Int)
 | 0, _, _, _, _ => none
 | k + 1, x0, x1, x2, x7 => if x7 < (x1.length : Int) then (if 0 ≤ x7 then (if (((rd_T47 x1 x7).f1).length : Int) > 16 then (some 7) else (gangsawref49_each.l0 k x0 x1 x2 (wrap64 (x7 + 1)))) else (none)) else (gangsawref49_each.l1 k x0 x1 x2 0)
def gangsawref49_each.l1 : Nat → List (S34) → List (S47) → Bool → Int → Option (Int)
 | 0, _, _, _, _ => none
 | k + 1, x0, x1, x2, x8 => if x8 < (x1.length : Int) then (if 0 ≤ x8 then (if (((rd_T47 x1 x8).f1).length : Int) = 0 then (some 1) else (gangsawref49_each.l1 k x0 x1 x2 (wrap64 (x8 + 1)))) else (none)) else (gangsawref49_each.l2 k x0 x1 x2 0)
def gangsawref49_each.l2 : Nat → List (S34) → List (S47) → Bool → Int → Option (Int)
 | 0, _, _, _, _ => none
 | k + 1, x0, x1, x2, x9 => if x9 < (x1.length : Int) then (if 0 ≤ x9 then ((gangsawref49_unnamed.f k ((rd_T47 x1 x9).f0) ((rd_T47 x1 x9).f1) ((rd_T47 x1 x9).f2) ((rd_T47 x1 x9).f3) ((rd_T47 x1 x9).f4)).bind fun t392 => (if t392 = true then (some 4) else (gangsawref49_each.l2 k x0 x1 x2 (wrap64 (x9 + 1))))) else (none)) else (gangsawref49_each.l3 k x0 x1 x2 0)
def gangsawref49_each.l3 : Nat → List (S34) → List (S47) → Bool → Int → Option (Int)
 | 0, _, _, _, _ => none
 | k + 1, x0, x1, x2, x10 => if x10 < (x1.length : Int) then (if 0 ≤ x10 then ((gangsawref49_job.f k ((rd_T47 x1 x10).f0) ((rd_T47 x1 x10).f1) ((rd_T47 x1 x10).f2) ((rd_T47 x1 x10).f3) ((rd_T47 x1 x10).f4)).bind fun t394 => (if t394 = true then (gangsawref49_each.l3 k x0 x1 x2 (wrap64 (x10 + 1))) else (some 6))) else (none)) else (gangsawref49_each.l4 k x0 x1 x2 1)
def gangsawref49_each.l4 : Nat → List (S34) → List (S47) → Bool → Int → Option (Int)
 | 0, _, _, _, _ => none
 | k + 1, x0, x1, x2, x11 => if x11 < (x1.length : Int) then (gangsawref49_each.j5 k x0 x1 x2 x11 x2) else (gangsawref49_each.j5 k x0 x1 x2 x11 false)
def gangsawref49_each.j5 : Nat → List (S34) → List (S47) → Bool → Int → Bool → Option (Int)
 | 0, _, _, _, _, _ => none
 | k + 1, x0, x1, x2, x11, x67 => if x67 = true then (if 0 ≤ (wrap64 (x11 - 1)) then (if (wrap64 (x11 - 1)) < (x1.length : Int) then (if 0 ≤ x11 then (if x11 < (x1.length : Int) then (if ((Op.bytesLess (((rd_T47 x1 (wrap64 (x11 - 1))).f0).toList) (((rd_T47 x1 x11).f0).toList)) = true) then (gangsawref49_each.l4 k x0 x1 x2 (wrap64 (x11 + 1))) else (some 5)) else (none)) else (none)) else (none)) else (none)) else ((gangsawref49_Works.f k x0 x1).bind fun t397 => (if (t397.length : Int) > 0 then (some 3) else (some 0)))
end
end Go.Proofs.Ytpfggghpkdnppaa.P
