/- What functions of the program return: each contract says so of one function, for every input at which its pure function yields. -/
import Derived.Test.YtpfggghpkdnppaaPx0
import Derived.Test.YtpfggghpkdnppaaPx13
namespace Go.Proofs.Ytpfggghpkdnppaa.P
open Go.RowKit Go.Proofs.YtpfggghpkdnppaaW.PrintWords Go.Proofs.YtpfggghpkdnppaaW.PrintLast Go.Proofs.YtpfggghpkdnppaaW.PrintMore
attribute [local go_sem] max2_int min2_int max_two min_two max_three min_three max_four min_four   -- for this text's walks alone
set_option linter.unusedVariables false
set_option linter.unusedSimpArgs false

mutual
def gangsawref49_Load.l0 : Nat → List (S34) → List (S47) → List Int → Int → Option (List Int)
 | 0, _, _, _, _ => none
 | k + 1, x0, x1, x5, x6 => if x6 < (x1.length : Int) then (gangsawref49_Load.l1 k x0 x1 x5 x6 0) else (some x5)
def gangsawref49_Load.l1 : Nat → List (S34) → List (S47) → List Int → Int → Int → Option (List Int)
 | 0, _, _, _, _, _ => none
 | k + 1, x0, x1, x5, x6, x7 => if 0 ≤ x6 then (if x6 < (x1.length : Int) then (if x7 < (((rd_T47 x1 x6).f1).length : Int) then (if 0 ≤ x7 then ((gangsawref49_Who.f k x0 ((rd_T36 ((rd_T47 x1 x6).f1) x7).f0)).bind fun t409 => (if (t409.length : Int) = 1 then (if 0 < (t409.length : Int) then (if 0 ≤ (rd t409 0) then (if (rd t409 0) < (x5.length : Int) then (gangsawref49_Load.l1 k x0 x1 (x5.set ((rd t409 0) : Int).toNat (wrap64 ((rd x5 (rd t409 0)) + ((rd_T36 ((rd_T47 x1 x6).f1) x7).f1)))) x6 (wrap64 (x7 + 1))) else (none)) else (none)) else (none)) else (gangsawref49_Load.l1 k x0 x1 x5 x6 (wrap64 (x7 + 1))))) else (none)) else (gangsawref49_Load.l0 k x0 x1 x5 (wrap64 (x6 + 1)))) else (none)) else (none)
end
end Go.Proofs.Ytpfggghpkdnppaa.P
