/- What functions of the program return: each contract says so of one function, for every input at which its pure function yields. -/
import Derived.Test.YtpfggghpkdnppaaPx0
import Derived.Test.YtpfggghpkdnppaaPx1
import Derived.Test.YtpfggghpkdnppaaSort
namespace Go.Proofs.Ytpfggghpkdnppaa.P
open Go.RowKit Go.Proofs.YtpfggghpkdnppaaW.PrintWords Go.Proofs.YtpfggghpkdnppaaW.PrintLast Go.Proofs.YtpfggghpkdnppaaW.PrintMore
attribute [local go_sem] max2_int min2_int max_two min_two max_three min_three max_four min_four   -- for this text's walks alone
set_option linter.unusedVariables false
set_option linter.unusedSimpArgs false

open Go.Proofs.Ytpfggghpkdnppaa.Sort
mutual
def machine_Works.l0 : Nat → List (S34) → List ByteArray → List (S47) → Int → Int → Option (List ByteArray)
 | 0, _, _, _, _, _ => none
 | k + 1, x0, x5, x10, x11, x12 => if x12 < x11 then (if 0 ≤ x12 then (if x12 < (x10.length : Int) then (machine_Works.l1 k x0 x5 x10 x11 x12 ((rd_T47 x10 x12).f1) (((rd_T47 x10 x12).f1).length : Int) 0) else (none)) else (none)) else ((slices_Sort_string.f x5).bind fun t466 => ((slices_Compact_string.f t466).bind fun t467 => (some t467)))
def machine_Works.l1 : Nat → List (S34) → List ByteArray → List (S47) → Int → Int → List (S36) → Int → Int → Option (List ByteArray)
 | 0, _, _, _, _, _, _, _, _ => none
 | k + 1, x0, x5, x10, x11, x12, x17, x18, x19 => if x19 < x18 then (if 0 ≤ x19 then (if x19 < (x17.length : Int) then ((machine_can_N.f x0 ((rd_T36 x17 x19).f0)).bind fun t474 => (if (t474.length : Int) = 0 then (if x5.length < 8796093022208 then (machine_Works.l1 k x0 (x5 ++ [(rd_T36 x17 x19).f0]) x10 x11 x12 x17 x18 (wrap64 (x19 + 1))) else (none)) else (machine_Works.l1 k x0 x5 x10 x11 x12 x17 x18 (wrap64 (x19 + 1))))) else (none)) else (none)) else (machine_Works.l0 k x0 x5 x10 x11 (wrap64 (x12 + 1)))
end
end Go.Proofs.Ytpfggghpkdnppaa.P
