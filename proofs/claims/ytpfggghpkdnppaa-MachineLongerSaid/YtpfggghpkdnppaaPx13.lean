/- What functions of the program return: each contract says so of one function, for every input at which its pure function yields. -/
import Derived.Test.YtpfggghpkdnppaaPx0
import Derived.Test.YtpfggghpkdnppaaPx2
import Derived.Test.YtpfggghpkdnppaaPx9
import Derived.Test.YtpfggghpkdnppaaPx10
import Derived.Test.YtpfggghpkdnppaaPx11
import Derived.Test.YtpfggghpkdnppaaPx12
namespace Go.Proofs.Ytpfggghpkdnppaa.P
open Go.RowKit Go.Proofs.YtpfggghpkdnppaaW.PrintWords Go.Proofs.YtpfggghpkdnppaaW.PrintLast Go.Proofs.YtpfggghpkdnppaaW.PrintMore
attribute [local go_sem] max2_int min2_int max_two min_two max_three min_three max_four min_four   -- for this text's walks alone
set_option linter.unusedVariables false
set_option linter.unusedSimpArgs false

def gangsawref49_Who.l0 : Nat → List (S34) → ByteArray → List Int → Int → Option (List Int)
 | 0, _, _, _, _ => none
 | k + 1, x0, x1, x5, x6 => if x6 < (x0.length : Int) then (if 0 ≤ x6 then (if ((rd_T34 x0 x6).f1).toList = x1.toList then (if x5.length < 17592186044416 then (gangsawref49_Who.l0 k x0 x1 (x5 ++ [x6]) (wrap64 (x6 + 1))) else (none)) else (gangsawref49_Who.l0 k x0 x1 x5 (wrap64 (x6 + 1)))) else (none)) else (some x5)
def gangsawref49_Who.f (k : Nat) (l0 : List (S34)) (a1 : ByteArray) : Option (List Int) := gangsawref49_Who.l0 k l0 a1 (([] : List Int)) 0
def gangsawref49_step.f (a0_0 : ByteArray) (a0_1 : Int) (a0_2 : Int) : Option (Bool) := (gangsawref49_in.f a0_1 1 100000).bind fun t276 => (if t276 = true then ((gangsawref49_in.f a0_2 0 100000).bind fun t277 => (some t277)) else (some false))
end Go.Proofs.Ytpfggghpkdnppaa.P
