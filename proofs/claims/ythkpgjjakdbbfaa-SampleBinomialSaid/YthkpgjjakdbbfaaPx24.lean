/- What functions of the program return: each contract says so of one function, for every input at which its pure function yields. -/
import Derived.Test.YthkpgjjakdbbfaaPx0
import Derived.Test.YthkpgjjakdbbfaaPx23
namespace Go.Proofs.Ythkpgjjakdbbfaa.P
open Go.RowKit Go.Proofs.YthkpgjjakdbbfaaW.PrintWords Go.Proofs.YthkpgjjakdbbfaaW.PrintLast Go.Proofs.YthkpgjjakdbbfaaW.PrintMore
attribute [local go_sem] max2_int min2_int max_two min_two max_three min_three max_four min_four   -- for this text's walks alone
set_option linter.unusedVariables false
set_option linter.unusedSimpArgs false

def gangsawref04_divide.l0 : Nat → Int → Int → Int → Bool → Int → Int → Bool → Int → Int → Bool → Int → Int → Bool → Option (Int × Int × Bool × Int × Int × Bool)
 | 0, _, _, _, _, _, _, _, _, _, _, _, _, _ => none
 | k + 1, x8, x486000, x486001, x486002, x487000, x487001, x487002, x490000, x490001, x490002, x491000, x491001, x491002 => if x8 ≥ 0 then ((gangsawref04_wide_bit.f x486000 x486001 x486002 x8).bind fun t491 => ((gangsawref04_above.f x487000 x487001 x487002 (Go.bits .or .u64 (IntKind.u64.wrap (x491000 * 2)) (x491001 / 9223372036854775808)) (Go.bits .or .u64 (IntKind.u64.wrap (x491001 * 2)) t491) false).bind fun t492 => (if t492 = true then (gangsawref04_divide.l0 k (wrap64 (x8 - 1)) x486000 x486001 x486002 x487000 x487001 x487002 (Go.bits .or .u64 (IntKind.u64.wrap (x490000 * 2)) (x490001 / 9223372036854775808)) (IntKind.u64.wrap (x490001 * 2)) false (Go.bits .or .u64 (IntKind.u64.wrap (x491000 * 2)) (x491001 / 9223372036854775808)) (Go.bits .or .u64 (IntKind.u64.wrap (x491001 * 2)) t491) false) else ((gangsawref04_plus.f (Go.bits .or .u64 (IntKind.u64.wrap (x491000 * 2)) (x491001 / 9223372036854775808)) (Go.bits .or .u64 (IntKind.u64.wrap (x491001 * 2)) t491) false x487000 x487001 true).bind fun bt493 => (gangsawref04_divide.l0 k (wrap64 (x8 - 1)) x486000 x486001 x486002 x487000 x487001 x487002 (Go.bits .or .u64 (IntKind.u64.wrap (x490000 * 2)) (x490001 / 9223372036854775808)) (Go.bits .or .u64 (IntKind.u64.wrap (x490001 * 2)) 1) false bt493.1 bt493.2.1 bt493.2.2))))) else (some (x490000, x490001, x490002, x491000, x491001, x491002))
def gangsawref04_divide.f (k : Nat) (a0_0 : Int) (a0_1 : Int) (a0_2 : Bool) (a1_0 : Int) (a1_1 : Int) (a1_2 : Bool) : Option (Int × Int × Bool × Int × Int × Bool) := gangsawref04_divide.l0 k 127 a0_0 a0_1 a0_2 a1_0 a1_1 a1_2 0 0 false 0 0 false
end Go.Proofs.Ythkpgjjakdbbfaa.P
