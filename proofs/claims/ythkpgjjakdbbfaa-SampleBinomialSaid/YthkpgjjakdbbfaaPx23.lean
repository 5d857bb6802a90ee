/- What functions of the program return: each contract says so of one function, for every input at which its pure function yields. -/
import Derived.Test.YthkpgjjakdbbfaaPx0
import Derived.Test.YthkpgjjakdbbfaaPx7
import Derived.Test.YthkpgjjakdbbfaaPx22
import Derived.Test.YthkpgjjakdbbfaaBits
namespace Go.Proofs.Ythkpgjjakdbbfaa.P
open Go.RowKit Go.Proofs.YthkpgjjakdbbfaaW.PrintWords Go.Proofs.YthkpgjjakdbbfaaW.PrintLast Go.Proofs.YthkpgjjakdbbfaaW.PrintMore
attribute [local go_sem] max2_int min2_int max_two min_two max_three min_three max_four min_four   -- for this text's walks alone
set_option linter.unusedVariables false
set_option linter.unusedSimpArgs false

open Go.Proofs.Ythkpgjjakdbbfaa.Bits
def gangsawref33_power.l0 : Nat → Int → Int → Int → Int → Option (Int)
 | 0, _, _, _, _ => none
 | k + 1, x0, x1, x5, x6 => if x6 < x1 then (if x0 = 0 then (none) else (if x5 > (wrap64 (Int.tdiv (999999999999999999 : Int) x0)) then (some (-1)) else (gangsawref33_power.l0 k x0 x1 (wrap64 (x5 * x0)) (wrap64 (x6 + 1))))) else (some x5)
def gangsawref33_power.f (k : Nat) (a0 : Int) (a1 : Int) : Option (Int) := gangsawref33_power.l0 k a0 a1 1 0
def gangsawref04_times.f (a0 : Int) (a1 : Int) : Option (Int × Int × Bool) := (gangsawref04_size.f a0).bind fun t457 => ((gangsawref04_size.f a1).bind fun t458 => ((bits_Mul64.f t457 t458).bind fun bt459 => (some (bt459.1, bt459.2, ((decide (a0 < 0)) != (decide (a1 < 0)))))))
def gangsawref04_one.f (a0 : Int) : Option (Int × Int × Bool) := (gangsawref04_times.f a0 1).bind fun bt462 => (some (bt462.1, bt462.2.1, bt462.2.2))
def gangsawref04_wide_zero.f (a0_0 : Int) (a0_1 : Int) (a0_2 : Bool) : Option (Bool) := if a0_0 = 0 then (some (a0_1 == 0)) else (some false)
def gangsawref04_above.f (a0_0 : Int) (a0_1 : Int) (a0_2 : Bool) (a1_0 : Int) (a1_1 : Int) (a1_2 : Bool) : Option (Bool) := if a0_0 > a1_0 then (some true) else (if a0_0 = a1_0 then (some (decide (a0_1 > a1_1))) else (some false))
def gangsawref04_plus.f (a0_0 : Int) (a0_1 : Int) (a0_2 : Bool) (a1_0 : Int) (a1_1 : Int) (a1_2 : Bool) : Option (Int × Int × Bool) := if (a0_2 == a1_2) = true then ((bits_Add64.f a0_1 a1_1 0).bind fun bt471 => ((bits_Add64.f a0_0 a1_0 bt471.2).bind fun bt473 => (some (bt473.1, bt471.1, a0_2)))) else ((gangsawref04_above.f a1_0 a1_1 a1_2 a0_0 a0_1 a0_2).bind fun t475 => (if t475 = true then ((bits_Sub64.f a1_1 a0_1 0).bind fun bt476 => ((bits_Sub64.f a1_0 a0_0 bt476.2).bind fun bt478 => (some (bt478.1, bt476.1, a1_2)))) else ((bits_Sub64.f a0_1 a1_1 0).bind fun bt480 => ((bits_Sub64.f a0_0 a1_0 bt480.2).bind fun bt482 => (some (bt482.1, bt480.1, a0_2))))))
def gangsawref04_wide_bit.f (a0_0 : Int) (a0_1 : Int) (a0_2 : Bool) (a1 : Int) : Option (Int) := if a1 ≥ 64 then (if 0 ≤ (wrap64 (a1 - 64)) then (some (Go.bits .and .u64 (shr .u64 a0_0 (wrap64 (a1 - 64))) 1)) else (none)) else (if 0 ≤ a1 then (some (Go.bits .and .u64 (shr .u64 a0_1 a1) 1)) else (none))
end Go.Proofs.Ythkpgjjakdbbfaa.P
