/- What functions of the program return: each contract says so of one function, for every input at which its pure function yields. -/
import Derived.Test.YthkpgjjakdbbfaaPx0
import Derived.Test.YthkpgjjakdbbfaaPx22
import Derived.Test.YthkpgjjakdbbfaaPx23
import Derived.Test.YthkpgjjakdbbfaaPx27
namespace Go.Proofs.Ythkpgjjakdbbfaa.P
open Go.RowKit Go.Proofs.YthkpgjjakdbbfaaW.PrintWords Go.Proofs.YthkpgjjakdbbfaaW.PrintLast Go.Proofs.YthkpgjjakdbbfaaW.PrintMore
attribute [local go_sem] max2_int min2_int max_two min_two max_three min_three max_four min_four   -- for this text's walks alone
set_option linter.unusedVariables false
set_option linter.unusedSimpArgs false

mutual
def gangsawref33_Confidence.j0 : Nat → Int → Int → Bool → Int → Int → Option (Int × Int × Int)
 | 0, _, _, _, _, _ => none
 | k + 1, x0, x1, x34, x545000, x545001 => if x34 = true then (some (0, 0, 1)) else ((gangsawref33_power.f k x545001 x0).bind fun t547 => (if t547 < 0 then (some (0, 0, 6)) else (gangsawref33_Confidence.l0 k x0 x1 t547 (([1] : List Int)) 0 x545000 x545001)))
def gangsawref33_Confidence.l0 : Nat → Int → Int → Int → List Int → Int → Int → Int → Option (Int × Int × Int)
 | 0, _, _, _, _, _, _, _ => none
 | k + 1, x0, x1, x8, x9, x10, x545000, x545001 => if x10 < x0 then (if 0 ≤ (wrap64 ((x9.length : Int) + 1)) then (if (wrap64 ((x9.length : Int) + 1) : Int).toNat ≤ 35184372088832 then (gangsawref33_Confidence.l1 k x0 x1 x8 x9 x10 (List.replicate (wrap64 ((x9.length : Int) + 1) : Int).toNat 0) 0 x545000 x545001) else (none)) else (none)) else (gangsawref33_Confidence.l2 k x0 x8 x9 0 x1)
def gangsawref33_Confidence.l1 : Nat → Int → Int → Int → List Int → Int → List Int → Int → Int → Int → Option (Int × Int × Int)
 | 0, _, _, _, _, _, _, _, _, _ => none
 | k + 1, x0, x1, x8, x9, x10, x11, x12, x545000, x545001 => if x12 < (x9.length : Int) then (if 0 ≤ x12 then (if x12 < (x11.length : Int) then ((some (x11.set (x12 : Int).toNat (wrap64 ((rd x11 x12) + (wrap64 ((rd x9 x12) * (wrap64 (x545001 - x545000)))))) : List Int)).bind fun y556 => (if 0 ≤ (wrap64 (x12 + 1)) then (if (wrap64 (x12 + 1)) < (x11.length : Int) then (gangsawref33_Confidence.l1 k x0 x1 x8 x9 x10 (y556.set ((wrap64 (x12 + 1)) : Int).toNat (wrap64 ((rd y556 (wrap64 (x12 + 1))) + (wrap64 ((rd x9 x12) * x545000))))) (wrap64 (x12 + 1)) x545000 x545001) else (none)) else (none))) else (none)) else (none)) else (gangsawref33_Confidence.l0 k x0 x1 x8 x11 (wrap64 (x10 + 1)) x545000 x545001)
def gangsawref33_Confidence.l2 : Nat → Int → Int → List Int → Int → Int → Option (Int × Int × Int)
 | 0, _, _, _, _, _ => none
 | k + 1, x0, x8, x9, x13, x14 => if x14 ≤ x0 then (if 0 ≤ x14 then (if x14 < (x9.length : Int) then (gangsawref33_Confidence.l2 k x0 x8 x9 (wrap64 (x13 + (rd x9 x14))) (wrap64 (x14 + 1))) else (none)) else (none)) else ((gangsawref04_New.f k x13 x8).bind fun bt561 => (some (bt561.1, bt561.2.1, bt561.2.2)))
end
def gangsawref33_Confidence.f (k : Nat) (a0 : Int) (a1 : Int) (a2_0 : Int) (a2_1 : Int) : Option (Int × Int × Int) := (gangsawref33_unit.f k a2_0 a2_1).bind fun t546 => (if t546 = true then (if a0 < 1 then (gangsawref33_Confidence.j0 k a0 a1 true a2_0 a2_1) else (if a0 > 59 then (gangsawref33_Confidence.j0 k a0 a1 true a2_0 a2_1) else (if a1 < 0 then (gangsawref33_Confidence.j0 k a0 a1 true a2_0 a2_1) else (gangsawref33_Confidence.j0 k a0 a1 (decide (a1 > a0)) a2_0 a2_1)))) else (gangsawref33_Confidence.j0 k a0 a1 true a2_0 a2_1))
end Go.Proofs.Ythkpgjjakdbbfaa.P
