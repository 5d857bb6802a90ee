/- What functions of the program return: each contract says so of one function, for every input at which its pure function yields. -/
import Derived.Test.YthkpgjjakdbbfaaPx0
import Derived.Test.YthkpgjjakdbbfaaPx14
import Derived.Test.YthkpgjjakdbbfaaPx17
namespace Go.Proofs.Ythkpgjjakdbbfaa.P
open Go.RowKit Go.Proofs.YthkpgjjakdbbfaaW.PrintWords Go.Proofs.YthkpgjjakdbbfaaW.PrintLast Go.Proofs.YthkpgjjakdbbfaaW.PrintMore
attribute [local go_sem] max2_int min2_int max_two min_two max_three min_three max_four min_four   -- for this text's walks alone
set_option linter.unusedVariables false
set_option linter.unusedSimpArgs false

mutual
def gangsawref33_Outliers.l0 : Nat → List (S51) → Int → Int → Int → List ByteArray → Int → Option (List ByteArray × Int)
 | 0, _, _, _, _, _, _ => none
 | k + 1, x0, x5, x7, x8, x9, x10 => if x10 < x5 then (if 0 ≤ x10 then (if x10 < (x0.length : Int) then (if (wrap64 (2 * ((rd_T51 x0 x10).f1))) ≥ (wrap64 ((wrap64 (2 * x7)) - (wrap64 (3 * (wrap64 (x8 - x7)))))) then (gangsawref33_Outliers.l0 k x0 x5 x7 x8 x9 (wrap64 (x10 + 1))) else (gangsawref33_Outliers.l1 k x0 x5 x7 x8 x9 x10 0)) else (none)) else (none)) else (some (x9, 0))
def gangsawref33_Outliers.l1 : Nat → List (S51) → Int → Int → Int → List ByteArray → Int → Int → Option (List ByteArray × Int)
 | 0, _, _, _, _, _, _, _ => none
 | k + 1, x0, x5, x7, x8, x9, x10, x11 => if x11 < (x9.length : Int) then (if 0 ≤ x11 then (if 0 ≤ x10 then (if x10 < (x0.length : Int) then (if (Op.bytesLess ((rdOf ByteArray.empty x9 x11).toList) (((rd_T51 x0 x10).f0).toList)) = true then (gangsawref33_Outliers.l1 k x0 x5 x7 x8 x9 x10 (wrap64 (x11 + 1))) else ((some (([] : List ByteArray) : List ByteArray)).bind fun y386 => (if x11 ≤ (x9.length : Int) then ((some (x9.take (x11 : Int).toNat : List ByteArray)).bind fun y389 => (if y386.length + y389.length < 8796093022208 then ((some (y386 ++ y389 : List ByteArray)).bind fun y393 => ((some (([(rd_T51 x0 x10).f0] : List ByteArray) : List ByteArray)).bind fun y397 => (if y393.length + y397.length < 8796093022208 then ((some (y393 ++ y397 : List ByteArray)).bind fun y400 => ((some (x9.drop (x11 : Int).toNat : List ByteArray)).bind fun y403 => (if y400.length + y403.length < 8796093022208 then (gangsawref33_Outliers.l0 k x0 x5 x7 x8 (y400 ++ y403) (wrap64 (x10 + 1))) else (none)))) else (none)))) else (none))) else (none)))) else (none)) else (none)) else (none)) else ((some (([] : List ByteArray) : List ByteArray)).bind fun y410 => (if 0 ≤ x11 then (if x11 ≤ (x9.length : Int) then ((some (x9.take (x11 : Int).toNat : List ByteArray)).bind fun y413 => (if y410.length + y413.length < 8796093022208 then ((some (y410 ++ y413 : List ByteArray)).bind fun y417 => (if 0 ≤ x10 then (if x10 < (x0.length : Int) then ((some (([(rd_T51 x0 x10).f0] : List ByteArray) : List ByteArray)).bind fun y421 => (if y417.length + y421.length < 8796093022208 then ((some (y417 ++ y421 : List ByteArray)).bind fun y424 => ((some (x9.drop (x11 : Int).toNat : List ByteArray)).bind fun y427 => (if y424.length + y427.length < 8796093022208 then (gangsawref33_Outliers.l0 k x0 x5 x7 x8 (y424 ++ y427) (wrap64 (x10 + 1))) else (none)))) else (none))) else (none)) else (none))) else (none))) else (none)) else (none)))
end
end Go.Proofs.Ythkpgjjakdbbfaa.P
