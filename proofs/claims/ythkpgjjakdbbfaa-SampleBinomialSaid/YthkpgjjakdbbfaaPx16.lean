/- What functions of the program return: each contract says so of one function, for every input at which its pure function yields. -/
import Derived.Test.YthkpgjjakdbbfaaPx0
namespace Go.Proofs.Ythkpgjjakdbbfaa.P
open Go.RowKit Go.Proofs.YthkpgjjakdbbfaaW.PrintWords Go.Proofs.YthkpgjjakdbbfaaW.PrintLast Go.Proofs.YthkpgjjakdbbfaaW.PrintMore
attribute [local go_sem] max2_int min2_int max_two min_two max_three min_three max_four min_four   -- for this text's walks alone
set_option linter.unusedVariables false
set_option linter.unusedSimpArgs false

mutual
def gangsawref33_sorted.l0 : Nat → List Int → List Int → Int → Option (List Int)
 | 0, _, _, _ => none
 | k + 1, x0, x3, x4 => if x4 < (x0.length : Int) then (gangsawref33_sorted.l1 k x0 x3 x4 0) else (some x3)
def gangsawref33_sorted.l1 : Nat → List Int → List Int → Int → Int → Option (List Int)
 | 0, _, _, _, _ => none
 | k + 1, x0, x3, x4, x5 => if x5 < (x3.length : Int) then (if 0 ≤ x5 then (if 0 ≤ x4 then (if x4 < (x0.length : Int) then (if (rd x3 x5) ≤ (rd x0 x4) then (gangsawref33_sorted.l1 k x0 x3 x4 (wrap64 (x5 + 1))) else ((some (([] : List Int) : List Int)).bind fun y254 => (if x5 ≤ (x3.length : Int) then ((some (x3.take (x5 : Int).toNat : List Int)).bind fun y257 => (if y254.length + y257.length < 17592186044416 then ((some (y254 ++ y257 : List Int)).bind fun y261 => ((some (([rd x0 x4] : List Int) : List Int)).bind fun y265 => (if y261.length + y265.length < 17592186044416 then ((some (y261 ++ y265 : List Int)).bind fun y268 => ((some (x3.drop (x5 : Int).toNat : List Int)).bind fun y271 => (if y268.length + y271.length < 17592186044416 then (gangsawref33_sorted.l0 k x0 (y268 ++ y271) (wrap64 (x4 + 1))) else (none)))) else (none)))) else (none))) else (none)))) else (none)) else (none)) else (none)) else ((some (([] : List Int) : List Int)).bind fun y278 => (if 0 ≤ x5 then (if x5 ≤ (x3.length : Int) then ((some (x3.take (x5 : Int).toNat : List Int)).bind fun y281 => (if y278.length + y281.length < 17592186044416 then ((some (y278 ++ y281 : List Int)).bind fun y285 => (if 0 ≤ x4 then (if x4 < (x0.length : Int) then ((some (([rd x0 x4] : List Int) : List Int)).bind fun y289 => (if y285.length + y289.length < 17592186044416 then ((some (y285 ++ y289 : List Int)).bind fun y292 => ((some (x3.drop (x5 : Int).toNat : List Int)).bind fun y295 => (if y292.length + y295.length < 17592186044416 then (gangsawref33_sorted.l0 k x0 (y292 ++ y295) (wrap64 (x4 + 1))) else (none)))) else (none))) else (none)) else (none))) else (none))) else (none)) else (none)))
end
def gangsawref33_sorted.f (k : Nat) (l0 : List Int) : Option (List Int) := gangsawref33_sorted.l0 k l0 (([] : List Int)) 0
end Go.Proofs.Ythkpgjjakdbbfaa.P
