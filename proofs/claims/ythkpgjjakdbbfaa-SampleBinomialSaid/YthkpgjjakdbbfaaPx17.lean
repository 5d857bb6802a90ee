/- What functions of the program return: each contract says so of one function, for every input at which its pure function yields. -/
import Derived.Test.YthkpgjjakdbbfaaPx0
import Derived.Test.YthkpgjjakdbbfaaPx14
import Derived.Test.YthkpgjjakdbbfaaPx16
namespace Go.Proofs.Ythkpgjjakdbbfaa.P
open Go.RowKit Go.Proofs.YthkpgjjakdbbfaaW.PrintWords Go.Proofs.YthkpgjjakdbbfaaW.PrintLast Go.Proofs.YthkpgjjakdbbfaaW.PrintMore
attribute [local go_sem] max2_int min2_int max_two min_two max_three min_three max_four min_four   -- for this text's walks alone
set_option linter.unusedVariables false
set_option linter.unusedSimpArgs false

def gangsawref33_strengths.l0 : Nat → List (S51) → List Int → Int → Option (List Int)
 | 0, _, _, _ => none
 | k + 1, x0, x3, x4 => if x4 < (x0.length : Int) then (if 0 ≤ x4 then (if x3.length < 17592186044416 then (gangsawref33_strengths.l0 k x0 (x3 ++ [(rd_T51 x0 x4).f1]) (wrap64 (x4 + 1))) else (none)) else (none)) else ((gangsawref33_sorted.f k x3).bind fun t309 => (some t309))
def gangsawref33_strengths.f (k : Nat) (l0 : List (S51)) : Option (List Int) := gangsawref33_strengths.l0 k l0 (([] : List Int)) 0
def gangsawref33_Strength.f (k : Nat) (l0 : List (S51)) (a1 : Int) : Option (Int × Int) := (gangsawref33_Check.f k l0).bind fun t312 => (if t312 = 0 then (if a1 < 1 then (some (0, 9)) else (if a1 > (l0.length : Int) then (some (0, 9)) else ((gangsawref33_strengths.f k l0).bind fun t313 => (if 0 ≤ (wrap64 (a1 - 1)) then (if (wrap64 (a1 - 1)) < (t313.length : Int) then (some (rd t313 (wrap64 (a1 - 1)), 0)) else (none)) else (none))))) else (some (0, t312)))
def gangsawref33_absorptions.l0 : Nat → List (S51) → List Int → Int → Option (List Int)
 | 0, _, _, _ => none
 | k + 1, x0, x3, x4 => if x4 < (x0.length : Int) then (if 0 ≤ x4 then (if x3.length < 17592186044416 then (gangsawref33_absorptions.l0 k x0 (x3 ++ [(rd_T51 x0 x4).f2]) (wrap64 (x4 + 1))) else (none)) else (none)) else ((gangsawref33_sorted.f k x3).bind fun t324 => (some t324))
def gangsawref33_absorptions.f (k : Nat) (l0 : List (S51)) : Option (List Int) := gangsawref33_absorptions.l0 k l0 (([] : List Int)) 0
def gangsawref33_Absorption.f (k : Nat) (l0 : List (S51)) (a1 : Int) : Option (Int × Int) := (gangsawref33_Check.f k l0).bind fun t327 => (if t327 = 0 then (if a1 < 1 then (some (0, 9)) else (if a1 > (l0.length : Int) then (some (0, 9)) else ((gangsawref33_absorptions.f k l0).bind fun t328 => (if 0 ≤ (wrap64 ((l0.length : Int) - a1)) then (if (wrap64 ((l0.length : Int) - a1)) < (t328.length : Int) then (some (rd t328 (wrap64 ((l0.length : Int) - a1)), 0)) else (none)) else (none))))) else (some (0, t327)))
end Go.Proofs.Ythkpgjjakdbbfaa.P
