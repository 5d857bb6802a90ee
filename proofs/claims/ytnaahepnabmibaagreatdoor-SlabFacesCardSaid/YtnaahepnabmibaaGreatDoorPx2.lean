/- What functions of the program return: each contract says so of one function, for every input at which its pure function yields. -/
import Derived.Test.YtnaahepnabmibaaGreatDoorPx0
namespace Go.Proofs.YtnaahepnabmibaaGreatDoor.P
open Go.RowKit Go.Proofs.YtnaahepnabmibaaGreatDoorW.PrintWords Go.Proofs.YtnaahepnabmibaaGreatDoorW.PrintLast Go.Proofs.YtnaahepnabmibaaGreatDoorW.PrintMore
attribute [local go_sem] max2_int min2_int max_two min_two max_three min_three max_four min_four   -- for this text's walks alone
set_option linter.unusedVariables false
set_option linter.unusedSimpArgs false

def slab_Check.f (a0_0 : Int) (a0_1 : Int) (a0_2 : Int) (a0_3 : Int) : Option (Int) := if a0_0 < 0 then (some 6) else (if a0_0 > 2 then (some 6) else (if a0_1 < 1 then (some 6) else (if a0_1 > 1000 then (some 6) else (if a0_2 < 0 then (some 6) else (if a0_2 > 1000 then (some 6) else (if a0_3 < 1 then (some 6) else (if a0_3 > 1000000 then (some 6) else (some 0))))))))
def slab_Count.f (a0_0 : Int) (a0_1 : Int) (a0_2 : Int) (a0_3 : Int) (a1 : Int) : Option (Int × Int) := (slab_Check.f a0_0 a0_1 a0_2 a0_3).bind fun t103 => (if t103 = 0 then (if a1 < 1 then (some (0, 6)) else (if a1 > 2000000 then (some (0, 6)) else (if (wrap64 (a0_1 + a0_2)) = 0 then (none) else (some (wrap64 (Int.tdiv (wrap64 (a1 + a0_2)) (wrap64 (a0_1 + a0_2))), 0))))) else (some (0, t103)))
end Go.Proofs.YtnaahepnabmibaaGreatDoor.P
