/- What functions of the program return: each contract says so of one function, for every input at which its pure function yields. -/
import Derived.Test.YtpfggghpkdnppaaPx0
namespace Go.Proofs.Ytpfggghpkdnppaa.P
open Go.RowKit Go.Proofs.YtpfggghpkdnppaaW.PrintWords Go.Proofs.YtpfggghpkdnppaaW.PrintLast Go.Proofs.YtpfggghpkdnppaaW.PrintMore
attribute [local go_sem] max2_int min2_int max_two min_two max_three min_three max_four min_four   -- for this text's walks alone
set_option linter.unusedVariables false
set_option linter.unusedSimpArgs false

def gangsawref09_letter.f (a0 : Int) : Option (Bool) := if a0 ≥ 97 then (if a0 ≤ 122 then (some true) else (if a0 ≥ 65 then (some (decide (a0 ≤ 90))) else (some false))) else (if a0 ≥ 65 then (some (decide (a0 ≤ 90))) else (some false))
def gangsawref09_digit.f (a0 : Int) : Option (Bool) := if a0 ≥ 48 then (some (decide (a0 ≤ 57))) else (some false)
def gangsawref09_part.f (a0 : Int) : Option (Bool) := (gangsawref09_digit.f a0).bind fun t244 => (if t244 = true then (some true) else ((gangsawref09_letter.f a0).bind fun t245 => (if t245 = true then (some true) else (some (a0 == 95)))))
def gangsawref09_Name.l0 : Nat → ByteArray → Int → Option (Bool)
 | 0, _, _ => none
 | k + 1, x0, x3 => if x3 < (x0.size : Int) then (if 0 ≤ x3 then ((gangsawref09_part.f (bt x0 x3)).bind fun t246 => (if t246 = true then (if (bt x0 x3) ≥ 65 then (if (bt x0 x3) ≤ 90 then (some false) else (if x3 = 0 then ((gangsawref09_letter.f (bt x0 x3)).bind fun t247 => (if t247 = true then (gangsawref09_Name.l0 k x0 (wrap64 (x3 + 1))) else (some false))) else (gangsawref09_Name.l0 k x0 (wrap64 (x3 + 1))))) else (if x3 = 0 then ((gangsawref09_letter.f (bt x0 x3)).bind fun t248 => (if t248 = true then (gangsawref09_Name.l0 k x0 (wrap64 (x3 + 1))) else (some false))) else (gangsawref09_Name.l0 k x0 (wrap64 (x3 + 1))))) else (some false))) else (none)) else (if (x0.size : Int) ≥ 1 then (some (decide ((x0.size : Int) ≤ 24))) else (some false))
def gangsawref09_Name.f (k : Nat) (a0 : ByteArray) : Option (Bool) := gangsawref09_Name.l0 k a0 0
def gangsawref49_in.f (a0 : Int) (a1 : Int) (a2 : Int) : Option (Bool) := if a0 ≥ a1 then (some (decide (a0 ≤ a2))) else (some false)
end Go.Proofs.Ytpfggghpkdnppaa.P
