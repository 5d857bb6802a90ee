/- What functions of the program return: each contract says so of one function, for every input at which its pure function yields. -/
import Derived.Test.YtpfggghpkdnppaaPx0
import Derived.Test.YtpfggghpkdnppaaPx11
import Derived.Test.YtpfggghpkdnppaaPx13
namespace Go.Proofs.Ytpfggghpkdnppaa.P
open Go.RowKit Go.Proofs.YtpfggghpkdnppaaW.PrintWords Go.Proofs.YtpfggghpkdnppaaW.PrintLast Go.Proofs.YtpfggghpkdnppaaW.PrintMore
attribute [local go_sem] max2_int min2_int max_two min_two max_three min_three max_four min_four   -- for this text's walks alone
set_option linter.unusedVariables false
set_option linter.unusedSimpArgs false

def gangsawref49_unnamed.l0 : Nat → Int → ByteArray → List (S36) → Int → Int → Int → Option (Bool)
 | 0, _, _, _, _, _, _ => none
 | k + 1, x3, x380000, x380001, x380002, x380003, x380004 => if x3 < (x380001.length : Int) then (if 0 ≤ x3 then ((gangsawref09_Name.f k ((rd_T36 x380001 x3).f0)).bind fun t381 => (if t381 = true then (gangsawref49_unnamed.l0 k (wrap64 (x3 + 1)) x380000 x380001 x380002 x380003 x380004) else (some true))) else (none)) else ((gangsawref09_Name.f k x380000).bind fun t382 => (some (!t382)))
def gangsawref49_unnamed.f (k : Nat) (a0_0 : ByteArray) (l0_1 : List (S36)) (a0_2 : Int) (a0_3 : Int) (a0_4 : Int) : Option (Bool) := gangsawref49_unnamed.l0 k 0 a0_0 l0_1 a0_2 a0_3 a0_4
def gangsawref49_job.l0 : Nat → Int → ByteArray → List (S36) → Int → Int → Int → Option (Bool)
 | 0, _, _, _, _, _, _ => none
 | k + 1, x3, x384000, x384001, x384002, x384003, x384004 => if x3 < (x384001.length : Int) then (if 0 ≤ x3 then ((gangsawref49_step.f ((rd_T36 x384001 x3).f0) ((rd_T36 x384001 x3).f1) ((rd_T36 x384001 x3).f2)).bind fun t385 => (if t385 = true then (gangsawref49_job.l0 k (wrap64 (x3 + 1)) x384000 x384001 x384002 x384003 x384004) else (some false))) else (none)) else ((gangsawref49_in.f x384002 0 10000000).bind fun t386 => (if t386 = true then ((gangsawref49_in.f x384003 0 10000000).bind fun t387 => (if t387 = true then ((gangsawref49_in.f x384004 0 100).bind fun t388 => (some t388)) else (some false))) else (some false)))
def gangsawref49_job.f (k : Nat) (a0_0 : ByteArray) (l0_1 : List (S36)) (a0_2 : Int) (a0_3 : Int) (a0_4 : Int) : Option (Bool) := gangsawref49_job.l0 k 0 a0_0 l0_1 a0_2 a0_3 a0_4
end Go.Proofs.Ytpfggghpkdnppaa.P
