/-
  boring.first and boring.within: the tests of borings, as a list of errors with what is asked; the first test that some boring fails.
-/
import Derived.Test.YtfedmcehkpfciaaGreatHof
import Derived.Test.YtfedmcehkpfciaaGreatM1
import Derived.KernelRfl
import Derived.Test.YtfedmcehkpfciaaGreatPx4
import Derived.Test.YtfedmcehkpfciaaGreatPx5
set_option linter.unusedVariables false
set_option linter.unusedSimpArgs false
namespace Go.Proofs.YtfedmcehkpfciaaGreat.First
open Go.RowKit Go.Proofs.YtfedmcehkpfciaaGreatW.PrintWords Go.Proofs.YtfedmcehkpfciaaGreatW.PrintLast Go.Proofs.YtfedmcehkpfciaaGreatW.PrintMore Go.Proofs.YtfedmcehkpfciaaGreat.P Go.Proofs.YtfedmcehkpfciaaGreat.Hof
abbrev Brg := S33
abbrev Tests := List (Int × (Brg → Option Bool))
def firstO (l : List Brg) : Tests → Option Int
  | [] => some 0
  | (e, p) :: ts => (anyO (fun x => (p x).bind fun b => some (!b)) l).bind fun b => if b = true then some e else firstO l ts
def boring_first.f (l0 : List Brg) (p1 : Tests) : Option Int := firstO l0 p1
def boring_within.f (a0 a1 a2 a3 a4 a5 : Int) : Option Tests :=
  some [(4, fun x => boring_checks_1.f x.f0 x.f1.f0 x.f1.f1 x.f2), (7, fun x => boring_checks_2.f x.f0 x.f1.f0 x.f1.f1 x.f2), (1, fun x => boring_checks_3.f x.f0 x.f1.f0 x.f1.f1 x.f2),
    (12, fun x => boring_within_1.f x.f0 x.f1.f0 x.f1.f1 x.f2 a0 a1 a2 a3 a4 a5), (11, fun x => boring_increasing.f (x.f2.length + 2) x.f0 x.f1.f0 x.f1.f1 x.f2)]
end Go.Proofs.YtfedmcehkpfciaaGreat.First
