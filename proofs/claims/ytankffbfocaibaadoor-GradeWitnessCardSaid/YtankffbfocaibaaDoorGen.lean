/-
  Plain lemmas on lists, strings and rounds, with no program in sight.
-/
import Derived.Test.YtankffbfocaibaaDoorEvt
import Derived.Test.YtankffbfocaibaaDoorSort
import Derived.Test.YtankffbfocaibaaDoorSm
import Derived.Sort.Walk0
set_option linter.unusedVariables false
set_option linter.unusedSimpArgs false
namespace Go.Proofs.YtankffbfocaibaaDoor.Gen
open Go.RowKit Go.Proofs Go.Proofs.YtankffbfocaibaaDoorW.PrintWords Go.Proofs.YtankffbfocaibaaDoor.Rnd Go.Proofs.YtankffbfocaibaaDoor.Sort

theorem Evt.shift {α : Type} {f : Nat → Option α} {v : α} (h : Evt (fun k => f (k + 1)) v) : Evt f v := Evt.succ h (fun _ => rfl)
end Go.Proofs.YtankffbfocaibaaDoor.Gen
