/-
  Plain lemmas on lists, strings and rounds, with no program in sight.
-/
import Derived.Test.YthkpgjjakdbbfaaEvt
import Derived.Test.YthkpgjjakdbbfaaSort
import Derived.Test.YthkpgjjakdbbfaaSm
import Derived.Sort.Walk0
set_option linter.unusedVariables false
set_option linter.unusedSimpArgs false
namespace Go.Proofs.Ythkpgjjakdbbfaa.Gen
open Go.RowKit Go.Proofs Go.Proofs.YthkpgjjakdbbfaaW.PrintWords Go.Proofs.Ythkpgjjakdbbfaa.Rnd Go.Proofs.Ythkpgjjakdbbfaa.Sort

theorem Evt.shift {α : Type} {f : Nat → Option α} {v : α} (h : Evt (fun k => f (k + 1)) v) : Evt f v := Evt.succ h (fun _ => rfl)
end Go.Proofs.Ythkpgjjakdbbfaa.Gen
