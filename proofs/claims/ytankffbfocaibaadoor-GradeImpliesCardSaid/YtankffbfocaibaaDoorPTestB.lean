/-
  The checks of tests agree; sorted strengths and absorptions agree.
-/
import Derived.Test.YtankffbfocaibaaDoorPName
import Derived.Test.YtankffbfocaibaaDoorKs
import Derived.Test.YtankffbfocaibaaDoorGen
import Derived.Test.YtankffbfocaibaaDoorPx9
set_option linter.unusedVariables false
set_option linter.unusedSimpArgs false
namespace Go.Proofs.YtankffbfocaibaaDoor.PTest
open Go.RowKit Go.Proofs.YtankffbfocaibaaDoorW.PrintWords Go.Proofs.YtankffbfocaibaaDoor.P Go.Proofs.YtankffbfocaibaaDoor.Rnd Go.Proofs.YtankffbfocaibaaDoor.Lex Go.Proofs.YtankffbfocaibaaDoor.PName Go.Proofs.YtankffbfocaibaaDoor.Open Go.Proofs.YtankffbfocaibaaDoor.Ks Go.Proofs.YtankffbfocaibaaDoor.Hof Go.Proofs.YtankffbfocaibaaDoor.Sort Go.Proofs.YtankffbfocaibaaDoor.Gen Go.Proofs.YtankffbfocaibaaDoor.Sm

abbrev T := S46
theorem anyO_some {α : Type} (q : α → Bool) (l : List α) : anyO (fun x => some (q x)) l = some (l.any q) := by
  induction l with
  | nil => rfl
  | cons x l ih => simp only [anyO, List.any_cons]; cases h : q x <;> simp [ih]
end Go.Proofs.YtankffbfocaibaaDoor.PTest
