/-
  lexer.Name and the reference's Name agree.
-/
import Derived.Test.YtankffbfocaibaaDoorEvt
import Derived.Test.YtankffbfocaibaaDoorLex
import Derived.Test.YtankffbfocaibaaDoorPx4
set_option linter.unusedVariables false
set_option linter.unusedSimpArgs false
namespace Go.Proofs.YtankffbfocaibaaDoor.PName
open Go.RowKit Go.Proofs.YtankffbfocaibaaDoorW.PrintWords Go.Proofs.YtankffbfocaibaaDoor.P Go.Proofs.YtankffbfocaibaaDoor.Rnd Go.Proofs.YtankffbfocaibaaDoor.Lex Go.Proofs.YtankffbfocaibaaDoor.LexA

end Go.Proofs.YtankffbfocaibaaDoor.PName
