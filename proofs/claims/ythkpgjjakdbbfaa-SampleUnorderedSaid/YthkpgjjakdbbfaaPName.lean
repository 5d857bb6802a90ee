/-
  lexer.Name and the reference's Name agree.
-/
import Derived.Test.YthkpgjjakdbbfaaEvt
import Derived.Test.YthkpgjjakdbbfaaLex
import Derived.Test.YthkpgjjakdbbfaaPx13
set_option linter.unusedVariables false
set_option linter.unusedSimpArgs false
namespace Go.Proofs.Ythkpgjjakdbbfaa.PName
open Go.RowKit Go.Proofs.YthkpgjjakdbbfaaW.PrintWords Go.Proofs.Ythkpgjjakdbbfaa.P Go.Proofs.Ythkpgjjakdbbfaa.Rnd Go.Proofs.Ythkpgjjakdbbfaa.Lex Go.Proofs.Ythkpgjjakdbbfaa.LexA

end Go.Proofs.Ythkpgjjakdbbfaa.PName
