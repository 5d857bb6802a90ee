/-
 lexer.Name and the reference's Name agree.
-/
import Derived.Test.YtfedmcehkpfciaaGreatEvt
import Derived.Test.YtfedmcehkpfciaaGreatLex
import Derived.Test.YtfedmcehkpfciaaGreatPx8
set_option linter.unusedVariables false
set_option linter.unusedSimpArgs false
namespace Go.Proofs.YtfedmcehkpfciaaGreat.PName
open Go.RowKit Go.Proofs.YtfedmcehkpfciaaGreatW.PrintWords Go.Proofs.YtfedmcehkpfciaaGreat.P Go.Proofs.YtfedmcehkpfciaaGreat.Rnd Go.Proofs.YtfedmcehkpfciaaGreat.Lex Go.Proofs.YtfedmcehkpfciaaGreat.LexA

end Go.Proofs.YtfedmcehkpfciaaGreat.PName
