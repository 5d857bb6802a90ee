/-
  lexer.Name and the reference's Name agree.
-/
import Derived.Test.YtpfggghpkdnppaaEvt
import Derived.Test.YtpfggghpkdnppaaLex
import Derived.Test.YtpfggghpkdnppaaPx11
set_option linter.unusedVariables false
set_option linter.unusedSimpArgs false
namespace Go.Proofs.Ytpfggghpkdnppaa.PName
open Go.RowKit Go.Proofs.YtpfggghpkdnppaaW.PrintWords Go.Proofs.Ytpfggghpkdnppaa.P Go.Proofs.Ytpfggghpkdnppaa.Rnd Go.Proofs.Ytpfggghpkdnppaa.Lex Go.Proofs.Ytpfggghpkdnppaa.LexA

end Go.Proofs.Ytpfggghpkdnppaa.PName
