/- The program follows mixed orders and does not ask for the number of goroutines. -/
import Derived.Test.YtlbpdhjdlnhciaaRunB
import Derived.Test.YtlbpdhjdlnhciaaProg
import Derived.KernelRfl
set_option linter.unusedVariables false
namespace Go.Proofs.Ytlbpdhjdlnhciaa.RunC
open Go.RowKit Go.Proofs.Ytlbpdhjdlnhciaa.Run
end Go.Proofs.Ytlbpdhjdlnhciaa.RunC
