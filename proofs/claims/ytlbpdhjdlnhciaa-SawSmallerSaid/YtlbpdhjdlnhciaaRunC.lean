/- The program follows mixed orders and does not ask for the number of goroutines. -/
import Derived.Test.YtlbpdhjdlnhciaaRunB
import Derived.Test.YtlbpdhjdlnhciaaProg
import Derived.KernelRfl
set_option linter.unusedVariables false
namespace Go.Proofs.Ytlbpdhjdlnhciaa.RunC
open Go.RowKit Go.Proofs.Ytlbpdhjdlnhciaa.Run
theorem follows : Try.prog.follows .mixedOrders = true := by kernel_rfl
theorem noNum : NoNum Try.prog := fun f fn h => by
  have h1 : Try.prog.funcs.toList.all (fun fn => !(fn.name == "runtime.NumGoroutine")) = true := by kernel_rfl
  rw [List.all_eq_true] at h1
  have h2 := h1 fn (Array.mem_toList_iff.2 (Array.mem_of_getElem? h))
  simpa using h2
end Go.Proofs.Ytlbpdhjdlnhciaa.RunC
