/- The program follows mixed orders and does not ask for the number of goroutines. -/
import Derived.Test.YtfedmcehkpfciaaGreatRunB
import Derived.Test.YtfedmcehkpfciaaGreatProg
import Derived.KernelRfl
set_option linter.unusedVariables false
namespace Go.Proofs.YtfedmcehkpfciaaGreat.RunC
open Go.RowKit Go.Proofs.YtfedmcehkpfciaaGreat.Run
theorem follows : Tryz.prog.follows .mixedOrders = true := by kernel_rfl
theorem noNum : NoNum Tryz.prog := fun f fn h => by
  have h1 : Tryz.prog.funcs.toList.all (fun fn => !(fn.name == "runtime.NumGoroutine")) = true := by kernel_rfl
  rw [List.all_eq_true] at h1
  have h2 := h1 fn (Array.mem_toList_iff.2 (Array.mem_of_getElem? h))
  simpa using h2
end Go.Proofs.YtfedmcehkpfciaaGreat.RunC
