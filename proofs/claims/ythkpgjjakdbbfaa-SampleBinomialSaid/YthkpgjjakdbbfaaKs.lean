/- The statement of this text's name, out of its plain law and its contract; no condition is added. -/
import Derived.Test.YthkpgjjakdbbfaaOpen
import Derived.Test.YthkpgjjakdbbfaaPx0
import Derived.KernelRfl
set_option linter.unusedVariables false
namespace Go.Proofs.Ythkpgjjakdbbfaa.Ks
open Go.RowKit Go.Proofs.YthkpgjjakdbbfaaW.PrintWords Go.Proofs.Ythkpgjjakdbbfaa.P Go.Proofs.Ythkpgjjakdbbfaa.Open
def G33 (x : S33) : Prop := (GInt .i64) x.f0 ∧ (GInt .i64) x.f1
theorem opens33 : Opens Try.prog 33 k33 G33 :=
  opens_struct (fun p => ⟨p.1, p.2⟩) (fun _ => rfl) Try.underlying33 (by kernel_rfl) (fopen_cons rfl (by kernel_rfl) (opens_int Try.underlying2) (fopen_one rfl (by kernel_rfl) (opens_int Try.underlying2)))
end Go.Proofs.Ythkpgjjakdbbfaa.Ks
