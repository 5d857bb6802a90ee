/- The statement of this text's name, out of its plain law and its contract; no condition is added. -/
import Derived.Test.YthkpgjjakdbbfaaOpen
import Derived.Test.YthkpgjjakdbbfaaPx0
import Derived.KernelRfl
set_option linter.unusedVariables false
namespace Go.Proofs.Ythkpgjjakdbbfaa.Ks
open Go.RowKit Go.Proofs.YthkpgjjakdbbfaaW.PrintWords Go.Proofs.Ythkpgjjakdbbfaa.P Go.Proofs.Ythkpgjjakdbbfaa.Open
def G51 (x : S51) : Prop := GStr x.f0 ∧ (GInt .i64) x.f1 ∧ (GInt .i64) x.f2
theorem opens51 : Opens Try.prog 51 k51 G51 :=
  opens_struct (fun p => ⟨p.1, p.2.1, p.2.2⟩) (fun _ => rfl) Try.underlying51 (by kernel_rfl) (fopen_cons rfl (by kernel_rfl) (opens_string Try.underlying9) (fopen_cons rfl (by kernel_rfl) (opens_int Try.underlying3) (fopen_one rfl (by kernel_rfl) (opens_int Try.underlying3))))
end Go.Proofs.Ythkpgjjakdbbfaa.Ks
