/- The statement of this text's name, out of its plain law and its contract; no condition is added. -/
import Derived.Test.YtankffbfocaibaaDoorOpen
import Derived.Test.YtankffbfocaibaaDoorPx0
import Derived.KernelRfl
set_option linter.unusedVariables false
namespace Go.Proofs.YtankffbfocaibaaDoor.Ks
open Go.RowKit Go.Proofs.YtankffbfocaibaaDoorW.PrintWords Go.Proofs.YtankffbfocaibaaDoor.P Go.Proofs.YtankffbfocaibaaDoor.Open
def G32 (x : S32) : Prop := GStr x.f0 ∧ (GInt .i64) x.f1 ∧ (GInt .i64) x.f2 ∧ (GInt .i64) x.f3
theorem opens32 : Opens Tryd.prog 32 k32 G32 :=
  opens_struct (fun p => ⟨p.1, p.2.1, p.2.2.1, p.2.2.2⟩) (fun _ => rfl) Tryd.underlying32 (by kernel_rfl) (fopen_cons rfl (by kernel_rfl) (opens_string Tryd.underlying9) (fopen_cons rfl (by kernel_rfl) (opens_int Tryd.underlying3) (fopen_cons rfl (by kernel_rfl) (opens_int Tryd.underlying3) (fopen_one rfl (by kernel_rfl) (opens_int Tryd.underlying3)))))
end Go.Proofs.YtankffbfocaibaaDoor.Ks
