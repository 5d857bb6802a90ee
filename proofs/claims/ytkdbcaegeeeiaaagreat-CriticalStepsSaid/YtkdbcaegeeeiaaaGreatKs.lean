/- The statement of this text's name, out of its plain law and its contract; no condition is added. -/
import Derived.Test.YtkdbcaegeeeiaaaGreatOpen
import Derived.Test.YtkdbcaegeeeiaaaGreatPx0
import Derived.KernelRfl
set_option linter.unusedVariables false
namespace Go.Proofs.YtkdbcaegeeeiaaaGreat.Ks
open Go.RowKit Go.Proofs.YtkdbcaegeeeiaaaGreatW.PrintWords Go.Proofs.YtkdbcaegeeeiaaaGreat.P Go.Proofs.YtkdbcaegeeeiaaaGreat.Open
def G40 (x : S40) : Prop := GStr x.f0 ∧ (GInt .i64) x.f1 ∧ (GInt .i64) x.f2
theorem opens40 : Opens Tryz.prog 40 k40 G40 :=
  opens_struct (fun p => ⟨p.1, p.2.1, p.2.2⟩) (fun _ => rfl) Tryz.underlying40 (by kernel_rfl) (fopen_cons rfl (by kernel_rfl) (opens_string Tryz.underlying9) (fopen_cons rfl (by kernel_rfl) (opens_int Tryz.underlying3) (fopen_one rfl (by kernel_rfl) (opens_int Tryz.underlying3))))
def G38 (x : S38) : Prop := GStr x.f0 ∧ (GList G40) x.f1 ∧ (GInt .i64) x.f2 ∧ (GInt .i64) x.f3 ∧ (GInt .i64) x.f4
theorem opens38 : Opens Tryz.prog 38 k38 G38 :=
  opens_struct (fun p => ⟨p.1, p.2.1, p.2.2.1, p.2.2.2.1, p.2.2.2.2⟩) (fun _ => rfl) Tryz.underlying38 (by kernel_rfl) (fopen_cons rfl (by kernel_rfl) (opens_string Tryz.underlying9) (fopen_cons rfl (by kernel_rfl) (opens_slice Tryz.underlying36 (by kernel_rfl) opens40) (fopen_cons rfl (by kernel_rfl) (opens_int Tryz.underlying3) (fopen_cons rfl (by kernel_rfl) (opens_int Tryz.underlying3) (fopen_one rfl (by kernel_rfl) (opens_int Tryz.underlying3))))))
end Go.Proofs.YtkdbcaegeeeiaaaGreat.Ks
