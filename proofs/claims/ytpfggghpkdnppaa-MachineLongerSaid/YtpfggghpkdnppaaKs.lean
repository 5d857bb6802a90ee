/- The statement of this text's name, out of its plain law and its contract; no condition is added. -/
import Derived.Test.YtpfggghpkdnppaaOpen
import Derived.Test.YtpfggghpkdnppaaPx0
import Derived.KernelRfl
set_option linter.unusedVariables false
namespace Go.Proofs.Ytpfggghpkdnppaa.Ks
open Go.RowKit Go.Proofs.YtpfggghpkdnppaaW.PrintWords Go.Proofs.Ytpfggghpkdnppaa.P Go.Proofs.Ytpfggghpkdnppaa.Open
def G34 (x : S34) : Prop := GStr x.f0 ∧ GStr x.f1 ∧ (GInt .i64) x.f2
theorem opens34 : Opens Try.prog 34 k34 G34 :=
  opens_struct (fun p => ⟨p.1, p.2.1, p.2.2⟩) (fun _ => rfl) Try.underlying34 (by kernel_rfl) (fopen_cons rfl (by kernel_rfl) (opens_string Try.underlying9) (fopen_cons rfl (by kernel_rfl) (opens_string Try.underlying9) (fopen_one rfl (by kernel_rfl) (opens_int Try.underlying3))))
def G36 (x : S36) : Prop := GStr x.f0 ∧ (GInt .i64) x.f1 ∧ (GInt .i64) x.f2
theorem opens36 : Opens Try.prog 36 k36 G36 :=
  opens_struct (fun p => ⟨p.1, p.2.1, p.2.2⟩) (fun _ => rfl) Try.underlying36 (by kernel_rfl) (fopen_cons rfl (by kernel_rfl) (opens_string Try.underlying9) (fopen_cons rfl (by kernel_rfl) (opens_int Try.underlying3) (fopen_one rfl (by kernel_rfl) (opens_int Try.underlying3))))
def G47 (x : S47) : Prop := GStr x.f0 ∧ (GList G36) x.f1 ∧ (GInt .i64) x.f2 ∧ (GInt .i64) x.f3 ∧ (GInt .i64) x.f4
theorem opens47 : Opens Try.prog 47 k47 G47 :=
  opens_struct (fun p => ⟨p.1, p.2.1, p.2.2.1, p.2.2.2.1, p.2.2.2.2⟩) (fun _ => rfl) Try.underlying47 (by kernel_rfl) (fopen_cons rfl (by kernel_rfl) (opens_string Try.underlying9) (fopen_cons rfl (by kernel_rfl) (opens_slice Try.underlying45 (by kernel_rfl) opens36) (fopen_cons rfl (by kernel_rfl) (opens_int Try.underlying3) (fopen_cons rfl (by kernel_rfl) (opens_int Try.underlying3) (fopen_one rfl (by kernel_rfl) (opens_int Try.underlying3))))))
end Go.Proofs.Ytpfggghpkdnppaa.Ks
