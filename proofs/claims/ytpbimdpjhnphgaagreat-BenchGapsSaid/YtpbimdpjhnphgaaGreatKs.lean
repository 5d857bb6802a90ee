/- The statement of this text's name, out of its plain law and its contract; no condition is added. -/
import Derived.Test.YtpbimdpjhnphgaaGreatOpen
import Derived.Test.YtpbimdpjhnphgaaGreatPx0
import Derived.KernelRfl
set_option linter.unusedVariables false
namespace Go.Proofs.YtpbimdpjhnphgaaGreat.Ks
open Go.RowKit Go.Proofs.YtpbimdpjhnphgaaGreatW.PrintWords Go.Proofs.YtpbimdpjhnphgaaGreat.P Go.Proofs.YtpbimdpjhnphgaaGreat.Open
def G23 (x : S23) : Prop := (GInt .i64) x.f0 ∧ (GInt .i64) x.f1 ∧ (GInt .i64) x.f2
theorem opens23 : Opens Tryz.prog 23 k23 G23 :=
  opens_struct (fun p => ⟨p.1, p.2.1, p.2.2⟩) (fun _ => rfl) Tryz.underlying23 (by kernel_rfl) (fopen_cons rfl (by kernel_rfl) (opens_int Tryz.underlying3) (fopen_cons rfl (by kernel_rfl) (opens_int Tryz.underlying3) (fopen_one rfl (by kernel_rfl) (opens_int Tryz.underlying3))))
def G25 (x : S25) : Prop := G23 x.f0 ∧ G23 x.f1
theorem opens25 : Opens Tryz.prog 25 k25 G25 :=
  opens_struct (fun p => ⟨p.1, p.2⟩) (fun _ => rfl) Tryz.underlying25 (by kernel_rfl) (fopen_cons rfl (by kernel_rfl) opens23 (fopen_one rfl (by kernel_rfl) opens23))
end Go.Proofs.YtpbimdpjhnphgaaGreat.Ks
