/- The statement of this text's name, out of its plain law and its contract; no condition is added. -/
import Derived.Test.YtfedmcehkpfciaaGreatOpen
import Derived.Test.YtfedmcehkpfciaaGreatPx0
import Derived.KernelRfl
set_option linter.unusedVariables false
namespace Go.Proofs.YtfedmcehkpfciaaGreat.Ks
open Go.RowKit Go.Proofs.YtfedmcehkpfciaaGreatW.PrintWords Go.Proofs.YtfedmcehkpfciaaGreat.P Go.Proofs.YtfedmcehkpfciaaGreat.Open
def G30 (x : S30) : Prop := (GInt .i64) x.f0 ∧ (GInt .i64) x.f1
theorem opens30 : Opens Tryz.prog 30 k30 G30 :=
  opens_struct (fun p => ⟨p.1, p.2⟩) (fun _ => rfl) Tryz.underlying30 (by kernel_rfl) (fopen_cons rfl (by kernel_rfl) (opens_int Tryz.underlying3) (fopen_one rfl (by kernel_rfl) (opens_int Tryz.underlying3)))
def G48 (x : S48) : Prop := (GInt .i64) x.f0 ∧ (GInt .i64) x.f1 ∧ (GInt .i64) x.f2
theorem opens48 : Opens Tryz.prog 48 k48 G48 :=
  opens_struct (fun p => ⟨p.1, p.2.1, p.2.2⟩) (fun _ => rfl) Tryz.underlying48 (by kernel_rfl) (fopen_cons rfl (by kernel_rfl) (opens_int Tryz.underlying3) (fopen_cons rfl (by kernel_rfl) (opens_int Tryz.underlying3) (fopen_one rfl (by kernel_rfl) (opens_int Tryz.underlying3))))
def G33 (x : S33) : Prop := GStr x.f0 ∧ G30 x.f1 ∧ (GList G48) x.f2
theorem opens33 : Opens Tryz.prog 33 k33 G33 :=
  opens_struct (fun p => ⟨p.1, p.2.1, p.2.2⟩) (fun _ => rfl) Tryz.underlying33 (by kernel_rfl) (fopen_cons rfl (by kernel_rfl) (opens_string Tryz.underlying9) (fopen_cons rfl (by kernel_rfl) opens30 (fopen_one rfl (by kernel_rfl) (opens_slice Tryz.underlying31 (by kernel_rfl) opens48))))
end Go.Proofs.YtfedmcehkpfciaaGreat.Ks
