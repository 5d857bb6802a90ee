/- The statement of this text's name, out of its plain law and its contract; no condition is added. -/
import Derived.Test.YtnaahepnabmibaaGreatDoorOpen
import Derived.Test.YtnaahepnabmibaaGreatDoorPx0
import Derived.KernelRfl
set_option linter.unusedVariables false
namespace Go.Proofs.YtnaahepnabmibaaGreatDoor.Ks
open Go.RowKit Go.Proofs.YtnaahepnabmibaaGreatDoorW.PrintWords Go.Proofs.YtnaahepnabmibaaGreatDoor.P Go.Proofs.YtnaahepnabmibaaGreatDoor.Open
def G30 (x : S30) : Prop := (GInt .i64) x.f0 ∧ (GInt .i64) x.f1 ∧ (GInt .i64) x.f2
theorem opens30 : Opens Tryz.prog 30 k30 G30 :=
  opens_struct (fun p => ⟨p.1, p.2.1, p.2.2⟩) (fun _ => rfl) Tryz.underlying30 (by kernel_rfl) (fopen_cons rfl (by kernel_rfl) (opens_int Tryz.underlying3) (fopen_cons rfl (by kernel_rfl) (opens_int Tryz.underlying3) (fopen_one rfl (by kernel_rfl) (opens_int Tryz.underlying3))))
def G32 (x : S32) : Prop := G30 x.f0 ∧ G30 x.f1
theorem opens32 : Opens Tryz.prog 32 k32 G32 :=
  opens_struct (fun p => ⟨p.1, p.2⟩) (fun _ => rfl) Tryz.underlying32 (by kernel_rfl) (fopen_cons rfl (by kernel_rfl) opens30 (fopen_one rfl (by kernel_rfl) opens30))
def G35 (x : S35) : Prop := GStr x.f0 ∧ GStr x.f1 ∧ (GInt .i64) x.f2 ∧ G32 x.f3 ∧ (GInt .i64) x.f4 ∧ (GList (GInt .i64)) x.f5 ∧ (GList (GInt .i64)) x.f6
theorem opens35 : Opens Tryz.prog 35 k35 G35 :=
  opens_struct (fun p => ⟨p.1, p.2.1, p.2.2.1, p.2.2.2.1, p.2.2.2.2.1, p.2.2.2.2.2.1, p.2.2.2.2.2.2⟩) (fun _ => rfl) Tryz.underlying35 (by kernel_rfl) (fopen_cons rfl (by kernel_rfl) (opens_string Tryz.underlying9) (fopen_cons rfl (by kernel_rfl) (opens_string Tryz.underlying9) (fopen_cons rfl (by kernel_rfl) (opens_int Tryz.underlying3) (fopen_cons rfl (by kernel_rfl) opens32 (fopen_cons rfl (by kernel_rfl) (opens_int Tryz.underlying3) (fopen_cons rfl (by kernel_rfl) (opens_slice Tryz.underlying33 (by kernel_rfl) (opens_int Tryz.underlying3)) (fopen_one rfl (by kernel_rfl) (opens_slice Tryz.underlying33 (by kernel_rfl) (opens_int Tryz.underlying3)))))))))
end Go.Proofs.YtnaahepnabmibaaGreatDoor.Ks
