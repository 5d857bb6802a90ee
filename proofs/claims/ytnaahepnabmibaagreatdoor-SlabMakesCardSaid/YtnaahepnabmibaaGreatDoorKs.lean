/- The statement of this text's name, out of its plain law and its contract; no condition is added. -/
import Derived.Test.YtnaahepnabmibaaGreatDoorOpen
import Derived.Test.YtnaahepnabmibaaGreatDoorPx0
import Derived.KernelRfl
set_option linter.unusedVariables false
namespace Go.Proofs.YtnaahepnabmibaaGreatDoor.Ks
open Go.RowKit Go.Proofs.YtnaahepnabmibaaGreatDoorW.PrintWords Go.Proofs.YtnaahepnabmibaaGreatDoor.P Go.Proofs.YtnaahepnabmibaaGreatDoor.Open
def G30 (x : S30) : Prop := (GInt .i64) x.f0 ∧ (GInt .i64) x.f1 ∧ (GInt .i64) x.f2
theorem opens30 : Opens Tryz.prog 30 k30 G30 :=
  opens_struct (fun p => ⟨p.1, p.2.1, p.2.2⟩) (fun _ => rfl) Tryz.underlying30 (by kernel_rfl) (fopen_cons rfl (by kernel_rfl) (opens_int Tryz.underlying3) (fopen_cons rfl (by kernel_rfl) (opens_int Tryz.underlying3) (fopen_one rfl (by kernel_rfl) (opens_int Tryz.underlying3))))
def G32 (x : S32) : Prop := G30 x.f0 ∧ G30 x.f1
theorem opens32 : Opens Tryz.prog 32 k32 G32 :=
  opens_struct (fun p => ⟨p.1, p.2⟩) (fun _ => rfl) Tryz.underlying32 (by kernel_rfl) (fopen_cons rfl (by kernel_rfl) opens30 (fopen_one rfl (by kernel_rfl) opens30))
def G45 (x : S45) : Prop := GStr x.f0 ∧ G32 x.f1
theorem opens45 : Opens Tryz.prog 45 k45 G45 :=
  opens_struct (fun p => ⟨p.1, p.2⟩) (fun _ => rfl) Tryz.underlying45 (by kernel_rfl) (fopen_cons rfl (by kernel_rfl) (opens_string Tryz.underlying9) (fopen_one rfl (by kernel_rfl) opens32))
def G47 (x : S47) : Prop := (GInt .i64) x.f0 ∧ (GInt .i64) x.f1 ∧ (GInt .i64) x.f2 ∧ (GInt .i64) x.f3
theorem opens47 : Opens Tryz.prog 47 k47 G47 :=
  opens_struct (fun p => ⟨p.1, p.2.1, p.2.2.1, p.2.2.2⟩) (fun _ => rfl) Tryz.underlying47 (by kernel_rfl) (fopen_cons rfl (by kernel_rfl) (opens_int Tryz.underlying3) (fopen_cons rfl (by kernel_rfl) (opens_int Tryz.underlying3) (fopen_cons rfl (by kernel_rfl) (opens_int Tryz.underlying3) (fopen_one rfl (by kernel_rfl) (opens_int Tryz.underlying3)))))
end Go.Proofs.YtnaahepnabmibaaGreatDoor.Ks
