/- The statement of this text's name, out of its plain law and its contract; no condition is added. -/
import Derived.Test.YtnaahepnabmibaaGreatDoorOpen
import Derived.Test.YtnaahepnabmibaaGreatDoorPx0
import Derived.KernelRfl
set_option linter.unusedVariables false
namespace Go.Proofs.YtnaahepnabmibaaGreatDoor.Ks
open Go.RowKit Go.Proofs.YtnaahepnabmibaaGreatDoorW.PrintWords Go.Proofs.YtnaahepnabmibaaGreatDoor.P Go.Proofs.YtnaahepnabmibaaGreatDoor.Open
def G47 (x : S47) : Prop := (GInt .i64) x.f0 ∧ (GInt .i64) x.f1 ∧ (GInt .i64) x.f2 ∧ (GInt .i64) x.f3
theorem opens47 : Opens Tryz.prog 47 k47 G47 :=
  opens_struct (fun p => ⟨p.1, p.2.1, p.2.2.1, p.2.2.2⟩) (fun _ => rfl) Tryz.underlying47 (by kernel_rfl) (fopen_cons rfl (by kernel_rfl) (opens_int Tryz.underlying3) (fopen_cons rfl (by kernel_rfl) (opens_int Tryz.underlying3) (fopen_cons rfl (by kernel_rfl) (opens_int Tryz.underlying3) (fopen_one rfl (by kernel_rfl) (opens_int Tryz.underlying3)))))
end Go.Proofs.YtnaahepnabmibaaGreatDoor.Ks
