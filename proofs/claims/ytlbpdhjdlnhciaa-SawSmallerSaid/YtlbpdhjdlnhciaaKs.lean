/- The statement of this text's name, out of its plain law and its contract; no condition is added. -/
import Derived.Test.YtlbpdhjdlnhciaaOpen
import Derived.Test.YtlbpdhjdlnhciaaPx0
import Derived.KernelRfl
set_option linter.unusedVariables false
namespace Go.Proofs.Ytlbpdhjdlnhciaa.Ks
open Go.RowKit Go.Proofs.YtlbpdhjdlnhciaaW.PrintWords Go.Proofs.Ytlbpdhjdlnhciaa.P Go.Proofs.Ytlbpdhjdlnhciaa.Open
def G28 (x : S28) : Prop := (GInt .i64) x.f0 ∧ (GInt .i64) x.f1 ∧ (GInt .i64) x.f2
theorem opens28 : Opens Try.prog 28 k28 G28 :=
  opens_struct (fun p => ⟨p.1, p.2.1, p.2.2⟩) (fun _ => rfl) Try.underlying28 (by kernel_rfl) (fopen_cons rfl (by kernel_rfl) (opens_int Try.underlying3) (fopen_cons rfl (by kernel_rfl) (opens_int Try.underlying3) (fopen_one rfl (by kernel_rfl) (opens_int Try.underlying3))))
def G37 (x : S37) : Prop := GStr x.f0 ∧ (GInt .i64) x.f1 ∧ G28 x.f2 ∧ (GInt .i64) x.f3 ∧ (GInt .i64) x.f4 ∧ (GInt .i64) x.f5
theorem opens37 : Opens Try.prog 37 k37 G37 :=
  opens_struct (fun p => ⟨p.1, p.2.1, p.2.2.1, p.2.2.2.1, p.2.2.2.2.1, p.2.2.2.2.2⟩) (fun _ => rfl) Try.underlying37 (by kernel_rfl) (fopen_cons rfl (by kernel_rfl) (opens_string Try.underlying9) (fopen_cons rfl (by kernel_rfl) (opens_int Try.underlying3) (fopen_cons rfl (by kernel_rfl) opens28 (fopen_cons rfl (by kernel_rfl) (opens_int Try.underlying3) (fopen_cons rfl (by kernel_rfl) (opens_int Try.underlying3) (fopen_one rfl (by kernel_rfl) (opens_int Try.underlying2)))))))
def G30 (x : S30) : Prop := G28 x.f0 ∧ G28 x.f1
theorem opens30 : Opens Try.prog 30 k30 G30 :=
  opens_struct (fun p => ⟨p.1, p.2⟩) (fun _ => rfl) Try.underlying30 (by kernel_rfl) (fopen_cons rfl (by kernel_rfl) opens28 (fopen_one rfl (by kernel_rfl) opens28))
end Go.Proofs.Ytlbpdhjdlnhciaa.Ks
