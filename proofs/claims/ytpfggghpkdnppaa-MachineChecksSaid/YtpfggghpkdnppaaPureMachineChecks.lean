/-
  MachineChecks: the plain law.
-/
import Derived.Test.YtpfggghpkdnppaaPRef
import Derived.Test.YtpfggghpkdnppaaPx25
set_option linter.unusedVariables false
set_option linter.unusedSimpArgs false
namespace Go.Proofs.Ytpfggghpkdnppaa.Pure
open Go.RowKit Go.Proofs.YtpfggghpkdnppaaW.PrintWords Go.Proofs.Ytpfggghpkdnppaa.P Go.Proofs.Ytpfggghpkdnppaa.Rnd Go.Proofs.Ytpfggghpkdnppaa.PName Go.Proofs.Ytpfggghpkdnppaa.Open Go.Proofs.Ytpfggghpkdnppaa.Ks Go.Proofs.Ytpfggghpkdnppaa.PMach Go.Proofs.Ytpfggghpkdnppaa.PEach Go.Proofs.Ytpfggghpkdnppaa.PWorks Go.Proofs.Ytpfggghpkdnppaa.PRef
theorem flat_len (js : List S47) (n : Nat) (h : ∀ j ∈ js, j.f1.length ≤ n) : (js.flatMap (·.f1)).length ≤ n * js.length := by
  induction js with
  | nil => simp
  | cons j js ih =>
    have h1 := h j (by simp)
    have h2 := ih (fun j hj => h j (by simp [hj]))
    rw [List.flatMap_cons, List.length_append, List.length_cons, Nat.mul_succ]
    omega
theorem MachineChecks : ∀ (x0 : List (S34)) (x1 : List (S47)), (GList G34) x0 → (GList G47) x1 → ∃ k, gangsawlaw49_MachineChecks.f k x0 x1 = some true := by
  intro l js hg hgj
  refine Evt.exists_ (f := fun k => gangsawlaw49_MachineChecks.f k l js) ?_
  unfold gangsawlaw49_MachineChecks.f
  refine Evt.bind0 (g := gangsawlaw49_awake_N.f) rfl ?_
  simp only [if_true]
  refine Evt.bind (small_ev l js hg.1 hgj.1) ?_
  cases hs : smallV l js with
  | false => exact Evt.const (fun k => by simp)
  | true =>
    obtain ⟨h1, h2, h3⟩ := small_parts hs
    simp only [if_true]
    refine Evt.bind (check_ev l hg.1) ?_
    refine Evt.bind (rcheck_ev l hg) ?_
    simp only [if_true]
    refine Evt.bind (checkJobs_ev l js hg.1 hgj.1) ?_
    refine Evt.bind (rcheckJobs_ev l js hg (by omega) (fun j hj => by have := h3 j hj; omega) hgj.2) ?_
    simp only [if_true]
    refine Evt.bind (works_ev l js (by omega) (by omega) (fun j hj => by have := h3 j hj; omega)) ?_
    refine Evt.bind (rworks_ev l js (by omega) (by omega) (fun j hj => by have := h3 j hj; omega)) ?_
    refine Evt.bind (same_names _ _ (works_same l js) ?_) (Evt.pure _)
    have e : (worksM l js).length = (worksR l js).length := by simpa using congrArg List.length (works_same l js)
    have h5 := foldl_refLen l (js.flatMap (·.f1)) []
    have h6 := flat_len js 20 h3
    unfold worksR at e
    rw [e]
    rw [List.length_nil] at h5
    have : 20 * js.length ≤ 2640 := by omega
    omega
end Go.Proofs.Ytpfggghpkdnppaa.Pure
