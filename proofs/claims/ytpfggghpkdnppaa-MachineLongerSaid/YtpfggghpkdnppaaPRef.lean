/-
  The reference's CheckJobs, CheckJob, Load and Chain, in the same plain terms as machine's.
-/
import Derived.Test.YtpfggghpkdnppaaPWorks
import Derived.Test.YtpfggghpkdnppaaPx18
import Derived.Test.YtpfggghpkdnppaaPx19
import Derived.Test.YtpfggghpkdnppaaPx20
set_option linter.unusedVariables false
set_option linter.unusedSimpArgs false
namespace Go.Proofs.Ytpfggghpkdnppaa.PRef
open Go.RowKit Go.Proofs Go.Proofs.YtpfggghpkdnppaaW.PrintWords Go.Proofs.Ytpfggghpkdnppaa.P Go.Proofs.Ytpfggghpkdnppaa.Rnd Go.Proofs.Ytpfggghpkdnppaa.Lex Go.Proofs.Ytpfggghpkdnppaa.PName Go.Proofs.Ytpfggghpkdnppaa.Open Go.Proofs.Ytpfggghpkdnppaa.Ks Go.Proofs.Ytpfggghpkdnppaa.PMach Go.Proofs.Ytpfggghpkdnppaa.PEach Go.Proofs.Ytpfggghpkdnppaa.PWorks

theorem small_parts {l : List S34} {js : List S47} (h : smallV l js = true) : l.length ≤ 40 ∧ js.length ≤ 132 ∧ ∀ j ∈ js, j.f1.length ≤ 20 := by
  obtain ⟨h1, h2, -, h4⟩ := small_few h
  refine ⟨h1, by omega, fun j hj => ?_⟩
  rw [List.any_eq_false] at h4
  have := h4 j hj
  unfold bigJ at this
  simp at this
  omega
end Go.Proofs.Ytpfggghpkdnppaa.PRef
