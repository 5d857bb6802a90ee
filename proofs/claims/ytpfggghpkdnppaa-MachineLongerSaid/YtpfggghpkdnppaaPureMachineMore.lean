/-
  MachineMore: the plain law.
-/
import Derived.Test.YtpfggghpkdnppaaPEach
import Derived.Test.YtpfggghpkdnppaaPx23
set_option linter.unusedVariables false
set_option linter.unusedSimpArgs false
namespace Go.Proofs.Ytpfggghpkdnppaa.PMore
open Go.RowKit Go.Proofs.YtpfggghpkdnppaaW.PrintWords Go.Proofs.Ytpfggghpkdnppaa.P Go.Proofs.Ytpfggghpkdnppaa.Rnd Go.Proofs.Ytpfggghpkdnppaa.PName Go.Proofs.Ytpfggghpkdnppaa.Open Go.Proofs.Ytpfggghpkdnppaa.Ks Go.Proofs.Ytpfggghpkdnppaa.PMach Go.Proofs.Ytpfggghpkdnppaa.PEach

theorem eachV_zero {l : List S34} {js : List S47} {b : Bool} (h : eachV l js b = 0) : js.any longJ = false ∧ js.any noneJ = false ∧ js.any unnamedJ = false ∧ js.any rangeJ = false ∧ (b && !sortedJ js) = false ∧ js.any (fun j => j.f1.any (unknownS l)) = false := by
  unfold eachV at h
  cases h1 : js.any longJ <;> rw [h1] at h <;> simp only [Bool.false_eq_true, if_false, if_true] at h
  · cases h2 : js.any noneJ <;> rw [h2] at h <;> simp only [Bool.false_eq_true, if_false, if_true] at h
    · cases h3 : js.any unnamedJ <;> rw [h3] at h <;> simp only [Bool.false_eq_true, if_false, if_true] at h
      · cases h4 : js.any rangeJ <;> rw [h4] at h <;> simp only [Bool.false_eq_true, if_false, if_true] at h
        · cases h5 : (b && !sortedJ js) <;> rw [h5] at h <;> simp only [Bool.false_eq_true, if_false, if_true] at h
          · cases h6 : js.any (fun j => j.f1.any (unknownS l)) <;> rw [h6] at h <;> simp only [Bool.false_eq_true, if_false, if_true] at h
            · exact ⟨rfl, rfl, rfl, rfl, rfl, rfl⟩
            · omega
          · omega
        · omega
      · omega
    · omega
  · omega
theorem checkJobs_zero {l : List S34} {js : List S47} (h : checkJobsV l js = 0) : checkV l = 0 ∧ js.length ≤ 128 ∧ eachV l js true = 0 := by
  unfold checkJobsV at h
  by_cases c : checkV l = 0
  · rw [if_pos c] at h
    by_cases c2 : 128 < js.length
    · rw [if_pos c2] at h; omega
    · rw [if_neg c2] at h; exact ⟨c, by omega, h⟩
  · rw [if_neg c] at h; exact absurd h c
end Go.Proofs.Ytpfggghpkdnppaa.PMore
namespace Go.Proofs.Ytpfggghpkdnppaa.Pure
open Go.RowKit Go.Proofs.YtpfggghpkdnppaaW.PrintWords Go.Proofs.Ytpfggghpkdnppaa.P Go.Proofs.Ytpfggghpkdnppaa.Rnd Go.Proofs.Ytpfggghpkdnppaa.PName Go.Proofs.Ytpfggghpkdnppaa.Open Go.Proofs.Ytpfggghpkdnppaa.Ks Go.Proofs.Ytpfggghpkdnppaa.PMach Go.Proofs.Ytpfggghpkdnppaa.PEach Go.Proofs.Ytpfggghpkdnppaa.PMore
end Go.Proofs.Ytpfggghpkdnppaa.Pure
