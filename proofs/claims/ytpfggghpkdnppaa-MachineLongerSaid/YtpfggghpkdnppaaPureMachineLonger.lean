/-
  MachineLonger: the plain law.
-/
import Derived.Test.YtpfggghpkdnppaaPRef
import Derived.Test.YtpfggghpkdnppaaPureMachineLoads
import Derived.Test.YtpfggghpkdnppaaPureMachineMore
import Derived.Test.YtpfggghpkdnppaaPx26
set_option linter.unusedVariables false
set_option linter.unusedSimpArgs false
namespace Go.Proofs.Ytpfggghpkdnppaa.PLonger
open Go.RowKit Go.Proofs.YtpfggghpkdnppaaW.PrintWords Go.Proofs.Ytpfggghpkdnppaa.P Go.Proofs.Ytpfggghpkdnppaa.Rnd Go.Proofs.Ytpfggghpkdnppaa.PName Go.Proofs.Ytpfggghpkdnppaa.Open Go.Proofs.Ytpfggghpkdnppaa.Ks Go.Proofs.Ytpfggghpkdnppaa.PMach Go.Proofs.Ytpfggghpkdnppaa.PEach Go.Proofs.Ytpfggghpkdnppaa.PWorks Go.Proofs.Ytpfggghpkdnppaa.PRef Go.Proofs.Ytpfggghpkdnppaa.PLoads Go.Proofs.Ytpfggghpkdnppaa.PMore
theorem wrap_add (a b c : Int) : wrap64 (a + wrap64 (b + c)) = wrap64 (wrap64 (a + b) + c) := by unfold wrap64; omega
theorem chain_more (ss : List S36) (s : S36) : chainV (ss ++ [s]) = wrap64 (wrap64 (chainV ss + s.f1) + s.f2) := by
  unfold chainV
  rw [List.foldl_append]
  exact wrap_add _ _ _
theorem job_ok {l : List S34} {js : List S47} (h : checkJobsV l js = 0) (j : S47) (hj : j ∈ js) : jobErr l j = 0 := by
  obtain ⟨h1, h2, h3⟩ := checkJobs_zero h
  obtain ⟨a1, a2, a3, a4, a5, a6⟩ := eachV_zero h3
  rw [List.any_eq_false] at a1 a2 a3 a4 a6
  unfold jobErr eachV
  rw [if_pos h1]
  have b1 : longJ j = false := by simpa using a1 j hj
  have b2 : noneJ j = false := by simpa using a2 j hj
  have b3 : unnamedJ j = false := by simpa using a3 j hj
  have b4 : rangeJ j = false := by simpa using a4 j hj
  have b6 : j.f1.any (unknownS l) = false := by simpa using a6 j hj
  simp only [List.any_cons, List.any_nil, Bool.or_false, b1, b2, b3, b4, b6, Bool.false_and, Bool.false_eq_true, if_false]
theorem checkV_not3 (l : List S34) : checkV l ≠ 3 := by
  unfold checkV
  split
  · decide
  · split
    · decide
    · split
      · decide
      · split <;> decide
theorem works_err (l : List S34) (js : List S47) : (checkJobsV l js = 0 → (worksM l js).length = 0) ∧ (checkJobsV l js = 3 → ¬ (worksM l js).length = 0) := by
  have e : (worksM l js).length = (worksR l js).length := by simpa using congrArg List.length (works_same l js)
  rw [e]
  constructor
  · intro h
    obtain ⟨h1, h2, h3⟩ := checkJobs_zero h
    obtain ⟨-, -, -, -, -, a6⟩ := eachV_zero h3
    exact (worksR_nil l js).2 a6
  · intro h h0
    have h6 := (worksR_nil l js).1 h0
    unfold checkJobsV at h
    by_cases c : checkV l = 0
    · rw [if_pos c] at h
      by_cases c2 : 128 < js.length
      · rw [if_pos c2] at h; omega
      · rw [if_neg c2] at h
        unfold eachV at h
        rw [h6] at h
        simp only [Bool.false_eq_true, if_false] at h
        split at h
        · omega
        · split at h
          · omega
          · split at h
            · omega
            · split at h
              · omega
              · split at h <;> omega
    · rw [if_neg c] at h; exact checkV_not3 l h
end Go.Proofs.Ytpfggghpkdnppaa.PLonger
namespace Go.Proofs.Ytpfggghpkdnppaa.Pure
open Go.RowKit Go.Proofs.YtpfggghpkdnppaaW.PrintWords Go.Proofs.Ytpfggghpkdnppaa.P Go.Proofs.Ytpfggghpkdnppaa.Rnd Go.Proofs.Ytpfggghpkdnppaa.PName Go.Proofs.Ytpfggghpkdnppaa.Open Go.Proofs.Ytpfggghpkdnppaa.Ks Go.Proofs.Ytpfggghpkdnppaa.PMach Go.Proofs.Ytpfggghpkdnppaa.PEach Go.Proofs.Ytpfggghpkdnppaa.PWorks Go.Proofs.Ytpfggghpkdnppaa.PRef Go.Proofs.Ytpfggghpkdnppaa.PLoads Go.Proofs.Ytpfggghpkdnppaa.PMore Go.Proofs.Ytpfggghpkdnppaa.PLonger
theorem MachineLonger : ∀ (x0 : List (S34)) (x1 : List (S47)) (x2 : S36), (GList G34) x0 → (GList G47) x1 → G36 x2 → ∃ k, gangsawlaw49_MachineLonger.f k x0 x1 x2.f0 x2.f1 x2.f2 = some true := by
  rintro l js ⟨s0, s1, s2⟩ hg hgj -
  refine Evt.exists_ (f := fun k => gangsawlaw49_MachineLonger.f k l js s0 s1 s2) ?_
  unfold gangsawlaw49_MachineLonger.f
  have hyes : Evt (fun k => gangsawlaw49_MachineLonger.j0 k l js true s0 s1 s2) true := Evt.succ (g := fun _ => some true) (Evt.pure _) (fun k => by simp only [gangsawlaw49_MachineLonger.j0, if_true])
  refine Evt.bind0 (g := gangsawlaw49_awake_N.f) rfl ?_
  simp only [if_true]
  refine Evt.bind (small_ev l js hg.1 hgj.1) ?_
  cases hsm : smallV l js with
  | false => exact Evt.of_eq hyes (fun k => by simp)
  | true =>
    obtain ⟨h1, h2, h3⟩ := small_parts hsm
    simp only [if_true]
    cases decide ((s0.size : Int) > 100) with
    | true => exact hyes
    | false =>
      obtain ⟨w1, w2⟩ := works_err l js
      refine Evt.succ (g := fun k => (machine_CheckJobs.f k l js).bind fun e => (machine_Works.f k l js).bind fun w => if e = 0 then (if (w.length : Int) > 0 then gangsawlaw49_MachineLonger.j1 k l js e true s0 s1 s2 else (if e = 3 then gangsawlaw49_MachineLonger.j1 k l js e ((w.length : Int) == 0) s0 s1 s2 else gangsawlaw49_MachineLonger.j1 k l js e false s0 s1 s2)) else (if e = 3 then gangsawlaw49_MachineLonger.j1 k l js e ((w.length : Int) == 0) s0 s1 s2 else gangsawlaw49_MachineLonger.j1 k l js e false s0 s1 s2)) ?_ (fun k => by simp only [gangsawlaw49_MachineLonger.j0, Bool.false_eq_true, if_false])
      refine Evt.bind (checkJobs_ev l js hg.1 hgj.1) ?_
      refine Evt.bind (works_ev l js (by omega) (by omega) (fun j hj => by have := h3 j hj; omega)) ?_
      by_cases c : checkJobsV l js = 0
      · have hw := w1 c
        refine Evt.of_eq (g := fun k => gangsawlaw49_MachineLonger.j1 k l js 0 false s0 s1 s2) ?_ (fun k => by rw [if_pos c, if_neg (by omega), if_neg (by omega), c])
        refine Evt.succ (g := fun k => gangsawlaw49_MachineLonger.l0 k l js 0 s0 s1 s2) ?_ (fun k => by simp only [gangsawlaw49_MachineLonger.j1, Bool.false_eq_true, if_false, if_true])
        have key : ∀ i, i ≤ js.length → Evt (fun k => gangsawlaw49_MachineLonger.l0 k l js i s0 s1 s2) true := by
          refine down ?_ ?_
          · exact Evt.succ (g := fun _ => some true) (Evt.pure _) (fun k => by simp only [gangsawlaw49_MachineLonger.l0, Int.lt_irrefl, if_false])
          · intro i hi ih
            have hm := List.getElem_mem hi
            have hl20 := h3 _ hm
            refine Evt.succ (g := fun k => (machine_Chain.f k l js[i].f0 js[i].f1 js[i].f2 js[i].f3 js[i].f4).bind fun a => (machine_Chain.f k l js[i].f0 (js[i].f1 ++ [(⟨s0, s1, s2⟩ : S36)]) js[i].f2 js[i].f3 js[i].f4).bind fun b => if a.2 = 0 then (if b.2 = 0 then (if b.1 = wrap64 (wrap64 (a.1 + s1) + s2) then gangsawlaw49_MachineLonger.l0 k l js ((i + 1 : Nat) : Int) s0 s1 s2 else some false) else gangsawlaw49_MachineLonger.l0 k l js ((i + 1 : Nat) : Int) s0 s1 s2) else some false) ?_ (fun k => ?_)
            · refine Evt.bind (mchain_ev l js[i] hg.1 (by omega)) ?_
              have hlong := mchain_ev l ⟨js[i].f0, js[i].f1 ++ [(⟨s0, s1, s2⟩ : S36)], js[i].f2, js[i].f3, js[i].f4⟩ hg.1 (by simp; omega)
              refine Evt.bind hlong ?_
              simp only [if_pos (job_ok c _ hm), if_true]
              by_cases c2 : jobErr l ⟨js[i].f0, js[i].f1 ++ [(⟨s0, s1, s2⟩ : S36)], js[i].f2, js[i].f3, js[i].f4⟩ = 0
              · simp only [if_pos c2, if_true, chain_more]
                exact ih
              · simp only [if_neg c2]
                exact ih
            · simp only [gangsawlaw49_MachineLonger.l0, rd47_at js i hi, Option.bind_some, List.nil_append, List.length_nil, List.length_singleton]
              rw [if_pos (by omega), if_pos (by omega), if_pos (by omega), if_pos (by omega), wrap_up i js.length hi (by omega)]
        exact key 0 (by omega)
      · have hno : ∀ e, e ≠ 0 → Evt (fun k => gangsawlaw49_MachineLonger.j1 k l js e false s0 s1 s2) true := fun e he => Evt.succ (g := fun _ => some true) (Evt.pure _) (fun k => by simp only [gangsawlaw49_MachineLonger.j1, Bool.false_eq_true, if_false, if_neg he])
        by_cases c3 : checkJobsV l js = 3
        · have hw := w2 c3
          refine Evt.of_eq (hno _ c) (fun k => ?_)
          have : (((worksM l js).length : Int) == 0) = false := by rw [beq_eq_false_iff_ne]; omega
          rw [if_neg c, if_pos c3, this]
        · exact Evt.of_eq (hno _ c) (fun k => by rw [if_neg c, if_neg c3])
end Go.Proofs.Ytpfggghpkdnppaa.Pure
