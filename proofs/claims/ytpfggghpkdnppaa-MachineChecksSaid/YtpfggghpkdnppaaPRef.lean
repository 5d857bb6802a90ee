/-
  The reference's CheckJobs, CheckJob, Load and Chain, in the same plain terms as machine's.
-/
import Derived.Test.YtpfggghpkdnppaaPWorks
import Derived.Test.YtpfggghpkdnppaaPx18
import Derived.Test.YtpfggghpkdnppaaPx19
import Derived.Test.YtpfggghpkdnppaaPx20
set_option linter.unusedVariables false
set_option linter.unusedSimpArgs false
namespace Go.Proofs.Ytpfggghpkdnppaa.PRef
open Go.RowKit Go.Proofs Go.Proofs.YtpfggghpkdnppaaW.PrintWords Go.Proofs.Ytpfggghpkdnppaa.P Go.Proofs.Ytpfggghpkdnppaa.Rnd Go.Proofs.Ytpfggghpkdnppaa.Lex Go.Proofs.Ytpfggghpkdnppaa.PName Go.Proofs.Ytpfggghpkdnppaa.Open Go.Proofs.Ytpfggghpkdnppaa.Ks Go.Proofs.Ytpfggghpkdnppaa.PMach Go.Proofs.Ytpfggghpkdnppaa.PEach Go.Proofs.Ytpfggghpkdnppaa.PWorks

theorem step_f (s : S36) : gangsawref49_step.f s.f0 s.f1 s.f2 = some (stepB s) := by
  unfold gangsawref49_step.f stepB; simp only [inr_f, Option.bind_some]; grind
theorem unnamed_ev (j : S47) (hg : G47 j) : Evt (fun k => gangsawref49_unnamed.f k j.f0 j.f1 j.f2 j.f3 j.f4) (unnamedJ j) := by
  obtain ⟨g0, ⟨gl, gs⟩, -⟩ := hg
  unfold gangsawref49_unnamed.f
  have e : unnamedJ j = (if j.f1.any (fun s => !nameB s.f0) then true else !nameB j.f0) := by
    unfold unnamedJ; cases j.f1.any (fun s => !nameB s.f0) <;> cases nameB j.f0 <;> rfl
  rw [e]
  refine Evt.any_list (F := fun k i => gangsawref49_unnamed.l0 k i j.f0 j.f1 j.f2 j.f3 j.f4) (l := j.f1) (fun s => !nameB s.f0) true ?_ ?_ ?_
  · refine Evt.succ (g := fun k => (gangsawref09_Name.f k j.f0).bind fun t => some (!t)) (Evt.bind (name_ev _ g0) (Evt.pure _)) (fun k => by simp only [gangsawref49_unnamed.l0, Int.lt_irrefl, if_false])
  · intro i hi hb
    have hs := gs j.f1[i] (List.getElem_mem _)
    refine Evt.succ (g := fun k => (gangsawref09_Name.f k j.f1[i].f0).bind fun t => if t = true then gangsawref49_unnamed.l0 k (wrap64 ((i : Int) + 1)) j.f0 j.f1 j.f2 j.f3 j.f4 else some true) (Evt.bind (name_ev _ hs.1) ?_) (fun k => ?_)
    · have : nameB j.f1[i].f0 = false := by simpa using hb
      rw [this]; exact Evt.pure _
    · simp only [gangsawref49_unnamed.l0, rd36_at _ i hi]
      rw [if_pos (by omega), if_pos (by omega)]
  · intro i hi hb v hv
    have hs := gs j.f1[i] (List.getElem_mem _)
    refine Evt.succ (g := fun k => (gangsawref09_Name.f k j.f1[i].f0).bind fun t => if t = true then gangsawref49_unnamed.l0 k (wrap64 ((i : Int) + 1)) j.f0 j.f1 j.f2 j.f3 j.f4 else some true) (Evt.bind (name_ev _ hs.1) ?_) (fun k => ?_)
    · have : nameB j.f1[i].f0 = true := by simpa using hb
      rw [this, wrap_up i _ hi gl]; simpa using hv
    · simp only [gangsawref49_unnamed.l0, rd36_at _ i hi]
      rw [if_pos (by omega), if_pos (by omega)]
theorem job_ev (j : S47) (hl : j.f1.length ≤ 9223372036854775807) : Evt (fun k => gangsawref49_job.f k j.f0 j.f1 j.f2 j.f3 j.f4) (!rangeJ j) := by
  unfold gangsawref49_job.f
  have e : (!rangeJ j) = (if j.f1.any (fun s => !stepB s) then false else (inB j.f2 0 10000000 && inB j.f3 0 10000000 && inB j.f4 0 100)) := by
    unfold rangeJ; cases j.f1.any (fun s => !stepB s) <;> cases inB j.f2 0 10000000 <;> cases inB j.f3 0 10000000 <;> cases inB j.f4 0 100 <;> rfl
  rw [e]
  refine Evt.any_list (F := fun k i => gangsawref49_job.l0 k i j.f0 j.f1 j.f2 j.f3 j.f4) (l := j.f1) (fun s => !stepB s) false ?_ ?_ ?_
  · refine Evt.succ (g := fun _ => some (inB j.f2 0 10000000 && inB j.f3 0 10000000 && inB j.f4 0 100)) (Evt.pure _) (fun k => ?_)
    simp only [gangsawref49_job.l0, Int.lt_irrefl, if_false, inr_f, Option.bind_some]
    cases inB j.f2 0 10000000 <;> cases inB j.f3 0 10000000 <;> cases inB j.f4 0 100 <;> rfl
  · intro i hi hb
    refine Evt.succ (g := fun _ => some false) (Evt.pure _) (fun k => ?_)
    simp only [gangsawref49_job.l0, rd36_at _ i hi, step_f, Option.bind_some]
    have : stepB j.f1[i] = false := by simpa using hb
    rw [if_pos (by omega), if_pos (by omega), this]; rfl
  · intro i hi hb v hv
    refine Evt.succ hv (fun k => ?_)
    simp only [gangsawref49_job.l0, rd36_at _ i hi, step_f, Option.bind_some]
    have : stepB j.f1[i] = true := by simpa using hb
    rw [if_pos (by omega), if_pos (by omega), this, if_pos rfl, wrap_up i _ hi hl]
theorem rlast (l : List S34) (js : List S47) (hl : l.length ≤ 1000000) (hj : js.length ≤ 900) (hs : ∀ j ∈ js, j.f1.length ≤ 1000) (b : Bool) (i : Int) : Evt (fun k => gangsawref49_each.j5 k l js b i false) (if js.any (fun j => j.f1.any (unknownS l)) then 3 else 0) := by
  refine Evt.succ (g := fun k => (gangsawref49_Works.f k l js).bind fun t => if (t.length : Int) > 0 then some 3 else some 0) (Evt.bind (rworks_ev l js hl hj hs) ?_) (fun k => by simp only [gangsawref49_each.j5, Bool.false_eq_true, if_false])
  have h := worksR_nil l js
  cases c : js.any (fun j => j.f1.any (unknownS l)) with
  | true =>
    rw [c] at h
    have : ¬ (worksR l js).length = 0 := fun e => by have := h.1 e; cases this
    exact Evt.const (fun k => by rw [if_pos (by omega)]; rfl)
  | false =>
    have := h.2 c
    exact Evt.const (fun k => by rw [if_neg (by omega)]; rfl)
theorem rsorted (l : List S34) (js : List S47) (hl : l.length ≤ 1000000) (hj : js.length ≤ 900) (hs : ∀ j ∈ js, j.f1.length ≤ 1000) (b : Bool) :
    Evt (fun k => gangsawref49_each.l4 k l js b 1) (if b && !sortedJ js then 5 else if js.any (fun j => j.f1.any (unknownS l)) then 3 else 0) := by
  have hlast := rlast l js hl hj hs b
  cases b with
  | false =>
    rw [Bool.false_and]
    refine Evt.succ (hlast 1) (fun k => ?_)
    simp only [gangsawref49_each.l4]
    split <;> rfl
  | true =>
    rw [Bool.true_and]
    have e : (if (!sortedJ js) = true then (5 : Int) else if js.any (fun j => j.f1.any (unknownS l)) then 3 else 0) = (if (List.range' 1 (js.length - 1)).any (adjJ js) then 5 else if js.any (fun j => j.f1.any (unknownS l)) then 3 else 0) := by
      unfold sortedJ; cases (List.range' 1 (js.length - 1)).any (adjJ js) <;> rfl
    rw [e]
    have hend : ∀ i : Int, (js.length : Int) ≤ i → Evt (fun k => gangsawref49_each.l4 k l js true i) (if js.any (fun j => j.f1.any (unknownS l)) then 3 else 0) := fun i hi =>
      Evt.succ (hlast i) (fun k => by simp only [gangsawref49_each.l4]; rw [if_neg (by omega)])
    by_cases hn : js.length = 0
    · have : (List.range' 1 (js.length - 1)).any (adjJ js) = false := by simp [hn]
      rw [this]
      exact hend 1 (by omega)
    · have key : ∀ i, i ≤ js.length → 1 ≤ i → Evt (fun k => gangsawref49_each.l4 k l js true (i : Nat)) (if (List.range' i (js.length - i)).any (adjJ js) then 5 else if js.any (fun j => j.f1.any (unknownS l)) then 3 else 0) := by
        refine down ?_ ?_
        · intro _; simp only [Nat.sub_self, List.range'_zero, List.any_nil, Bool.false_eq_true, if_false]; exact hend _ (Int.le_refl _)
        · intro i hi ih h1
          have e : js.length - i = (js.length - (i + 1)) + 1 := by omega
          rw [e, List.range'_succ, List.any_cons]
          refine Evt.succ (g := fun k => gangsawref49_each.j5 k l js true i true) ?_ (fun k => by simp only [gangsawref49_each.l4]; rw [if_pos (by omega)])
          cases hb : adjJ js i with
          | true =>
            rw [Bool.true_or, if_pos rfl]
            refine Evt.succ (g := fun _ => some 5) (Evt.pure _) (fun k => ?_)
            simp only [gangsawref49_each.j5, if_true, wrap_prev i h1 (by omega), rd47_at js i hi, rd47_at js (i - 1) (by omega)]
            have hb' : lessB js[i - 1].f0 js[i].f0 = false := by
              unfold adjJ at hb
              rw [getD_nat _ _ _ hi, getD_nat _ _ _ (show i - 1 < js.length by omega)] at hb
              simpa using hb
            unfold lessB at hb'
            rw [if_pos (by omega), if_pos (by omega), if_pos (by omega), if_pos (by omega), hb']; rfl
          | false =>
            rw [Bool.false_or]
            refine Evt.succ (ih (by omega)) (fun k => ?_)
            simp only [gangsawref49_each.j5, if_true, wrap_prev i h1 (by omega), rd47_at js i hi, rd47_at js (i - 1) (by omega)]
            have hb' : lessB js[i - 1].f0 js[i].f0 = true := by
              unfold adjJ at hb
              rw [getD_nat _ _ _ hi, getD_nat _ _ _ (show i - 1 < js.length by omega)] at hb
              simpa using hb
            unfold lessB at hb'
            rw [if_pos (by omega), if_pos (by omega), if_pos (by omega), if_pos (by omega), hb', if_pos rfl, wrap_up i js.length hi (by omega)]
      exact key 1 (by omega) (Nat.le_refl _)
theorem reach_ev (l : List S34) (js : List S47) (hl : l.length ≤ 1000000) (hj : js.length ≤ 900) (hs : ∀ j ∈ js, j.f1.length ≤ 1000) (hg : ∀ j ∈ js, G47 j) (b : Bool) : Evt (fun k => gangsawref49_each.f k l js b) (eachV l js b) := by
  unfold gangsawref49_each.f eachV
  have hJ : js.length ≤ 9223372036854775807 := by omega
  refine Evt.any_list (F := fun k i => gangsawref49_each.l0 k l js b i) longJ 7 ?_ ?_ ?_
  · refine Evt.succ (g := fun k => gangsawref49_each.l1 k l js b 0) ?_ (fun k => by simp only [gangsawref49_each.l0, Int.lt_irrefl, if_false])
    refine Evt.any_list (F := fun k i => gangsawref49_each.l1 k l js b i) noneJ 1 ?_ ?_ ?_
    · refine Evt.succ (g := fun k => gangsawref49_each.l2 k l js b 0) ?_ (fun k => by simp only [gangsawref49_each.l1, Int.lt_irrefl, if_false])
      refine Evt.any_list (F := fun k i => gangsawref49_each.l2 k l js b i) unnamedJ 4 ?_ ?_ ?_
      · refine Evt.succ (g := fun k => gangsawref49_each.l3 k l js b 0) ?_ (fun k => by simp only [gangsawref49_each.l2, Int.lt_irrefl, if_false])
        refine Evt.any_list (F := fun k i => gangsawref49_each.l3 k l js b i) rangeJ 6 ?_ ?_ ?_
        · exact Evt.succ (rsorted l js hl hj hs b) (fun k => by simp only [gangsawref49_each.l3, Int.lt_irrefl, if_false])
        · intro i hi hb
          refine Evt.succ (g := fun k => (gangsawref49_job.f k js[i].f0 js[i].f1 js[i].f2 js[i].f3 js[i].f4).bind fun t => if t = true then gangsawref49_each.l3 k l js b (wrap64 ((i : Int) + 1)) else some 6) (Evt.bind (job_ev _ (hg _ (List.getElem_mem hi)).2.1.1) ?_) (fun k => ?_)
          · rw [hb]; exact Evt.pure _
          · simp only [gangsawref49_each.l3, rd47_at js i hi]; rw [if_pos (by omega), if_pos (by omega)]
        · intro i hi hb v hv
          refine Evt.succ (g := fun k => (gangsawref49_job.f k js[i].f0 js[i].f1 js[i].f2 js[i].f3 js[i].f4).bind fun t => if t = true then gangsawref49_each.l3 k l js b (wrap64 ((i : Int) + 1)) else some 6) (Evt.bind (job_ev _ (hg _ (List.getElem_mem hi)).2.1.1) ?_) (fun k => ?_)
          · rw [hb, wrap_up i js.length hi hJ]; simpa using hv
          · simp only [gangsawref49_each.l3, rd47_at js i hi]; rw [if_pos (by omega), if_pos (by omega)]
      · intro i hi hb
        refine Evt.succ (g := fun k => (gangsawref49_unnamed.f k js[i].f0 js[i].f1 js[i].f2 js[i].f3 js[i].f4).bind fun t => if t = true then some 4 else gangsawref49_each.l2 k l js b (wrap64 ((i : Int) + 1))) (Evt.bind (unnamed_ev _ (hg _ (List.getElem_mem hi))) ?_) (fun k => ?_)
        · rw [hb]; exact Evt.pure _
        · simp only [gangsawref49_each.l2, rd47_at js i hi]; rw [if_pos (by omega), if_pos (by omega)]
      · intro i hi hb v hv
        refine Evt.succ (g := fun k => (gangsawref49_unnamed.f k js[i].f0 js[i].f1 js[i].f2 js[i].f3 js[i].f4).bind fun t => if t = true then some 4 else gangsawref49_each.l2 k l js b (wrap64 ((i : Int) + 1))) (Evt.bind (unnamed_ev _ (hg _ (List.getElem_mem hi))) ?_) (fun k => ?_)
        · rw [hb, wrap_up i js.length hi hJ]; simpa using hv
        · simp only [gangsawref49_each.l2, rd47_at js i hi]; rw [if_pos (by omega), if_pos (by omega)]
    · intro i hi hb
      refine Evt.succ (g := fun _ => some 1) (Evt.pure _) (fun k => ?_)
      unfold noneJ at hb
      simp only [decide_eq_true_eq] at hb
      simp only [gangsawref49_each.l1, rd47_at js i hi]; rw [if_pos (by omega), if_pos (by omega), if_pos (by omega)]
    · intro i hi hb v hv
      refine Evt.succ hv (fun k => ?_)
      unfold noneJ at hb
      simp only [decide_eq_false_iff_not] at hb
      simp only [gangsawref49_each.l1, rd47_at js i hi]; rw [if_pos (by omega), if_pos (by omega), if_neg (by omega), wrap_up i js.length hi hJ]
  · intro i hi hb
    refine Evt.succ (g := fun _ => some 7) (Evt.pure _) (fun k => ?_)
    unfold longJ at hb
    simp only [decide_eq_true_eq] at hb
    simp only [gangsawref49_each.l0, rd47_at js i hi]; rw [if_pos (by omega), if_pos (by omega), if_pos (by omega)]
  · intro i hi hb v hv
    refine Evt.succ hv (fun k => ?_)
    unfold longJ at hb
    simp only [decide_eq_false_iff_not] at hb
    simp only [gangsawref49_each.l0, rd47_at js i hi]; rw [if_pos (by omega), if_pos (by omega), if_neg (by omega), wrap_up i js.length hi hJ]
theorem rcheckJobs_ev (l : List S34) (js : List S47) (hgl : GList G34 l) (hj : js.length ≤ 900) (hs : ∀ j ∈ js, j.f1.length ≤ 1000) (hg : ∀ j ∈ js, G47 j) : Evt (fun k => gangsawref49_CheckJobs.f k l js) (checkJobsV l js) := by
  unfold gangsawref49_CheckJobs.f checkJobsV
  refine Evt.bind (rcheck_ev l hgl) ?_
  by_cases c : checkV l = 0
  · simp only [if_pos c]
    by_cases c2 : 128 < js.length
    · simp only [if_pos c2]; exact Evt.const (fun k => by rw [if_pos (by omega)])
    · simp only [if_neg c2]
      exact Evt.of_eq (g := fun k => (gangsawref49_each.f k l js true).bind fun t => some t) (Evt.bind (reach_ev l js (by have := checkV_len c; omega) hj hs hg true) (Evt.pure _)) (fun k => by rw [if_neg (by omega)])
  · simp only [if_neg c]; exact Evt.pure _
theorem small_parts {l : List S34} {js : List S47} (h : smallV l js = true) : l.length ≤ 40 ∧ js.length ≤ 132 ∧ ∀ j ∈ js, j.f1.length ≤ 20 := by
  obtain ⟨h1, h2, -, h4⟩ := small_few h
  refine ⟨h1, by omega, fun j hj => ?_⟩
  rw [List.any_eq_false] at h4
  have := h4 j hj
  unfold bigJ at this
  simp at this
  omega
end Go.Proofs.Ytpfggghpkdnppaa.PRef
