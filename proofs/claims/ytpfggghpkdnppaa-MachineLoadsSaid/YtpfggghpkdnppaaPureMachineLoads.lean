/-
  MachineLoads: the plain law.
-/
import Derived.Test.YtpfggghpkdnppaaPRef
import Derived.Test.YtpfggghpkdnppaaPx22
set_option linter.unusedVariables false
set_option linter.unusedSimpArgs false
namespace Go.Proofs.Ytpfggghpkdnppaa.PLoads
open Go.RowKit Go.Proofs.YtpfggghpkdnppaaW.PrintWords Go.Proofs.Ytpfggghpkdnppaa.P Go.Proofs.Ytpfggghpkdnppaa.Rnd Go.Proofs.Ytpfggghpkdnppaa.PName Go.Proofs.Ytpfggghpkdnppaa.Open Go.Proofs.Ytpfggghpkdnppaa.Ks Go.Proofs.Ytpfggghpkdnppaa.PMach Go.Proofs.Ytpfggghpkdnppaa.PEach Go.Proofs.Ytpfggghpkdnppaa.PWorks Go.Proofs.Ytpfggghpkdnppaa.PRef

def chainV (ss : List S36) : Int := ss.foldl (fun n s => wrap64 (n + wrap64 (s.f1 + s.f2))) 0
theorem chain_loop (ss : List S36) (hs : ss.length ≤ 9223372036854775807) : Evt (fun k => machine_Chain.l0 k 0 ss (ss.length : Int) 0) (chainV ss, 0) := by
  have key : ∀ i, i ≤ ss.length → ∀ n : Int, Evt (fun k => machine_Chain.l0 k n ss (ss.length : Int) i) ((ss.drop i).foldl (fun n s => wrap64 (n + wrap64 (s.f1 + s.f2))) n, 0) := by
    refine down ?_ ?_
    · intro n
      rw [List.drop_length]
      exact Evt.succ (g := fun _ => some (n, 0)) (Evt.pure _) (fun k => by simp only [machine_Chain.l0, Int.lt_irrefl, if_false])
    · intro i hi ih n
      rw [List.drop_eq_getElem_cons hi, List.foldl_cons]
      refine Evt.succ (ih _) (fun k => ?_)
      simp only [machine_Chain.l0, rd36_at ss i hi]
      rw [if_pos (by omega), if_pos (by omega), if_pos (by omega), wrap_up i ss.length hi hs]
  have := key 0 (by omega) 0
  rw [List.drop_zero] at this
  exact this
theorem rchain_ev (j : S47) (hs : j.f1.length ≤ 9223372036854775807) : Evt (fun k => gangsawref49_Chain.f k j.f0 j.f1 j.f2 j.f3 j.f4) (chainV j.f1) := by
  unfold gangsawref49_Chain.f
  have key : ∀ i, i ≤ j.f1.length → ∀ n : Int, Evt (fun k => gangsawref49_Chain.l0 k n i j.f0 j.f1 j.f2 j.f3 j.f4) ((j.f1.drop i).foldl (fun n s => wrap64 (n + wrap64 (s.f1 + s.f2))) n) := by
    refine down ?_ ?_
    · intro n
      rw [List.drop_length]
      exact Evt.succ (g := fun _ => some n) (Evt.pure _) (fun k => by simp only [gangsawref49_Chain.l0, Int.lt_irrefl, if_false])
    · intro i hi ih n
      rw [List.drop_eq_getElem_cons hi, List.foldl_cons]
      refine Evt.succ (ih _) (fun k => ?_)
      simp only [gangsawref49_Chain.l0, rd36_at _ i hi]
      rw [if_pos (by omega), if_pos (by omega), wrap_up i _ hi hs]
  have := key 0 (by omega) 0
  rw [List.drop_zero] at this
  exact this
def jobErr (l : List S34) (j : S47) : Int := if checkV l = 0 then eachV l [j] false else checkV l
theorem mchain_ev (l : List S34) (j : S47) (hl : l.length ≤ 9223372036854775807) (hs : j.f1.length ≤ 9223372036854775807) : Evt (fun k => machine_Chain.f k l j.f0 j.f1 j.f2 j.f3 j.f4) (if jobErr l j = 0 then (chainV j.f1, 0) else (0, jobErr l j)) := by
  unfold machine_Chain.f jobErr
  refine Evt.bind (check_ev l hl) ?_
  by_cases c : checkV l = 0
  · simp only [if_pos c]
    refine Evt.bind (each_ev l [j] (by have := checkV_len c; omega) (by simp) false) ?_
    by_cases c2 : eachV l [j] false = 0
    · simp only [if_pos c2]; exact chain_loop j.f1 hs
    · simp only [if_neg c2]; exact Evt.pure _
  · simp only [if_neg c]; exact Evt.pure _
theorem rjob_ev (l : List S34) (j : S47) (hg : GList G34 l) (hj : G47 j) (hs : j.f1.length ≤ 1000) : Evt (fun k => gangsawref49_CheckJob.f k l j.f0 j.f1 j.f2 j.f3 j.f4) (jobErr l j) := by
  unfold gangsawref49_CheckJob.f jobErr
  refine Evt.bind (rcheck_ev l hg) ?_
  by_cases c : checkV l = 0
  · simp only [if_pos c]
    exact Evt.bind (reach_ev l [j] (by have := checkV_len c; omega) (by simp) (by simpa using hs) (by simpa using hj) false) (Evt.pure _)
  · simp only [if_neg c]; exact Evt.pure _

theorem rload_ev (l : List S34) (js : List S47) (hl : l.length ≤ 1000000) (hj : js.length ≤ 900) (hs : ∀ j ∈ js, j.f1.length ≤ 1000) : Evt (fun k => gangsawref49_Load.f k l js) (loadV l js) := by
  unfold gangsawref49_Load.f
  refine Evt.of_eq (g := fun k => gangsawref49_Load.l0 k l js (List.replicate l.length 0) 0) ?_ (fun k => by rw [if_pos (by omega), if_pos (by omega), Int.toNat_natCast])
  have key : ∀ i, i ≤ js.length → ∀ o : List Int, o.length = l.length → Evt (fun k => gangsawref49_Load.l0 k l js o i) ((js.drop i).foldl (jobV l) o) := by
    refine down ?_ ?_
    · intro o _
      rw [List.drop_length]
      exact Evt.succ (g := fun _ => some o) (Evt.pure _) (fun k => by simp only [gangsawref49_Load.l0, Int.lt_irrefl, if_false])
    · intro i hi ih o ho
      have hsl := hs js[i] (List.getElem_mem _)
      rw [List.drop_eq_getElem_cons hi, List.foldl_cons]
      refine Evt.succ (g := fun k => gangsawref49_Load.l1 k l js o i 0) ?_ (fun k => by simp only [gangsawref49_Load.l0]; rw [if_pos (by omega)])
      have inner : ∀ n, n ≤ js[i].f1.length → ∀ o : List Int, o.length = l.length → Evt (fun k => gangsawref49_Load.l1 k l js o i n) ((js.drop (i + 1)).foldl (jobV l) ((js[i].f1.drop n).foldl (stepV l) o)) := by
        refine down ?_ ?_
        · intro o ho
          rw [List.drop_length, List.foldl_nil]
          refine Evt.succ (ih o ho) (fun k => ?_)
          simp only [gangsawref49_Load.l1, rd47_at js i hi]
          rw [if_pos (by omega), if_pos (by omega), if_neg (by omega), wrap_up i js.length hi (by omega)]
        · intro n hn ih2 o ho
          rw [List.drop_eq_getElem_cons hn, List.foldl_cons]
          have hw : wrap64 ((n : Int) + 1) = ((n + 1 : Nat) : Int) := wrap_up n _ hn (by omega)
          refine Evt.succ (g := fun k => (gangsawref49_Who.f k l js[i].f1[n].f0).bind fun t => if (t.length : Int) = 1 then (if 0 < (t.length : Int) then (if 0 ≤ rd t 0 then (if rd t 0 < (o.length : Int) then gangsawref49_Load.l1 k l js (o.set (rd t 0).toNat (wrap64 (rd o (rd t 0) + js[i].f1[n].f1))) i ((n + 1 : Nat) : Int) else none) else none) else none) else gangsawref49_Load.l1 k l js o i ((n + 1 : Nat) : Int)) ?_ (fun k => ?_)
          · refine Evt.bind (who_ev l _ hl) ?_
            have h2 := ih2 (stepV l o js[i].f1[n]) (by rw [stepV_len, ho])
            cases hb : bnd l js[i].f1[n].f0 with
            | some x =>
              have hw1 := bnd_some hb
              obtain ⟨m, hm, -, rfl⟩ := bnd_at hb
              have es : stepV l o js[i].f1[n] = o.set m (wrap64 (rd o (m : Int) + js[i].f1[n].f1)) := by unfold stepV; rw [hb]; simp
              rw [es] at h2 ⊢
              have er : rd (whoV l js[i].f1[n].f0 0) 0 = (m : Int) := by rw [hw1]; rfl
              have el : (whoV l js[i].f1[n].f0 0).length = 1 := by rw [hw1]; rfl
              refine Evt.of_eq h2 (fun k => ?_)
              rw [er, if_pos (by omega), if_pos (by omega), if_pos (by omega), if_pos (by omega), Int.toNat_natCast]
            | none =>
              have es : stepV l o js[i].f1[n] = o := by unfold stepV; rw [hb]
              rw [es] at h2 ⊢
              have el : ¬ (whoV l js[i].f1[n].f0 0).length = 1 := by
                intro e
                unfold bnd at hb
                match hq : whoV l js[i].f1[n].f0 0, e with
                | [x], _ => rw [hq] at hb; cases hb
              exact Evt.of_eq h2 (fun k => by rw [if_neg (by omega)])
          · simp only [gangsawref49_Load.l1, rd47_at js i hi, rd36_at _ n hn, hw]
            rw [if_pos (by omega), if_pos (by omega), if_pos (by omega), if_pos (by omega)]
      have := inner 0 (by omega) o ho
      rw [List.drop_zero] at this
      exact this
  have := key 0 (by omega) (List.replicate l.length 0) (by simp)
  rw [List.drop_zero] at this
  exact this
end Go.Proofs.Ytpfggghpkdnppaa.PLoads
namespace Go.Proofs.Ytpfggghpkdnppaa.Pure
open Go.RowKit Go.Proofs.YtpfggghpkdnppaaW.PrintWords Go.Proofs.Ytpfggghpkdnppaa.P Go.Proofs.Ytpfggghpkdnppaa.Rnd Go.Proofs.Ytpfggghpkdnppaa.PName Go.Proofs.Ytpfggghpkdnppaa.Open Go.Proofs.Ytpfggghpkdnppaa.Ks Go.Proofs.Ytpfggghpkdnppaa.PMach Go.Proofs.Ytpfggghpkdnppaa.PEach Go.Proofs.Ytpfggghpkdnppaa.PWorks Go.Proofs.Ytpfggghpkdnppaa.PRef Go.Proofs.Ytpfggghpkdnppaa.PLoads
theorem MachineLoads : ∀ (x0 : List (S34)) (x1 : List (S47)), (GList G34) x0 → (GList G47) x1 → ∃ k, gangsawlaw49_MachineLoads.f k x0 x1 = some true := by
  intro l js hg hgj
  refine Evt.exists_ (f := fun k => gangsawlaw49_MachineLoads.f k l js) ?_
  unfold gangsawlaw49_MachineLoads.f
  refine Evt.bind0 (g := gangsawlaw49_awake_N.f) rfl ?_
  simp only [if_true]
  refine Evt.bind (small_ev l js hg.1 hgj.1) ?_
  cases hsm : smallV l js with
  | false => exact Evt.const (fun k => by simp)
  | true =>
    obtain ⟨h1, h2, h3⟩ := small_parts hsm
    have hs1000 : ∀ j ∈ js, j.f1.length ≤ 1000 := fun j hj => by have := h3 j hj; omega
    simp only [if_true]
    have hloop : Evt (fun k => gangsawlaw49_MachineLoads.j0 k l js false) true := by
      refine Evt.succ (g := fun k => gangsawlaw49_MachineLoads.l0 k l js 0) ?_ (fun k => by simp only [gangsawlaw49_MachineLoads.j0, Bool.false_eq_true, if_false])
      have key : ∀ i, i ≤ js.length → Evt (fun k => gangsawlaw49_MachineLoads.l0 k l js i) true := by
        refine down ?_ ?_
        · exact Evt.succ (g := fun _ => some true) (Evt.pure _) (fun k => by simp only [gangsawlaw49_MachineLoads.l0, Int.lt_irrefl, if_false])
        · intro i hi ih
          have hm := List.getElem_mem hi
          refine Evt.succ (g := fun k => (machine_Chain.f k l js[i].f0 js[i].f1 js[i].f2 js[i].f3 js[i].f4).bind fun bt => (gangsawref49_CheckJob.f k l js[i].f0 js[i].f1 js[i].f2 js[i].f3 js[i].f4).bind fun t => if bt.2 = t then (if t = 0 then ((gangsawref49_Chain.f k js[i].f0 js[i].f1 js[i].f2 js[i].f3 js[i].f4).bind fun u => if bt.1 = u then gangsawlaw49_MachineLoads.l0 k l js ((i + 1 : Nat) : Int) else some false) else (if bt.1 = 0 then gangsawlaw49_MachineLoads.l0 k l js ((i + 1 : Nat) : Int) else some false)) else some false) ?_ (fun k => ?_)
          · refine Evt.bind (mchain_ev l js[i] hg.1 (hgj.2 _ hm).2.1.1) ?_
            refine Evt.bind (rjob_ev l js[i] hg (hgj.2 _ hm) (hs1000 _ hm)) ?_
            by_cases c : jobErr l js[i] = 0
            · simp only [if_pos c, if_true]
              rw [c]
              simp only [if_true]
              refine Evt.bind (rchain_ev js[i] (hgj.2 _ hm).2.1.1) ?_
              simp only [if_true]
              exact ih
            · simp only [if_neg c, if_true]
              exact ih
          · simp only [gangsawlaw49_MachineLoads.l0, rd47_at js i hi]
            rw [if_pos (by omega), if_pos (by omega), wrap_up i js.length hi (by omega)]
      exact key 0 (by omega)
    refine Evt.bind (load_ev l js hg.1 hgj.1 (fun j hj => by have := h3 j hj; omega)) ?_
    refine Evt.bind (rcheckJobs_ev l js hg (by omega) hs1000 hgj.2) ?_
    by_cases c : checkJobsV l js = 0
    · simp only [if_pos c, if_true]
      rw [c]
      simp only [if_true]
      refine Evt.bind (rload_ev l js (by omega) (by omega) hs1000) ?_
      refine Evt.bind (same_refl _ (by rw [loadV_len]; omega)) ?_
      simpa using hloop
    · simp only [if_neg c, if_true, List.length_nil]
      simpa using hloop
end Go.Proofs.Ytpfggghpkdnppaa.Pure
