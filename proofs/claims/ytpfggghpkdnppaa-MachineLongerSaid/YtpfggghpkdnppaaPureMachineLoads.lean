/-
  MachineLoads: the plain law.
-/
import Derived.Test.YtpfggghpkdnppaaPRef
import Derived.Test.YtpfggghpkdnppaaPx22
set_option linter.unusedVariables false
set_option linter.unusedSimpArgs false
namespace Go.Proofs.Ytpfggghpkdnppaa.PLoads
open Go.RowKit Go.Proofs.YtpfggghpkdnppaaW.PrintWords Go.Proofs.Ytpfggghpkdnppaa.P Go.Proofs.Ytpfggghpkdnppaa.Rnd Go.Proofs.Ytpfggghpkdnppaa.PName Go.Proofs.Ytpfggghpkdnppaa.Open Go.Proofs.Ytpfggghpkdnppaa.Ks Go.Proofs.Ytpfggghpkdnppaa.PMach Go.Proofs.Ytpfggghpkdnppaa.PEach Go.Proofs.Ytpfggghpkdnppaa.PWorks Go.Proofs.Ytpfggghpkdnppaa.PRef

def chainV (ss : List S36) : Int := ss.foldl (fun n s => wrap64 (n + wrap64 (s.f1 + s.f2))) 0
theorem chain_loop (ss : List S36) (hs : ss.length ≤ 9223372036854775807) : Evt (fun k => machine_Chain.l0 k 0 ss (ss.length : Int) 0) (chainV ss, 0) := by
  have key : ∀ i, i ≤ ss.length → ∀ n : Int, Evt (fun k => machine_Chain.l0 k n ss (ss.length : Int) i) ((ss.drop i).foldl (fun n s => wrap64 (n + wrap64 (s.f1 + s.f2))) n, 0) := by
    refine down ?_ ?_
    · intro n
      rw [List.drop_length]
      exact Evt.succ (g := fun _ => some (n, 0)) (Evt.pure _) (fun k => by simp only [machine_Chain.l0, Int.lt_irrefl, if_false])
    · intro i hi ih n
      rw [List.drop_eq_getElem_cons hi, List.foldl_cons]
      refine Evt.succ (ih _) (fun k => ?_)
      simp only [machine_Chain.l0, rd36_at ss i hi]
      rw [if_pos (by omega), if_pos (by omega), if_pos (by omega), wrap_up i ss.length hi hs]
  have := key 0 (by omega) 0
  rw [List.drop_zero] at this
  exact this
def jobErr (l : List S34) (j : S47) : Int := if checkV l = 0 then eachV l [j] false else checkV l
theorem mchain_ev (l : List S34) (j : S47) (hl : l.length ≤ 9223372036854775807) (hs : j.f1.length ≤ 9223372036854775807) : Evt (fun k => machine_Chain.f k l j.f0 j.f1 j.f2 j.f3 j.f4) (if jobErr l j = 0 then (chainV j.f1, 0) else (0, jobErr l j)) := by
  unfold machine_Chain.f jobErr
  refine Evt.bind (check_ev l hl) ?_
  by_cases c : checkV l = 0
  · simp only [if_pos c]
    refine Evt.bind (each_ev l [j] (by have := checkV_len c; omega) (by simp) false) ?_
    by_cases c2 : eachV l [j] false = 0
    · simp only [if_pos c2]; exact chain_loop j.f1 hs
    · simp only [if_neg c2]; exact Evt.pure _
  · simp only [if_neg c]; exact Evt.pure _
end Go.Proofs.Ytpfggghpkdnppaa.PLoads
namespace Go.Proofs.Ytpfggghpkdnppaa.Pure
open Go.RowKit Go.Proofs.YtpfggghpkdnppaaW.PrintWords Go.Proofs.Ytpfggghpkdnppaa.P Go.Proofs.Ytpfggghpkdnppaa.Rnd Go.Proofs.Ytpfggghpkdnppaa.PName Go.Proofs.Ytpfggghpkdnppaa.Open Go.Proofs.Ytpfggghpkdnppaa.Ks Go.Proofs.Ytpfggghpkdnppaa.PMach Go.Proofs.Ytpfggghpkdnppaa.PEach Go.Proofs.Ytpfggghpkdnppaa.PWorks Go.Proofs.Ytpfggghpkdnppaa.PRef Go.Proofs.Ytpfggghpkdnppaa.PLoads
end Go.Proofs.Ytpfggghpkdnppaa.Pure
