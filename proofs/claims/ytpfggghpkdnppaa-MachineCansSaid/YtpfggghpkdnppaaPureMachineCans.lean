/-
  MachineCans: the plain law.
-/
import Derived.Test.YtpfggghpkdnppaaPMach
import Derived.Test.YtpfggghpkdnppaaPx13
set_option linter.unusedVariables false
set_option linter.unusedSimpArgs false
namespace Go.Proofs.Ytpfggghpkdnppaa.Pure
open Go.RowKit Go.Proofs.YtpfggghpkdnppaaW.PrintWords Go.Proofs.Ytpfggghpkdnppaa.P Go.Proofs.Ytpfggghpkdnppaa.Rnd Go.Proofs.Ytpfggghpkdnppaa.PName Go.Proofs.Ytpfggghpkdnppaa.Open Go.Proofs.Ytpfggghpkdnppaa.Ks Go.Proofs.Ytpfggghpkdnppaa.PMach
theorem MachineCans : ∀ (x0 : List (S34)) (x1 : ByteArray), (GList G34) x0 → GStr x1 → ∃ k, gangsawlaw49_MachineCans.f k x0 x1 = some true := by
  intro l w hg hw
  have hl := hg.1
  refine Evt.exists_ (f := fun k => gangsawlaw49_MachineCans.f k l w) ?_
  unfold gangsawlaw49_MachineCans.f
  have hyes : Evt (fun k => gangsawlaw49_MachineCans.j0 k l w true) true := Evt.succ (g := fun _ => some true) (Evt.pure _) (fun k => by simp only [gangsawlaw49_MachineCans.j0, if_true])
  refine Evt.bind0 (g := gangsawlaw49_awake_N.f) rfl ?_
  simp only [if_true]
  refine Evt.bind (small_ev l [] hl (by simp)) ?_
  cases hs : smallV l [] with
  | false => exact Evt.of_eq hyes (fun k => by simp)
  | true =>
    obtain ⟨hlen, -, -, -⟩ := small_few hs
    simp only [if_true]
    cases decide ((w.size : Int) > 100) with
    | true => exact hyes
    | false =>
      refine Evt.succ (f := fun k => gangsawlaw49_MachineCans.j0 k l w false) ?_ (fun k => by simp only [gangsawlaw49_MachineCans.j0, Bool.false_eq_true, if_false]; rfl)
      have hcan : Evt (fun k => machine_Can.f k l w) (if checkV l = 0 then (if (whoV l w 0).length = 0 then ([], 9) else (whoV l w 0, 0)) else ([], checkV l)) := by
        unfold machine_Can.f
        refine Evt.bind (check_ev l hl) ?_
        by_cases c : checkV l = 0
        · simp only [if_pos c, can_f l w (by omega), Option.bind_some]
          by_cases c2 : (whoV l w 0).length = 0
          · rw [if_pos c2]; exact Evt.const (fun k => by rw [if_pos (by omega)])
          · rw [if_neg c2]; exact Evt.const (fun k => by rw [if_neg (by omega)])
        · simp only [if_neg c]; exact Evt.pure _
      refine Evt.bind hcan ?_
      refine Evt.bind (rcheck_ev l hg) ?_
      by_cases c : checkV l = 0
      · simp only [if_pos c]
        refine Evt.bind (who_ev l w (by omega)) ?_
        by_cases c2 : (whoV l w 0).length = 0
        · simp only [if_pos c2]
          exact Evt.const (fun k => by rw [if_pos (by omega)]; rfl)
        · simp only [if_neg c2]
          refine Evt.of_eq (g := fun k => (gangsawref49_Same.f k (whoV l w 0) (whoV l w 0)).bind fun t => some t) (Evt.bind (same_refl _ (by have := whoV_len l w; omega)) (Evt.pure _)) (fun k => ?_)
          rw [if_neg (by omega), if_pos trivial]
      · simp only [if_neg c]
        exact Evt.const (fun k => by simp)
end Go.Proofs.Ytpfggghpkdnppaa.Pure
