/-
  SampleOrders: the plain law.
-/
import Derived.Test.YthkpgjjakdbbfaaPSample
import Derived.Test.YthkpgjjakdbbfaaPx18
set_option linter.unusedVariables false
set_option linter.unusedSimpArgs false
namespace Go.Proofs.Ythkpgjjakdbbfaa.Pure
open Go.RowKit Go.Proofs.YthkpgjjakdbbfaaW.PrintWords Go.Proofs.Ythkpgjjakdbbfaa.P Go.Proofs.Ythkpgjjakdbbfaa.Rnd Go.Proofs.Ythkpgjjakdbbfaa.Open Go.Proofs.Ythkpgjjakdbbfaa.Ks Go.Proofs.Ythkpgjjakdbbfaa.PTest Go.Proofs.Ythkpgjjakdbbfaa.PSample
theorem SampleOrders : ∀ (x0 : List (S51)) (x1 : Int) (x2 : Int), (GList G51) x0 → (GInt .i64) x1 → (GInt .i64) x2 → ∃ k, gangsawlaw33_SampleOrders.f k x0 x1 x2 = some true := by
  intro l n limit hg _ _
  have hgs : ∀ t ∈ l, t.f0.size ≤ 9223372036854775807 := fun t ht => (hg.2 t ht).1
  refine Evt.exists_ (f := fun k => gangsawlaw33_SampleOrders.f k l n limit) ?_
  unfold gangsawlaw33_SampleOrders.f
  refine Evt.bind0 (g := gangsawlaw33_awake_N.f) rfl ?_
  simp only [if_true]
  obtain ⟨b, hb, hfew⟩ := few_ev l hg.1
  refine Evt.bind hb ?_
  cases b with
  | false => exact Evt.const (fun k => by simp)
  | true =>
    have hl := hfew rfl
    simp only [if_true]
    refine Evt.bind (rcheck_ev l hgs) ?_
    refine Evt.bind (strength_ev l n) ?_
    refine Evt.bind (absorption_ev l n) ?_
    refine Evt.bind (rank_ev l limit) ?_
    refine Evt.bind (rstrength_ev l hgs n) ?_
    refine Evt.bind (rabsorption_ev l hgs n) ?_
    refine Evt.bind (check_ev l) ?_
    simp only [if_true, rankV]
    by_cases c : checkV l = 0
    · simp only [if_pos c, if_pos c.symm]
      refine Evt.bind (rrank_ev l (by omega) limit) ?_
      exact Evt.const (fun k => by simp)
    · simp only [if_neg c, if_true]
      exact Evt.pure _
end Go.Proofs.Ythkpgjjakdbbfaa.Pure
