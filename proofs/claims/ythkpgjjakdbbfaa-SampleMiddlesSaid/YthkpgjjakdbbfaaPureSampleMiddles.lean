/-
  SampleMiddles: the plain law.
-/
import Derived.Test.YthkpgjjakdbbfaaPOutliers
import Derived.Test.YthkpgjjakdbbfaaPx22
set_option linter.unusedVariables false
set_option linter.unusedSimpArgs false
namespace Go.Proofs.Ythkpgjjakdbbfaa.Pure
open Go.RowKit Go.Proofs.YthkpgjjakdbbfaaW.PrintWords Go.Proofs.Ythkpgjjakdbbfaa.P Go.Proofs.Ythkpgjjakdbbfaa.Rnd Go.Proofs.Ythkpgjjakdbbfaa.Open Go.Proofs.Ythkpgjjakdbbfaa.Ks Go.Proofs.Ythkpgjjakdbbfaa.PTest Go.Proofs.Ythkpgjjakdbbfaa.PSample Go.Proofs.Ythkpgjjakdbbfaa.POutliers
theorem SampleMiddles : ∀ (x0 : List (S51)), (GList G51) x0 → ∃ k, gangsawlaw33_SampleMiddles.f k x0 = some true := by
  intro l hg
  have hgs : ∀ t ∈ l, t.f0.size ≤ 9223372036854775807 := fun t ht => (hg.2 t ht).1
  refine Evt.exists_ (f := fun k => gangsawlaw33_SampleMiddles.f k l) ?_
  unfold gangsawlaw33_SampleMiddles.f
  refine Evt.bind0 (g := gangsawlaw33_awake_N.f) rfl ?_
  simp only [if_true]
  obtain ⟨b, hb, hfew⟩ := few_ev l hg.1
  refine Evt.bind hb ?_
  cases b with
  | false => exact Evt.const (fun k => by simp)
  | true =>
    have hl := hfew rfl
    simp only [if_true]
    refine Evt.bind (median_ev l) ?_
    refine Evt.bind (outliers_ev l) ?_
    refine Evt.bind (rmedian_ev l hgs) ?_
    refine Evt.bind (routliers_ev l hgs) ?_
    simp only [if_true]
    refine Evt.bind (same_refl _ (by have := outliersV_len l; omega)) ?_
    exact Evt.const (fun k => by simp)
end Go.Proofs.Ythkpgjjakdbbfaa.Pure
