/-
  SampleConfidences: the plain law.
-/
import Derived.Test.YthkpgjjakdbbfaaPConf
import Derived.Test.YthkpgjjakdbbfaaPx29
set_option linter.unusedVariables false
set_option linter.unusedSimpArgs false
namespace Go.Proofs.Ythkpgjjakdbbfaa.Pure
open Go.RowKit Go.Proofs.YthkpgjjakdbbfaaW.PrintWords Go.Proofs.Ythkpgjjakdbbfaa.P Go.Proofs.Ythkpgjjakdbbfaa.Rnd Go.Proofs.Ythkpgjjakdbbfaa.Open Go.Proofs.Ythkpgjjakdbbfaa.Ks Go.Proofs.Ythkpgjjakdbbfaa.PConf
theorem SampleConfidences : ∀ (x0 : Int) (x1 : Int) (x2 : S33), (GInt .i64) x0 → (GInt .i64) x1 → G33 x2 → ∃ k, gangsawlaw33_SampleConfidences.f k x0 x1 x2.f0 x2.f1 = some true := by
  rintro n k ⟨a, b⟩ - - -
  refine Evt.exists_ (f := fun f => gangsawlaw33_SampleConfidences.f f n k a b) ?_
  unfold gangsawlaw33_SampleConfidences.f
  refine Evt.bind0 (g := gangsawlaw33_awake_N.f) rfl ?_
  simp only [if_true]
  refine Evt.bind (sconfidence_ev a b n k) ?_
  refine Evt.bind (rconfidence_ev a b n k) ?_
  exact Evt.const (fun f => by simp)
end Go.Proofs.Ythkpgjjakdbbfaa.Pure
