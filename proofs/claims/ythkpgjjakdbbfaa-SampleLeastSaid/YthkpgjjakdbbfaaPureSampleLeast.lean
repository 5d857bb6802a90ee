/-
  SampleLeast: the plain law.
-/
import Derived.Test.YthkpgjjakdbbfaaPLeast
import Derived.Test.YthkpgjjakdbbfaaPx31
set_option linter.unusedVariables false
set_option linter.unusedSimpArgs false
namespace Go.Proofs.Ythkpgjjakdbbfaa.Pure
open Go.RowKit Go.Proofs.YthkpgjjakdbbfaaW.PrintWords Go.Proofs.Ythkpgjjakdbbfaa.P Go.Proofs.Ythkpgjjakdbbfaa.Rnd Go.Proofs.Ythkpgjjakdbbfaa.Open Go.Proofs.Ythkpgjjakdbbfaa.Ks Go.Proofs.Ythkpgjjakdbbfaa.PLeast
theorem SampleLeast : ∀ (x0 : Int) (x1 : S33) (x2 : S33), (GInt .i64) x0 → G33 x1 → G33 x2 → ∃ k, gangsawlaw33_SampleLeast.f k x0 x1.f0 x1.f1 x2.f0 x2.f1 = some true := by
  rintro n ⟨a, b⟩ ⟨c, d⟩ - - -
  refine Evt.exists_ (f := fun f => gangsawlaw33_SampleLeast.f f n a b c d) ?_
  unfold gangsawlaw33_SampleLeast.f
  refine Evt.bind0 (g := gangsawlaw33_awake_N.f) rfl ?_
  simp only [if_true]
  obtain ⟨v, h1, h2⟩ := least_ev n a b c d
  refine Evt.bind h1 ?_
  refine Evt.bind h2 ?_
  exact Evt.const (fun f => by simp)
end Go.Proofs.Ythkpgjjakdbbfaa.Pure
