/-
  SlabMakes: the plain law.
-/
import Derived.Test.YtnaahepnabmibaaGreatDoorKs
import Derived.Test.YtnaahepnabmibaaGreatDoorPMake
import Derived.Test.YtnaahepnabmibaaGreatDoorPx12
set_option linter.unusedVariables false
set_option linter.unusedSimpArgs false
namespace Go.Proofs.YtnaahepnabmibaaGreatDoor.Pure
open Go.RowKit Go.Proofs.YtnaahepnabmibaaGreatDoorW.PrintWords Go.Proofs.YtnaahepnabmibaaGreatDoorW.PrintLast Go.Proofs.YtnaahepnabmibaaGreatDoor.P Go.Proofs.YtnaahepnabmibaaGreatDoor.Open Go.Proofs.YtnaahepnabmibaaGreatDoor.Ks Go.Proofs.YtnaahepnabmibaaGreatDoor.Rnd Go.Proofs.YtnaahepnabmibaaGreatDoor.Awk Go.Proofs.YtnaahepnabmibaaGreatDoor.PSlab Go.Proofs.YtnaahepnabmibaaGreatDoor.PMake
theorem SlabMakes : ∀ (x0 : S45) (x1 : S47) (x2 : Int), G45 x0 → G47 x1 → (GInt .i64) x2 → ∃ k, gangsawlaw30_SlabMakes.f k x0.f0 x0.f1.f0.f0 x0.f1.f0.f1 x0.f1.f0.f2 x0.f1.f1.f0 x0.f1.f1.f1 x0.f1.f1.f2 x1.f0 x1.f1 x1.f2 x1.f3 x2 = some true := by
  intro bl s l hb hs hl
  refine Evt.exists_ (f := fun k => gangsawlaw30_SlabMakes.f k bl.f0 bl.f1.f0.f0 bl.f1.f0.f1 bl.f1.f0.f2 bl.f1.f1.f0 bl.f1.f1.f1 bl.f1.f1.f2 s.f0 s.f1 s.f2 s.f3 l) ?_
  generalize bl.f0 = n0
  generalize bl.f1.f0.f0 = a
  generalize bl.f1.f0.f1 = b
  generalize bl.f1.f0.f2 = c
  generalize bl.f1.f1.f0 = d
  generalize bl.f1.f1.f1 = e
  generalize bl.f1.f1.f2 = f
  generalize s.f0 = x
  generalize s.f1 = t
  generalize s.f2 = k0
  generalize s.f3 = f0
  unfold gangsawlaw30_SlabMakes.f
  refine Evt.bind0 (g := gangsawlaw30_awake.f) rfl ?_
  simp only [if_true]
  by_cases h100 : (n0.size : Int) > 100
  · simp only [if_pos h100]; exact Evt.pure _
  simp only [if_neg h100]
  refine Evt.bind0 (count_f x t k0 f0 l) (Evt.bind (rcount_ev x t k0 f0 l) ?_)
  have hn : n0.size ≤ 100 := by omega
  refine Evt.bind (make_ev n0 a b c d e f x t k0 f0 hn) (Evt.bind (rmake_ev n0 a b c d e f x t k0 f0 hn) ?_)
  simp only [check_f, rcheck_f, Option.bind_some, if_true]
  refine Evt.bind (sames_ev _ (makeV_len n0 a b c d e f x t k0 f0) (makeV_rows n0 a b c d e f x t k0 f0)) ?_
  simp only [if_true]
  exact Evt.bind (sames06_ev _ (makeV_rest n0 a b c d e f x t k0 f0)) (Evt.pure _)
end Go.Proofs.YtnaahepnabmibaaGreatDoor.Pure
