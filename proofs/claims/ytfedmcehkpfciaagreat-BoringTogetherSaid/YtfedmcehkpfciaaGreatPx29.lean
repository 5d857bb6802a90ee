/- What functions of the program return: each contract says so of one function, for every input at which its pure function yields. -/
import Derived.Test.YtfedmcehkpfciaaGreatPx0
import Derived.Test.YtfedmcehkpfciaaGreatPx4
import Derived.Test.YtfedmcehkpfciaaGreatPx19
import Derived.Test.YtfedmcehkpfciaaGreatPx24
import Derived.Test.YtfedmcehkpfciaaGreatPx28
import Derived.Test.YtfedmcehkpfciaaGreatAwk
namespace Go.Proofs.YtfedmcehkpfciaaGreat.P
open Go.RowKit Go.Proofs.YtfedmcehkpfciaaGreatW.PrintWords Go.Proofs.YtfedmcehkpfciaaGreatW.PrintLast Go.Proofs.YtfedmcehkpfciaaGreatW.PrintMore
attribute [local go_sem] max2_int min2_int max_two min_two max_three min_three max_four min_four   -- for this text's walks alone
set_option linter.unusedVariables false
set_option linter.unusedSimpArgs false

open Go.Proofs.YtfedmcehkpfciaaGreat.Awk
def gangsawlaw14_BoringMerges.j0 : Nat → Bool → ByteArray → Int → Int → List (S48) → ByteArray → Int → Int → List (S48) → Option (Bool)
 | 0, _, _, _, _, _, _, _, _, _ => none
 | k + 1, x18, x459000, x459001, x459002, x459003, x460000, x460001, x460002, x460003 => if x18 = true then (some true) else ((boring_Merge.f k x459000 x459001 x459002 x459003 x460000 x460001 x460002 x460003).bind fun bt463 => ((gangsawref14_Merge.f k x459000 x459001 x459002 x459003 x460000 x460001 x460002 x460003).bind fun bt471 => (if bt463.2.2.2.2 = bt471.2.2.2.2 then ((gangsawref14_Equal.f k bt463.1 bt463.2.1 bt463.2.2.1 bt463.2.2.2.1 bt471.1 bt471.2.1 bt471.2.2.1 bt471.2.2.2.1).bind fun t479 => (some t479)) else (some false))))
def gangsawlaw14_BoringMerges.f (k : Nat) (a0_0 : ByteArray) (a0_1 : Int) (a0_2 : Int) (l0_3 : List (S48)) (a1_0 : ByteArray) (a1_1 : Int) (a1_2 : Int) (l1_3 : List (S48)) : Option (Bool) := (gangsawlaw14_awake.f).bind fun t460 => (if t460 = true then ((gangsawref14_Small.f a0_0 a0_1 a0_2 l0_3).bind fun t461 => (if t461 = true then ((gangsawref14_Small.f a1_0 a1_1 a1_2 l1_3).bind fun t462 => (gangsawlaw14_BoringMerges.j0 k (!t462) a0_0 a0_1 a0_2 l0_3 a1_0 a1_1 a1_2 l1_3)) else (gangsawlaw14_BoringMerges.j0 k true a0_0 a0_1 a0_2 l0_3 a1_0 a1_1 a1_2 l1_3))) else (some false))
theorem gangsawlaw14_BoringMerges.mono_l : ∀ k, (∀ y0 y1 y2 y3 y4 y5 y6 y7 y8, LeO (gangsawlaw14_BoringMerges.j0 k y0 y1 y2 y3 y4 y5 y6 y7 y8) (gangsawlaw14_BoringMerges.j0 (k + 1) y0 y1 y2 y3 y4 y5 y6 y7 y8))
 | 0 => fun _ _ _ _ _ _ _ _ _ r h => by simp [gangsawlaw14_BoringMerges.j0] at h
 | k + 1 => by
  have ih0 := gangsawlaw14_BoringMerges.mono_l k
  ·intro y0 y1 y2 y3 y4 y5 y6 y7 y8
   unfold gangsawlaw14_BoringMerges.j0
   repeat' first
   | (with_reducible exact ih0 _ _ _ _ _ _ _ _ _)
   | (with_reducible exact boring_Merge.mono _ _ _ _ _ _ _ _ _)
   | (with_reducible exact gangsawref14_Equal.mono _ _ _ _ _ _ _ _ _)
   | (with_reducible exact gangsawref14_Merge.mono _ _ _ _ _ _ _ _ _)
   | (with_reducible refine contains3.mono2 (fun x_ => ?_))
   | (with_reducible refine contains33.mono2 (fun x_ => ?_))
   | (with_reducible refine contains48.mono2 (fun x_ => ?_))
   | (with_reducible refine contains9.mono2 (fun x_ => ?_))
   | (with_reducible refine index3.mono2 (fun x_ => ?_))
   | (with_reducible refine index33.mono2 (fun x_ => ?_))
   | (with_reducible refine index48.mono2 (fun x_ => ?_))
   | (with_reducible refine index9.mono2 (fun x_ => ?_))
   | (with_reducible exact LeO.refl _)
   | (with_reducible exact LeO.none _)
   | (with_reducible refine LeO.ite ?_ ?_)
   | (with_reducible refine LeO.bind ?_ (fun _ => ?_))
   | exact ih0 _ _ _ _ _ _ _ _ _
   | exact boring_Merge.mono _ _ _ _ _ _ _ _ _
   | exact gangsawref14_Equal.mono _ _ _ _ _ _ _ _ _
   | exact gangsawref14_Merge.mono _ _ _ _ _ _ _ _ _
   | exact LeO.none _
   | refine LeO.ite ?_ ?_
   | refine LeO.bind ?_ (fun _ => ?_)
theorem gangsawlaw14_BoringMerges.mono : ∀ a0 a1 a2 a3 a4 a5 a6 a7 k, LeO (gangsawlaw14_BoringMerges.f k a0 a1 a2 a3 a4 a5 a6 a7) (gangsawlaw14_BoringMerges.f (k + 1) a0 a1 a2 a3 a4 a5 a6 a7) := by
 intro a0 a1 a2 a3 a4 a5 a6 a7 k
 have ih0 := gangsawlaw14_BoringMerges.mono_l k
 unfold gangsawlaw14_BoringMerges.f
 repeat' first
   | (with_reducible exact ih0 _ _ _ _ _ _ _ _ _)
   | (with_reducible exact boring_Merge.mono _ _ _ _ _ _ _ _ _)
   | (with_reducible exact gangsawref14_Equal.mono _ _ _ _ _ _ _ _ _)
   | (with_reducible exact gangsawref14_Merge.mono _ _ _ _ _ _ _ _ _)
   | (with_reducible refine contains3.mono2 (fun x_ => ?_))
   | (with_reducible refine contains33.mono2 (fun x_ => ?_))
   | (with_reducible refine contains48.mono2 (fun x_ => ?_))
   | (with_reducible refine contains9.mono2 (fun x_ => ?_))
   | (with_reducible refine index3.mono2 (fun x_ => ?_))
   | (with_reducible refine index33.mono2 (fun x_ => ?_))
   | (with_reducible refine index48.mono2 (fun x_ => ?_))
   | (with_reducible refine index9.mono2 (fun x_ => ?_))
   | (with_reducible exact LeO.refl _)
   | (with_reducible exact LeO.none _)
   | (with_reducible refine LeO.ite ?_ ?_)
   | (with_reducible refine LeO.bind ?_ (fun _ => ?_))
   | exact ih0 _ _ _ _ _ _ _ _ _
   | exact boring_Merge.mono _ _ _ _ _ _ _ _ _
   | exact gangsawref14_Equal.mono _ _ _ _ _ _ _ _ _
   | exact gangsawref14_Merge.mono _ _ _ _ _ _ _ _ _
   | exact LeO.none _
   | refine LeO.ite ?_ ?_
   | refine LeO.bind ?_ (fun _ => ?_)
end Go.Proofs.YtfedmcehkpfciaaGreat.P
