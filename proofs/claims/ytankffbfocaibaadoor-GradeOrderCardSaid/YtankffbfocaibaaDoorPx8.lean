/- What functions of the program return: each contract says so of one function, for every input at which its pure function yields. -/
import Derived.Test.YtankffbfocaibaaDoorPx0
import Derived.Test.YtankffbfocaibaaDoorPx7
namespace Go.Proofs.YtankffbfocaibaaDoor.P
open Go.RowKit Go.Proofs.YtankffbfocaibaaDoorW.PrintWords Go.Proofs.YtankffbfocaibaaDoorW.PrintLast Go.Proofs.YtankffbfocaibaaDoorW.PrintMore
attribute [local go_sem] max2_int min2_int max_two min_two max_three min_three max_four min_four   -- for this text's walks alone
set_option linter.unusedVariables false
set_option linter.unusedSimpArgs false

mutual
def gangsawref34_Check.l0 : Nat → List (S32) → Int → Option (Int)
 | 0, _, _ => none
 | k + 1, x0, x4 => if x4 < (x0.length : Int) then (gangsawref34_Check.l1 k x0 x4 0) else (some 0)
def gangsawref34_Check.l1 : Nat → List (S32) → Int → Int → Option (Int)
 | 0, _, _, _ => none
 | k + 1, x0, x4, x5 => if x5 < x4 then (if 0 ≤ x4 then (if x4 < (x0.length : Int) then (if 0 ≤ x5 then (if x5 < (x0.length : Int) then (if ((rd_T32 x0 x4).f0).toList = ((rd_T32 x0 x5).f0).toList then (some 5) else (gangsawref34_Check.l1 k x0 x4 (wrap64 (x5 + 1)))) else (none)) else (none)) else (none)) else (none)) else (gangsawref34_Check.l0 k x0 (wrap64 (x4 + 1)))
end
def gangsawref34_Check.f (k : Nat) (l0 : List (S32)) : Option (Int) := if (l0.length : Int) > 16 then (some 7) else ((gangsawref34_each.f k l0).bind fun t157 => (if t157 = 0 then (gangsawref34_Check.l0 k l0 0) else (some t157)))
theorem gangsawref34_Check.mono_l : ∀ k, (∀ y0 y1, LeO (gangsawref34_Check.l0 k y0 y1) (gangsawref34_Check.l0 (k + 1) y0 y1)) ∧ (∀ y0 y1 y2, LeO (gangsawref34_Check.l1 k y0 y1 y2) (gangsawref34_Check.l1 (k + 1) y0 y1 y2))
 | 0 => ⟨fun _ _ r h => by simp [gangsawref34_Check.l0] at h, fun _ _ _ r h => by simp [gangsawref34_Check.l1] at h⟩
 | k + 1 => by
  obtain ⟨ih0, ih1⟩ := gangsawref34_Check.mono_l k
  refine ⟨?_, ?_⟩
  ·intro y0 y1
   unfold gangsawref34_Check.l0
   repeat' first
   | (with_reducible exact ih0 _ _)
   | (with_reducible exact ih1 _ _ _)
   | (with_reducible exact gangsawref34_each.mono _ _)
   | (with_reducible refine contains32.mono2 (fun x_ => ?_))
   | (with_reducible refine contains46.mono2 (fun x_ => ?_))
   | (with_reducible refine index32.mono2 (fun x_ => ?_))
   | (with_reducible refine index46.mono2 (fun x_ => ?_))
   | (with_reducible exact LeO.refl _)
   | (with_reducible exact LeO.none _)
   | (with_reducible refine LeO.ite ?_ ?_)
   | (with_reducible refine LeO.bind ?_ (fun _ => ?_))
   | exact ih0 _ _
   | exact ih1 _ _ _
   | exact gangsawref34_each.mono _ _
   | exact LeO.none _
   | refine LeO.ite ?_ ?_
   | refine LeO.bind ?_ (fun _ => ?_)
  ·intro y0 y1 y2
   unfold gangsawref34_Check.l1
   repeat' first
   | (with_reducible exact ih0 _ _)
   | (with_reducible exact ih1 _ _ _)
   | (with_reducible exact gangsawref34_each.mono _ _)
   | (with_reducible refine contains32.mono2 (fun x_ => ?_))
   | (with_reducible refine contains46.mono2 (fun x_ => ?_))
   | (with_reducible refine index32.mono2 (fun x_ => ?_))
   | (with_reducible refine index46.mono2 (fun x_ => ?_))
   | (with_reducible exact LeO.refl _)
   | (with_reducible exact LeO.none _)
   | (with_reducible refine LeO.ite ?_ ?_)
   | (with_reducible refine LeO.bind ?_ (fun _ => ?_))
   | exact ih0 _ _
   | exact ih1 _ _ _
   | exact gangsawref34_each.mono _ _
   | exact LeO.none _
   | refine LeO.ite ?_ ?_
   | refine LeO.bind ?_ (fun _ => ?_)
theorem gangsawref34_Check.mono : ∀ a0 k, LeO (gangsawref34_Check.f k a0) (gangsawref34_Check.f (k + 1) a0) := by
 intro a0 k
 obtain ⟨ih0, ih1⟩ := gangsawref34_Check.mono_l k
 unfold gangsawref34_Check.f
 repeat' first
   | (with_reducible exact ih0 _ _)
   | (with_reducible exact ih1 _ _ _)
   | (with_reducible exact gangsawref34_each.mono _ _)
   | (with_reducible refine contains32.mono2 (fun x_ => ?_))
   | (with_reducible refine contains46.mono2 (fun x_ => ?_))
   | (with_reducible refine index32.mono2 (fun x_ => ?_))
   | (with_reducible refine index46.mono2 (fun x_ => ?_))
   | (with_reducible exact LeO.refl _)
   | (with_reducible exact LeO.none _)
   | (with_reducible refine LeO.ite ?_ ?_)
   | (with_reducible refine LeO.bind ?_ (fun _ => ?_))
   | exact ih0 _ _
   | exact ih1 _ _ _
   | exact gangsawref34_each.mono _ _
   | exact LeO.none _
   | refine LeO.ite ?_ ?_
   | refine LeO.bind ?_ (fun _ => ?_)
end Go.Proofs.YtankffbfocaibaaDoor.P
