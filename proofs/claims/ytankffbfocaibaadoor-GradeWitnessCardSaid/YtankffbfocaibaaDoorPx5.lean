/- What functions of the program return: each contract says so of one function, for every input at which its pure function yields. -/
import Derived.Test.YtankffbfocaibaaDoorPx0
import Derived.Test.YtankffbfocaibaaDoorPx3
import Derived.Test.YtankffbfocaibaaDoorPx4
namespace Go.Proofs.YtankffbfocaibaaDoor.P
open Go.RowKit Go.Proofs.YtankffbfocaibaaDoorW.PrintWords Go.Proofs.YtankffbfocaibaaDoorW.PrintLast Go.Proofs.YtankffbfocaibaaDoorW.PrintMore
attribute [local go_sem] max2_int min2_int max_two min_two max_three min_three max_four min_four   -- for this text's walks alone
set_option linter.unusedVariables false
set_option linter.unusedSimpArgs false

mutual
def gangsawref34_each.l0 : Nat → List (S32) → Int → Option (Int)
 | 0, _, _ => none
 | k + 1, x0, x3 => if x3 < (x0.length : Int) then (if 0 ≤ x3 then ((gangsawref09_Name.f k ((rd_T32 x0 x3).f0)).bind fun t137 => (if t137 = true then (gangsawref34_each.l0 k x0 (wrap64 (x3 + 1))) else (some 4))) else (none)) else (gangsawref34_each.l1 k x0 0)
def gangsawref34_each.l1 : Nat → List (S32) → Int → Option (Int)
 | 0, _, _ => none
 | k + 1, x0, x4 => if x4 < (x0.length : Int) then (if 0 ≤ x4 then ((gangsawref34_in.f ((rd_T32 x0 x4).f1) 1 256).bind fun t139 => (if t139 = true then ((gangsawref34_in.f ((rd_T32 x0 x4).f2) 0 1000000).bind fun t141 => (if t141 = true then ((gangsawref34_in.f ((rd_T32 x0 x4).f3) 0 1000000).bind fun t143 => (if t143 = true then (gangsawref34_each.l1 k x0 (wrap64 (x4 + 1))) else (some 6))) else (some 6))) else (some 6))) else (none)) else (some 0)
end
def gangsawref34_each.f (k : Nat) (l0 : List (S32)) : Option (Int) := gangsawref34_each.l0 k l0 0
theorem gangsawref34_each.mono_l : ∀ k, (∀ y0 y1, LeO (gangsawref34_each.l0 k y0 y1) (gangsawref34_each.l0 (k + 1) y0 y1)) ∧ (∀ y0 y1, LeO (gangsawref34_each.l1 k y0 y1) (gangsawref34_each.l1 (k + 1) y0 y1))
 | 0 => ⟨fun _ _ r h => by simp [gangsawref34_each.l0] at h, fun _ _ r h => by simp [gangsawref34_each.l1] at h⟩
 | k + 1 => by
  obtain ⟨ih0, ih1⟩ := gangsawref34_each.mono_l k
  refine ⟨?_, ?_⟩
  ·intro y0 y1
   unfold gangsawref34_each.l0
   repeat' first
   | (with_reducible exact ih0 _ _)
   | (with_reducible exact ih1 _ _)
   | (with_reducible exact gangsawref09_Name.mono _ _)
   | (with_reducible refine contains32.mono2 (fun x_ => ?_))
   | (with_reducible refine contains46.mono2 (fun x_ => ?_))
   | (with_reducible refine index32.mono2 (fun x_ => ?_))
   | (with_reducible refine index46.mono2 (fun x_ => ?_))
   | (with_reducible exact LeO.refl _)
   | (with_reducible exact LeO.none _)
   | (with_reducible refine LeO.ite ?_ ?_)
   | (with_reducible refine LeO.bind ?_ (fun _ => ?_))
   | exact ih0 _ _
   | exact ih1 _ _
   | exact gangsawref09_Name.mono _ _
   | exact LeO.none _
   | refine LeO.ite ?_ ?_
   | refine LeO.bind ?_ (fun _ => ?_)
  ·intro y0 y1
   unfold gangsawref34_each.l1
   repeat' first
   | (with_reducible exact ih0 _ _)
   | (with_reducible exact ih1 _ _)
   | (with_reducible exact gangsawref09_Name.mono _ _)
   | (with_reducible refine contains32.mono2 (fun x_ => ?_))
   | (with_reducible refine contains46.mono2 (fun x_ => ?_))
   | (with_reducible refine index32.mono2 (fun x_ => ?_))
   | (with_reducible refine index46.mono2 (fun x_ => ?_))
   | (with_reducible exact LeO.refl _)
   | (with_reducible exact LeO.none _)
   | (with_reducible refine LeO.ite ?_ ?_)
   | (with_reducible refine LeO.bind ?_ (fun _ => ?_))
   | exact ih0 _ _
   | exact ih1 _ _
   | exact gangsawref09_Name.mono _ _
   | exact LeO.none _
   | refine LeO.ite ?_ ?_
   | refine LeO.bind ?_ (fun _ => ?_)
theorem gangsawref34_each.mono : ∀ a0 k, LeO (gangsawref34_each.f k a0) (gangsawref34_each.f (k + 1) a0) := by
 intro a0 k
 obtain ⟨ih0, ih1⟩ := gangsawref34_each.mono_l k
 unfold gangsawref34_each.f
 repeat' first
   | (with_reducible exact ih0 _ _)
   | (with_reducible exact ih1 _ _)
   | (with_reducible exact gangsawref09_Name.mono _ _)
   | (with_reducible refine contains32.mono2 (fun x_ => ?_))
   | (with_reducible refine contains46.mono2 (fun x_ => ?_))
   | (with_reducible refine index32.mono2 (fun x_ => ?_))
   | (with_reducible refine index46.mono2 (fun x_ => ?_))
   | (with_reducible exact LeO.refl _)
   | (with_reducible exact LeO.none _)
   | (with_reducible refine LeO.ite ?_ ?_)
   | (with_reducible refine LeO.bind ?_ (fun _ => ?_))
   | exact ih0 _ _
   | exact ih1 _ _
   | exact gangsawref09_Name.mono _ _
   | exact LeO.none _
   | refine LeO.ite ?_ ?_
   | refine LeO.bind ?_ (fun _ => ?_)
def gangsawref34_most.f (a0 : Int) (a1 : Int) (a2 : Bool) (a3 : Bool) : Option (Int) := if a2 = true then (some a1) else (if a3 = true then (some (mn (wrap64 (a0 - 1)) a1)) else (some 0))
def gangsawref34_Exists.f (a0_0 : ByteArray) (a0_1 : Int) (a0_2 : Int) (a0_3 : Int) (a1_0 : ByteArray) (a1_1 : Int) (a1_2 : Int) (a1_3 : Int) (a2 : Int) : Option (Bool) := if a2 < a0_1 then (some false) else ((gangsawref34_most.f a0_1 a2 (decide (a1_2 > a0_2)) (decide (a1_2 > 0))).bind fun t146 => ((gangsawref34_most.f a0_1 a2 (decide (a1_3 < a0_3)) (decide (a1_3 < 1000000))).bind fun t147 => (if a2 < a1_1 then (some true) else (if t146 ≥ a1_1 then (some true) else (some (decide (t147 ≥ a1_1)))))))
end Go.Proofs.YtankffbfocaibaaDoor.P
