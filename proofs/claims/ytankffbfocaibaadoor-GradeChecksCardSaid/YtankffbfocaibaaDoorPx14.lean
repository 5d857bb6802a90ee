/- What functions of the program return: each contract says so of one function, for every input at which its pure function yields. -/
import Derived.Test.YtankffbfocaibaaDoorPx0
import Derived.Test.YtankffbfocaibaaDoorPx2
import Derived.Test.YtankffbfocaibaaDoorHof
import Derived.Test.YtankffbfocaibaaDoorSm
import Derived.Test.YtankffbfocaibaaDoorSort
namespace Go.Proofs.YtankffbfocaibaaDoor.P
open Go.RowKit Go.Proofs.YtankffbfocaibaaDoorW.PrintWords Go.Proofs.YtankffbfocaibaaDoorW.PrintLast Go.Proofs.YtankffbfocaibaaDoorW.PrintMore
attribute [local go_sem] max2_int min2_int max_two min_two max_three min_three max_four min_four   -- for this text's walks alone
set_option linter.unusedVariables false
set_option linter.unusedSimpArgs false

open Go.Proofs.YtankffbfocaibaaDoor.Hof Go.Proofs.YtankffbfocaibaaDoor.Sm Go.Proofs.YtankffbfocaibaaDoor.Sort
def sample_ranked.f (k : Nat) (l0 : List (S46)) (a1 : Int) : Option (Int) := (sample_Check.f k l0).bind fun t231 => (if t231 = 0 then (if a1 < 1 then (some 9) else (if a1 > (l0.length : Int) then (some 9) else (some 0))) else (some t231))
theorem sample_ranked.mono : ∀ a0 a1 k, LeO (sample_ranked.f k a0 a1) (sample_ranked.f (k + 1) a0 a1) := by
 intro a0 a1 k
 unfold sample_ranked.f
 repeat' first
   | (with_reducible exact sample_Check.mono _ _)
   | (with_reducible refine contains32.mono2 (fun x_ => ?_))
   | (with_reducible refine contains46.mono2 (fun x_ => ?_))
   | (with_reducible refine index32.mono2 (fun x_ => ?_))
   | (with_reducible refine index46.mono2 (fun x_ => ?_))
   | (with_reducible exact LeO.refl _)
   | (with_reducible exact LeO.none _)
   | (with_reducible refine LeO.ite ?_ ?_)
   | (with_reducible refine LeO.bind ?_ (fun _ => ?_))
   | exact sample_Check.mono _ _
   | exact LeO.none _
   | refine LeO.ite ?_ ?_
   | refine LeO.bind ?_ (fun _ => ?_)
def sample_sorted.l0 : Nat → (S46 → Option Int) → List Int → List (S46) → Int → Int → Option (List Int)
 | 0, _, _, _, _, _ => none
 | k + 1, x1, x5, x11, x12, x13 => if x13 < x12 then (if 0 ≤ x13 then (if x13 < (x11.length : Int) then ((x1 (⟨(rd_T46 x11 x13).f0, (rd_T46 x11 x13).f1, (rd_T46 x11 x13).f2⟩ : S46)).bind fun t237 => (if x5.length < 17592186044416 then (sample_sorted.l0 k x1 (x5 ++ [t237]) x11 x12 (wrap64 (x13 + 1))) else (none))) else (none)) else (none)) else ((slices_Sort_int.f x5).bind fun t241 => (some t241))
def sample_sorted.f (k : Nat) (l0 : List (S46)) (p1 : (S46 → Option Int)) : Option (List Int) := if 0 ≤ (l0.length : Int) then (if ((l0.length : Int) : Int).toNat ≤ 35184372088832 then (sample_sorted.l0 k p1 (([] : List Int)) l0 (l0.length : Int) 0) else (none)) else (none)
theorem sample_sorted.mono_l : ∀ k, (∀ y0 y1 y2 y3 y4, LeO (sample_sorted.l0 k y0 y1 y2 y3 y4) (sample_sorted.l0 (k + 1) y0 y1 y2 y3 y4))
 | 0 => fun _ _ _ _ _ r h => by simp [sample_sorted.l0] at h
 | k + 1 => by
  have ih0 := sample_sorted.mono_l k
  ·intro y0 y1 y2 y3 y4
   unfold sample_sorted.l0
   repeat' first
   | (with_reducible exact ih0 _ _ _ _ _)
   | (with_reducible refine contains32.mono2 (fun x_ => ?_))
   | (with_reducible refine contains46.mono2 (fun x_ => ?_))
   | (with_reducible refine index32.mono2 (fun x_ => ?_))
   | (with_reducible refine index46.mono2 (fun x_ => ?_))
   | (with_reducible exact LeO.refl _)
   | (with_reducible exact LeO.none _)
   | (with_reducible refine LeO.ite ?_ ?_)
   | (with_reducible refine LeO.bind ?_ (fun _ => ?_))
   | exact ih0 _ _ _ _ _
   | exact LeO.none _
   | refine LeO.ite ?_ ?_
   | refine LeO.bind ?_ (fun _ => ?_)
theorem sample_sorted.mono : ∀ a0 a1 k, LeO (sample_sorted.f k a0 a1) (sample_sorted.f (k + 1) a0 a1) := by
 intro a0 a1 k
 have ih0 := sample_sorted.mono_l k
 unfold sample_sorted.f
 repeat' first
   | (with_reducible exact ih0 _ _ _ _ _)
   | (with_reducible refine contains32.mono2 (fun x_ => ?_))
   | (with_reducible refine contains46.mono2 (fun x_ => ?_))
   | (with_reducible refine index32.mono2 (fun x_ => ?_))
   | (with_reducible refine index46.mono2 (fun x_ => ?_))
   | (with_reducible exact LeO.refl _)
   | (with_reducible exact LeO.none _)
   | (with_reducible refine LeO.ite ?_ ?_)
   | (with_reducible refine LeO.bind ?_ (fun _ => ?_))
   | exact ih0 _ _ _ _ _
   | exact LeO.none _
   | refine LeO.ite ?_ ?_
   | refine LeO.bind ?_ (fun _ => ?_)
def sample_strength.f (a0_0 : ByteArray) (a0_1 : Int) (a0_2 : Int) : Option (Int) := some a0_1
def sample_Strength.f (k : Nat) (l0 : List (S46)) (a1 : Int) : Option (Int × Int) := (sample_ranked.f k l0 a1).bind fun t243 => (if t243 = 0 then ((sample_sorted.f k l0 (fun x_ => sample_strength.f x_.f0 x_.f1 x_.f2)).bind fun t244 => (if 0 ≤ (wrap64 (a1 - 1)) then (if (wrap64 (a1 - 1)) < (t244.length : Int) then (some (rd t244 (wrap64 (a1 - 1)), 0)) else (none)) else (none))) else (some (0, t243)))
theorem sample_Strength.mono : ∀ a0 a1 k, LeO (sample_Strength.f k a0 a1) (sample_Strength.f (k + 1) a0 a1) := by
 intro a0 a1 k
 unfold sample_Strength.f
 repeat' first
   | (with_reducible exact sample_ranked.mono _ _ _)
   | (with_reducible exact sample_sorted.mono _ _ _)
   | (with_reducible refine contains32.mono2 (fun x_ => ?_))
   | (with_reducible refine contains46.mono2 (fun x_ => ?_))
   | (with_reducible refine index32.mono2 (fun x_ => ?_))
   | (with_reducible refine index46.mono2 (fun x_ => ?_))
   | (with_reducible exact LeO.refl _)
   | (with_reducible exact LeO.none _)
   | (with_reducible refine LeO.ite ?_ ?_)
   | (with_reducible refine LeO.bind ?_ (fun _ => ?_))
   | exact sample_ranked.mono _ _ _
   | exact sample_sorted.mono _ _ _
   | exact LeO.none _
   | refine LeO.ite ?_ ?_
   | refine LeO.bind ?_ (fun _ => ?_)
def sample_Absorption_1.f (a0_0 : ByteArray) (a0_1 : Int) (a0_2 : Int) : Option (Int) := some a0_2
def sample_Absorption.f (k : Nat) (l0 : List (S46)) (a1 : Int) : Option (Int × Int) := (sample_ranked.f k l0 a1).bind fun t249 => (if t249 = 0 then ((sample_sorted.f k l0 (fun x_ => sample_Absorption_1.f x_.f0 x_.f1 x_.f2)).bind fun t250 => (if 0 ≤ (wrap64 ((l0.length : Int) - a1)) then (if (wrap64 ((l0.length : Int) - a1)) < (t250.length : Int) then (some (rd t250 (wrap64 ((l0.length : Int) - a1)), 0)) else (none)) else (none))) else (some (0, t249)))
theorem sample_Absorption.mono : ∀ a0 a1 k, LeO (sample_Absorption.f k a0 a1) (sample_Absorption.f (k + 1) a0 a1) := by
 intro a0 a1 k
 unfold sample_Absorption.f
 repeat' first
   | (with_reducible exact sample_ranked.mono _ _ _)
   | (with_reducible exact sample_sorted.mono _ _ _)
   | (with_reducible refine contains32.mono2 (fun x_ => ?_))
   | (with_reducible refine contains46.mono2 (fun x_ => ?_))
   | (with_reducible refine index32.mono2 (fun x_ => ?_))
   | (with_reducible refine index46.mono2 (fun x_ => ?_))
   | (with_reducible exact LeO.refl _)
   | (with_reducible exact LeO.none _)
   | (with_reducible refine LeO.ite ?_ ?_)
   | (with_reducible refine LeO.bind ?_ (fun _ => ?_))
   | exact sample_ranked.mono _ _ _
   | exact sample_sorted.mono _ _ _
   | exact LeO.none _
   | refine LeO.ite ?_ ?_
   | refine LeO.bind ?_ (fun _ => ?_)
end Go.Proofs.YtankffbfocaibaaDoor.P
