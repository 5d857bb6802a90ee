/- What functions of the program return: each contract says so of one function, for every input at which its pure function yields. -/
import Derived.Test.YtankffbfocaibaaDoorPx0
import Derived.Test.YtankffbfocaibaaDoorPx1
import Derived.Test.YtankffbfocaibaaDoorPx2
import Derived.Test.YtankffbfocaibaaDoorPx4
namespace Go.Proofs.YtankffbfocaibaaDoor.P
open Go.RowKit Go.Proofs.YtankffbfocaibaaDoorW.PrintWords Go.Proofs.YtankffbfocaibaaDoorW.PrintLast Go.Proofs.YtankffbfocaibaaDoorW.PrintMore
attribute [local go_sem] max2_int min2_int max_two min_two max_three min_three max_four min_four   -- for this text's walks alone
set_option linter.unusedVariables false
set_option linter.unusedSimpArgs false

def grade_Of.l0 : Nat → List (S46) → List (S32) → Int → Int → Option (ByteArray × Int)
 | 0, _, _, _, _ => none
 | k + 1, x1, x20, x21, x22 => if x22 < x21 then (if 0 ≤ x22 then (if x22 < (x20.length : Int) then ((grade_meets.f k ((rd_T32 x20 x22).f0) ((rd_T32 x20 x22).f1) ((rd_T32 x20 x22).f2) ((rd_T32 x20 x22).f3) x1).bind fun t143 => (if t143 = true then (some ((rd_T32 x20 x22).f0, 0)) else (grade_Of.l0 k x1 x20 x21 (wrap64 (x22 + 1))))) else (none)) else (none)) else (some ((⟨#[]⟩ : ByteArray), 9))
def grade_Of.f (k : Nat) (l0 : List (S32)) (l1 : List (S46)) : Option (ByteArray × Int) := (grade_Check.f k l0).bind fun t139 => (if t139 = 0 then ((sample_Check.f k l1).bind fun t140 => (if t140 = 0 then (grade_Of.l0 k l1 l0 (l0.length : Int) 0) else (some ((⟨#[]⟩ : ByteArray), t140)))) else (some ((⟨#[]⟩ : ByteArray), t139)))
theorem grade_Of.mono_l : ∀ k, (∀ y0 y1 y2 y3, LeO (grade_Of.l0 k y0 y1 y2 y3) (grade_Of.l0 (k + 1) y0 y1 y2 y3))
 | 0 => fun _ _ _ _ r h => by simp [grade_Of.l0] at h
 | k + 1 => by
  have ih0 := grade_Of.mono_l k
  ·intro y0 y1 y2 y3
   unfold grade_Of.l0
   repeat' first
   | (with_reducible exact ih0 _ _ _ _)
   | (with_reducible exact grade_Check.mono _ _)
   | (with_reducible exact grade_meets.mono _ _ _ _ _ _)
   | (with_reducible exact sample_Check.mono _ _)
   | (with_reducible refine contains32.mono2 (fun x_ => ?_))
   | (with_reducible refine contains46.mono2 (fun x_ => ?_))
   | (with_reducible refine index32.mono2 (fun x_ => ?_))
   | (with_reducible refine index46.mono2 (fun x_ => ?_))
   | (with_reducible exact LeO.refl _)
   | (with_reducible exact LeO.none _)
   | (with_reducible refine LeO.ite ?_ ?_)
   | (with_reducible refine LeO.bind ?_ (fun _ => ?_))
   | exact ih0 _ _ _ _
   | exact grade_Check.mono _ _
   | exact grade_meets.mono _ _ _ _ _ _
   | exact sample_Check.mono _ _
   | exact LeO.none _
   | refine LeO.ite ?_ ?_
   | refine LeO.bind ?_ (fun _ => ?_)
theorem grade_Of.mono : ∀ a0 a1 k, LeO (grade_Of.f k a0 a1) (grade_Of.f (k + 1) a0 a1) := by
 intro a0 a1 k
 have ih0 := grade_Of.mono_l k
 unfold grade_Of.f
 repeat' first
   | (with_reducible exact ih0 _ _ _ _)
   | (with_reducible exact grade_Check.mono _ _)
   | (with_reducible exact grade_meets.mono _ _ _ _ _ _)
   | (with_reducible exact sample_Check.mono _ _)
   | (with_reducible refine contains32.mono2 (fun x_ => ?_))
   | (with_reducible refine contains46.mono2 (fun x_ => ?_))
   | (with_reducible refine index32.mono2 (fun x_ => ?_))
   | (with_reducible refine index46.mono2 (fun x_ => ?_))
   | (with_reducible exact LeO.refl _)
   | (with_reducible exact LeO.none _)
   | (with_reducible refine LeO.ite ?_ ?_)
   | (with_reducible refine LeO.bind ?_ (fun _ => ?_))
   | exact ih0 _ _ _ _
   | exact grade_Check.mono _ _
   | exact grade_meets.mono _ _ _ _ _ _
   | exact sample_Check.mono _ _
   | exact LeO.none _
   | refine LeO.ite ?_ ?_
   | refine LeO.bind ?_ (fun _ => ?_)
def gangsawref34_in.f (a0 : Int) (a1 : Int) (a2 : Int) : Option (Bool) := if a1 ≤ a0 then (some (decide (a0 ≤ a2))) else (some false)
def gangsawref09_letter.f (a0 : Int) : Option (Bool) := if a0 ≥ 97 then (if a0 ≤ 122 then (some true) else (if a0 ≥ 65 then (some (decide (a0 ≤ 90))) else (some false))) else (if a0 ≥ 65 then (some (decide (a0 ≤ 90))) else (some false))
def gangsawref09_digit.f (a0 : Int) : Option (Bool) := if a0 ≥ 48 then (some (decide (a0 ≤ 57))) else (some false)
def gangsawref09_part.f (a0 : Int) : Option (Bool) := (gangsawref09_digit.f a0).bind fun t144 => (if t144 = true then (some true) else ((gangsawref09_letter.f a0).bind fun t145 => (if t145 = true then (some true) else (some (a0 == 95)))))
end Go.Proofs.YtankffbfocaibaaDoor.P
