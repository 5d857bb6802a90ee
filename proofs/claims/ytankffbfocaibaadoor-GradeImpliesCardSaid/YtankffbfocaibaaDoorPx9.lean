/- What functions of the program return: each contract says so of one function, for every input at which its pure function yields. -/
import Derived.Test.YtankffbfocaibaaDoorPx0
import Derived.Test.YtankffbfocaibaaDoorPx1
import Derived.Test.YtankffbfocaibaaDoorPx8
import Derived.Test.YtankffbfocaibaaDoorHof
import Derived.Test.YtankffbfocaibaaDoorLex
import Derived.Test.YtankffbfocaibaaDoorSm
namespace Go.Proofs.YtankffbfocaibaaDoor.P
open Go.RowKit Go.Proofs.YtankffbfocaibaaDoorW.PrintWords Go.Proofs.YtankffbfocaibaaDoorW.PrintLast Go.Proofs.YtankffbfocaibaaDoorW.PrintMore
attribute [local go_sem] max2_int min2_int max_two min_two max_three min_three max_four min_four   -- for this text's walks alone
set_option linter.unusedVariables false
set_option linter.unusedSimpArgs false

open Go.Proofs.YtankffbfocaibaaDoor.Hof Go.Proofs.YtankffbfocaibaaDoor.Lex Go.Proofs.YtankffbfocaibaaDoor.Sm
def sample_Check_1.f (a0_0 : ByteArray) (a0_1 : Int) (a0_2 : Int) : Option (Bool) := (lexer_Name.f a0_0).bind fun t199 => (some (!t199))
def sample_Check_2.f (a0_0 : ByteArray) (a0_1 : Int) (a0_2 : Int) : Option (Bool) := if a0_1 < 0 then (some true) else (if a0_1 > 1000000 then (some true) else (if a0_2 < 0 then (some true) else (some (decide (a0_2 > 1000000)))))
def sample_Check.l0 : Nat → List (S46) → Int → Int → (Sm.SM ByteArray Bool) → Option (Int)
 | 0, _, _, _, _ => none
 | k + 1, x14, x15, x16, x204000 => if x16 < x15 then (if 0 ≤ x16 then (if x16 < (x14.length : Int) then (if (x204000.at_ ((rd_T46 x14 x16).f0) false) = true then (some 5) else (sample_Check.l0 k x14 x15 (wrap64 (x16 + 1)) (x204000.put ((rd_T46 x14 x16).f0) true))) else (none)) else (none)) else (some 0)
def sample_Check.f (k : Nat) (l0 : List (S46)) : Option (Int) := if (l0.length : Int) > 256 then (some 7) else ((contains46.f l0 (fun x_ => sample_Check_1.f x_.f0 x_.f1 x_.f2)).bind fun t201 => (if t201 = true then (some 4) else ((contains46.f l0 (fun x_ => sample_Check_2.f x_.f0 x_.f1 x_.f2)).bind fun t202 => (if t202 = true then (some 6) else (sample_Check.l0 k l0 (l0.length : Int) 0 Sm.SM.new)))))
theorem sample_Check.mono_l : ∀ k, (∀ y0 y1 y2 y3, LeO (sample_Check.l0 k y0 y1 y2 y3) (sample_Check.l0 (k + 1) y0 y1 y2 y3))
 | 0 => fun _ _ _ _ r h => by simp [sample_Check.l0] at h
 | k + 1 => by
  have ih0 := sample_Check.mono_l k
  ·intro y0 y1 y2 y3
   unfold sample_Check.l0
   repeat' first
   | (with_reducible exact ih0 _ _ _ _)
   | (with_reducible refine contains32.mono2 (fun x_ => ?_))
   | (with_reducible refine contains46.mono2 (fun x_ => ?_))
   | (with_reducible refine index32.mono2 (fun x_ => ?_))
   | (with_reducible refine index46.mono2 (fun x_ => ?_))
   | (with_reducible exact LeO.refl _)
   | (with_reducible exact LeO.none _)
   | (with_reducible refine LeO.ite ?_ ?_)
   | (with_reducible refine LeO.bind ?_ (fun _ => ?_))
   | exact ih0 _ _ _ _
   | exact LeO.none _
   | refine LeO.ite ?_ ?_
   | refine LeO.bind ?_ (fun _ => ?_)
theorem sample_Check.mono : ∀ a0 k, LeO (sample_Check.f k a0) (sample_Check.f (k + 1) a0) := by
 intro a0 k
 have ih0 := sample_Check.mono_l k
 unfold sample_Check.f
 repeat' first
   | (with_reducible exact ih0 _ _ _ _)
   | (with_reducible refine contains32.mono2 (fun x_ => ?_))
   | (with_reducible refine contains46.mono2 (fun x_ => ?_))
   | (with_reducible refine index32.mono2 (fun x_ => ?_))
   | (with_reducible refine index46.mono2 (fun x_ => ?_))
   | (with_reducible exact LeO.refl _)
   | (with_reducible exact LeO.none _)
   | (with_reducible refine LeO.ite ?_ ?_)
   | (with_reducible refine LeO.bind ?_ (fun _ => ?_))
   | exact ih0 _ _ _ _
   | exact LeO.none _
   | refine LeO.ite ?_ ?_
   | refine LeO.bind ?_ (fun _ => ?_)
def grade_both.f (k : Nat) (a0_0 : ByteArray) (a0_1 : Int) (a0_2 : Int) (a0_3 : Int) (l1 : List (S46)) : Option (Int) := (grade_valid.f (([(⟨a0_0, a0_1, a0_2, a0_3⟩ : S32)] : List (S32)))).bind fun t210 => (if t210 = 0 then ((sample_Check.f k l1).bind fun t211 => (some t211)) else (some t210))
theorem grade_both.mono : ∀ a0 a1 a2 a3 a4 k, LeO (grade_both.f k a0 a1 a2 a3 a4) (grade_both.f (k + 1) a0 a1 a2 a3 a4) := by
 intro a0 a1 a2 a3 a4 k
 unfold grade_both.f
 repeat' first
   | (with_reducible exact sample_Check.mono _ _)
   | (with_reducible refine contains32.mono2 (fun x_ => ?_))
   | (with_reducible refine contains46.mono2 (fun x_ => ?_))
   | (with_reducible refine index32.mono2 (fun x_ => ?_))
   | (with_reducible refine index46.mono2 (fun x_ => ?_))
   | (with_reducible exact LeO.refl _)
   | (with_reducible exact LeO.none _)
   | (with_reducible refine LeO.ite ?_ ?_)
   | (with_reducible refine LeO.bind ?_ (fun _ => ?_))
   | exact sample_Check.mono _ _
   | exact LeO.none _
   | refine LeO.ite ?_ ?_
   | refine LeO.bind ?_ (fun _ => ?_)
def grade_Meets.f (k : Nat) (a0_0 : ByteArray) (a0_1 : Int) (a0_2 : Int) (a0_3 : Int) (l1 : List (S46)) : Option (Bool × Int) := (grade_both.f k a0_0 a0_1 a0_2 a0_3 l1).bind fun t213 => (if t213 = 0 then ((grade_meets.f k a0_0 a0_1 a0_2 a0_3 l1).bind fun t214 => (some (t214, 0))) else (some (false, t213)))
theorem grade_Meets.mono : ∀ a0 a1 a2 a3 a4 k, LeO (grade_Meets.f k a0 a1 a2 a3 a4) (grade_Meets.f (k + 1) a0 a1 a2 a3 a4) := by
 intro a0 a1 a2 a3 a4 k
 unfold grade_Meets.f
 repeat' first
   | (with_reducible exact grade_both.mono _ _ _ _ _ _)
   | (with_reducible exact grade_meets.mono _ _ _ _ _ _)
   | (with_reducible refine contains32.mono2 (fun x_ => ?_))
   | (with_reducible refine contains46.mono2 (fun x_ => ?_))
   | (with_reducible refine index32.mono2 (fun x_ => ?_))
   | (with_reducible refine index46.mono2 (fun x_ => ?_))
   | (with_reducible exact LeO.refl _)
   | (with_reducible exact LeO.none _)
   | (with_reducible refine LeO.ite ?_ ?_)
   | (with_reducible refine LeO.bind ?_ (fun _ => ?_))
   | exact grade_both.mono _ _ _ _ _ _
   | exact grade_meets.mono _ _ _ _ _ _
   | exact LeO.none _
   | refine LeO.ite ?_ ?_
   | refine LeO.bind ?_ (fun _ => ?_)
end Go.Proofs.YtankffbfocaibaaDoor.P
