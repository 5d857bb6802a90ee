/- What functions of the program return: each contract says so of one function, for every input at which its pure function yields. -/
import Derived.Test.YtankffbfocaibaaDoorPx0
import Derived.Test.YtankffbfocaibaaDoorPx8
import Derived.Test.YtankffbfocaibaaDoorPx9
namespace Go.Proofs.YtankffbfocaibaaDoor.P
open Go.RowKit Go.Proofs.YtankffbfocaibaaDoorW.PrintWords Go.Proofs.YtankffbfocaibaaDoorW.PrintLast Go.Proofs.YtankffbfocaibaaDoorW.PrintMore
attribute [local go_sem] max2_int min2_int max_two min_two max_three min_three max_four min_four   -- for this text's walks alone
set_option linter.unusedVariables false
set_option linter.unusedSimpArgs false

def gangsawref34_worse.l0 : Nat → List (S46) → Int → Int → Int → Int → Int → Option (Int × Int)
 | 0, _, _, _, _, _, _ => none
 | k + 1, x0, x1, x2, x8, x9, x10 => if x10 < (x0.length : Int) then (if 0 ≤ x10 then (if ((rd_T46 x0 x10).f1) < x1 then (if ((rd_T46 x0 x10).f2) > x2 then (gangsawref34_worse.l0 k x0 x1 x2 (wrap64 (x8 + 1)) (wrap64 (x9 + 1)) (wrap64 (x10 + 1))) else (gangsawref34_worse.l0 k x0 x1 x2 (wrap64 (x8 + 1)) x9 (wrap64 (x10 + 1)))) else (if ((rd_T46 x0 x10).f2) > x2 then (gangsawref34_worse.l0 k x0 x1 x2 x8 (wrap64 (x9 + 1)) (wrap64 (x10 + 1))) else (gangsawref34_worse.l0 k x0 x1 x2 x8 x9 (wrap64 (x10 + 1))))) else (none)) else (some (x8, x9))
def gangsawref34_worse.f (k : Nat) (l0 : List (S46)) (a1 : Int) (a2 : Int) : Option (Int × Int) := gangsawref34_worse.l0 k l0 a1 a2 0 0 0
theorem gangsawref34_worse.mono_l : ∀ k, (∀ y0 y1 y2 y3 y4 y5, LeO (gangsawref34_worse.l0 k y0 y1 y2 y3 y4 y5) (gangsawref34_worse.l0 (k + 1) y0 y1 y2 y3 y4 y5))
 | 0 => fun _ _ _ _ _ _ r h => by simp [gangsawref34_worse.l0] at h
 | k + 1 => by
  have ih0 := gangsawref34_worse.mono_l k
  ·intro y0 y1 y2 y3 y4 y5
   unfold gangsawref34_worse.l0
   repeat' first
   | (with_reducible exact ih0 _ _ _ _ _ _)
   | (with_reducible refine contains32.mono2 (fun x_ => ?_))
   | (with_reducible refine contains46.mono2 (fun x_ => ?_))
   | (with_reducible refine index32.mono2 (fun x_ => ?_))
   | (with_reducible refine index46.mono2 (fun x_ => ?_))
   | (with_reducible exact LeO.refl _)
   | (with_reducible exact LeO.none _)
   | (with_reducible refine LeO.ite ?_ ?_)
   | (with_reducible refine LeO.bind ?_ (fun _ => ?_))
   | exact ih0 _ _ _ _ _ _
   | exact LeO.none _
   | refine LeO.ite ?_ ?_
   | refine LeO.bind ?_ (fun _ => ?_)
theorem gangsawref34_worse.mono : ∀ a0 a1 a2 k, LeO (gangsawref34_worse.f k a0 a1 a2) (gangsawref34_worse.f (k + 1) a0 a1 a2) := by
 intro a0 a1 a2 k
 have ih0 := gangsawref34_worse.mono_l k
 unfold gangsawref34_worse.f
 repeat' first
   | (with_reducible exact ih0 _ _ _ _ _ _)
   | (with_reducible refine contains32.mono2 (fun x_ => ?_))
   | (with_reducible refine contains46.mono2 (fun x_ => ?_))
   | (with_reducible refine index32.mono2 (fun x_ => ?_))
   | (with_reducible refine index46.mono2 (fun x_ => ?_))
   | (with_reducible exact LeO.refl _)
   | (with_reducible exact LeO.none _)
   | (with_reducible refine LeO.ite ?_ ?_)
   | (with_reducible refine LeO.bind ?_ (fun _ => ?_))
   | exact ih0 _ _ _ _ _ _
   | exact LeO.none _
   | refine LeO.ite ?_ ?_
   | refine LeO.bind ?_ (fun _ => ?_)
def gangsawref34_Met.f (k : Nat) (a0_0 : ByteArray) (a0_1 : Int) (a0_2 : Int) (a0_3 : Int) (l1 : List (S46)) : Option (Bool) := (gangsawref34_worse.f k l1 a0_2 a0_3).bind fun bt172 => (if (l1.length : Int) ≥ a0_1 then (if bt172.1 < a0_1 then (some (decide (bt172.2 < a0_1))) else (some false)) else (some false))
theorem gangsawref34_Met.mono : ∀ a0 a1 a2 a3 a4 k, LeO (gangsawref34_Met.f k a0 a1 a2 a3 a4) (gangsawref34_Met.f (k + 1) a0 a1 a2 a3 a4) := by
 intro a0 a1 a2 a3 a4 k
 unfold gangsawref34_Met.f
 repeat' first
   | (with_reducible exact gangsawref34_worse.mono _ _ _ _)
   | (with_reducible refine contains32.mono2 (fun x_ => ?_))
   | (with_reducible refine contains46.mono2 (fun x_ => ?_))
   | (with_reducible refine index32.mono2 (fun x_ => ?_))
   | (with_reducible refine index46.mono2 (fun x_ => ?_))
   | (with_reducible exact LeO.refl _)
   | (with_reducible exact LeO.none _)
   | (with_reducible refine LeO.ite ?_ ?_)
   | (with_reducible refine LeO.bind ?_ (fun _ => ?_))
   | exact gangsawref34_worse.mono _ _ _ _
   | exact LeO.none _
   | refine LeO.ite ?_ ?_
   | refine LeO.bind ?_ (fun _ => ?_)
def gangsawref34_Of.l0 : Nat → List (S32) → List (S46) → Int → Option (ByteArray × Int)
 | 0, _, _, _ => none
 | k + 1, x0, x1, x8 => if x8 < (x0.length : Int) then (if 0 ≤ x8 then ((gangsawref34_Met.f k ((rd_T32 x0 x8).f0) ((rd_T32 x0 x8).f1) ((rd_T32 x0 x8).f2) ((rd_T32 x0 x8).f3) x1).bind fun t177 => (if t177 = true then (some ((rd_T32 x0 x8).f0, 0)) else (gangsawref34_Of.l0 k x0 x1 (wrap64 (x8 + 1))))) else (none)) else (some ((⟨#[]⟩ : ByteArray), 9))
def gangsawref34_Of.f (k : Nat) (l0 : List (S32)) (l1 : List (S46)) : Option (ByteArray × Int) := (gangsawref34_Check.f k l0).bind fun t174 => (if t174 = 0 then ((gangsawref33_Check.f k l1).bind fun t175 => (if t175 = 0 then (gangsawref34_Of.l0 k l0 l1 0) else (some ((⟨#[]⟩ : ByteArray), t175)))) else (some ((⟨#[]⟩ : ByteArray), t174)))
theorem gangsawref34_Of.mono_l : ∀ k, (∀ y0 y1 y2, LeO (gangsawref34_Of.l0 k y0 y1 y2) (gangsawref34_Of.l0 (k + 1) y0 y1 y2))
 | 0 => fun _ _ _ r h => by simp [gangsawref34_Of.l0] at h
 | k + 1 => by
  have ih0 := gangsawref34_Of.mono_l k
  ·intro y0 y1 y2
   unfold gangsawref34_Of.l0
   repeat' first
   | (with_reducible exact ih0 _ _ _)
   | (with_reducible exact gangsawref33_Check.mono _ _)
   | (with_reducible exact gangsawref34_Check.mono _ _)
   | (with_reducible exact gangsawref34_Met.mono _ _ _ _ _ _)
   | (with_reducible refine contains32.mono2 (fun x_ => ?_))
   | (with_reducible refine contains46.mono2 (fun x_ => ?_))
   | (with_reducible refine index32.mono2 (fun x_ => ?_))
   | (with_reducible refine index46.mono2 (fun x_ => ?_))
   | (with_reducible exact LeO.refl _)
   | (with_reducible exact LeO.none _)
   | (with_reducible refine LeO.ite ?_ ?_)
   | (with_reducible refine LeO.bind ?_ (fun _ => ?_))
   | exact ih0 _ _ _
   | exact gangsawref33_Check.mono _ _
   | exact gangsawref34_Check.mono _ _
   | exact gangsawref34_Met.mono _ _ _ _ _ _
   | exact LeO.none _
   | refine LeO.ite ?_ ?_
   | refine LeO.bind ?_ (fun _ => ?_)
theorem gangsawref34_Of.mono : ∀ a0 a1 k, LeO (gangsawref34_Of.f k a0 a1) (gangsawref34_Of.f (k + 1) a0 a1) := by
 intro a0 a1 k
 have ih0 := gangsawref34_Of.mono_l k
 unfold gangsawref34_Of.f
 repeat' first
   | (with_reducible exact ih0 _ _ _)
   | (with_reducible exact gangsawref33_Check.mono _ _)
   | (with_reducible exact gangsawref34_Check.mono _ _)
   | (with_reducible exact gangsawref34_Met.mono _ _ _ _ _ _)
   | (with_reducible refine contains32.mono2 (fun x_ => ?_))
   | (with_reducible refine contains46.mono2 (fun x_ => ?_))
   | (with_reducible refine index32.mono2 (fun x_ => ?_))
   | (with_reducible refine index46.mono2 (fun x_ => ?_))
   | (with_reducible exact LeO.refl _)
   | (with_reducible exact LeO.none _)
   | (with_reducible refine LeO.ite ?_ ?_)
   | (with_reducible refine LeO.bind ?_ (fun _ => ?_))
   | exact ih0 _ _ _
   | exact gangsawref33_Check.mono _ _
   | exact gangsawref34_Check.mono _ _
   | exact gangsawref34_Met.mono _ _ _ _ _ _
   | exact LeO.none _
   | refine LeO.ite ?_ ?_
   | refine LeO.bind ?_ (fun _ => ?_)
end Go.Proofs.YtankffbfocaibaaDoor.P
