/- What functions of the program return: each contract says so of one function, for every input at which its pure function yields. -/
import Derived.Test.YtfedmcehkpfciaaGreatPx0
namespace Go.Proofs.YtfedmcehkpfciaaGreat.P
open Go.RowKit Go.Proofs.YtfedmcehkpfciaaGreatW.PrintWords Go.Proofs.YtfedmcehkpfciaaGreatW.PrintLast Go.Proofs.YtfedmcehkpfciaaGreatW.PrintMore
attribute [local go_sem] max2_int min2_int max_two min_two max_three min_three max_four min_four   -- for this text's walks alone
set_option linter.unusedVariables false
set_option linter.unusedSimpArgs false

def boring_State.l0 : Nat → Int → List (S48) → Int → Int → Option (Int)
 | 0, _, _, _, _ => none
 | k + 1, x1, x8, x9, x10 => if x10 < x9 then (if 0 ≤ x10 then (if x10 < (x8.length : Int) then (if ((rd_T48 x8 x10).f0) ≤ x1 then (if x1 < ((rd_T48 x8 x10).f1) then (some ((rd_T48 x8 x10).f2)) else (boring_State.l0 k x1 x8 x9 (wrap64 (x10 + 1)))) else (boring_State.l0 k x1 x8 x9 (wrap64 (x10 + 1)))) else (none)) else (none)) else (some 0)
def boring_State.f (k : Nat) (a0_0 : ByteArray) (a0_1 : Int) (a0_2 : Int) (l0_3 : List (S48)) (a1 : Int) : Option (Int) := boring_State.l0 k a1 l0_3 (l0_3.length : Int) 0
theorem boring_State.mono_l : ∀ k, (∀ y0 y1 y2 y3, LeO (boring_State.l0 k y0 y1 y2 y3) (boring_State.l0 (k + 1) y0 y1 y2 y3))
 | 0 => fun _ _ _ _ r h => by simp [boring_State.l0] at h
 | k + 1 => by
  have ih0 := boring_State.mono_l k
  ·intro y0 y1 y2 y3
   unfold boring_State.l0
   repeat' first
   | (with_reducible exact ih0 _ _ _ _)
   | (with_reducible refine contains3.mono2 (fun x_ => ?_))
   | (with_reducible refine contains33.mono2 (fun x_ => ?_))
   | (with_reducible refine contains48.mono2 (fun x_ => ?_))
   | (with_reducible refine contains9.mono2 (fun x_ => ?_))
   | (with_reducible refine index3.mono2 (fun x_ => ?_))
   | (with_reducible refine index33.mono2 (fun x_ => ?_))
   | (with_reducible refine index48.mono2 (fun x_ => ?_))
   | (with_reducible refine index9.mono2 (fun x_ => ?_))
   | (with_reducible exact LeO.refl _)
   | (with_reducible exact LeO.none _)
   | (with_reducible refine LeO.ite ?_ ?_)
   | (with_reducible refine LeO.bind ?_ (fun _ => ?_))
   | exact ih0 _ _ _ _
   | exact LeO.none _
   | refine LeO.ite ?_ ?_
   | refine LeO.bind ?_ (fun _ => ?_)
theorem boring_State.mono : ∀ a0 a1 a2 a3 a4 k, LeO (boring_State.f k a0 a1 a2 a3 a4) (boring_State.f (k + 1) a0 a1 a2 a3 a4) := by
 intro a0 a1 a2 a3 a4 k
 have ih0 := boring_State.mono_l k
 unfold boring_State.f
 repeat' first
   | (with_reducible exact ih0 _ _ _ _)
   | (with_reducible refine contains3.mono2 (fun x_ => ?_))
   | (with_reducible refine contains33.mono2 (fun x_ => ?_))
   | (with_reducible refine contains48.mono2 (fun x_ => ?_))
   | (with_reducible refine contains9.mono2 (fun x_ => ?_))
   | (with_reducible refine index3.mono2 (fun x_ => ?_))
   | (with_reducible refine index33.mono2 (fun x_ => ?_))
   | (with_reducible refine index48.mono2 (fun x_ => ?_))
   | (with_reducible refine index9.mono2 (fun x_ => ?_))
   | (with_reducible exact LeO.refl _)
   | (with_reducible exact LeO.none _)
   | (with_reducible refine LeO.ite ?_ ?_)
   | (with_reducible refine LeO.bind ?_ (fun _ => ?_))
   | exact ih0 _ _ _ _
   | exact LeO.none _
   | refine LeO.ite ?_ ?_
   | refine LeO.bind ?_ (fun _ => ?_)
def gangsawref14_State.l0 : Nat → Int → Int → ByteArray → Int → Int → List (S48) → Option (Int)
 | 0, _, _, _, _, _, _ => none
 | k + 1, x1, x5, x252000, x252001, x252002, x252003 => if x5 < (x252003.length : Int) then (if 0 ≤ x5 then (if ((rd_T48 x252003 x5).f0) ≤ x1 then (if x1 < ((rd_T48 x252003 x5).f1) then (some ((rd_T48 x252003 x5).f2)) else (gangsawref14_State.l0 k x1 (wrap64 (x5 + 1)) x252000 x252001 x252002 x252003)) else (gangsawref14_State.l0 k x1 (wrap64 (x5 + 1)) x252000 x252001 x252002 x252003)) else (none)) else (some 0)
def gangsawref14_State.f (k : Nat) (a0_0 : ByteArray) (a0_1 : Int) (a0_2 : Int) (l0_3 : List (S48)) (a1 : Int) : Option (Int) := gangsawref14_State.l0 k a1 0 a0_0 a0_1 a0_2 l0_3
theorem gangsawref14_State.mono_l : ∀ k, (∀ y0 y1 y2 y3 y4 y5, LeO (gangsawref14_State.l0 k y0 y1 y2 y3 y4 y5) (gangsawref14_State.l0 (k + 1) y0 y1 y2 y3 y4 y5))
 | 0 => fun _ _ _ _ _ _ r h => by simp [gangsawref14_State.l0] at h
 | k + 1 => by
  have ih0 := gangsawref14_State.mono_l k
  ·intro y0 y1 y2 y3 y4 y5
   unfold gangsawref14_State.l0
   repeat' first
   | (with_reducible exact ih0 _ _ _ _ _ _)
   | (with_reducible refine contains3.mono2 (fun x_ => ?_))
   | (with_reducible refine contains33.mono2 (fun x_ => ?_))
   | (with_reducible refine contains48.mono2 (fun x_ => ?_))
   | (with_reducible refine contains9.mono2 (fun x_ => ?_))
   | (with_reducible refine index3.mono2 (fun x_ => ?_))
   | (with_reducible refine index33.mono2 (fun x_ => ?_))
   | (with_reducible refine index48.mono2 (fun x_ => ?_))
   | (with_reducible refine index9.mono2 (fun x_ => ?_))
   | (with_reducible exact LeO.refl _)
   | (with_reducible exact LeO.none _)
   | (with_reducible refine LeO.ite ?_ ?_)
   | (with_reducible refine LeO.bind ?_ (fun _ => ?_))
   | exact ih0 _ _ _ _ _ _
   | exact LeO.none _
   | refine LeO.ite ?_ ?_
   | refine LeO.bind ?_ (fun _ => ?_)
theorem gangsawref14_State.mono : ∀ a0 a1 a2 a3 a4 k, LeO (gangsawref14_State.f k a0 a1 a2 a3 a4) (gangsawref14_State.f (k + 1) a0 a1 a2 a3 a4) := by
 intro a0 a1 a2 a3 a4 k
 have ih0 := gangsawref14_State.mono_l k
 unfold gangsawref14_State.f
 repeat' first
   | (with_reducible exact ih0 _ _ _ _ _ _)
   | (with_reducible refine contains3.mono2 (fun x_ => ?_))
   | (with_reducible refine contains33.mono2 (fun x_ => ?_))
   | (with_reducible refine contains48.mono2 (fun x_ => ?_))
   | (with_reducible refine contains9.mono2 (fun x_ => ?_))
   | (with_reducible refine index3.mono2 (fun x_ => ?_))
   | (with_reducible refine index33.mono2 (fun x_ => ?_))
   | (with_reducible refine index48.mono2 (fun x_ => ?_))
   | (with_reducible refine index9.mono2 (fun x_ => ?_))
   | (with_reducible exact LeO.refl _)
   | (with_reducible exact LeO.none _)
   | (with_reducible refine LeO.ite ?_ ?_)
   | (with_reducible refine LeO.bind ?_ (fun _ => ?_))
   | exact ih0 _ _ _ _ _ _
   | exact LeO.none _
   | refine LeO.ite ?_ ?_
   | refine LeO.bind ?_ (fun _ => ?_)
end Go.Proofs.YtfedmcehkpfciaaGreat.P
