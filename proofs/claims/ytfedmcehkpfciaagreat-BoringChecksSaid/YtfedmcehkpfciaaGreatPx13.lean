/- What functions of the program return: each contract says so of one function, for every input at which its pure function yields. -/
import Derived.Test.YtfedmcehkpfciaaGreatPx0
import Derived.Test.YtfedmcehkpfciaaGreatPx4
import Derived.Test.YtfedmcehkpfciaaGreatHof
namespace Go.Proofs.YtfedmcehkpfciaaGreat.P
open Go.RowKit Go.Proofs.YtfedmcehkpfciaaGreatW.PrintWords Go.Proofs.YtfedmcehkpfciaaGreatW.PrintLast Go.Proofs.YtfedmcehkpfciaaGreatW.PrintMore
attribute [local go_sem] max2_int min2_int max_two min_two max_three min_three max_four min_four   -- for this text's walks alone
set_option linter.unusedVariables false
set_option linter.unusedSimpArgs false

open Go.Proofs.YtfedmcehkpfciaaGreat.Hof
def boring_in.f (a0 : Int) : Option (Bool) := if a0 ≥ (-1000000) then (some (decide (a0 ≤ 1000000))) else (some false)
def boring_formed_1_1.f (a0_0 : Int) (a0_1 : Int) (a0_2 : Int) : Option (Bool) := (boring_in.f a0_0).bind fun t164 => (if t164 = true then ((boring_in.f a0_1).bind fun t165 => (some (!t165))) else (some true))
def boring_formed_1.f (a0_0 : ByteArray) (a0_1 : Int) (a0_2 : Int) (l0_3 : List (S48)) : Option (Bool) := (boring_in.f a0_1).bind fun t167 => (if t167 = true then ((boring_in.f a0_2).bind fun t168 => (if t168 = true then ((boring_in.f (wrap64 (a0_1 + 1))).bind fun t169 => (if t169 = true then ((boring_in.f (wrap64 (a0_2 + 1))).bind fun t170 => (if t170 = true then ((boring_some.f a0_0 a0_1 a0_2 l0_3 (fun x_ => boring_formed_1_1.f x_.f0 x_.f1 x_.f2)).bind fun t171 => (some (!t171))) else (some false))) else (some false))) else (some false))) else (some false))
def boring_joined.l0 : Nat → List (S48) → List (S48) → Int → Int → Option ((List (S48)))
 | 0, _, _, _, _ => none
 | k + 1, x3, x7, x8, x9 => if x9 < x8 then (if 0 ≤ x9 then (if x9 < (x7.length : Int) then (if (x3.length : Int) > 0 then (if 0 ≤ (wrap64 ((x3.length : Int) - 1)) then (if (wrap64 ((x3.length : Int) - 1)) < (x3.length : Int) then (if ((rd_T48 x3 (wrap64 ((x3.length : Int) - 1))).f1) = ((rd_T48 x7 x9).f0) then (if ((rd_T48 x3 (wrap64 ((x3.length : Int) - 1))).f2) = ((rd_T48 x7 x9).f2) then (boring_joined.l0 k (x3.set ((wrap64 ((x3.length : Int) - 1)) : Int).toNat (⟨(rd_T48 x3 (wrap64 ((x3.length : Int) - 1))).f0, (rd_T48 x7 x9).f1, (rd_T48 x3 (wrap64 ((x3.length : Int) - 1))).f2⟩ : S48)) x7 x8 (wrap64 (x9 + 1))) else (if x3.length < 5864062014805 then (boring_joined.l0 k (x3 ++ [(⟨(rd_T48 x7 x9).f0, (rd_T48 x7 x9).f1, (rd_T48 x7 x9).f2⟩ : S48)]) x7 x8 (wrap64 (x9 + 1))) else (none))) else (if x3.length < 5864062014805 then (boring_joined.l0 k (x3 ++ [(⟨(rd_T48 x7 x9).f0, (rd_T48 x7 x9).f1, (rd_T48 x7 x9).f2⟩ : S48)]) x7 x8 (wrap64 (x9 + 1))) else (none))) else (none)) else (none)) else (if x3.length < 5864062014805 then (boring_joined.l0 k (x3 ++ [(⟨(rd_T48 x7 x9).f0, (rd_T48 x7 x9).f1, (rd_T48 x7 x9).f2⟩ : S48)]) x7 x8 (wrap64 (x9 + 1))) else (none))) else (none)) else (none)) else (some x3)
def boring_joined.f (k : Nat) (l0 : List (S48)) : Option ((List (S48))) := boring_joined.l0 k ([] : List (S48)) l0 (l0.length : Int) 0
theorem boring_joined.mono_l : ∀ k, (∀ y0 y1 y2 y3, LeO (boring_joined.l0 k y0 y1 y2 y3) (boring_joined.l0 (k + 1) y0 y1 y2 y3))
 | 0 => fun _ _ _ _ r h => by simp [boring_joined.l0] at h
 | k + 1 => by
  have ih0 := boring_joined.mono_l k
  ·intro y0 y1 y2 y3
   unfold boring_joined.l0
   repeat' first
   | (with_reducible exact ih0 _ _ _ _)
   | (with_reducible refine contains3.mono2 (fun x_ => ?_))
   | (with_reducible refine contains33.mono2 (fun x_ => ?_))
   | (with_reducible refine contains48.mono2 (fun x_ => ?_))
   | (with_reducible refine contains9.mono2 (fun x_ => ?_))
   | (with_reducible refine index3.mono2 (fun x_ => ?_))
   | (with_reducible refine index33.mono2 (fun x_ => ?_))
   | (with_reducible refine index48.mono2 (fun x_ => ?_))
   | (with_reducible refine index9.mono2 (fun x_ => ?_))
   | (with_reducible exact LeO.refl _)
   | (with_reducible exact LeO.none _)
   | (with_reducible refine LeO.ite ?_ ?_)
   | (with_reducible refine LeO.bind ?_ (fun _ => ?_))
   | exact ih0 _ _ _ _
   | exact LeO.none _
   | refine LeO.ite ?_ ?_
   | refine LeO.bind ?_ (fun _ => ?_)
theorem boring_joined.mono : ∀ a0 k, LeO (boring_joined.f k a0) (boring_joined.f (k + 1) a0) := by
 intro a0 k
 have ih0 := boring_joined.mono_l k
 unfold boring_joined.f
 repeat' first
   | (with_reducible exact ih0 _ _ _ _)
   | (with_reducible refine contains3.mono2 (fun x_ => ?_))
   | (with_reducible refine contains33.mono2 (fun x_ => ?_))
   | (with_reducible refine contains48.mono2 (fun x_ => ?_))
   | (with_reducible refine contains9.mono2 (fun x_ => ?_))
   | (with_reducible refine index3.mono2 (fun x_ => ?_))
   | (with_reducible refine index33.mono2 (fun x_ => ?_))
   | (with_reducible refine index48.mono2 (fun x_ => ?_))
   | (with_reducible refine index9.mono2 (fun x_ => ?_))
   | (with_reducible exact LeO.refl _)
   | (with_reducible exact LeO.none _)
   | (with_reducible refine LeO.ite ?_ ?_)
   | (with_reducible refine LeO.bind ?_ (fun _ => ?_))
   | exact ih0 _ _ _ _
   | exact LeO.none _
   | refine LeO.ite ?_ ?_
   | refine LeO.bind ?_ (fun _ => ?_)
def gangsawref14_in.f (a0 : Int) (a1 : Int) (a2 : Int) : Option (Bool) := if a1 ≤ a0 then (some (decide (a0 ≤ a2))) else (some false)
end Go.Proofs.YtfedmcehkpfciaaGreat.P
