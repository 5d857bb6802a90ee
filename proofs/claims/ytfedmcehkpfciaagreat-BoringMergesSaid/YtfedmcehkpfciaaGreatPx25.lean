/- What functions of the program return: each contract says so of one function, for every input at which its pure function yields. -/
import Derived.Test.YtfedmcehkpfciaaGreatPx0
import Derived.Test.YtfedmcehkpfciaaGreatPx12
import Derived.Test.YtfedmcehkpfciaaGreatPx13
import Derived.Test.YtfedmcehkpfciaaGreatFirst
import Derived.Test.YtfedmcehkpfciaaGreatHof
import Derived.Test.YtfedmcehkpfciaaGreatSym
import Derived.Test.YtfedmcehkpfciaaGreatSymC
namespace Go.Proofs.YtfedmcehkpfciaaGreat.P
open Go.RowKit Go.Proofs.YtfedmcehkpfciaaGreatW.PrintWords Go.Proofs.YtfedmcehkpfciaaGreatW.PrintLast Go.Proofs.YtfedmcehkpfciaaGreatW.PrintMore
attribute [local go_sem] max2_int min2_int max_two min_two max_three min_three max_four min_four   -- for this text's walks alone
set_option linter.unusedVariables false
set_option linter.unusedSimpArgs false

open Go.Proofs.YtfedmcehkpfciaaGreat.First Go.Proofs.YtfedmcehkpfciaaGreat.Hof Go.Proofs.YtfedmcehkpfciaaGreat.Sym Go.Proofs.YtfedmcehkpfciaaGreat.SymC
def boring_CheckAll.l0 : Nat → List (S33) → List (S33) → Int → Int → Option (Int)
 | 0, _, _, _, _ => none
 | k + 1, x0, x24, x25, x26 => if x26 < x25 then (if 0 ≤ x26 then (if x26 < (x24.length : Int) then (if x26 ≤ (x0.length : Int) then ((contains33.f (x0.take (x26 : Int).toNat) (fun x_ => boring_CheckAll_1.f x_.f0 x_.f1.f0 x_.f1.f1 x_.f2 ((rd_T33 x24 x26).f0) ((rd_T33 x24 x26).f1.f0) ((rd_T33 x24 x26).f1.f1) ((rd_T33 x24 x26).f2))).bind fun t354 => (if t354 = true then (some 5) else (boring_CheckAll.l0 k x0 x24 x25 (wrap64 (x26 + 1))))) else (none)) else (none)) else (none)) else (some 0)
def boring_CheckAll.f (k : Nat) (l0 : List (S33)) (a1_0 : Int) (a1_1 : Int) (a1_2 : Int) (a1_3 : Int) (a1_4 : Int) (a1_5 : Int) : Option (Int) := if (l0.length : Int) > 64 then (some 7) else ((box_Check.f a1_0 a1_1 a1_2 a1_3 a1_4 a1_5).bind fun t345 => (if t345 = 0 then ((boring_within.f a1_0 a1_1 a1_2 a1_3 a1_4 a1_5).bind fun t346 => ((boring_first.f l0 t346).bind fun t347 => (if t347 = 0 then (boring_CheckAll.l0 k l0 l0 (l0.length : Int) 0) else (some t347)))) else (some t345)))
theorem boring_CheckAll.mono_l : ∀ k, (∀ y0 y1 y2 y3, LeO (boring_CheckAll.l0 k y0 y1 y2 y3) (boring_CheckAll.l0 (k + 1) y0 y1 y2 y3))
 | 0 => fun _ _ _ _ r h => by simp [boring_CheckAll.l0] at h
 | k + 1 => by
  have ih0 := boring_CheckAll.mono_l k
  ·intro y0 y1 y2 y3
   unfold boring_CheckAll.l0
   repeat' first
   | (with_reducible exact ih0 _ _ _ _)
   | (with_reducible refine contains33.mono2 (fun x_ => ?_))
   | (with_reducible exact LeO.refl _)
   | (with_reducible exact LeO.none _)
   | (with_reducible refine LeO.ite ?_ ?_)
   | (with_reducible refine LeO.bind ?_ (fun _ => ?_))
   | exact ih0 _ _ _ _
   | exact LeO.none _
   | refine LeO.ite ?_ ?_
   | refine LeO.bind ?_ (fun _ => ?_)
theorem boring_CheckAll.mono : ∀ a0 a1 a2 a3 a4 a5 a6 k, LeO (boring_CheckAll.f k a0 a1 a2 a3 a4 a5 a6) (boring_CheckAll.f (k + 1) a0 a1 a2 a3 a4 a5 a6) := by
 intro a0 a1 a2 a3 a4 a5 a6 k
 have ih0 := boring_CheckAll.mono_l k
 unfold boring_CheckAll.f
 repeat' first
   | (with_reducible exact ih0 _ _ _ _)
   | (with_reducible refine contains33.mono2 (fun x_ => ?_))
   | (with_reducible exact LeO.refl _)
   | (with_reducible exact LeO.none _)
   | (with_reducible refine LeO.ite ?_ ?_)
   | (with_reducible refine LeO.bind ?_ (fun _ => ?_))
   | exact ih0 _ _ _ _
   | exact LeO.none _
   | refine LeO.ite ?_ ?_
   | refine LeO.bind ?_ (fun _ => ?_)
def boring_Normal.f (k : Nat) (a0_0 : ByteArray) (a0_1 : Int) (a0_2 : Int) (l0_3 : List (S48)) : Option (ByteArray × Int × Int × (List (S48)) × Int) := (boring_formed.f a0_0 a0_1 a0_2 l0_3).bind fun t357 => (if t357 = 0 then ((boring_joined.f k l0_3).bind fun t358 => (some (a0_0, a0_1, a0_2, t358, 0))) else (some ((⟨#[]⟩ : ByteArray), 0, 0, ([] : List (S48)), t357)))
theorem boring_Normal.mono : ∀ a0 a1 a2 a3 k, LeO (boring_Normal.f k a0 a1 a2 a3) (boring_Normal.f (k + 1) a0 a1 a2 a3) := by
 intro a0 a1 a2 a3 k
 unfold boring_Normal.f
 repeat' first
   | (with_reducible exact boring_joined.mono _ _)
   | (with_reducible refine contains33.mono2 (fun x_ => ?_))
   | (with_reducible exact LeO.refl _)
   | (with_reducible exact LeO.none _)
   | (with_reducible refine LeO.ite ?_ ?_)
   | (with_reducible refine LeO.bind ?_ (fun _ => ?_))
   | exact boring_joined.mono _ _
   | exact LeO.none _
   | refine LeO.ite ?_ ?_
   | refine LeO.bind ?_ (fun _ => ?_)
end Go.Proofs.YtfedmcehkpfciaaGreat.P
