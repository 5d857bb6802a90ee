/- What functions of the program return: each contract says so of one function, for every input at which its pure function yields. -/
import Derived.Test.YtfedmcehkpfciaaGreatPx0
import Derived.Test.YtfedmcehkpfciaaGreatPx7
import Derived.Test.YtfedmcehkpfciaaGreatPx13
import Derived.Test.YtfedmcehkpfciaaGreatPx14
namespace Go.Proofs.YtfedmcehkpfciaaGreat.P
open Go.RowKit Go.Proofs.YtfedmcehkpfciaaGreatW.PrintWords Go.Proofs.YtfedmcehkpfciaaGreatW.PrintLast Go.Proofs.YtfedmcehkpfciaaGreatW.PrintMore
attribute [local go_sem] max2_int min2_int max_two min_two max_three min_three max_four min_four   -- for this text's walks alone
set_option linter.unusedVariables false
set_option linter.unusedSimpArgs false

mutual
def gangsawref14_Formed.j0 : Nat → Bool → ByteArray → Int → Int → List (S48) → Option (Int)
 | 0, _, _, _, _, _ => none
 | k + 1, x4, x191000, x191001, x191002, x191003 => gangsawref14_Formed.l0 k x4 0 x191000 x191001 x191002 x191003
def gangsawref14_Formed.l0 : Nat → Bool → Int → ByteArray → Int → Int → List (S48) → Option (Int)
 | 0, _, _, _, _, _, _ => none
 | k + 1, x4, x5, x191000, x191001, x191002, x191003 => if x5 < (x191003.length : Int) then (if x4 = true then (if 0 ≤ x5 then ((gangsawref14_in.f ((rd_T48 x191003 x5).f0) (-1000000) 1000000).bind fun t195 => (if t195 = true then ((gangsawref14_in.f ((rd_T48 x191003 x5).f1) (-1000000) 1000000).bind fun t197 => (gangsawref14_Formed.l0 k t197 (wrap64 (x5 + 1)) x191000 x191001 x191002 x191003)) else (gangsawref14_Formed.l0 k false (wrap64 (x5 + 1)) x191000 x191001 x191002 x191003))) else (none)) else (gangsawref14_Formed.l0 k false (wrap64 (x5 + 1)) x191000 x191001 x191002 x191003)) else (if x4 = true then ((gangsawref14_stacked.f k x191000 x191001 x191002 x191003).bind fun t198 => (if t198 = true then (some 0) else (some 11))) else (some 6))
end
def gangsawref14_Formed.f (k : Nat) (a0_0 : ByteArray) (a0_1 : Int) (a0_2 : Int) (l0_3 : List (S48)) : Option (Int) := (gangsawref14_named.f k a0_0 a0_1 a0_2 l0_3).bind fun t191 => (if t191 = 0 then ((gangsawref14_in.f a0_1 (-1000000) 999999).bind fun t192 => (if t192 = true then ((gangsawref14_in.f a0_2 (-1000000) 999999).bind fun t193 => (gangsawref14_Formed.j0 k t193 a0_0 a0_1 a0_2 l0_3)) else (gangsawref14_Formed.j0 k false a0_0 a0_1 a0_2 l0_3))) else (some t191))
theorem gangsawref14_Formed.mono_l : ∀ k, (∀ y0 y1 y2 y3 y4, LeO (gangsawref14_Formed.j0 k y0 y1 y2 y3 y4) (gangsawref14_Formed.j0 (k + 1) y0 y1 y2 y3 y4)) ∧ (∀ y0 y1 y2 y3 y4 y5, LeO (gangsawref14_Formed.l0 k y0 y1 y2 y3 y4 y5) (gangsawref14_Formed.l0 (k + 1) y0 y1 y2 y3 y4 y5))
 | 0 => ⟨fun _ _ _ _ _ r h => by simp [gangsawref14_Formed.j0] at h, fun _ _ _ _ _ _ r h => by simp [gangsawref14_Formed.l0] at h⟩
 | k + 1 => by
  obtain ⟨ih0, ih1⟩ := gangsawref14_Formed.mono_l k
  refine ⟨?_, ?_⟩
  ·intro y0 y1 y2 y3 y4
   unfold gangsawref14_Formed.j0
   repeat' first
   | (with_reducible exact ih0 _ _ _ _ _)
   | (with_reducible exact ih1 _ _ _ _ _ _)
   | (with_reducible exact gangsawref14_named.mono _ _ _ _ _)
   | (with_reducible exact gangsawref14_stacked.mono _ _ _ _ _)
   | (with_reducible refine contains3.mono2 (fun x_ => ?_))
   | (with_reducible refine contains33.mono2 (fun x_ => ?_))
   | (with_reducible refine contains48.mono2 (fun x_ => ?_))
   | (with_reducible refine contains9.mono2 (fun x_ => ?_))
   | (with_reducible refine index3.mono2 (fun x_ => ?_))
   | (with_reducible refine index33.mono2 (fun x_ => ?_))
   | (with_reducible refine index48.mono2 (fun x_ => ?_))
   | (with_reducible refine index9.mono2 (fun x_ => ?_))
   | (with_reducible exact LeO.refl _)
   | (with_reducible exact LeO.none _)
   | (with_reducible refine LeO.ite ?_ ?_)
   | (with_reducible refine LeO.bind ?_ (fun _ => ?_))
   | exact ih0 _ _ _ _ _
   | exact ih1 _ _ _ _ _ _
   | exact gangsawref14_named.mono _ _ _ _ _
   | exact gangsawref14_stacked.mono _ _ _ _ _
   | exact LeO.none _
   | refine LeO.ite ?_ ?_
   | refine LeO.bind ?_ (fun _ => ?_)
  ·intro y0 y1 y2 y3 y4 y5
   unfold gangsawref14_Formed.l0
   repeat' first
   | (with_reducible exact ih0 _ _ _ _ _)
   | (with_reducible exact ih1 _ _ _ _ _ _)
   | (with_reducible exact gangsawref14_named.mono _ _ _ _ _)
   | (with_reducible exact gangsawref14_stacked.mono _ _ _ _ _)
   | (with_reducible refine contains3.mono2 (fun x_ => ?_))
   | (with_reducible refine contains33.mono2 (fun x_ => ?_))
   | (with_reducible refine contains48.mono2 (fun x_ => ?_))
   | (with_reducible refine contains9.mono2 (fun x_ => ?_))
   | (with_reducible refine index3.mono2 (fun x_ => ?_))
   | (with_reducible refine index33.mono2 (fun x_ => ?_))
   | (with_reducible refine index48.mono2 (fun x_ => ?_))
   | (with_reducible refine index9.mono2 (fun x_ => ?_))
   | (with_reducible exact LeO.refl _)
   | (with_reducible exact LeO.none _)
   | (with_reducible refine LeO.ite ?_ ?_)
   | (with_reducible refine LeO.bind ?_ (fun _ => ?_))
   | exact ih0 _ _ _ _ _
   | exact ih1 _ _ _ _ _ _
   | exact gangsawref14_named.mono _ _ _ _ _
   | exact gangsawref14_stacked.mono _ _ _ _ _
   | exact LeO.none _
   | refine LeO.ite ?_ ?_
   | refine LeO.bind ?_ (fun _ => ?_)
theorem gangsawref14_Formed.mono : ∀ a0 a1 a2 a3 k, LeO (gangsawref14_Formed.f k a0 a1 a2 a3) (gangsawref14_Formed.f (k + 1) a0 a1 a2 a3) := by
 intro a0 a1 a2 a3 k
 obtain ⟨ih0, ih1⟩ := gangsawref14_Formed.mono_l k
 unfold gangsawref14_Formed.f
 repeat' first
   | (with_reducible exact ih0 _ _ _ _ _)
   | (with_reducible exact ih1 _ _ _ _ _ _)
   | (with_reducible exact gangsawref14_named.mono _ _ _ _ _)
   | (with_reducible exact gangsawref14_stacked.mono _ _ _ _ _)
   | (with_reducible refine contains3.mono2 (fun x_ => ?_))
   | (with_reducible refine contains33.mono2 (fun x_ => ?_))
   | (with_reducible refine contains48.mono2 (fun x_ => ?_))
   | (with_reducible refine contains9.mono2 (fun x_ => ?_))
   | (with_reducible refine index3.mono2 (fun x_ => ?_))
   | (with_reducible refine index33.mono2 (fun x_ => ?_))
   | (with_reducible refine index48.mono2 (fun x_ => ?_))
   | (with_reducible refine index9.mono2 (fun x_ => ?_))
   | (with_reducible exact LeO.refl _)
   | (with_reducible exact LeO.none _)
   | (with_reducible refine LeO.ite ?_ ?_)
   | (with_reducible refine LeO.bind ?_ (fun _ => ?_))
   | exact ih0 _ _ _ _ _
   | exact ih1 _ _ _ _ _ _
   | exact gangsawref14_named.mono _ _ _ _ _
   | exact gangsawref14_stacked.mono _ _ _ _ _
   | exact LeO.none _
   | refine LeO.ite ?_ ?_
   | refine LeO.bind ?_ (fun _ => ?_)
end Go.Proofs.YtfedmcehkpfciaaGreat.P
