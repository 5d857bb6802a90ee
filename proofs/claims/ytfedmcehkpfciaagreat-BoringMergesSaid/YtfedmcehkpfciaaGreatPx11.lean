/- What functions of the program return: each contract says so of one function, for every input at which its pure function yields. -/
import Derived.Test.YtfedmcehkpfciaaGreatPx0
import Derived.Test.YtfedmcehkpfciaaGreatPx7
import Derived.Test.YtfedmcehkpfciaaGreatPx9
import Derived.Test.YtfedmcehkpfciaaGreatPx10
namespace Go.Proofs.YtfedmcehkpfciaaGreat.P
open Go.RowKit Go.Proofs.YtfedmcehkpfciaaGreatW.PrintWords Go.Proofs.YtfedmcehkpfciaaGreatW.PrintLast Go.Proofs.YtfedmcehkpfciaaGreatW.PrintMore
attribute [local go_sem] max2_int min2_int max_two min_two max_three min_three max_four min_four   -- for this text's walks alone
set_option linter.unusedVariables false
set_option linter.unusedSimpArgs false

mutual
def gangsawref14_all.l0 : Nat → List (S33) → List Int → Int → Int → Int → Int → Int → Int → Int → Option (Int)
 | 0, _, _, _, _, _, _, _, _, _ => none
 | k + 1, x0, x5, x6, x139000, x139001, x139002, x139003, x139004, x139005 => if x6 < (x5.length : Int) then (gangsawref14_all.l1 k x0 x5 x6 0 x139000 x139001 x139002 x139003 x139004 x139005) else (gangsawref14_all.l2 k x0 0 x139000 x139001 x139002 x139003 x139004 x139005)
def gangsawref14_all.l1 : Nat → List (S33) → List Int → Int → Int → Int → Int → Int → Int → Int → Int → Option (Int)
 | 0, _, _, _, _, _, _, _, _, _, _ => none
 | k + 1, x0, x5, x6, x7, x139000, x139001, x139002, x139003, x139004, x139005 => if x7 < (x0.length : Int) then (if 0 ≤ x7 then (if 0 ≤ x6 then (if x6 < (x5.length : Int) then ((gangsawref14_part.f k ((rd_T33 x0 x7).f0) ((rd_T33 x0 x7).f1.f0) ((rd_T33 x0 x7).f1.f1) ((rd_T33 x0 x7).f2) (rd x5 x6)).bind fun t144 => (if t144 = true then (some (rd x5 x6)) else (gangsawref14_all.l1 k x0 x5 x6 (wrap64 (x7 + 1)) x139000 x139001 x139002 x139003 x139004 x139005))) else (none)) else (none)) else (none)) else (gangsawref14_all.l0 k x0 x5 (wrap64 (x6 + 1)) x139000 x139001 x139002 x139003 x139004 x139005)
def gangsawref14_all.l2 : Nat → List (S33) → Int → Int → Int → Int → Int → Int → Int → Option (Int)
 | 0, _, _, _, _, _, _, _, _ => none
 | k + 1, x0, x8, x139000, x139001, x139002, x139003, x139004, x139005 => if x8 < (x0.length : Int) then (if 0 ≤ x8 then ((gangsawref14_within.f k ((rd_T33 x0 x8).f0) ((rd_T33 x0 x8).f1.f0) ((rd_T33 x0 x8).f1.f1) ((rd_T33 x0 x8).f2) x139000 x139001 x139002 x139003 x139004 x139005).bind fun t147 => (if t147 = true then (gangsawref14_all.l2 k x0 (wrap64 (x8 + 1)) x139000 x139001 x139002 x139003 x139004 x139005) else (some 12))) else (none)) else (gangsawref14_all.l3 k x0 0)
def gangsawref14_all.l3 : Nat → List (S33) → Int → Option (Int)
 | 0, _, _ => none
 | k + 1, x0, x9 => if x9 < (x0.length : Int) then (if 0 ≤ x9 then ((gangsawref14_stacked.f k ((rd_T33 x0 x9).f0) ((rd_T33 x0 x9).f1.f0) ((rd_T33 x0 x9).f1.f1) ((rd_T33 x0 x9).f2)).bind fun t149 => (if t149 = true then (gangsawref14_all.l3 k x0 (wrap64 (x9 + 1))) else (some 11))) else (none)) else (some 0)
end
def gangsawref14_all.f (k : Nat) (l0 : List (S33)) (a1_0 : Int) (a1_1 : Int) (a1_2 : Int) (a1_3 : Int) (a1_4 : Int) (a1_5 : Int) : Option (Int) := gangsawref14_all.l0 k l0 (([4, 7, 1] : List Int)) 0 a1_0 a1_1 a1_2 a1_3 a1_4 a1_5
theorem gangsawref14_all.mono_l : ∀ k, (∀ y0 y1 y2 y3 y4 y5 y6 y7 y8, LeO (gangsawref14_all.l0 k y0 y1 y2 y3 y4 y5 y6 y7 y8) (gangsawref14_all.l0 (k + 1) y0 y1 y2 y3 y4 y5 y6 y7 y8)) ∧ (∀ y0 y1 y2 y3 y4 y5 y6 y7 y8 y9, LeO (gangsawref14_all.l1 k y0 y1 y2 y3 y4 y5 y6 y7 y8 y9) (gangsawref14_all.l1 (k + 1) y0 y1 y2 y3 y4 y5 y6 y7 y8 y9)) ∧ (∀ y0 y1 y2 y3 y4 y5 y6 y7, LeO (gangsawref14_all.l2 k y0 y1 y2 y3 y4 y5 y6 y7) (gangsawref14_all.l2 (k + 1) y0 y1 y2 y3 y4 y5 y6 y7)) ∧ (∀ y0 y1, LeO (gangsawref14_all.l3 k y0 y1) (gangsawref14_all.l3 (k + 1) y0 y1))
 | 0 => ⟨fun _ _ _ _ _ _ _ _ _ r h => by simp [gangsawref14_all.l0] at h, fun _ _ _ _ _ _ _ _ _ _ r h => by simp [gangsawref14_all.l1] at h, fun _ _ _ _ _ _ _ _ r h => by simp [gangsawref14_all.l2] at h, fun _ _ r h => by simp [gangsawref14_all.l3] at h⟩
 | k + 1 => by
  obtain ⟨ih0, ih1, ih2, ih3⟩ := gangsawref14_all.mono_l k
  refine ⟨?_, ?_, ?_, ?_⟩
  ·intro y0 y1 y2 y3 y4 y5 y6 y7 y8
   unfold gangsawref14_all.l0
   repeat' first
   | (with_reducible exact ih0 _ _ _ _ _ _ _ _ _)
   | (with_reducible exact ih1 _ _ _ _ _ _ _ _ _ _)
   | (with_reducible exact ih2 _ _ _ _ _ _ _ _)
   | (with_reducible exact ih3 _ _)
   | (with_reducible exact gangsawref14_part.mono _ _ _ _ _ _)
   | (with_reducible exact gangsawref14_stacked.mono _ _ _ _ _)
   | (with_reducible exact gangsawref14_within.mono _ _ _ _ _ _ _ _ _ _ _)
   | (with_reducible exact LeO.refl _)
   | (with_reducible exact LeO.none _)
   | (with_reducible refine LeO.ite ?_ ?_)
   | (with_reducible refine LeO.bind ?_ (fun _ => ?_))
   | exact ih0 _ _ _ _ _ _ _ _ _
   | exact ih1 _ _ _ _ _ _ _ _ _ _
   | exact ih2 _ _ _ _ _ _ _ _
   | exact ih3 _ _
   | exact gangsawref14_part.mono _ _ _ _ _ _
   | exact gangsawref14_stacked.mono _ _ _ _ _
   | exact gangsawref14_within.mono _ _ _ _ _ _ _ _ _ _ _
   | exact LeO.none _
   | refine LeO.ite ?_ ?_
   | refine LeO.bind ?_ (fun _ => ?_)
  ·intro y0 y1 y2 y3 y4 y5 y6 y7 y8 y9
   unfold gangsawref14_all.l1
   repeat' first
   | (with_reducible exact ih0 _ _ _ _ _ _ _ _ _)
   | (with_reducible exact ih1 _ _ _ _ _ _ _ _ _ _)
   | (with_reducible exact ih2 _ _ _ _ _ _ _ _)
   | (with_reducible exact ih3 _ _)
   | (with_reducible exact gangsawref14_part.mono _ _ _ _ _ _)
   | (with_reducible exact gangsawref14_stacked.mono _ _ _ _ _)
   | (with_reducible exact gangsawref14_within.mono _ _ _ _ _ _ _ _ _ _ _)
   | (with_reducible exact LeO.refl _)
   | (with_reducible exact LeO.none _)
   | (with_reducible refine LeO.ite ?_ ?_)
   | (with_reducible refine LeO.bind ?_ (fun _ => ?_))
   | exact ih0 _ _ _ _ _ _ _ _ _
   | exact ih1 _ _ _ _ _ _ _ _ _ _
   | exact ih2 _ _ _ _ _ _ _ _
   | exact ih3 _ _
   | exact gangsawref14_part.mono _ _ _ _ _ _
   | exact gangsawref14_stacked.mono _ _ _ _ _
   | exact gangsawref14_within.mono _ _ _ _ _ _ _ _ _ _ _
   | exact LeO.none _
   | refine LeO.ite ?_ ?_
   | refine LeO.bind ?_ (fun _ => ?_)
  ·intro y0 y1 y2 y3 y4 y5 y6 y7
   unfold gangsawref14_all.l2
   repeat' first
   | (with_reducible exact ih0 _ _ _ _ _ _ _ _ _)
   | (with_reducible exact ih1 _ _ _ _ _ _ _ _ _ _)
   | (with_reducible exact ih2 _ _ _ _ _ _ _ _)
   | (with_reducible exact ih3 _ _)
   | (with_reducible exact gangsawref14_part.mono _ _ _ _ _ _)
   | (with_reducible exact gangsawref14_stacked.mono _ _ _ _ _)
   | (with_reducible exact gangsawref14_within.mono _ _ _ _ _ _ _ _ _ _ _)
   | (with_reducible exact LeO.refl _)
   | (with_reducible exact LeO.none _)
   | (with_reducible refine LeO.ite ?_ ?_)
   | (with_reducible refine LeO.bind ?_ (fun _ => ?_))
   | exact ih0 _ _ _ _ _ _ _ _ _
   | exact ih1 _ _ _ _ _ _ _ _ _ _
   | exact ih2 _ _ _ _ _ _ _ _
   | exact ih3 _ _
   | exact gangsawref14_part.mono _ _ _ _ _ _
   | exact gangsawref14_stacked.mono _ _ _ _ _
   | exact gangsawref14_within.mono _ _ _ _ _ _ _ _ _ _ _
   | exact LeO.none _
   | refine LeO.ite ?_ ?_
   | refine LeO.bind ?_ (fun _ => ?_)
  ·intro y0 y1
   unfold gangsawref14_all.l3
   repeat' first
   | (with_reducible exact ih0 _ _ _ _ _ _ _ _ _)
   | (with_reducible exact ih1 _ _ _ _ _ _ _ _ _ _)
   | (with_reducible exact ih2 _ _ _ _ _ _ _ _)
   | (with_reducible exact ih3 _ _)
   | (with_reducible exact gangsawref14_part.mono _ _ _ _ _ _)
   | (with_reducible exact gangsawref14_stacked.mono _ _ _ _ _)
   | (with_reducible exact gangsawref14_within.mono _ _ _ _ _ _ _ _ _ _ _)
   | (with_reducible exact LeO.refl _)
   | (with_reducible exact LeO.none _)
   | (with_reducible refine LeO.ite ?_ ?_)
   | (with_reducible refine LeO.bind ?_ (fun _ => ?_))
   | exact ih0 _ _ _ _ _ _ _ _ _
   | exact ih1 _ _ _ _ _ _ _ _ _ _
   | exact ih2 _ _ _ _ _ _ _ _
   | exact ih3 _ _
   | exact gangsawref14_part.mono _ _ _ _ _ _
   | exact gangsawref14_stacked.mono _ _ _ _ _
   | exact gangsawref14_within.mono _ _ _ _ _ _ _ _ _ _ _
   | exact LeO.none _
   | refine LeO.ite ?_ ?_
   | refine LeO.bind ?_ (fun _ => ?_)
theorem gangsawref14_all.mono : ∀ a0 a1 a2 a3 a4 a5 a6 k, LeO (gangsawref14_all.f k a0 a1 a2 a3 a4 a5 a6) (gangsawref14_all.f (k + 1) a0 a1 a2 a3 a4 a5 a6) := by
 intro a0 a1 a2 a3 a4 a5 a6 k
 obtain ⟨ih0, ih1, ih2, ih3⟩ := gangsawref14_all.mono_l k
 unfold gangsawref14_all.f
 repeat' first
   | (with_reducible exact ih0 _ _ _ _ _ _ _ _ _)
   | (with_reducible exact ih1 _ _ _ _ _ _ _ _ _ _)
   | (with_reducible exact ih2 _ _ _ _ _ _ _ _)
   | (with_reducible exact ih3 _ _)
   | (with_reducible exact gangsawref14_part.mono _ _ _ _ _ _)
   | (with_reducible exact gangsawref14_stacked.mono _ _ _ _ _)
   | (with_reducible exact gangsawref14_within.mono _ _ _ _ _ _ _ _ _ _ _)
   | (with_reducible exact LeO.refl _)
   | (with_reducible exact LeO.none _)
   | (with_reducible refine LeO.ite ?_ ?_)
   | (with_reducible refine LeO.bind ?_ (fun _ => ?_))
   | exact ih0 _ _ _ _ _ _ _ _ _
   | exact ih1 _ _ _ _ _ _ _ _ _ _
   | exact ih2 _ _ _ _ _ _ _ _
   | exact ih3 _ _
   | exact gangsawref14_part.mono _ _ _ _ _ _
   | exact gangsawref14_stacked.mono _ _ _ _ _
   | exact gangsawref14_within.mono _ _ _ _ _ _ _ _ _ _ _
   | exact LeO.none _
   | refine LeO.ite ?_ ?_
   | refine LeO.bind ?_ (fun _ => ?_)
end Go.Proofs.YtfedmcehkpfciaaGreat.P
