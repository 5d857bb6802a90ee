/- What functions of the program return: each contract says so of one function, for every input at which its pure function yields. -/
import Derived.Test.YtfedmcehkpfciaaGreatPx0
import Derived.Test.YtfedmcehkpfciaaGreatPx1
import Derived.Test.YtfedmcehkpfciaaGreatPx15
import Derived.Test.YtfedmcehkpfciaaGreatPx16
import Derived.Test.YtfedmcehkpfciaaGreatPx18
import Derived.Test.YtfedmcehkpfciaaGreatPx23
namespace Go.Proofs.YtfedmcehkpfciaaGreat.P
open Go.RowKit Go.Proofs.YtfedmcehkpfciaaGreatW.PrintWords Go.Proofs.YtfedmcehkpfciaaGreatW.PrintLast Go.Proofs.YtfedmcehkpfciaaGreatW.PrintMore
attribute [local go_sem] max2_int min2_int max_two min_two max_three min_three max_four min_four   -- for this text's walks alone
set_option linter.unusedVariables false
set_option linter.unusedSimpArgs false

attribute [local go_sem high] eqA30
mutual
def gangsawref14_Merge.l0 : Nat → List Int → Int → ByteArray → Int → Int → List (S48) → ByteArray → Int → Int → List (S48) → ByteArray → Int → Int → List (S48) → Option (ByteArray × Int × Int × (List (S48)) × Int)
 | 0, _, _, _, _, _, _, _, _, _, _, _, _, _, _ => none
 | k + 1, x9, x10, x317000, x317001, x317002, x317003, x318000, x318001, x318002, x318003, x322000, x322001, x322002, x322003 => if (wrap64 (x10 + 1)) < (x9.length : Int) then (if 0 ≤ x10 then (if x10 < (x9.length : Int) then (if 0 ≤ (wrap64 (x10 + 1)) then (if (rd x9 x10) = (rd x9 (wrap64 (x10 + 1))) then (gangsawref14_Merge.l0 k x9 (wrap64 (x10 + 1)) x317000 x317001 x317002 x317003 x318000 x318001 x318002 x318003 x322000 x322001 x322002 x322003) else ((gangsawref14_State.f k x317000 x317001 x317002 x317003 (rd x9 x10)).bind fun t331 => ((gangsawref14_State.f k x318000 x318001 x318002 x318003 (rd x9 x10)).bind fun t333 => (if t331 = 0 then (gangsawref14_Merge.j1 k x9 x10 t331 t333 false x317000 x317001 x317002 x317003 x318000 x318001 x318002 x318003 x322000 x322001 x322002 x322003) else (if t333 = 0 then (gangsawref14_Merge.j1 k x9 x10 t331 t333 false x317000 x317001 x317002 x317003 x318000 x318001 x318002 x318003 x322000 x322001 x322002 x322003) else (gangsawref14_Merge.j1 k x9 x10 t331 t333 (t331 != t333) x317000 x317001 x317002 x317003 x318000 x318001 x318002 x318003 x322000 x322001 x322002 x322003)))))) else (none)) else (none)) else (none)) else ((gangsawref14_joined.f k x322003).bind fun t325 => (some (x322000, x322001, x322002, t325, 0)))
def gangsawref14_Merge.j1 : Nat → List Int → Int → Int → Int → Bool → ByteArray → Int → Int → List (S48) → ByteArray → Int → Int → List (S48) → ByteArray → Int → Int → List (S48) → Option (ByteArray × Int × Int × (List (S48)) × Int)
 | 0, _, _, _, _, _, _, _, _, _, _, _, _, _, _, _, _, _ => none
 | k + 1, x9, x10, x11, x12, x78, x317000, x317001, x317002, x317003, x318000, x318001, x318002, x318003, x322000, x322001, x322002, x322003 => if x78 = true then (some ((⟨#[]⟩ : ByteArray), 0, 0, ([] : List (S48)), 10)) else (if x11 = 0 then (if x12 = 0 then (gangsawref14_Merge.l0 k x9 (wrap64 (x10 + 1)) x317000 x317001 x317002 x317003 x318000 x318001 x318002 x318003 x322000 x322001 x322002 x322003) else (if 0 ≤ x10 then (if x10 < (x9.length : Int) then (if 0 ≤ (wrap64 (x10 + 1)) then (if (wrap64 (x10 + 1)) < (x9.length : Int) then (if x322003.length < 5864062014805 then (gangsawref14_Merge.l0 k x9 (wrap64 (x10 + 1)) x317000 x317001 x317002 x317003 x318000 x318001 x318002 x318003 x322000 x322001 x322002 (x322003 ++ [(⟨rd x9 x10, rd x9 (wrap64 (x10 + 1)), x12⟩ : S48)])) else (none)) else (none)) else (none)) else (none)) else (none))) else (if 0 ≤ x10 then (if x10 < (x9.length : Int) then (if 0 ≤ (wrap64 (x10 + 1)) then (if (wrap64 (x10 + 1)) < (x9.length : Int) then (if x322003.length < 5864062014805 then (gangsawref14_Merge.l0 k x9 (wrap64 (x10 + 1)) x317000 x317001 x317002 x317003 x318000 x318001 x318002 x318003 x322000 x322001 x322002 (x322003 ++ [(⟨rd x9 x10, rd x9 (wrap64 (x10 + 1)), x11⟩ : S48)])) else (none)) else (none)) else (none)) else (none)) else (none)))
end
def gangsawref14_Merge.f (k : Nat) (a0_0 : ByteArray) (a0_1 : Int) (a0_2 : Int) (l0_3 : List (S48)) (a1_0 : ByteArray) (a1_1 : Int) (a1_2 : Int) (l1_3 : List (S48)) : Option (ByteArray × Int × Int × (List (S48)) × Int) := (gangsawref14_Formed.f k a0_0 a0_1 a0_2 l0_3).bind fun t319 => (if t319 = 0 then ((gangsawref14_Formed.f k a1_0 a1_1 a1_2 l1_3).bind fun t320 => (if t320 = 0 then (if (!(a0_1 == a1_1) || (!(a0_2 == a1_2))) = true then (some ((⟨#[]⟩ : ByteArray), 0, 0, ([] : List (S48)), 10)) else ((gangsawref14_ends.f k a0_0 a0_1 a0_2 l0_3 a1_0 a1_1 a1_2 l1_3).bind fun t322 => (gangsawref14_Merge.l0 k t322 0 a0_0 a0_1 a0_2 l0_3 a1_0 a1_1 a1_2 l1_3 a0_0 a0_1 a0_2 ([] : List (S48))))) else (some ((⟨#[]⟩ : ByteArray), 0, 0, ([] : List (S48)), t320)))) else (some ((⟨#[]⟩ : ByteArray), 0, 0, ([] : List (S48)), t319)))
theorem gangsawref14_Merge.mono_l : ∀ k, (∀ y0 y1 y2 y3 y4 y5 y6 y7 y8 y9 y10 y11 y12 y13, LeO (gangsawref14_Merge.l0 k y0 y1 y2 y3 y4 y5 y6 y7 y8 y9 y10 y11 y12 y13) (gangsawref14_Merge.l0 (k + 1) y0 y1 y2 y3 y4 y5 y6 y7 y8 y9 y10 y11 y12 y13)) ∧ (∀ y0 y1 y2 y3 y4 y5 y6 y7 y8 y9 y10 y11 y12 y13 y14 y15 y16, LeO (gangsawref14_Merge.j1 k y0 y1 y2 y3 y4 y5 y6 y7 y8 y9 y10 y11 y12 y13 y14 y15 y16) (gangsawref14_Merge.j1 (k + 1) y0 y1 y2 y3 y4 y5 y6 y7 y8 y9 y10 y11 y12 y13 y14 y15 y16))
 | 0 => ⟨fun _ _ _ _ _ _ _ _ _ _ _ _ _ _ r h => by simp [gangsawref14_Merge.l0] at h, fun _ _ _ _ _ _ _ _ _ _ _ _ _ _ _ _ _ r h => by simp [gangsawref14_Merge.j1] at h⟩
 | k + 1 => by
  obtain ⟨ih0, ih1⟩ := gangsawref14_Merge.mono_l k
  refine ⟨?_, ?_⟩
  ·intro y0 y1 y2 y3 y4 y5 y6 y7 y8 y9 y10 y11 y12 y13
   unfold gangsawref14_Merge.l0
   repeat' first
   | (with_reducible exact ih0 _ _ _ _ _ _ _ _ _ _ _ _ _ _)
   | (with_reducible exact ih1 _ _ _ _ _ _ _ _ _ _ _ _ _ _ _ _ _)
   | (with_reducible exact gangsawref14_Formed.mono _ _ _ _ _)
   | (with_reducible exact gangsawref14_State.mono _ _ _ _ _ _)
   | (with_reducible exact gangsawref14_ends.mono _ _ _ _ _ _ _ _ _)
   | (with_reducible exact gangsawref14_joined.mono _ _)
   | (with_reducible refine contains3.mono2 (fun x_ => ?_))
   | (with_reducible refine contains33.mono2 (fun x_ => ?_))
   | (with_reducible refine contains48.mono2 (fun x_ => ?_))
   | (with_reducible refine contains9.mono2 (fun x_ => ?_))
   | (with_reducible refine index3.mono2 (fun x_ => ?_))
   | (with_reducible refine index33.mono2 (fun x_ => ?_))
   | (with_reducible refine index48.mono2 (fun x_ => ?_))
   | (with_reducible refine index9.mono2 (fun x_ => ?_))
   | (with_reducible exact LeO.refl _)
   | (with_reducible exact LeO.none _)
   | (with_reducible refine LeO.ite ?_ ?_)
   | (with_reducible refine LeO.bind ?_ (fun _ => ?_))
   | exact ih0 _ _ _ _ _ _ _ _ _ _ _ _ _ _
   | exact ih1 _ _ _ _ _ _ _ _ _ _ _ _ _ _ _ _ _
   | exact gangsawref14_Formed.mono _ _ _ _ _
   | exact gangsawref14_State.mono _ _ _ _ _ _
   | exact gangsawref14_ends.mono _ _ _ _ _ _ _ _ _
   | exact gangsawref14_joined.mono _ _
   | exact LeO.none _
   | refine LeO.ite ?_ ?_
   | refine LeO.bind ?_ (fun _ => ?_)
  ·intro y0 y1 y2 y3 y4 y5 y6 y7 y8 y9 y10 y11 y12 y13 y14 y15 y16
   unfold gangsawref14_Merge.j1
   repeat' first
   | (with_reducible exact ih0 _ _ _ _ _ _ _ _ _ _ _ _ _ _)
   | (with_reducible exact ih1 _ _ _ _ _ _ _ _ _ _ _ _ _ _ _ _ _)
   | (with_reducible exact gangsawref14_Formed.mono _ _ _ _ _)
   | (with_reducible exact gangsawref14_State.mono _ _ _ _ _ _)
   | (with_reducible exact gangsawref14_ends.mono _ _ _ _ _ _ _ _ _)
   | (with_reducible exact gangsawref14_joined.mono _ _)
   | (with_reducible refine contains3.mono2 (fun x_ => ?_))
   | (with_reducible refine contains33.mono2 (fun x_ => ?_))
   | (with_reducible refine contains48.mono2 (fun x_ => ?_))
   | (with_reducible refine contains9.mono2 (fun x_ => ?_))
   | (with_reducible refine index3.mono2 (fun x_ => ?_))
   | (with_reducible refine index33.mono2 (fun x_ => ?_))
   | (with_reducible refine index48.mono2 (fun x_ => ?_))
   | (with_reducible refine index9.mono2 (fun x_ => ?_))
   | (with_reducible exact LeO.refl _)
   | (with_reducible exact LeO.none _)
   | (with_reducible refine LeO.ite ?_ ?_)
   | (with_reducible refine LeO.bind ?_ (fun _ => ?_))
   | exact ih0 _ _ _ _ _ _ _ _ _ _ _ _ _ _
   | exact ih1 _ _ _ _ _ _ _ _ _ _ _ _ _ _ _ _ _
   | exact gangsawref14_Formed.mono _ _ _ _ _
   | exact gangsawref14_State.mono _ _ _ _ _ _
   | exact gangsawref14_ends.mono _ _ _ _ _ _ _ _ _
   | exact gangsawref14_joined.mono _ _
   | exact LeO.none _
   | refine LeO.ite ?_ ?_
   | refine LeO.bind ?_ (fun _ => ?_)
theorem gangsawref14_Merge.mono : ∀ a0 a1 a2 a3 a4 a5 a6 a7 k, LeO (gangsawref14_Merge.f k a0 a1 a2 a3 a4 a5 a6 a7) (gangsawref14_Merge.f (k + 1) a0 a1 a2 a3 a4 a5 a6 a7) := by
 intro a0 a1 a2 a3 a4 a5 a6 a7 k
 obtain ⟨ih0, ih1⟩ := gangsawref14_Merge.mono_l k
 unfold gangsawref14_Merge.f
 repeat' first
   | (with_reducible exact ih0 _ _ _ _ _ _ _ _ _ _ _ _ _ _)
   | (with_reducible exact ih1 _ _ _ _ _ _ _ _ _ _ _ _ _ _ _ _ _)
   | (with_reducible exact gangsawref14_Formed.mono _ _ _ _ _)
   | (with_reducible exact gangsawref14_State.mono _ _ _ _ _ _)
   | (with_reducible exact gangsawref14_ends.mono _ _ _ _ _ _ _ _ _)
   | (with_reducible exact gangsawref14_joined.mono _ _)
   | (with_reducible refine contains3.mono2 (fun x_ => ?_))
   | (with_reducible refine contains33.mono2 (fun x_ => ?_))
   | (with_reducible refine contains48.mono2 (fun x_ => ?_))
   | (with_reducible refine contains9.mono2 (fun x_ => ?_))
   | (with_reducible refine index3.mono2 (fun x_ => ?_))
   | (with_reducible refine index33.mono2 (fun x_ => ?_))
   | (with_reducible refine index48.mono2 (fun x_ => ?_))
   | (with_reducible refine index9.mono2 (fun x_ => ?_))
   | (with_reducible exact LeO.refl _)
   | (with_reducible exact LeO.none _)
   | (with_reducible refine LeO.ite ?_ ?_)
   | (with_reducible refine LeO.bind ?_ (fun _ => ?_))
   | exact ih0 _ _ _ _ _ _ _ _ _ _ _ _ _ _
   | exact ih1 _ _ _ _ _ _ _ _ _ _ _ _ _ _ _ _ _
   | exact gangsawref14_Formed.mono _ _ _ _ _
   | exact gangsawref14_State.mono _ _ _ _ _ _
   | exact gangsawref14_ends.mono _ _ _ _ _ _ _ _ _
   | exact gangsawref14_joined.mono _ _
   | exact LeO.none _
   | refine LeO.ite ?_ ?_
   | refine LeO.bind ?_ (fun _ => ?_)
end Go.Proofs.YtfedmcehkpfciaaGreat.P
