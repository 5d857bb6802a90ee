/- What functions of the program return: each contract says so of one function, for every input at which its pure function yields. -/
import Derived.Test.YtlbpdhjdlnhciaaPx0
import Derived.Test.YtlbpdhjdlnhciaaPx3
namespace Go.Proofs.Ytlbpdhjdlnhciaa.P
open Go.RowKit Go.Proofs.YtlbpdhjdlnhciaaW.PrintWords Go.Proofs.YtlbpdhjdlnhciaaW.PrintLast Go.Proofs.YtlbpdhjdlnhciaaW.PrintMore
attribute [local go_sem] max2_int min2_int max_two min_two max_three min_three max_four min_four   -- for this text's walks alone
set_option linter.unusedVariables false
set_option linter.unusedSimpArgs false

mutual
def gangsawref29_each.l0 : Nat → List (S37) → Int → Option (Int)
 | 0, _, _ => none
 | k + 1, x0, x3 => if x3 < (x0.length : Int) then (if 0 ≤ x3 then ((gangsawref09_Name.f k ((rd_T37 x0 x3).f0)).bind fun t131 => (if t131 = true then (gangsawref29_each.l0 k x0 (wrap64 (x3 + 1))) else (some 4))) else (none)) else (gangsawref29_each.l1 k x0 0)
def gangsawref29_each.l1 : Nat → List (S37) → Int → Option (Int)
 | 0, _, _ => none
 | k + 1, x0, x4 => if x4 < (x0.length : Int) then (if 0 ≤ x4 then ((gangsawref29_kind.f ((rd_T37 x0 x4).f1)).bind fun t133 => (if t133 = true then (gangsawref29_each.l1 k x0 (wrap64 (x4 + 1))) else (some 3))) else (none)) else (gangsawref29_each.l2 k x0 0)
def gangsawref29_each.l2 : Nat → List (S37) → Int → Option (Int)
 | 0, _, _ => none
 | k + 1, x0, x5 => if x5 < (x0.length : Int) then (if 0 ≤ x5 then ((gangsawref29_sized.f ((rd_T37 x0 x5).f0) ((rd_T37 x0 x5).f1) ((rd_T37 x0 x5).f2.f0) ((rd_T37 x0 x5).f2.f1) ((rd_T37 x0 x5).f2.f2) ((rd_T37 x0 x5).f3) ((rd_T37 x0 x5).f4) ((rd_T37 x0 x5).f5)).bind fun t135 => (if t135 = true then (gangsawref29_each.l2 k x0 (wrap64 (x5 + 1))) else (some 6))) else (none)) else (some 0)
end
def gangsawref29_each.f (k : Nat) (l0 : List (S37)) : Option (Int) := gangsawref29_each.l0 k l0 0
theorem gangsawref29_each.mono_l : ∀ k, (∀ y0 y1, LeO (gangsawref29_each.l0 k y0 y1) (gangsawref29_each.l0 (k + 1) y0 y1)) ∧ (∀ y0 y1, LeO (gangsawref29_each.l1 k y0 y1) (gangsawref29_each.l1 (k + 1) y0 y1)) ∧ (∀ y0 y1, LeO (gangsawref29_each.l2 k y0 y1) (gangsawref29_each.l2 (k + 1) y0 y1))
 | 0 => ⟨fun _ _ r h => by simp [gangsawref29_each.l0] at h, fun _ _ r h => by simp [gangsawref29_each.l1] at h, fun _ _ r h => by simp [gangsawref29_each.l2] at h⟩
 | k + 1 => by
  obtain ⟨ih0, ih1, ih2⟩ := gangsawref29_each.mono_l k
  refine ⟨?_, ?_, ?_⟩
  ·intro y0 y1
   unfold gangsawref29_each.l0
   repeat' first
   | (with_reducible exact ih0 _ _)
   | (with_reducible exact ih1 _ _)
   | (with_reducible exact ih2 _ _)
   | (with_reducible exact gangsawref09_Name.mono _ _)
   | (with_reducible refine contains3.mono2 (fun x_ => ?_))
   | (with_reducible refine contains37.mono2 (fun x_ => ?_))
   | (with_reducible refine index3.mono2 (fun x_ => ?_))
   | (with_reducible refine index37.mono2 (fun x_ => ?_))
   | (with_reducible exact LeO.refl _)
   | (with_reducible exact LeO.none _)
   | (with_reducible refine LeO.ite ?_ ?_)
   | (with_reducible refine LeO.bind ?_ (fun _ => ?_))
   | exact ih0 _ _
   | exact ih1 _ _
   | exact ih2 _ _
   | exact gangsawref09_Name.mono _ _
   | exact LeO.none _
   | refine LeO.ite ?_ ?_
   | refine LeO.bind ?_ (fun _ => ?_)
  ·intro y0 y1
   unfold gangsawref29_each.l1
   repeat' first
   | (with_reducible exact ih0 _ _)
   | (with_reducible exact ih1 _ _)
   | (with_reducible exact ih2 _ _)
   | (with_reducible exact gangsawref09_Name.mono _ _)
   | (with_reducible refine contains3.mono2 (fun x_ => ?_))
   | (with_reducible refine contains37.mono2 (fun x_ => ?_))
   | (with_reducible refine index3.mono2 (fun x_ => ?_))
   | (with_reducible refine index37.mono2 (fun x_ => ?_))
   | (with_reducible exact LeO.refl _)
   | (with_reducible exact LeO.none _)
   | (with_reducible refine LeO.ite ?_ ?_)
   | (with_reducible refine LeO.bind ?_ (fun _ => ?_))
   | exact ih0 _ _
   | exact ih1 _ _
   | exact ih2 _ _
   | exact gangsawref09_Name.mono _ _
   | exact LeO.none _
   | refine LeO.ite ?_ ?_
   | refine LeO.bind ?_ (fun _ => ?_)
  ·intro y0 y1
   unfold gangsawref29_each.l2
   repeat' first
   | (with_reducible exact ih0 _ _)
   | (with_reducible exact ih1 _ _)
   | (with_reducible exact ih2 _ _)
   | (with_reducible exact gangsawref09_Name.mono _ _)
   | (with_reducible refine contains3.mono2 (fun x_ => ?_))
   | (with_reducible refine contains37.mono2 (fun x_ => ?_))
   | (with_reducible refine index3.mono2 (fun x_ => ?_))
   | (with_reducible refine index37.mono2 (fun x_ => ?_))
   | (with_reducible exact LeO.refl _)
   | (with_reducible exact LeO.none _)
   | (with_reducible refine LeO.ite ?_ ?_)
   | (with_reducible refine LeO.bind ?_ (fun _ => ?_))
   | exact ih0 _ _
   | exact ih1 _ _
   | exact ih2 _ _
   | exact gangsawref09_Name.mono _ _
   | exact LeO.none _
   | refine LeO.ite ?_ ?_
   | refine LeO.bind ?_ (fun _ => ?_)
theorem gangsawref29_each.mono : ∀ a0 k, LeO (gangsawref29_each.f k a0) (gangsawref29_each.f (k + 1) a0) := by
 intro a0 k
 obtain ⟨ih0, ih1, ih2⟩ := gangsawref29_each.mono_l k
 unfold gangsawref29_each.f
 repeat' first
   | (with_reducible exact ih0 _ _)
   | (with_reducible exact ih1 _ _)
   | (with_reducible exact ih2 _ _)
   | (with_reducible exact gangsawref09_Name.mono _ _)
   | (with_reducible refine contains3.mono2 (fun x_ => ?_))
   | (with_reducible refine contains37.mono2 (fun x_ => ?_))
   | (with_reducible refine index3.mono2 (fun x_ => ?_))
   | (with_reducible refine index37.mono2 (fun x_ => ?_))
   | (with_reducible exact LeO.refl _)
   | (with_reducible exact LeO.none _)
   | (with_reducible refine LeO.ite ?_ ?_)
   | (with_reducible refine LeO.bind ?_ (fun _ => ?_))
   | exact ih0 _ _
   | exact ih1 _ _
   | exact ih2 _ _
   | exact gangsawref09_Name.mono _ _
   | exact LeO.none _
   | refine LeO.ite ?_ ?_
   | refine LeO.bind ?_ (fun _ => ?_)
end Go.Proofs.Ytlbpdhjdlnhciaa.P
