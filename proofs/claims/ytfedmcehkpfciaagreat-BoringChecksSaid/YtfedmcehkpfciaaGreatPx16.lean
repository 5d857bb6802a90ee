/- What functions of the program return: each contract says so of one function, for every input at which its pure function yields. -/
import Derived.Test.YtfedmcehkpfciaaGreatPx0
import Derived.Test.YtfedmcehkpfciaaGreatPx15
namespace Go.Proofs.YtfedmcehkpfciaaGreat.P
open Go.RowKit Go.Proofs.YtfedmcehkpfciaaGreatW.PrintWords Go.Proofs.YtfedmcehkpfciaaGreatW.PrintLast Go.Proofs.YtfedmcehkpfciaaGreatW.PrintMore
attribute [local go_sem] max2_int min2_int max_two min_two max_three min_three max_four min_four   -- for this text's walks alone
set_option linter.unusedVariables false
set_option linter.unusedSimpArgs false

def gangsawref14_joined.l0 : Nat → List (S48) → List (S48) → Int → Option ((List (S48)))
 | 0, _, _, _ => none
 | k + 1, x0, x3, x4 => if x4 < (x0.length : Int) then (if (x3.length : Int) > 0 then (if 0 ≤ (wrap64 ((x3.length : Int) - 1)) then (if (wrap64 ((x3.length : Int) - 1)) < (x3.length : Int) then (if 0 ≤ x4 then (if ((rd_T48 x3 (wrap64 ((x3.length : Int) - 1))).f1) = ((rd_T48 x0 x4).f0) then (if ((rd_T48 x3 (wrap64 ((x3.length : Int) - 1))).f2) = ((rd_T48 x0 x4).f2) then (gangsawref14_joined.l0 k x0 (x3.set ((wrap64 ((x3.length : Int) - 1)) : Int).toNat (⟨(rd_T48 x3 (wrap64 ((x3.length : Int) - 1))).f0, (rd_T48 x0 x4).f1, (rd_T48 x3 (wrap64 ((x3.length : Int) - 1))).f2⟩ : S48)) (wrap64 (x4 + 1))) else (if x3.length < 5864062014805 then (gangsawref14_joined.l0 k x0 (x3 ++ [(⟨(rd_T48 x0 x4).f0, (rd_T48 x0 x4).f1, (rd_T48 x0 x4).f2⟩ : S48)]) (wrap64 (x4 + 1))) else (none))) else (if x3.length < 5864062014805 then (gangsawref14_joined.l0 k x0 (x3 ++ [(⟨(rd_T48 x0 x4).f0, (rd_T48 x0 x4).f1, (rd_T48 x0 x4).f2⟩ : S48)]) (wrap64 (x4 + 1))) else (none))) else (none)) else (none)) else (none)) else (if 0 ≤ x4 then (if x3.length < 5864062014805 then (gangsawref14_joined.l0 k x0 (x3 ++ [(⟨(rd_T48 x0 x4).f0, (rd_T48 x0 x4).f1, (rd_T48 x0 x4).f2⟩ : S48)]) (wrap64 (x4 + 1))) else (none)) else (none))) else (some x3)
def gangsawref14_joined.f (k : Nat) (l0 : List (S48)) : Option ((List (S48))) := gangsawref14_joined.l0 k l0 ([] : List (S48)) 0
theorem gangsawref14_joined.mono_l : ∀ k, (∀ y0 y1 y2, LeO (gangsawref14_joined.l0 k y0 y1 y2) (gangsawref14_joined.l0 (k + 1) y0 y1 y2))
 | 0 => fun _ _ _ r h => by simp [gangsawref14_joined.l0] at h
 | k + 1 => by
  have ih0 := gangsawref14_joined.mono_l k
  ·intro y0 y1 y2
   unfold gangsawref14_joined.l0
   repeat' first
   | (with_reducible exact ih0 _ _ _)
   | (with_reducible refine contains3.mono2 (fun x_ => ?_))
   | (with_reducible refine contains33.mono2 (fun x_ => ?_))
   | (with_reducible refine contains48.mono2 (fun x_ => ?_))
   | (with_reducible refine contains9.mono2 (fun x_ => ?_))
   | (with_reducible refine index3.mono2 (fun x_ => ?_))
   | (with_reducible refine index33.mono2 (fun x_ => ?_))
   | (with_reducible refine index48.mono2 (fun x_ => ?_))
   | (with_reducible refine index9.mono2 (fun x_ => ?_))
   | (with_reducible exact LeO.refl _)
   | (with_reducible exact LeO.none _)
   | (with_reducible refine LeO.ite ?_ ?_)
   | (with_reducible refine LeO.bind ?_ (fun _ => ?_))
   | exact ih0 _ _ _
   | exact LeO.none _
   | refine LeO.ite ?_ ?_
   | refine LeO.bind ?_ (fun _ => ?_)
theorem gangsawref14_joined.mono : ∀ a0 k, LeO (gangsawref14_joined.f k a0) (gangsawref14_joined.f (k + 1) a0) := by
 intro a0 k
 have ih0 := gangsawref14_joined.mono_l k
 unfold gangsawref14_joined.f
 repeat' first
   | (with_reducible exact ih0 _ _ _)
   | (with_reducible refine contains3.mono2 (fun x_ => ?_))
   | (with_reducible refine contains33.mono2 (fun x_ => ?_))
   | (with_reducible refine contains48.mono2 (fun x_ => ?_))
   | (with_reducible refine contains9.mono2 (fun x_ => ?_))
   | (with_reducible refine index3.mono2 (fun x_ => ?_))
   | (with_reducible refine index33.mono2 (fun x_ => ?_))
   | (with_reducible refine index48.mono2 (fun x_ => ?_))
   | (with_reducible refine index9.mono2 (fun x_ => ?_))
   | (with_reducible exact LeO.refl _)
   | (with_reducible exact LeO.none _)
   | (with_reducible refine LeO.ite ?_ ?_)
   | (with_reducible refine LeO.bind ?_ (fun _ => ?_))
   | exact ih0 _ _ _
   | exact LeO.none _
   | refine LeO.ite ?_ ?_
   | refine LeO.bind ?_ (fun _ => ?_)
def gangsawref14_Normal.f (k : Nat) (a0_0 : ByteArray) (a0_1 : Int) (a0_2 : Int) (l0_3 : List (S48)) : Option (ByteArray × Int × Int × (List (S48)) × Int) := (gangsawref14_Formed.f k a0_0 a0_1 a0_2 l0_3).bind fun t219 => (if t219 = 0 then ((gangsawref14_joined.f k l0_3).bind fun t220 => (some (a0_0, a0_1, a0_2, t220, 0))) else (some ((⟨#[]⟩ : ByteArray), 0, 0, ([] : List (S48)), t219)))
theorem gangsawref14_Normal.mono : ∀ a0 a1 a2 a3 k, LeO (gangsawref14_Normal.f k a0 a1 a2 a3) (gangsawref14_Normal.f (k + 1) a0 a1 a2 a3) := by
 intro a0 a1 a2 a3 k
 unfold gangsawref14_Normal.f
 repeat' first
   | (with_reducible exact gangsawref14_Formed.mono _ _ _ _ _)
   | (with_reducible exact gangsawref14_joined.mono _ _)
   | (with_reducible refine contains3.mono2 (fun x_ => ?_))
   | (with_reducible refine contains33.mono2 (fun x_ => ?_))
   | (with_reducible refine contains48.mono2 (fun x_ => ?_))
   | (with_reducible refine contains9.mono2 (fun x_ => ?_))
   | (with_reducible refine index3.mono2 (fun x_ => ?_))
   | (with_reducible refine index33.mono2 (fun x_ => ?_))
   | (with_reducible refine index48.mono2 (fun x_ => ?_))
   | (with_reducible refine index9.mono2 (fun x_ => ?_))
   | (with_reducible exact LeO.refl _)
   | (with_reducible exact LeO.none _)
   | (with_reducible refine LeO.ite ?_ ?_)
   | (with_reducible refine LeO.bind ?_ (fun _ => ?_))
   | exact gangsawref14_Formed.mono _ _ _ _ _
   | exact gangsawref14_joined.mono _ _
   | exact LeO.none _
   | refine LeO.ite ?_ ?_
   | refine LeO.bind ?_ (fun _ => ?_)
def boring_column.f (a0_0 : Int) (a0_1 : Int) (a1 : Int) (a2 : Int) : Option (Int × Int × Int × Int × Int × Int) := some (a0_0, a0_1, a1, wrap64 (a0_0 + 1), wrap64 (a0_1 + 1), a2)
def gangsawref14_column.f (a0_0 : Int) (a0_1 : Int) (a1 : Int) (a2 : Int) : Option (Int × Int × Int × Int × Int × Int) := some (a0_0, a0_1, a1, wrap64 (a0_0 + 1), wrap64 (a0_1 + 1), a2)
end Go.Proofs.YtfedmcehkpfciaaGreat.P
