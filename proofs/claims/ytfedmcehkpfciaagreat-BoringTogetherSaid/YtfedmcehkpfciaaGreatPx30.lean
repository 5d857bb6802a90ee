/- What functions of the program return: each contract says so of one function, for every input at which its pure function yields. -/
import Derived.Test.YtfedmcehkpfciaaGreatPx0
import Derived.Test.YtfedmcehkpfciaaGreatPx3
import Derived.Test.YtfedmcehkpfciaaGreatPx4
import Derived.Test.YtfedmcehkpfciaaGreatPx18
import Derived.Test.YtfedmcehkpfciaaGreatPx19
import Derived.Test.YtfedmcehkpfciaaGreatPx25
import Derived.Test.YtfedmcehkpfciaaGreatPx28
import Derived.Test.YtfedmcehkpfciaaGreatAwk
namespace Go.Proofs.YtfedmcehkpfciaaGreat.P
open Go.RowKit Go.Proofs.YtfedmcehkpfciaaGreatW.PrintWords Go.Proofs.YtfedmcehkpfciaaGreatW.PrintLast Go.Proofs.YtfedmcehkpfciaaGreatW.PrintMore
attribute [local go_sem] max2_int min2_int max_two min_two max_three min_three max_four min_four   -- for this text's walks alone
set_option linter.unusedVariables false
set_option linter.unusedSimpArgs false

open Go.Proofs.YtfedmcehkpfciaaGreat.Awk
attribute [local go_sem high] eqA48
mutual
def gangsawlaw14_BoringTogether.j0 : Nat → Int → Bool → ByteArray → Int → Int → List (S48) → ByteArray → Int → Int → List (S48) → Option (Bool)
 | 0, _, _, _, _, _, _, _, _, _, _ => none
 | k + 1, x2, x28, x481000, x481001, x481002, x481003, x482000, x482001, x482002, x482003 => if x28 = true then (some true) else ((boring_Merge.f k x481000 x481001 x481002 x481003 x482000 x482001 x482002 x482003).bind fun bt485 => ((boring_Merge.f k x482000 x482001 x482002 x482003 x481000 x481001 x481002 x481003).bind fun bt493 => (if bt485.2.2.2.2 = 0 then ((boring_State.f k x481000 x481001 x481002 x481003 x2).bind fun t501 => ((boring_State.f k x482000 x482001 x482002 x482003 x2).bind fun t502 => ((boring_State.f k bt485.1 bt485.2.1 bt485.2.2.1 bt485.2.2.2.1 x2).bind fun t503 => (if t501 = 0 then (gangsawlaw14_BoringTogether.j1 k bt493.2.2.2.2 t502 t503 x481000 x481001 x481002 x481003 x482000 x482001 x482002 x482003 bt485.1 bt485.2.1 bt485.2.2.1 bt485.2.2.2.1 bt493.1 bt493.2.1 bt493.2.2.1 bt493.2.2.2.1) else (gangsawlaw14_BoringTogether.j1 k bt493.2.2.2.2 t501 t503 x481000 x481001 x481002 x481003 x482000 x482001 x482002 x482003 bt485.1 bt485.2.1 bt485.2.2.1 bt485.2.2.2.1 bt493.1 bt493.2.1 bt493.2.2.1 bt493.2.2.2.1))))) else (if (bt485.2.2.2.1.length : Int) = 0 then (some (bt493.2.2.2.2 != 0)) else (some false)))))
def gangsawlaw14_BoringTogether.j1 : Nat → Int → Int → Int → ByteArray → Int → Int → List (S48) → ByteArray → Int → Int → List (S48) → ByteArray → Int → Int → List (S48) → ByteArray → Int → Int → List (S48) → Option (Bool)
 | 0, _, _, _, _, _, _, _, _, _, _, _, _, _, _, _, _, _, _, _ => none
 | k + 1, x10, x11, x13, x481000, x481001, x481002, x481003, x482000, x482001, x482002, x482003, x493000, x493001, x493002, x493003, x501000, x501001, x501002, x501003 => if x10 = 0 then (if x493000.toList = x481000.toList then (if x501000.toList = x482000.toList then (if (x493003.length : Int) = (x501003.length : Int) then (gangsawlaw14_BoringTogether.j2 k (x13 != x11) x481000 x481001 x481002 x481003 x493000 x493001 x493002 x493003 x501000 x501001 x501002 x501003) else (gangsawlaw14_BoringTogether.j2 k true x481000 x481001 x481002 x481003 x493000 x493001 x493002 x493003 x501000 x501001 x501002 x501003)) else (gangsawlaw14_BoringTogether.j2 k true x481000 x481001 x481002 x481003 x493000 x493001 x493002 x493003 x501000 x501001 x501002 x501003)) else (gangsawlaw14_BoringTogether.j2 k true x481000 x481001 x481002 x481003 x493000 x493001 x493002 x493003 x501000 x501001 x501002 x501003)) else (gangsawlaw14_BoringTogether.j2 k true x481000 x481001 x481002 x481003 x493000 x493001 x493002 x493003 x501000 x501001 x501002 x501003)
def gangsawlaw14_BoringTogether.j2 : Nat → Bool → ByteArray → Int → Int → List (S48) → ByteArray → Int → Int → List (S48) → ByteArray → Int → Int → List (S48) → Option (Bool)
 | 0, _, _, _, _, _, _, _, _, _, _, _, _, _ => none
 | k + 1, x92, x481000, x481001, x481002, x481003, x493000, x493001, x493002, x493003, x501000, x501001, x501002, x501003 => if x92 = true then (some false) else (gangsawlaw14_BoringTogether.l0 k 0 x481000 x481001 x481002 x481003 x493000 x493001 x493002 x493003 x501000 x501001 x501002 x501003)
def gangsawlaw14_BoringTogether.l0 : Nat → Int → ByteArray → Int → Int → List (S48) → ByteArray → Int → Int → List (S48) → ByteArray → Int → Int → List (S48) → Option (Bool)
 | 0, _, _, _, _, _, _, _, _, _, _, _, _, _ => none
 | k + 1, x14, x481000, x481001, x481002, x481003, x493000, x493001, x493002, x493003, x501000, x501001, x501002, x501003 => if x14 < (x493003.length : Int) then (if 0 ≤ x14 then (if x14 < (x501003.length : Int) then (if (!(((rd_T48 x493003 x14).f0) == ((rd_T48 x501003 x14).f0)) || (!(((rd_T48 x493003 x14).f1) == ((rd_T48 x501003 x14).f1)) || (!(((rd_T48 x493003 x14).f2) == ((rd_T48 x501003 x14).f2))))) = true then (some false) else (gangsawlaw14_BoringTogether.l0 k (wrap64 (x14 + 1)) x481000 x481001 x481002 x481003 x493000 x493001 x493002 x493003 x501000 x501001 x501002 x501003)) else (none)) else (none)) else ((boring_Merge.f k x481000 x481001 x481002 x481003 x481000 x481001 x481002 x481003).bind fun bt506 => ((boring_Normal.f k x481000 x481001 x481002 x481003).bind fun bt514 => (if bt506.2.2.2.2 = 0 then (if bt514.2.2.2.2 = 0 then ((gangsawref14_Equal.f k bt506.1 bt506.2.1 bt506.2.2.1 bt506.2.2.2.1 bt514.1 bt514.2.1 bt514.2.2.1 bt514.2.2.2.1).bind fun t522 => (some t522)) else (some false)) else (some false))))
end
def gangsawlaw14_BoringTogether.f (k : Nat) (a0_0 : ByteArray) (a0_1 : Int) (a0_2 : Int) (l0_3 : List (S48)) (a1_0 : ByteArray) (a1_1 : Int) (a1_2 : Int) (l1_3 : List (S48)) (a2 : Int) : Option (Bool) := (gangsawlaw14_awake.f).bind fun t482 => (if t482 = true then ((gangsawref14_Small.f a0_0 a0_1 a0_2 l0_3).bind fun t483 => (if t483 = true then ((gangsawref14_Small.f a1_0 a1_1 a1_2 l1_3).bind fun t484 => (gangsawlaw14_BoringTogether.j0 k a2 (!t484) a0_0 a0_1 a0_2 l0_3 a1_0 a1_1 a1_2 l1_3)) else (gangsawlaw14_BoringTogether.j0 k a2 true a0_0 a0_1 a0_2 l0_3 a1_0 a1_1 a1_2 l1_3))) else (some false))
theorem gangsawlaw14_BoringTogether.mono_l : ∀ k, (∀ y0 y1 y2 y3 y4 y5 y6 y7 y8 y9, LeO (gangsawlaw14_BoringTogether.j0 k y0 y1 y2 y3 y4 y5 y6 y7 y8 y9) (gangsawlaw14_BoringTogether.j0 (k + 1) y0 y1 y2 y3 y4 y5 y6 y7 y8 y9)) ∧ (∀ y0 y1 y2 y3 y4 y5 y6 y7 y8 y9 y10 y11 y12 y13 y14 y15 y16 y17 y18, LeO (gangsawlaw14_BoringTogether.j1 k y0 y1 y2 y3 y4 y5 y6 y7 y8 y9 y10 y11 y12 y13 y14 y15 y16 y17 y18) (gangsawlaw14_BoringTogether.j1 (k + 1) y0 y1 y2 y3 y4 y5 y6 y7 y8 y9 y10 y11 y12 y13 y14 y15 y16 y17 y18)) ∧ (∀ y0 y1 y2 y3 y4 y5 y6 y7 y8 y9 y10 y11 y12, LeO (gangsawlaw14_BoringTogether.j2 k y0 y1 y2 y3 y4 y5 y6 y7 y8 y9 y10 y11 y12) (gangsawlaw14_BoringTogether.j2 (k + 1) y0 y1 y2 y3 y4 y5 y6 y7 y8 y9 y10 y11 y12)) ∧ (∀ y0 y1 y2 y3 y4 y5 y6 y7 y8 y9 y10 y11 y12, LeO (gangsawlaw14_BoringTogether.l0 k y0 y1 y2 y3 y4 y5 y6 y7 y8 y9 y10 y11 y12) (gangsawlaw14_BoringTogether.l0 (k + 1) y0 y1 y2 y3 y4 y5 y6 y7 y8 y9 y10 y11 y12))
 | 0 => ⟨fun _ _ _ _ _ _ _ _ _ _ r h => by simp [gangsawlaw14_BoringTogether.j0] at h, fun _ _ _ _ _ _ _ _ _ _ _ _ _ _ _ _ _ _ _ r h => by simp [gangsawlaw14_BoringTogether.j1] at h, fun _ _ _ _ _ _ _ _ _ _ _ _ _ r h => by simp [gangsawlaw14_BoringTogether.j2] at h, fun _ _ _ _ _ _ _ _ _ _ _ _ _ r h => by simp [gangsawlaw14_BoringTogether.l0] at h⟩
 | k + 1 => by
  obtain ⟨ih0, ih1, ih2, ih3⟩ := gangsawlaw14_BoringTogether.mono_l k
  refine ⟨?_, ?_, ?_, ?_⟩
  ·intro y0 y1 y2 y3 y4 y5 y6 y7 y8 y9
   unfold gangsawlaw14_BoringTogether.j0
   repeat' first
   | (with_reducible exact ih0 _ _ _ _ _ _ _ _ _ _)
   | (with_reducible exact ih1 _ _ _ _ _ _ _ _ _ _ _ _ _ _ _ _ _ _ _)
   | (with_reducible exact ih2 _ _ _ _ _ _ _ _ _ _ _ _ _)
   | (with_reducible exact ih3 _ _ _ _ _ _ _ _ _ _ _ _ _)
   | (with_reducible exact boring_Merge.mono _ _ _ _ _ _ _ _ _)
   | (with_reducible exact boring_Normal.mono _ _ _ _ _)
   | (with_reducible exact boring_State.mono _ _ _ _ _ _)
   | (with_reducible exact gangsawref14_Equal.mono _ _ _ _ _ _ _ _ _)
   | (with_reducible refine contains3.mono2 (fun x_ => ?_))
   | (with_reducible refine contains33.mono2 (fun x_ => ?_))
   | (with_reducible refine contains48.mono2 (fun x_ => ?_))
   | (with_reducible refine contains9.mono2 (fun x_ => ?_))
   | (with_reducible refine index3.mono2 (fun x_ => ?_))
   | (with_reducible refine index33.mono2 (fun x_ => ?_))
   | (with_reducible refine index48.mono2 (fun x_ => ?_))
   | (with_reducible refine index9.mono2 (fun x_ => ?_))
   | (with_reducible exact LeO.refl _)
   | (with_reducible exact LeO.none _)
   | (with_reducible refine LeO.ite ?_ ?_)
   | (with_reducible refine LeO.bind ?_ (fun _ => ?_))
   | exact ih0 _ _ _ _ _ _ _ _ _ _
   | exact ih1 _ _ _ _ _ _ _ _ _ _ _ _ _ _ _ _ _ _ _
   | exact ih2 _ _ _ _ _ _ _ _ _ _ _ _ _
   | exact ih3 _ _ _ _ _ _ _ _ _ _ _ _ _
   | exact boring_Merge.mono _ _ _ _ _ _ _ _ _
   | exact boring_Normal.mono _ _ _ _ _
   | exact boring_State.mono _ _ _ _ _ _
   | exact gangsawref14_Equal.mono _ _ _ _ _ _ _ _ _
   | exact LeO.none _
   | refine LeO.ite ?_ ?_
   | refine LeO.bind ?_ (fun _ => ?_)
  ·intro y0 y1 y2 y3 y4 y5 y6 y7 y8 y9 y10 y11 y12 y13 y14 y15 y16 y17 y18
   unfold gangsawlaw14_BoringTogether.j1
   repeat' first
   | (with_reducible exact ih0 _ _ _ _ _ _ _ _ _ _)
   | (with_reducible exact ih1 _ _ _ _ _ _ _ _ _ _ _ _ _ _ _ _ _ _ _)
   | (with_reducible exact ih2 _ _ _ _ _ _ _ _ _ _ _ _ _)
   | (with_reducible exact ih3 _ _ _ _ _ _ _ _ _ _ _ _ _)
   | (with_reducible exact boring_Merge.mono _ _ _ _ _ _ _ _ _)
   | (with_reducible exact boring_Normal.mono _ _ _ _ _)
   | (with_reducible exact boring_State.mono _ _ _ _ _ _)
   | (with_reducible exact gangsawref14_Equal.mono _ _ _ _ _ _ _ _ _)
   | (with_reducible refine contains3.mono2 (fun x_ => ?_))
   | (with_reducible refine contains33.mono2 (fun x_ => ?_))
   | (with_reducible refine contains48.mono2 (fun x_ => ?_))
   | (with_reducible refine contains9.mono2 (fun x_ => ?_))
   | (with_reducible refine index3.mono2 (fun x_ => ?_))
   | (with_reducible refine index33.mono2 (fun x_ => ?_))
   | (with_reducible refine index48.mono2 (fun x_ => ?_))
   | (with_reducible refine index9.mono2 (fun x_ => ?_))
   | (with_reducible exact LeO.refl _)
   | (with_reducible exact LeO.none _)
   | (with_reducible refine LeO.ite ?_ ?_)
   | (with_reducible refine LeO.bind ?_ (fun _ => ?_))
   | exact ih0 _ _ _ _ _ _ _ _ _ _
   | exact ih1 _ _ _ _ _ _ _ _ _ _ _ _ _ _ _ _ _ _ _
   | exact ih2 _ _ _ _ _ _ _ _ _ _ _ _ _
   | exact ih3 _ _ _ _ _ _ _ _ _ _ _ _ _
   | exact boring_Merge.mono _ _ _ _ _ _ _ _ _
   | exact boring_Normal.mono _ _ _ _ _
   | exact boring_State.mono _ _ _ _ _ _
   | exact gangsawref14_Equal.mono _ _ _ _ _ _ _ _ _
   | exact LeO.none _
   | refine LeO.ite ?_ ?_
   | refine LeO.bind ?_ (fun _ => ?_)
  ·intro y0 y1 y2 y3 y4 y5 y6 y7 y8 y9 y10 y11 y12
   unfold gangsawlaw14_BoringTogether.j2
   repeat' first
   | (with_reducible exact ih0 _ _ _ _ _ _ _ _ _ _)
   | (with_reducible exact ih1 _ _ _ _ _ _ _ _ _ _ _ _ _ _ _ _ _ _ _)
   | (with_reducible exact ih2 _ _ _ _ _ _ _ _ _ _ _ _ _)
   | (with_reducible exact ih3 _ _ _ _ _ _ _ _ _ _ _ _ _)
   | (with_reducible exact boring_Merge.mono _ _ _ _ _ _ _ _ _)
   | (with_reducible exact boring_Normal.mono _ _ _ _ _)
   | (with_reducible exact boring_State.mono _ _ _ _ _ _)
   | (with_reducible exact gangsawref14_Equal.mono _ _ _ _ _ _ _ _ _)
   | (with_reducible refine contains3.mono2 (fun x_ => ?_))
   | (with_reducible refine contains33.mono2 (fun x_ => ?_))
   | (with_reducible refine contains48.mono2 (fun x_ => ?_))
   | (with_reducible refine contains9.mono2 (fun x_ => ?_))
   | (with_reducible refine index3.mono2 (fun x_ => ?_))
   | (with_reducible refine index33.mono2 (fun x_ => ?_))
   | (with_reducible refine index48.mono2 (fun x_ => ?_))
   | (with_reducible refine index9.mono2 (fun x_ => ?_))
   | (with_reducible exact LeO.refl _)
   | (with_reducible exact LeO.none _)
   | (with_reducible refine LeO.ite ?_ ?_)
   | (with_reducible refine LeO.bind ?_ (fun _ => ?_))
   | exact ih0 _ _ _ _ _ _ _ _ _ _
   | exact ih1 _ _ _ _ _ _ _ _ _ _ _ _ _ _ _ _ _ _ _
   | exact ih2 _ _ _ _ _ _ _ _ _ _ _ _ _
   | exact ih3 _ _ _ _ _ _ _ _ _ _ _ _ _
   | exact boring_Merge.mono _ _ _ _ _ _ _ _ _
   | exact boring_Normal.mono _ _ _ _ _
   | exact boring_State.mono _ _ _ _ _ _
   | exact gangsawref14_Equal.mono _ _ _ _ _ _ _ _ _
   | exact LeO.none _
   | refine LeO.ite ?_ ?_
   | refine LeO.bind ?_ (fun _ => ?_)
  ·intro y0 y1 y2 y3 y4 y5 y6 y7 y8 y9 y10 y11 y12
   unfold gangsawlaw14_BoringTogether.l0
   repeat' first
   | (with_reducible exact ih0 _ _ _ _ _ _ _ _ _ _)
   | (with_reducible exact ih1 _ _ _ _ _ _ _ _ _ _ _ _ _ _ _ _ _ _ _)
   | (with_reducible exact ih2 _ _ _ _ _ _ _ _ _ _ _ _ _)
   | (with_reducible exact ih3 _ _ _ _ _ _ _ _ _ _ _ _ _)
   | (with_reducible exact boring_Merge.mono _ _ _ _ _ _ _ _ _)
   | (with_reducible exact boring_Normal.mono _ _ _ _ _)
   | (with_reducible exact boring_State.mono _ _ _ _ _ _)
   | (with_reducible exact gangsawref14_Equal.mono _ _ _ _ _ _ _ _ _)
   | (with_reducible refine contains3.mono2 (fun x_ => ?_))
   | (with_reducible refine contains33.mono2 (fun x_ => ?_))
   | (with_reducible refine contains48.mono2 (fun x_ => ?_))
   | (with_reducible refine contains9.mono2 (fun x_ => ?_))
   | (with_reducible refine index3.mono2 (fun x_ => ?_))
   | (with_reducible refine index33.mono2 (fun x_ => ?_))
   | (with_reducible refine index48.mono2 (fun x_ => ?_))
   | (with_reducible refine index9.mono2 (fun x_ => ?_))
   | (with_reducible exact LeO.refl _)
   | (with_reducible exact LeO.none _)
   | (with_reducible refine LeO.ite ?_ ?_)
   | (with_reducible refine LeO.bind ?_ (fun _ => ?_))
   | exact ih0 _ _ _ _ _ _ _ _ _ _
   | exact ih1 _ _ _ _ _ _ _ _ _ _ _ _ _ _ _ _ _ _ _
   | exact ih2 _ _ _ _ _ _ _ _ _ _ _ _ _
   | exact ih3 _ _ _ _ _ _ _ _ _ _ _ _ _
   | exact boring_Merge.mono _ _ _ _ _ _ _ _ _
   | exact boring_Normal.mono _ _ _ _ _
   | exact boring_State.mono _ _ _ _ _ _
   | exact gangsawref14_Equal.mono _ _ _ _ _ _ _ _ _
   | exact LeO.none _
   | refine LeO.ite ?_ ?_
   | refine LeO.bind ?_ (fun _ => ?_)
theorem gangsawlaw14_BoringTogether.mono : ∀ a0 a1 a2 a3 a4 a5 a6 a7 a8 k, LeO (gangsawlaw14_BoringTogether.f k a0 a1 a2 a3 a4 a5 a6 a7 a8) (gangsawlaw14_BoringTogether.f (k + 1) a0 a1 a2 a3 a4 a5 a6 a7 a8) := by
 intro a0 a1 a2 a3 a4 a5 a6 a7 a8 k
 obtain ⟨ih0, ih1, ih2, ih3⟩ := gangsawlaw14_BoringTogether.mono_l k
 unfold gangsawlaw14_BoringTogether.f
 repeat' first
   | (with_reducible exact ih0 _ _ _ _ _ _ _ _ _ _)
   | (with_reducible exact ih1 _ _ _ _ _ _ _ _ _ _ _ _ _ _ _ _ _ _ _)
   | (with_reducible exact ih2 _ _ _ _ _ _ _ _ _ _ _ _ _)
   | (with_reducible exact ih3 _ _ _ _ _ _ _ _ _ _ _ _ _)
   | (with_reducible exact boring_Merge.mono _ _ _ _ _ _ _ _ _)
   | (with_reducible exact boring_Normal.mono _ _ _ _ _)
   | (with_reducible exact boring_State.mono _ _ _ _ _ _)
   | (with_reducible exact gangsawref14_Equal.mono _ _ _ _ _ _ _ _ _)
   | (with_reducible refine contains3.mono2 (fun x_ => ?_))
   | (with_reducible refine contains33.mono2 (fun x_ => ?_))
   | (with_reducible refine contains48.mono2 (fun x_ => ?_))
   | (with_reducible refine contains9.mono2 (fun x_ => ?_))
   | (with_reducible refine index3.mono2 (fun x_ => ?_))
   | (with_reducible refine index33.mono2 (fun x_ => ?_))
   | (with_reducible refine index48.mono2 (fun x_ => ?_))
   | (with_reducible refine index9.mono2 (fun x_ => ?_))
   | (with_reducible exact LeO.refl _)
   | (with_reducible exact LeO.none _)
   | (with_reducible refine LeO.ite ?_ ?_)
   | (with_reducible refine LeO.bind ?_ (fun _ => ?_))
   | exact ih0 _ _ _ _ _ _ _ _ _ _
   | exact ih1 _ _ _ _ _ _ _ _ _ _ _ _ _ _ _ _ _ _ _
   | exact ih2 _ _ _ _ _ _ _ _ _ _ _ _ _
   | exact ih3 _ _ _ _ _ _ _ _ _ _ _ _ _
   | exact boring_Merge.mono _ _ _ _ _ _ _ _ _
   | exact boring_Normal.mono _ _ _ _ _
   | exact boring_State.mono _ _ _ _ _ _
   | exact gangsawref14_Equal.mono _ _ _ _ _ _ _ _ _
   | exact LeO.none _
   | refine LeO.ite ?_ ?_
   | refine LeO.bind ?_ (fun _ => ?_)
def gangsawlaw14_BoringTogether.T9 : Bool × List (List Nat × List Nat) := (true, [([], []), ([], []), ([0, 1], [0, 1]), ([], []), ([], []), ([3, 4, 2], [3, 4]), ([], []), ([], []), ([6, 7, 5], [6, 7]), ([2, 8, 0, 1, 2], [2]), ([5, 9, 0, 1, 2, 3, 4, 5, 9], [5]), ([8, 10, 0, 1, 2, 3, 4, 5, 6, 7, 8, 9, 10], [8])])
def gangsawlaw14_BoringTogether.B9 : List Nat := [0, 0, 3, 0, 0, 31, 0, 0, 255, 511, 1023, 2047]
theorem gangsawlaw14_BoringTogether.tab9 : rtab .any (opsOf Tryz.f10 9) = gangsawlaw14_BoringTogether.T9 := by kernel_rfl
theorem gangsawlaw14_BoringTogether.bits9 : waitsOk gangsawlaw14_BoringTogether.T9.2 gangsawlaw14_BoringTogether.B9 = true := by kernel_rfl
def gangsawlaw14_BoringTogether.T17 : Bool × List (List Nat × List Nat) := (true, [([], []), ([0], [0]), ([], []), ([1, 2], [1, 2]), ([3], [3]), ([], []), ([5], [5]), ([], []), ([6, 7], [6, 7]), ([8], [8]), ([4, 9], [4, 9])])
def gangsawlaw14_BoringTogether.B17 : List Nat := [0, 1, 0, 7, 15, 0, 32, 0, 224, 480, 1023]
theorem gangsawlaw14_BoringTogether.tab17 : rtab .any (opsOf Tryz.f10 17) = gangsawlaw14_BoringTogether.T17 := by kernel_rfl
theorem gangsawlaw14_BoringTogether.bits17 : waitsOk gangsawlaw14_BoringTogether.T17.2 gangsawlaw14_BoringTogether.B17 = true := by kernel_rfl
set_option maxHeartbeats 8000000 in
set_option maxRecDepth 100000 in
theorem gangsawlaw14_BoringTogether.calls (k : Nat) (a0_0 : ByteArray) (a0_1 : Int) (a0_2 : Int) (A0_3 : Option Addr) (c0_3 : Nat) (l0_3 : List (S48)) (a1_0 : ByteArray) (a1_1 : Int) (a1_2 : Int) (A1_3 : Option Addr) (c1_3 : Nat) (l1_3 : List (S48)) (a2 : Int) (r : Bool) (w : World) (hr0_3 : Kd.C k48 w A0_3 l0_3.length l0_3) (hc0_3 : l0_3.length ≤ c0_3) (hr1_3 : Kd.C k48 w A1_3 l1_3.length l1_3) (hc1_3 : l1_3.length ≤ c1_3) (h : gangsawlaw14_BoringTogether.f k a0_0 a0_1 a0_2 l0_3 a1_0 a1_1 a1_2 l1_3 a2 = some r) (hr : r = true) :
  Calls Tryz.prog 10 #[.agg #[.string a0_0, .int .i64 a0_1, .int .i64 a0_2, .slice A0_3 l0_3.length c0_3], .agg #[.string a1_0, .int .i64 a1_1, .int .i64 a1_2, .slice A1_3 l1_3.length c1_3], .int .i64 a2] w fun e w' => e = .returned (.bool r) ∧ Below w.heap.size w w' := by
 have hu33 := Tryz.underlying33
 have hu48 := Tryz.underlying48
 have HR0_3 := aK hr0_3
 have HC0_3 := aK hc0_3
 clear hr0_3 hc0_3
 have HR1_3 := aK hr1_3
 have HC1_3 := aK hc1_3
 clear hr1_3 hc1_3
 have HB := aK (Below.refl w.heap.size w)
 have H : ((gangsawlaw14_awake.f).bind fun t482 => (if t482 = true then ((gangsawref14_Small.f a0_0 a0_1 a0_2 l0_3).bind fun t483 => (if t483 = true then ((gangsawref14_Small.f a1_0 a1_1 a1_2 l1_3).bind fun t484 => (gangsawlaw14_BoringTogether.j0 k a2 (!t484) a0_0 a0_1 a0_2 l0_3 a1_0 a1_1 a1_2 l1_3)) else (gangsawlaw14_BoringTogether.j0 k a2 true a0_0 a0_1 a0_2 l0_3 a1_0 a1_1 a1_2 l1_3))) else (some false))) = some r := h
 clear h
 replace H := Option.bind_eq_some_iff.mp H
 obtain ⟨t482, A40, H⟩ := H
 replace H : (if t482 = true then ((gangsawref14_Small.f a0_0 a0_1 a0_2 l0_3).bind fun t483 => (if t483 = true then ((gangsawref14_Small.f a1_0 a1_1 a1_2 l1_3).bind fun t484 => (gangsawlaw14_BoringTogether.j0 k a2 (!t484) a0_0 a0_1 a0_2 l0_3 a1_0 a1_1 a1_2 l1_3)) else (gangsawlaw14_BoringTogether.j0 k a2 true a0_0 a0_1 a0_2 l0_3 a1_0 a1_1 a1_2 l1_3))) else (some false)) = some r := H
 have A4 := aK A40
 clear A40
 by_cases c5 : t482 = true
 ·subst c5
  have H1 : ((gangsawref14_Small.f a0_0 a0_1 a0_2 l0_3).bind fun t483 => (if t483 = true then ((gangsawref14_Small.f a1_0 a1_1 a1_2 l1_3).bind fun t484 => (gangsawlaw14_BoringTogether.j0 k a2 (!t484) a0_0 a0_1 a0_2 l0_3 a1_0 a1_1 a1_2 l1_3)) else (gangsawlaw14_BoringTogether.j0 k a2 true a0_0 a0_1 a0_2 l0_3 a1_0 a1_1 a1_2 l1_3))) = some r := by rw [if_pos rfl] at H; exact H
  clear H
  have H := H1
  clear H1
  have HC6 := aK H
  clear H
  go_enter Tryz.func10, Tryz.ntmps10
  go_upto_region 3 with (first | ((with_reducible refine gate_dst (N := 3) rfl ?_); (try (refine gate_guard (by rfl) ?_; dsimp only)); refine box_event ?hg (N := 3) ?hd (cs := #[.string a0_0, .int .i64 a0_1, .int .i64 a0_2, .slice A0_3 l0_3.length c0_3]) (t := 33) ?hr ?_; (case hd => rfl); (case hg => rfl); (case hr => first | (go_simp; done) | (go_simp; rfl)); intro gb480 hg w7 hbox hb; have ⟨n0_, n2_⟩ := zV (w := w) hb hg (by repeat (first | (with_reducible first | exact HB.out | apply yA | apply yN | apply yD) | exact HB.out)); have n1_ := aK (hbox); have n3_ := n2_; clear HB; have HB := n0_; have BK480 := n1_; have GW480 := n2_; have GE480 := n3_; clear n0_ n1_ n2_ n3_; clear hb hbox hg) | ((with_reducible refine gate_dst (N := 4) rfl ?_); (try (refine gate_guard (by rfl) ?_; dsimp only)); refine box_event ?hg (N := 4) ?hd (cs := #[.string a1_0, .int .i64 a1_1, .int .i64 a1_2, .slice A1_3 l1_3.length c1_3]) (t := 33) ?hr ?_; (case hd => rfl); (case hg => rfl); (case hr => first | (go_simp; done) | (go_simp; rfl)); intro gb481 hg w8 hbox hb; have n0_ := zG BK480 hb (fun h => by (with_reducible repeat (first | refine zN ?_ _ | refine zD ?_ | refine zA ?_ _)); exact h); have ⟨n1_, n3_⟩ := zV (w := w) hb hg (by repeat (first | (with_reducible first | exact HB.out | apply yA | apply yN | apply yD | refine yS ?_ GE480.out) | exact HB.out)); have n2_ := aK (hbox); have n4_ := n3_; have n5_ := aK ((by rw [hg]; exact Nat.ne_of_lt (blk_lt (g := gb480) (o := .cells #[.string a0_0, .int .i64 a0_1, .int .i64 a0_2, .slice A0_3 l0_3.length c0_3] 33 (0, 0)) (by (with_reducible repeat (first | refine zN ?_ _ | refine zD ?_ | refine zA ?_ _)); exact BK480.out)) : gb480 ≠ gb481)); have n6_ := aK ((by rw [hg]; exact Nat.ne_of_gt (blk_lt (g := gb480) (o := .cells #[.string a0_0, .int .i64 a0_1, .int .i64 a0_2, .slice A0_3 l0_3.length c0_3] 33 (0, 0)) (by (with_reducible repeat (first | refine zN ?_ _ | refine zD ?_ | refine zA ?_ _)); exact BK480.out)) : gb481 ≠ gb480)); clear BK480; clear HB; have BK480 := n0_; have HB := n1_; have BK481 := n2_; have GW481 := n3_; have GE481 := n4_; have NB480_481 := n5_; have NB481_480 := n6_; clear n0_ n1_ n2_ n3_ n4_ n5_ n6_; clear hb hbox hg) | ((with_reducible refine gate_callee (f := 11) rfl ?_); refine goesL_ (some 19) rfl rfl Tryz.func11 (by kernel_rfl) rfl #[] rfl (by (try simp only [List.map_toArray, List.map_cons, List.map_nil]); first | done | rfl | (simp only [List.length_drop, List.length_take]; rfl)) ?_; (with_reducible refine (gangsawlaw14_awake.calls  true _ A4.out).mono ?_); rintro e w9 ⟨rfl, hb⟩; refine ⟨_, rfl, ?_⟩; have n0_ := zG BK480 hb (fun h => by (with_reducible repeat (first | refine zN ?_ _ | refine zD ?_ | refine zA ?_ _)); exact h); have n1_ := zG BK481 hb (fun h => by (with_reducible repeat (first | refine zN ?_ _ | refine zD ?_ | refine zA ?_ _)); exact h); have n2_ := aK (yT (by repeat (first | (with_reducible first | exact HB.out | apply yA | apply yN | apply yD | refine yS ?_ GE480.out | refine yS ?_ GE481.out) | exact HB.out)) hb); clear BK480; clear BK481; clear HB; have BK480 := n0_; have BK481 := n1_; have HB := n2_; clear n0_ n1_ n2_; (try clear hb); (try clear hb2); (try clear hk); (try clear hi)))
  (try simp only [Act.put, sA, sZ, sS])
  go_cut [28] (fun v28 wc => ∃ (kq : Nat) (x28_5 : Bool), v28 = .bool x28_5 ∧ Aside0 (gangsawlaw14_BoringTogether.j0 kq a2 x28_5 a0_0 a0_1 a0_2 l0_3 a1_0 a1_1 a1_2 l1_3 = some r) ∧ Aside0 (kq ≤ k) ∧ Aside0 (wc.heap[gb480]? = some (.cells #[.string a0_0, .int .i64 a0_1, .int .i64 a0_2, (.slice A0_3 l0_3.length c0_3)] 33 (0, 0))) ∧ Aside0 (wc.heap[gb481]? = some (.cells #[.string a1_0, .int .i64 a1_1, .int .i64 a1_2, (.slice A1_3 l1_3.length c1_3)] 33 (0, 0))) ∧ Aside0 (Below w.heap.size w wc))
  case first =>
   have H := HC6.out
   clear HC6
   replace H := Option.bind_eq_some_iff.mp H
   obtain ⟨t483, A100, H⟩ := H
   replace H : (if t483 = true then ((gangsawref14_Small.f a1_0 a1_1 a1_2 l1_3).bind fun t484 => (gangsawlaw14_BoringTogether.j0 k a2 (!t484) a0_0 a0_1 a0_2 l0_3 a1_0 a1_1 a1_2 l1_3)) else (gangsawlaw14_BoringTogether.j0 k a2 true a0_0 a0_1 a0_2 l0_3 a1_0 a1_1 a1_2 l1_3)) = some r := H
   have A10 := aK A100
   clear A100
   by_cases c11 : t483 = true
   ·subst c11
    have H1 : ((gangsawref14_Small.f a1_0 a1_1 a1_2 l1_3).bind fun t484 => (gangsawlaw14_BoringTogether.j0 k a2 (!t484) a0_0 a0_1 a0_2 l0_3 a1_0 a1_1 a1_2 l1_3)) = some r := by rw [if_pos rfl] at H; exact H
    clear H
    have H := H1
    clear H1
    replace H := Option.bind_eq_some_iff.mp H
    obtain ⟨t484, A120, H⟩ := H
    replace H : (gangsawlaw14_BoringTogether.j0 k a2 (!t484) a0_0 a0_1 a0_2 l0_3 a1_0 a1_1 a1_2 l1_3) = some r := H
    have A12 := aK A120
    clear A120
    have H' := aK H
    clear H
    have hnb13 := NB480_481.out
    have hnc13 := NB481_480.out
    have hcz14_0 := zI BK480 0 rfl
    have hcz14_1 := zI BK480 1 rfl
    have hcz14_2 := zI BK480 2 rfl
    have hcz14_3 := zI BK480 3 rfl
    have hfz14_0 := zF BK480.out 0
    have hfz14_1 := zF BK480.out 1
    have hfz14_2 := zF BK480.out 2
    have hfz14_3 := zF BK480.out 3
    go_wp2_with (first | ((with_reducible refine gate_callee (f := 12) rfl ?_); refine goesL_ (some 22) rfl rfl Tryz.func12 (by kernel_rfl) rfl #[.agg #[.string a0_0, .int .i64 a0_1, .int .i64 a0_2, .slice A0_3 l0_3.length c0_3]] rfl (by (try simp only [List.map_toArray, List.map_cons, List.map_nil]); first | done | rfl | (simp only [List.length_drop, List.length_take]; rfl)) ?_; (with_reducible refine (gangsawref14_Small.calls a0_0 a0_1 a0_2 _ _ l0_3 true _ ?side1 ?side2 A10.out).mono ?_); (case side1 => repeat (first | exact (Kd.C_below HR0_3.out HB.out) | (with_reducible refine Kd.C_alloc ?_ _) | (with_reducible refine Kd.C_drewN ?_ _) | (with_reducible refine Kd.C_drew ?_))); (case side2 => exact HC0_3.out); rintro e w15 ⟨rfl, hb⟩; refine ⟨_, rfl, ?_⟩; have n0_ := zG BK480 hb (fun h => by (with_reducible repeat (first | refine zN ?_ _ | refine zD ?_ | refine zA ?_ _)); exact h); have n1_ := zG BK481 hb (fun h => by (with_reducible repeat (first | refine zN ?_ _ | refine zD ?_ | refine zA ?_ _)); exact h); have n2_ := aK (yT (by repeat (first | (with_reducible first | exact HB.out | apply yA | apply yN | apply yD | refine yS ?_ GE480.out | refine yS ?_ GE481.out) | exact HB.out)) hb); clear BK480; clear BK481; clear HB; have BK480 := n0_; have BK481 := n1_; have HB := n2_; clear n0_ n1_ n2_; (try clear hb); (try clear hb2); (try clear hk); (try clear hi); have hcz16_0 := zI BK481 0 rfl; have hcz16_1 := zI BK481 1 rfl; have hcz16_2 := zI BK481 2 rfl; have hcz16_3 := zI BK481 3 rfl; have hfz16_0 := zF BK481.out 0; have hfz16_1 := zF BK481.out 1; have hfz16_2 := zF BK481.out 2; have hfz16_3 := zF BK481.out 3) | (go_at_call 12; (with_reducible refine (gangsawref14_Small.calls a1_0 a1_1 a1_2 _ _ l1_3 t484 _ ?side1 ?side2 A12.out).mono ?_); (case side1 => repeat (first | exact (Kd.C_below HR1_3.out HB.out) | (with_reducible refine Kd.C_alloc ?_ _) | (with_reducible refine Kd.C_drewN ?_ _) | (with_reducible refine Kd.C_drew ?_))); (case side2 => exact HC1_3.out); rintro e w17 ⟨rfl, hb⟩; have n0_ := zG BK480 hb (fun h => by (with_reducible repeat (first | refine zN ?_ _ | refine zD ?_ | refine zA ?_ _)); exact h); have n1_ := zG BK481 hb (fun h => by (with_reducible repeat (first | refine zN ?_ _ | refine zD ?_ | refine zA ?_ _)); exact h); have n2_ := aK (yT (by repeat (first | (with_reducible first | exact HB.out | apply yA | apply yN | apply yD | refine yS ?_ GE480.out | refine yS ?_ GE481.out) | exact HB.out)) hb); clear BK480; clear BK481; clear HB; have BK480 := n0_; have BK481 := n1_; have HB := n2_; clear n0_ n1_ n2_; (try clear hb); (try clear hb2); (try clear hk); (try clear hi)))
    go_meet
    case rel => exact ⟨_, (!t484), (by first | rfl | (simp; done) | (simp [*]; done)), H', ⟨by first | omega | exact Nat.le_refl _⟩, ⟨by (with_reducible repeat (first | refine zN ?_ _ | refine zD ?_ | refine zA ?_ _)); exact BK480.out⟩, ⟨by (with_reducible repeat (first | refine zN ?_ _ | refine zD ?_ | refine zA ?_ _)); exact BK481.out⟩, ⟨by repeat (first | (with_reducible first | exact HB.out | apply yA | apply yN | apply yD | refine yS ?_ GE480.out | refine yS ?_ GE481.out) | exact HB.out)⟩⟩
   ·replace c11 := Bool.eq_false_iff.mpr c11
    subst c11
    have H1 : (gangsawlaw14_BoringTogether.j0 k a2 true a0_0 a0_1 a0_2 l0_3 a1_0 a1_1 a1_2 l1_3) = some r := by rw [if_neg (show ¬ (false = true) by decide)] at H; exact H
    clear H
    have H := H1
    clear H1
    have H' := aK H
    clear H
    have hnb18 := NB480_481.out
    have hnc18 := NB481_480.out
    have hcz19_0 := zI BK480 0 rfl
    have hcz19_1 := zI BK480 1 rfl
    have hcz19_2 := zI BK480 2 rfl
    have hcz19_3 := zI BK480 3 rfl
    have hfz19_0 := zF BK480.out 0
    have hfz19_1 := zF BK480.out 1
    have hfz19_2 := zF BK480.out 2
    have hfz19_3 := zF BK480.out 3
    go_wp2_with (first | ((with_reducible refine gate_callee (f := 12) rfl ?_); refine goesL_ (some 22) rfl rfl Tryz.func12 (by kernel_rfl) rfl #[.agg #[.string a0_0, .int .i64 a0_1, .int .i64 a0_2, .slice A0_3 l0_3.length c0_3]] rfl (by (try simp only [List.map_toArray, List.map_cons, List.map_nil]); first | done | rfl | (simp only [List.length_drop, List.length_take]; rfl)) ?_; (with_reducible refine (gangsawref14_Small.calls a0_0 a0_1 a0_2 _ _ l0_3 false _ ?side1 ?side2 A10.out).mono ?_); (case side1 => repeat (first | exact (Kd.C_below HR0_3.out HB.out) | (with_reducible refine Kd.C_alloc ?_ _) | (with_reducible refine Kd.C_drewN ?_ _) | (with_reducible refine Kd.C_drew ?_))); (case side2 => exact HC0_3.out); rintro e w20 ⟨rfl, hb⟩; refine ⟨_, rfl, ?_⟩; have n0_ := zG BK480 hb (fun h => by (with_reducible repeat (first | refine zN ?_ _ | refine zD ?_ | refine zA ?_ _)); exact h); have n1_ := zG BK481 hb (fun h => by (with_reducible repeat (first | refine zN ?_ _ | refine zD ?_ | refine zA ?_ _)); exact h); have n2_ := aK (yT (by repeat (first | (with_reducible first | exact HB.out | apply yA | apply yN | apply yD | refine yS ?_ GE480.out | refine yS ?_ GE481.out) | exact HB.out)) hb); clear BK480; clear BK481; clear HB; have BK480 := n0_; have BK481 := n1_; have HB := n2_; clear n0_ n1_ n2_; (try clear hb); (try clear hb2); (try clear hk); (try clear hi)))
    go_meet
    case rel => exact ⟨_, (true), (by first | rfl | (simp; done) | (simp [*]; done)), H', ⟨by first | omega | exact Nat.le_refl _⟩, ⟨by (with_reducible repeat (first | refine zN ?_ _ | refine zD ?_ | refine zA ?_ _)); exact BK480.out⟩, ⟨by (with_reducible repeat (first | refine zN ?_ _ | refine zD ?_ | refine zA ?_ _)); exact BK481.out⟩, ⟨by repeat (first | (with_reducible first | exact HB.out | apply yA | apply yN | apply yD | refine yS ?_ GE480.out | refine yS ?_ GE481.out) | exact HB.out)⟩⟩
  case rest =>
   clear HC6
   try clear c1
   try clear p2
   try clear c5
   try clear c10
   try clear c11
   try clear c12
   try clear c13
   try clear c18
   try clear hcz14_0
   try clear hcz14_1
   try clear hcz14_2
   try clear hcz14_3
   try clear hcz16_0
   try clear hcz16_1
   try clear hcz16_2
   try clear hcz16_3
   try clear hcz19_0
   try clear hcz19_1
   try clear hcz19_2
   try clear hcz19_3
   try clear hfz14_0
   try clear hfz14_1
   try clear hfz14_2
   try clear hfz14_3
   try clear hfz16_0
   try clear hfz16_1
   try clear hfz16_2
   try clear hfz16_3
   try clear hfz19_0
   try clear hfz19_1
   try clear hfz19_2
   try clear hfz19_3
   obtain ⟨kq, x28_5, rfl, HA, HJ5, BK480, BK481, HB⟩ := hcut
   cases kq with
   | zero => exact absurd HA.out (by simp [gangsawlaw14_BoringTogether.j0])
   | succ kj5 =>
    have H := HA.out
    clear HA
    simp only [gangsawlaw14_BoringTogether.j0] at H
    by_cases c21 : x28_5 = true
    ·subst c21
     have H1 : (some true) = some r := by rw [if_pos rfl] at H; exact H
     clear H
     have H := H1
     clear H1
     obtain rfl := Option.some.inj H
     simp only [Option.some.injEq, Prod.mk.injEq] at H
     obtain ⟨rfl⟩ := H
     go_wp2
     go_ret
     exact ⟨by first | rfl | (simp [errW_none, errW_some] <;> rfl) | (simp [*, errW_none, errW_some] <;> rfl), by repeat (first | (with_reducible first | exact HB.out | apply yA | apply yN | apply yD | refine yS ?_ GE480.out | refine yS ?_ GE481.out) | exact HB.out)⟩
    ·replace c21 := Bool.eq_false_iff.mpr c21
     subst c21
     have H1 : ((boring_Merge.f kj5 a0_0 a0_1 a0_2 l0_3 a1_0 a1_1 a1_2 l1_3).bind fun bt485 => ((boring_Merge.f kj5 a1_0 a1_1 a1_2 l1_3 a0_0 a0_1 a0_2 l0_3).bind fun bt493 => (if bt485.2.2.2.2 = 0 then ((boring_State.f kj5 a0_0 a0_1 a0_2 l0_3 a2).bind fun t501 => ((boring_State.f kj5 a1_0 a1_1 a1_2 l1_3 a2).bind fun t502 => ((boring_State.f kj5 bt485.1 bt485.2.1 bt485.2.2.1 bt485.2.2.2.1 a2).bind fun t503 => (if t501 = 0 then (gangsawlaw14_BoringTogether.j1 kj5 bt493.2.2.2.2 t502 t503 a0_0 a0_1 a0_2 l0_3 a1_0 a1_1 a1_2 l1_3 bt485.1 bt485.2.1 bt485.2.2.1 bt485.2.2.2.1 bt493.1 bt493.2.1 bt493.2.2.1 bt493.2.2.2.1) else (gangsawlaw14_BoringTogether.j1 kj5 bt493.2.2.2.2 t501 t503 a0_0 a0_1 a0_2 l0_3 a1_0 a1_1 a1_2 l1_3 bt485.1 bt485.2.1 bt485.2.2.1 bt485.2.2.2.1 bt493.1 bt493.2.1 bt493.2.2.1 bt493.2.2.2.1))))) else (if (bt485.2.2.2.1.length : Int) = 0 then (some (bt493.2.2.2.2 != 0)) else (some false))))) = some r := by rw [if_neg (show ¬ (false = true) by decide)] at H; exact H
     clear H
     have H := H1
     clear H1
     replace H := Option.bind_eq_some_iff.mp H
     obtain ⟨⟨t485, t486, t487, t488, t491⟩, A220, H⟩ := H
     replace H : ((boring_Merge.f kj5 a1_0 a1_1 a1_2 l1_3 a0_0 a0_1 a0_2 l0_3).bind fun bt493 => (if t491 = 0 then ((boring_State.f kj5 a0_0 a0_1 a0_2 l0_3 a2).bind fun t501 => ((boring_State.f kj5 a1_0 a1_1 a1_2 l1_3 a2).bind fun t502 => ((boring_State.f kj5 t485 t486 t487 t488 a2).bind fun t503 => (if t501 = 0 then (gangsawlaw14_BoringTogether.j1 kj5 bt493.2.2.2.2 t502 t503 a0_0 a0_1 a0_2 l0_3 a1_0 a1_1 a1_2 l1_3 t485 t486 t487 t488 bt493.1 bt493.2.1 bt493.2.2.1 bt493.2.2.2.1) else (gangsawlaw14_BoringTogether.j1 kj5 bt493.2.2.2.2 t501 t503 a0_0 a0_1 a0_2 l0_3 a1_0 a1_1 a1_2 l1_3 t485 t486 t487 t488 bt493.1 bt493.2.1 bt493.2.2.1 bt493.2.2.2.1))))) else (if (t488.length : Int) = 0 then (some (bt493.2.2.2.2 != 0)) else (some false)))) = some r := H
     have A22 := aK A220
     clear A220
     replace H := Option.bind_eq_some_iff.mp H
     obtain ⟨⟨t493, t494, t495, t496, t499⟩, A230, H⟩ := H
     replace H : (if t491 = 0 then ((boring_State.f kj5 a0_0 a0_1 a0_2 l0_3 a2).bind fun t501 => ((boring_State.f kj5 a1_0 a1_1 a1_2 l1_3 a2).bind fun t502 => ((boring_State.f kj5 t485 t486 t487 t488 a2).bind fun t503 => (if t501 = 0 then (gangsawlaw14_BoringTogether.j1 kj5 t499 t502 t503 a0_0 a0_1 a0_2 l0_3 a1_0 a1_1 a1_2 l1_3 t485 t486 t487 t488 t493 t494 t495 t496) else (gangsawlaw14_BoringTogether.j1 kj5 t499 t501 t503 a0_0 a0_1 a0_2 l0_3 a1_0 a1_1 a1_2 l1_3 t485 t486 t487 t488 t493 t494 t495 t496))))) else (if (t488.length : Int) = 0 then (some (t499 != 0)) else (some false))) = some r := H
     have A23 := aK A230
     clear A230
     by_cases c24 : t491 = 0
     ·rw [if_pos c24] at H
      have c24b0 : (t491 == 0) = true := beq_iff_eq.mpr c24
      have c24b1 : (t491 != 0) = false := bne_eq_false_iff_eq.mpr c24
      clear c24
      replace H := Option.bind_eq_some_iff.mp H
      obtain ⟨t501, A250, H⟩ := H
      replace H : ((boring_State.f kj5 a1_0 a1_1 a1_2 l1_3 a2).bind fun t502 => ((boring_State.f kj5 t485 t486 t487 t488 a2).bind fun t503 => (if t501 = 0 then (gangsawlaw14_BoringTogether.j1 kj5 t499 t502 t503 a0_0 a0_1 a0_2 l0_3 a1_0 a1_1 a1_2 l1_3 t485 t486 t487 t488 t493 t494 t495 t496) else (gangsawlaw14_BoringTogether.j1 kj5 t499 t501 t503 a0_0 a0_1 a0_2 l0_3 a1_0 a1_1 a1_2 l1_3 t485 t486 t487 t488 t493 t494 t495 t496)))) = some r := H
      have A25 := aK A250
      clear A250
      replace H := Option.bind_eq_some_iff.mp H
      obtain ⟨t502, A260, H⟩ := H
      replace H : ((boring_State.f kj5 t485 t486 t487 t488 a2).bind fun t503 => (if t501 = 0 then (gangsawlaw14_BoringTogether.j1 kj5 t499 t502 t503 a0_0 a0_1 a0_2 l0_3 a1_0 a1_1 a1_2 l1_3 t485 t486 t487 t488 t493 t494 t495 t496) else (gangsawlaw14_BoringTogether.j1 kj5 t499 t501 t503 a0_0 a0_1 a0_2 l0_3 a1_0 a1_1 a1_2 l1_3 t485 t486 t487 t488 t493 t494 t495 t496))) = some r := H
      have A26 := aK A260
      clear A260
      replace H := Option.bind_eq_some_iff.mp H
      obtain ⟨t503, A270, H⟩ := H
      replace H : (if t501 = 0 then (gangsawlaw14_BoringTogether.j1 kj5 t499 t502 t503 a0_0 a0_1 a0_2 l0_3 a1_0 a1_1 a1_2 l1_3 t485 t486 t487 t488 t493 t494 t495 t496) else (gangsawlaw14_BoringTogether.j1 kj5 t499 t501 t503 a0_0 a0_1 a0_2 l0_3 a1_0 a1_1 a1_2 l1_3 t485 t486 t487 t488 t493 t494 t495 t496)) = some r := H
      have A27 := aK A270
      clear A270
      have HC28 := aK H
      clear H
      have hnb29 := NB480_481.out
      have hnc29 := NB481_480.out
      have hcz30_0 := zI BK480 0 rfl
      have hcz30_1 := zI BK480 1 rfl
      have hcz30_2 := zI BK480 2 rfl
      have hcz30_3 := zI BK480 3 rfl
      have hfz30_0 := zF BK480.out 0
      have hfz30_1 := zF BK480.out 1
      have hfz30_2 := zF BK480.out 2
      have hfz30_3 := zF BK480.out 3
      have hcz31_0 := zI BK481 0 rfl
      have hcz31_1 := zI BK481 1 rfl
      have hcz31_2 := zI BK481 2 rfl
      have hcz31_3 := zI BK481 3 rfl
      have hfz31_0 := zF BK481.out 0
      have hfz31_1 := zF BK481.out 1
      have hfz31_2 := zF BK481.out 2
      have hfz31_3 := zF BK481.out 3
      try go_wp2_with (first | ((with_reducible refine gate_callee (f := 26) rfl ?_); refine goesL_ (some 32) rfl rfl Tryz.func26 (by kernel_rfl) rfl #[.agg #[.string a0_0, .int .i64 a0_1, .int .i64 a0_2, .slice A0_3 l0_3.length c0_3], .agg #[.string a1_0, .int .i64 a1_1, .int .i64 a1_2, .slice A1_3 l1_3.length c1_3]] rfl (by (try simp only [List.map_toArray, List.map_cons, List.map_nil]); first | done | rfl | (simp only [List.length_drop, List.length_take]; rfl)) ?_; (with_reducible refine (boring_Merge.calls kj5 a0_0 a0_1 a0_2 (fun k_ => k_ < w.heap.size) _ _ l0_3 a1_0 a1_1 a1_2 (fun k_ => k_ < w.heap.size) _ _ l1_3 t485 t486 t487 t488 t491 _ ?side1 ?side2 A22.out).mono ?_); (case side1 => exact Kd.V_mk HC0_3.out (Kd.F_below (Kd.C_F k48_heap HR0_3.out) (by repeat (first | (with_reducible first | exact HB.out | apply yA | apply yN | apply yD | refine yS ?_ GE480.out | refine yS ?_ GE481.out) | exact HB.out)))); (case side2 => exact Kd.V_mk HC1_3.out (Kd.F_below (Kd.C_F k48_heap HR1_3.out) (by repeat (first | (with_reducible first | exact HB.out | apply yA | apply yN | apply yD | refine yS ?_ GE480.out | refine yS ?_ GE481.out) | exact HB.out)))); rintro e w32 ⟨v489, rfl, ho0, hb⟩; refine ⟨_, rfl, ?_⟩; have n0_ := aK (Kd.R_lower (Kd.R_mono (ok' := fun k_ => True) ho0 (fun _ hk_ => trivial)) (yZ (by repeat (first | (with_reducible first | exact HB.out | apply yA | apply yN | apply yD | refine yS ?_ GE480.out | refine yS ?_ GE481.out) | exact HB.out)))); have n1_ := zG BK480 hb (fun h => by (with_reducible repeat (first | refine zN ?_ _ | refine zD ?_ | refine zA ?_ _)); exact h); have n2_ := zG BK481 hb (fun h => by (with_reducible repeat (first | refine zN ?_ _ | refine zD ?_ | refine zA ?_ _)); exact h); have n3_ := aK (yT (by repeat (first | (with_reducible first | exact HB.out | apply yA | apply yN | apply yD | refine yS ?_ GE480.out | refine yS ?_ GE481.out) | exact HB.out)) hb); clear BK480; clear BK481; clear HB; have HO490 := n0_; have BK480 := n1_; have BK481 := n2_; have HB := n3_; clear n0_ n1_ n2_ n3_; (try clear hb); (try clear hb2); (try clear hk); (try clear hi); (try clear ho0)) | ((with_reducible refine gate_dst (N := 7) rfl ?_); (try (refine gate_guard (by rfl) ?_; dsimp only)); refine box_event ?hg (N := 7) ?hd (cs := #[.string (⟨#[]⟩ : ByteArray), .int .i64 0, .int .i64 0, .slice none 0 0]) (t := 33) ?hr ?_; (case hd => rfl); (case hg => rfl); (case hr => first | (go_simp; done) | (go_simp; rfl)); intro gb492 hg w33 hbox hb; have n0_ := aK (Kd.R_below (by (with_reducible repeat (first | apply Kd.R_alloc | apply Kd.R_drewN | apply Kd.R_drew)); exact HO490.out) hb); have n1_ := zG BK480 hb (fun h => by (with_reducible repeat (first | refine zN ?_ _ | refine zD ?_ | refine zA ?_ _)); exact h); have n2_ := zG BK481 hb (fun h => by (with_reducible repeat (first | refine zN ?_ _ | refine zD ?_ | refine zA ?_ _)); exact h); have ⟨n3_, n5_⟩ := zV (w := w) hb hg (by repeat (first | (with_reducible first | exact HB.out | apply yA | apply yN | apply yD | refine yS ?_ GE480.out | refine yS ?_ GE481.out) | exact HB.out)); have n4_ := aK (hbox); have n6_ := n5_; have n7_ := aK ((by rw [hg]; exact Nat.ne_of_lt (blk_lt (g := gb480) (o := .cells #[.string a0_0, .int .i64 a0_1, .int .i64 a0_2, .slice A0_3 l0_3.length c0_3] 33 (0, 0)) (by (with_reducible repeat (first | refine zN ?_ _ | refine zD ?_ | refine zA ?_ _)); exact BK480.out)) : gb480 ≠ gb492)); have n8_ := aK ((by rw [hg]; exact Nat.ne_of_gt (blk_lt (g := gb480) (o := .cells #[.string a0_0, .int .i64 a0_1, .int .i64 a0_2, .slice A0_3 l0_3.length c0_3] 33 (0, 0)) (by (with_reducible repeat (first | refine zN ?_ _ | refine zD ?_ | refine zA ?_ _)); exact BK480.out)) : gb492 ≠ gb480)); have n9_ := aK ((by rw [hg]; exact Nat.ne_of_lt (blk_lt (g := gb481) (o := .cells #[.string a1_0, .int .i64 a1_1, .int .i64 a1_2, .slice A1_3 l1_3.length c1_3] 33 (0, 0)) (by (with_reducible repeat (first | refine zN ?_ _ | refine zD ?_ | refine zA ?_ _)); exact BK481.out)) : gb481 ≠ gb492)); have n10_ := aK ((by rw [hg]; exact Nat.ne_of_gt (blk_lt (g := gb481) (o := .cells #[.string a1_0, .int .i64 a1_1, .int .i64 a1_2, .slice A1_3 l1_3.length c1_3] 33 (0, 0)) (by (with_reducible repeat (first | refine zN ?_ _ | refine zD ?_ | refine zA ?_ _)); exact BK481.out)) : gb492 ≠ gb481)); clear HO490; clear BK480; clear BK481; clear HB; have HO490 := n0_; have BK480 := n1_; have BK481 := n2_; have HB := n3_; have BK492 := n4_; have GW492 := n5_; have GE492 := n6_; have NB480_492 := n7_; have NB492_480 := n8_; have NB481_492 := n9_; have NB492_481 := n10_; clear n0_ n1_ n2_ n3_ n4_ n5_ n6_ n7_ n8_ n9_ n10_; clear hb hbox hg; have hnb34 := NB492_480.out; have hnc34 := NB480_492.out; have hnb35 := NB492_481.out; have hnc35 := NB481_492.out; have hcz36_0 := zI BK492 0 rfl; have hcz36_1 := zI BK492 1 rfl; have hcz36_2 := zI BK492 2 rfl; have hcz36_3 := zI BK492 3 rfl; have hfz36_0 := zF BK492.out 0; have hfz36_1 := zF BK492.out 1; have hfz36_2 := zF BK492.out 2; have hfz36_3 := zF BK492.out 3; obtain ⟨Ao37, co37, eo37⟩ := Kd.R_slice HO490.out; subst eo37) | ((with_reducible refine gate_store (t := 33) (p := 7) rfl ?_); refine store_event (t := 33) (p := 7) (v := ?vo_w38) (w1 := ((((w33.setCell ⟨gb492, 0, none⟩ (.string t485)).setCell ⟨gb492, 1, none⟩ (.int .i64 t486)).setCell ⟨gb492, 2, none⟩ (.int .i64 t487)).setCell ⟨gb492, 3, none⟩ (.slice Ao37 t488.length co37))) ?hg ?ho ?hn ?hr ?_; (case ho => rfl); (case hg => rfl); (case hn => rfl); (case hr => first | (go_simp; done) | (go_simp; rfl)); intro w38 hw; have n0_ : Aside0 (Kd.R k48 48 w38 w.heap.size (fun _ => True) (.slice Ao37 t488.length co37) t488) := ⟨(by rw [hw]; exact (by (with_reducible repeat (first | apply Kd.R_alloc | apply Kd.R_drewN | apply Kd.R_drew)); exact Kd.R_mono (Kd.R_far (p := ⟨gb492, 3, none⟩) (Kd.R_far (p := ⟨gb492, 2, none⟩) (Kd.R_far (p := ⟨gb492, 1, none⟩) (Kd.R_far (p := ⟨gb492, 0, none⟩) (Kd.R_types HO490.out BK492.out (by decide)) (fun _ hk => hk.2) (.string t485)) (fun _ hk => hk.2) (.int .i64 t486)) (fun _ hk => hk.2) (.int .i64 t487)) (fun _ hk => hk.2) (.slice Ao37 t488.length co37)) (fun _ hk => trivial)))⟩; have n1_ : Aside0 (w38.heap[gb480]? = some (.cells #[.string a0_0, .int .i64 a0_1, .int .i64 a0_2, .slice A0_3 l0_3.length c0_3] 33 (0, 0))) := ⟨(by rw [hw]; exact (by (with_reducible repeat (first | refine zN ?_ _ | refine zD ?_ | refine zA ?_ _)); refine blk_far ?_ NB480_492.out _; (with_reducible repeat (first | refine zN ?_ _ | refine zD ?_ | refine zA ?_ _)); refine blk_far ?_ NB480_492.out _; (with_reducible repeat (first | refine zN ?_ _ | refine zD ?_ | refine zA ?_ _)); refine blk_far ?_ NB480_492.out _; (with_reducible repeat (first | refine zN ?_ _ | refine zD ?_ | refine zA ?_ _)); refine blk_far ?_ NB480_492.out _; (with_reducible repeat (first | refine zN ?_ _ | refine zD ?_ | refine zA ?_ _)); exact BK480.out))⟩; have n2_ : Aside0 (w38.heap[gb481]? = some (.cells #[.string a1_0, .int .i64 a1_1, .int .i64 a1_2, .slice A1_3 l1_3.length c1_3] 33 (0, 0))) := ⟨(by rw [hw]; exact (by (with_reducible repeat (first | refine zN ?_ _ | refine zD ?_ | refine zA ?_ _)); refine blk_far ?_ NB481_492.out _; (with_reducible repeat (first | refine zN ?_ _ | refine zD ?_ | refine zA ?_ _)); refine blk_far ?_ NB481_492.out _; (with_reducible repeat (first | refine zN ?_ _ | refine zD ?_ | refine zA ?_ _)); refine blk_far ?_ NB481_492.out _; (with_reducible repeat (first | refine zN ?_ _ | refine zD ?_ | refine zA ?_ _)); refine blk_far ?_ NB481_492.out _; (with_reducible repeat (first | refine zN ?_ _ | refine zD ?_ | refine zA ?_ _)); exact BK481.out))⟩; have n3_ : Aside0 (w38.heap[gb492]? = some (.cells #[.string t485, .int .i64 t486, .int .i64 t487, .slice Ao37 t488.length co37] 33 (0, 0))) := ⟨(by rw [hw]; exact (by (with_reducible repeat (first | refine zN ?_ _ | refine zD ?_ | refine zA ?_ _)); refine blk_put (cs := #[.string t485, .int .i64 t486, .int .i64 t487, .slice none 0 0]) ?_ 3 _ rfl; (with_reducible repeat (first | refine zN ?_ _ | refine zD ?_ | refine zA ?_ _)); refine blk_put (cs := #[.string t485, .int .i64 t486, .int .i64 0, .slice none 0 0]) ?_ 2 _ rfl; (with_reducible repeat (first | refine zN ?_ _ | refine zD ?_ | refine zA ?_ _)); refine blk_put (cs := #[.string t485, .int .i64 0, .int .i64 0, .slice none 0 0]) ?_ 1 _ rfl; (with_reducible repeat (first | refine zN ?_ _ | refine zD ?_ | refine zA ?_ _)); refine blk_put (cs := #[.string (⟨#[]⟩ : ByteArray), .int .i64 0, .int .i64 0, .slice none 0 0]) ?_ 0 _ rfl; (with_reducible repeat (first | refine zN ?_ _ | refine zD ?_ | refine zA ?_ _)); exact BK492.out))⟩; have n4_ : Aside0 (Below w.heap.size w w38) := ⟨(by rw [hw]; exact (by repeat (first | (with_reducible first | exact HB.out | apply yA | apply yN | apply yD | refine yS ?_ GE480.out | refine yS ?_ GE481.out | refine yS ?_ GE492.out) | exact HB.out)))⟩; clear hw; clear HO490; clear BK480; clear BK481; clear BK492; clear HB; have HO490 := n0_; have BK480 := n1_; have BK481 := n2_; have BK492 := n3_; have HB := n4_; clear n0_ n1_ n2_ n3_ n4_; have hcz39_0 := zI BK481 0 rfl; have hcz39_1 := zI BK481 1 rfl; have hcz39_2 := zI BK481 2 rfl; have hcz39_3 := zI BK481 3 rfl; have hfz39_0 := zF BK481.out 0; have hfz39_1 := zF BK481.out 1; have hfz39_2 := zF BK481.out 2; have hfz39_3 := zF BK481.out 3; have hcz40_0 := zI BK480 0 rfl; have hcz40_1 := zI BK480 1 rfl; have hcz40_2 := zI BK480 2 rfl; have hcz40_3 := zI BK480 3 rfl; have hfz40_0 := zF BK480.out 0; have hfz40_1 := zF BK480.out 1; have hfz40_2 := zF BK480.out 2; have hfz40_3 := zF BK480.out 3) | ((with_reducible refine gate_callee (f := 26) rfl ?_); refine goesL_ (some 38) rfl rfl Tryz.func26 (by kernel_rfl) rfl #[.agg #[.string a1_0, .int .i64 a1_1, .int .i64 a1_2, .slice A1_3 l1_3.length c1_3], .agg #[.string a0_0, .int .i64 a0_1, .int .i64 a0_2, .slice A0_3 l0_3.length c0_3]] rfl (by (try simp only [List.map_toArray, List.map_cons, List.map_nil]); first | done | rfl | (simp only [List.length_drop, List.length_take]; rfl)) ?_; (with_reducible refine (boring_Merge.calls kj5 a1_0 a1_1 a1_2 (fun k_ => k_ < w.heap.size) _ _ l1_3 a0_0 a0_1 a0_2 (fun k_ => k_ < w.heap.size) _ _ l0_3 t493 t494 t495 t496 t499 _ ?side1 ?side2 A23.out).mono ?_); (case side1 => exact Kd.V_mk HC1_3.out (Kd.F_below (Kd.C_F k48_heap HR1_3.out) (by repeat (first | (with_reducible first | exact HB.out | apply yA | apply yN | apply yD | refine yS ?_ GE480.out | refine yS ?_ GE481.out | refine yS ?_ GE492.out) | exact HB.out)))); (case side2 => exact Kd.V_mk HC0_3.out (Kd.F_below (Kd.C_F k48_heap HR0_3.out) (by repeat (first | (with_reducible first | exact HB.out | apply yA | apply yN | apply yD | refine yS ?_ GE480.out | refine yS ?_ GE481.out | refine yS ?_ GE492.out) | exact HB.out)))); rintro e w41 ⟨v497, rfl, ho0, hb⟩; refine ⟨_, rfl, ?_⟩; have n0_ := aK (Kd.R_elder' (by (with_reducible repeat (first | apply Kd.R_alloc | apply Kd.R_drewN | apply Kd.R_drew)); exact HO490.out) (Kd.R_base ho0) hb); have n1_ := aK (Kd.R_lower (Kd.R_new' (Kd.R_mono (ok' := fun k_ => True) ho0 (fun _ hk_ => trivial)) (Kd.R_lt (by (with_reducible repeat (first | apply Kd.R_alloc | apply Kd.R_drewN | apply Kd.R_drew)); exact HO490.out))) (yZ (by repeat (first | (with_reducible first | exact HB.out | apply yA | apply yN | apply yD | refine yS ?_ GE480.out | refine yS ?_ GE481.out | refine yS ?_ GE492.out) | exact HB.out)))); have n2_ := zG BK480 hb (fun h => by (with_reducible repeat (first | refine zN ?_ _ | refine zD ?_ | refine zA ?_ _)); exact h); have n3_ := zG BK481 hb (fun h => by (with_reducible repeat (first | refine zN ?_ _ | refine zD ?_ | refine zA ?_ _)); exact h); have n4_ := zG BK492 hb (fun h => by (with_reducible repeat (first | refine zN ?_ _ | refine zD ?_ | refine zA ?_ _)); exact h); have n5_ := aK (yT (by repeat (first | (with_reducible first | exact HB.out | apply yA | apply yN | apply yD | refine yS ?_ GE480.out | refine yS ?_ GE481.out | refine yS ?_ GE492.out) | exact HB.out)) hb); clear HO490; clear BK480; clear BK481; clear BK492; clear HB; have HO490 := n0_; have HO498 := n1_; have BK480 := n2_; have BK481 := n3_; have BK492 := n4_; have HB := n5_; clear n0_ n1_ n2_ n3_ n4_ n5_; (try clear hb); (try clear hb2); (try clear hk); (try clear hi); (try clear ho0)) | ((with_reducible refine gate_dst (N := 9) rfl ?_); (try (refine gate_guard (by rfl) ?_; dsimp only)); refine box_event ?hg (N := 9) ?hd (cs := #[.string (⟨#[]⟩ : ByteArray), .int .i64 0, .int .i64 0, .slice none 0 0]) (t := 33) ?hr ?_; (case hd => rfl); (case hg => rfl); (case hr => first | (go_simp; done) | (go_simp; rfl)); intro gb500 hg w42 hbox hb; have n0_ := aK (Kd.R_below (by (with_reducible repeat (first | apply Kd.R_alloc | apply Kd.R_drewN | apply Kd.R_drew)); exact HO490.out) hb); have n1_ := aK (Kd.R_below (by (with_reducible repeat (first | apply Kd.R_alloc | apply Kd.R_drewN | apply Kd.R_drew)); exact HO498.out) hb); have n2_ := zG BK480 hb (fun h => by (with_reducible repeat (first | refine zN ?_ _ | refine zD ?_ | refine zA ?_ _)); exact h); have n3_ := zG BK481 hb (fun h => by (with_reducible repeat (first | refine zN ?_ _ | refine zD ?_ | refine zA ?_ _)); exact h); have n4_ := zG BK492 hb (fun h => by (with_reducible repeat (first | refine zN ?_ _ | refine zD ?_ | refine zA ?_ _)); exact h); have ⟨n5_, n7_⟩ := zV (w := w) hb hg (by repeat (first | (with_reducible first | exact HB.out | apply yA | apply yN | apply yD | refine yS ?_ GE480.out | refine yS ?_ GE481.out | refine yS ?_ GE492.out) | exact HB.out)); have n6_ := aK (hbox); have n8_ := n7_; have n9_ := aK ((by rw [hg]; exact Nat.ne_of_lt (blk_lt (g := gb480) (o := .cells #[.string a0_0, .int .i64 a0_1, .int .i64 a0_2, .slice A0_3 l0_3.length c0_3] 33 (0, 0)) (by (with_reducible repeat (first | refine zN ?_ _ | refine zD ?_ | refine zA ?_ _)); exact BK480.out)) : gb480 ≠ gb500)); have n10_ := aK ((by rw [hg]; exact Nat.ne_of_gt (blk_lt (g := gb480) (o := .cells #[.string a0_0, .int .i64 a0_1, .int .i64 a0_2, .slice A0_3 l0_3.length c0_3] 33 (0, 0)) (by (with_reducible repeat (first | refine zN ?_ _ | refine zD ?_ | refine zA ?_ _)); exact BK480.out)) : gb500 ≠ gb480)); have n11_ := aK ((by rw [hg]; exact Nat.ne_of_lt (blk_lt (g := gb481) (o := .cells #[.string a1_0, .int .i64 a1_1, .int .i64 a1_2, .slice A1_3 l1_3.length c1_3] 33 (0, 0)) (by (with_reducible repeat (first | refine zN ?_ _ | refine zD ?_ | refine zA ?_ _)); exact BK481.out)) : gb481 ≠ gb500)); have n12_ := aK ((by rw [hg]; exact Nat.ne_of_gt (blk_lt (g := gb481) (o := .cells #[.string a1_0, .int .i64 a1_1, .int .i64 a1_2, .slice A1_3 l1_3.length c1_3] 33 (0, 0)) (by (with_reducible repeat (first | refine zN ?_ _ | refine zD ?_ | refine zA ?_ _)); exact BK481.out)) : gb500 ≠ gb481)); have n13_ := aK ((by rw [hg]; exact Nat.ne_of_lt (blk_lt (g := gb492) (o := .cells #[.string t485, .int .i64 t486, .int .i64 t487, .slice Ao37 t488.length co37] 33 (0, 0)) (by (with_reducible repeat (first | refine zN ?_ _ | refine zD ?_ | refine zA ?_ _)); exact BK492.out)) : gb492 ≠ gb500)); have n14_ := aK ((by rw [hg]; exact Nat.ne_of_gt (blk_lt (g := gb492) (o := .cells #[.string t485, .int .i64 t486, .int .i64 t487, .slice Ao37 t488.length co37] 33 (0, 0)) (by (with_reducible repeat (first | refine zN ?_ _ | refine zD ?_ | refine zA ?_ _)); exact BK492.out)) : gb500 ≠ gb492)); clear HO490; clear HO498; clear BK480; clear BK481; clear BK492; clear HB; have HO490 := n0_; have HO498 := n1_; have BK480 := n2_; have BK481 := n3_; have BK492 := n4_; have HB := n5_; have BK500 := n6_; have GW500 := n7_; have GE500 := n8_; have NB480_500 := n9_; have NB500_480 := n10_; have NB481_500 := n11_; have NB500_481 := n12_; have NB492_500 := n13_; have NB500_492 := n14_; clear n0_ n1_ n2_ n3_ n4_ n5_ n6_ n7_ n8_ n9_ n10_ n11_ n12_ n13_ n14_; clear hb hbox hg; have hnb43 := NB500_480.out; have hnc43 := NB480_500.out; have hnb44 := NB500_481.out; have hnc44 := NB481_500.out; have hnb45 := NB500_492.out; have hnc45 := NB492_500.out; have hcz46_0 := zI BK500 0 rfl; have hcz46_1 := zI BK500 1 rfl; have hcz46_2 := zI BK500 2 rfl; have hcz46_3 := zI BK500 3 rfl; have hfz46_0 := zF BK500.out 0; have hfz46_1 := zF BK500.out 1; have hfz46_2 := zF BK500.out 2; have hfz46_3 := zF BK500.out 3; obtain ⟨Ao47, co47, eo47⟩ := Kd.R_slice HO498.out; subst eo47))
      have n0_ : Aside0 (Kd.R k48 48 ((((w42.setCell ⟨gb500, 0, none⟩ (.string t493)).setCell ⟨gb500, 1, none⟩ (.int .i64 t494)).setCell ⟨gb500, 2, none⟩ (.int .i64 t495)).setCell ⟨gb500, 3, none⟩ (.slice Ao47 t496.length co47)) w.heap.size (fun k_ => some k_ ≠ (.slice Ao47 t496.length co47 : Value).ownBlock) (.slice Ao37 t488.length co37) t488) := ⟨by (with_reducible repeat (first | apply Kd.R_alloc | apply Kd.R_drewN | apply Kd.R_drew)); exact Kd.R_mono (Kd.R_far (p := ⟨gb500, 3, none⟩) (Kd.R_far (p := ⟨gb500, 2, none⟩) (Kd.R_far (p := ⟨gb500, 1, none⟩) (Kd.R_far (p := ⟨gb500, 0, none⟩) (Kd.R_types HO490.out BK500.out (by decide)) (fun _ hk => hk.2) (.string t493)) (fun _ hk => hk.2) (.int .i64 t494)) (fun _ hk => hk.2) (.int .i64 t495)) (fun _ hk => hk.2) (.slice Ao47 t496.length co47)) (fun _ hk => hk.1.2)⟩
      have n1_ : Aside0 (Kd.R k48 48 ((((w42.setCell ⟨gb500, 0, none⟩ (.string t493)).setCell ⟨gb500, 1, none⟩ (.int .i64 t494)).setCell ⟨gb500, 2, none⟩ (.int .i64 t495)).setCell ⟨gb500, 3, none⟩ (.slice Ao47 t496.length co47)) w.heap.size (fun k_ => some k_ ≠ (.slice Ao37 t488.length co37 : Value).ownBlock) (.slice Ao47 t496.length co47) t496) := ⟨by (with_reducible repeat (first | apply Kd.R_alloc | apply Kd.R_drewN | apply Kd.R_drew)); exact Kd.R_mono (Kd.R_far (p := ⟨gb500, 3, none⟩) (Kd.R_far (p := ⟨gb500, 2, none⟩) (Kd.R_far (p := ⟨gb500, 1, none⟩) (Kd.R_far (p := ⟨gb500, 0, none⟩) (Kd.R_types HO498.out BK500.out (by decide)) (fun _ hk => hk.2) (.string t493)) (fun _ hk => hk.2) (.int .i64 t494)) (fun _ hk => hk.2) (.int .i64 t495)) (fun _ hk => hk.2) (.slice Ao47 t496.length co47)) (fun _ hk => hk.1.2)⟩
      have n2_ : Aside0 (((((w42.setCell ⟨gb500, 0, none⟩ (.string t493)).setCell ⟨gb500, 1, none⟩ (.int .i64 t494)).setCell ⟨gb500, 2, none⟩ (.int .i64 t495)).setCell ⟨gb500, 3, none⟩ (.slice Ao47 t496.length co47)).heap[gb480]? = some (.cells #[.string a0_0, .int .i64 a0_1, .int .i64 a0_2, .slice A0_3 l0_3.length c0_3] 33 (0, 0))) := ⟨by (with_reducible repeat (first | refine zN ?_ _ | refine zD ?_ | refine zA ?_ _)); refine blk_far ?_ NB480_500.out _; (with_reducible repeat (first | refine zN ?_ _ | refine zD ?_ | refine zA ?_ _)); refine blk_far ?_ NB480_500.out _; (with_reducible repeat (first | refine zN ?_ _ | refine zD ?_ | refine zA ?_ _)); refine blk_far ?_ NB480_500.out _; (with_reducible repeat (first | refine zN ?_ _ | refine zD ?_ | refine zA ?_ _)); refine blk_far ?_ NB480_500.out _; (with_reducible repeat (first | refine zN ?_ _ | refine zD ?_ | refine zA ?_ _)); exact BK480.out⟩
      have n3_ : Aside0 (((((w42.setCell ⟨gb500, 0, none⟩ (.string t493)).setCell ⟨gb500, 1, none⟩ (.int .i64 t494)).setCell ⟨gb500, 2, none⟩ (.int .i64 t495)).setCell ⟨gb500, 3, none⟩ (.slice Ao47 t496.length co47)).heap[gb481]? = some (.cells #[.string a1_0, .int .i64 a1_1, .int .i64 a1_2, .slice A1_3 l1_3.length c1_3] 33 (0, 0))) := ⟨by (with_reducible repeat (first | refine zN ?_ _ | refine zD ?_ | refine zA ?_ _)); refine blk_far ?_ NB481_500.out _; (with_reducible repeat (first | refine zN ?_ _ | refine zD ?_ | refine zA ?_ _)); refine blk_far ?_ NB481_500.out _; (with_reducible repeat (first | refine zN ?_ _ | refine zD ?_ | refine zA ?_ _)); refine blk_far ?_ NB481_500.out _; (with_reducible repeat (first | refine zN ?_ _ | refine zD ?_ | refine zA ?_ _)); refine blk_far ?_ NB481_500.out _; (with_reducible repeat (first | refine zN ?_ _ | refine zD ?_ | refine zA ?_ _)); exact BK481.out⟩
      have n4_ : Aside0 (((((w42.setCell ⟨gb500, 0, none⟩ (.string t493)).setCell ⟨gb500, 1, none⟩ (.int .i64 t494)).setCell ⟨gb500, 2, none⟩ (.int .i64 t495)).setCell ⟨gb500, 3, none⟩ (.slice Ao47 t496.length co47)).heap[gb492]? = some (.cells #[.string t485, .int .i64 t486, .int .i64 t487, .slice Ao37 t488.length co37] 33 (0, 0))) := ⟨by (with_reducible repeat (first | refine zN ?_ _ | refine zD ?_ | refine zA ?_ _)); refine blk_far ?_ NB492_500.out _; (with_reducible repeat (first | refine zN ?_ _ | refine zD ?_ | refine zA ?_ _)); refine blk_far ?_ NB492_500.out _; (with_reducible repeat (first | refine zN ?_ _ | refine zD ?_ | refine zA ?_ _)); refine blk_far ?_ NB492_500.out _; (with_reducible repeat (first | refine zN ?_ _ | refine zD ?_ | refine zA ?_ _)); refine blk_far ?_ NB492_500.out _; (with_reducible repeat (first | refine zN ?_ _ | refine zD ?_ | refine zA ?_ _)); exact BK492.out⟩
      have n5_ : Aside0 (((((w42.setCell ⟨gb500, 0, none⟩ (.string t493)).setCell ⟨gb500, 1, none⟩ (.int .i64 t494)).setCell ⟨gb500, 2, none⟩ (.int .i64 t495)).setCell ⟨gb500, 3, none⟩ (.slice Ao47 t496.length co47)).heap[gb500]? = some (.cells #[.string t493, .int .i64 t494, .int .i64 t495, .slice Ao47 t496.length co47] 33 (0, 0))) := ⟨by (with_reducible repeat (first | refine zN ?_ _ | refine zD ?_ | refine zA ?_ _)); refine blk_put (cs := #[.string t493, .int .i64 t494, .int .i64 t495, .slice none 0 0]) ?_ 3 _ rfl; (with_reducible repeat (first | refine zN ?_ _ | refine zD ?_ | refine zA ?_ _)); refine blk_put (cs := #[.string t493, .int .i64 t494, .int .i64 0, .slice none 0 0]) ?_ 2 _ rfl; (with_reducible repeat (first | refine zN ?_ _ | refine zD ?_ | refine zA ?_ _)); refine blk_put (cs := #[.string t493, .int .i64 0, .int .i64 0, .slice none 0 0]) ?_ 1 _ rfl; (with_reducible repeat (first | refine zN ?_ _ | refine zD ?_ | refine zA ?_ _)); refine blk_put (cs := #[.string (⟨#[]⟩ : ByteArray), .int .i64 0, .int .i64 0, .slice none 0 0]) ?_ 0 _ rfl; (with_reducible repeat (first | refine zN ?_ _ | refine zD ?_ | refine zA ?_ _)); exact BK500.out⟩
      have n6_ : Aside0 (Below w.heap.size w ((((w42.setCell ⟨gb500, 0, none⟩ (.string t493)).setCell ⟨gb500, 1, none⟩ (.int .i64 t494)).setCell ⟨gb500, 2, none⟩ (.int .i64 t495)).setCell ⟨gb500, 3, none⟩ (.slice Ao47 t496.length co47))) := ⟨by repeat (first | (with_reducible first | exact HB.out | apply yA | apply yN | apply yD | refine yS ?_ GE480.out | refine yS ?_ GE481.out | refine yS ?_ GE492.out | refine yS ?_ GE500.out) | exact HB.out)⟩
      (try clear HO490)
      (try clear HO498)
      (try clear BK480)
      (try clear BK481)
      (try clear BK492)
      (try clear BK500)
      (try clear HB)
      generalize ((((w42.setCell ⟨gb500, 0, none⟩ (.string t493)).setCell ⟨gb500, 1, none⟩ (.int .i64 t494)).setCell ⟨gb500, 2, none⟩ (.int .i64 t495)).setCell ⟨gb500, 3, none⟩ (.slice Ao47 t496.length co47)) = w48 at n0_ n1_ n2_ n3_ n4_ n5_ n6_ ⊢
      have HO490 := n0_
      have HO498 := n1_
      have BK480 := n2_
      have BK481 := n3_
      have BK492 := n4_
      have BK500 := n5_
      have HB := n6_
      clear n0_ n1_ n2_ n3_ n4_ n5_ n6_
      have n0_ := aK (Kd.R_drew HO490.out)
      have n1_ := aK (Kd.R_drew HO498.out)
      have n2_ := aK (zD BK480.out)
      have n3_ := aK (zD BK481.out)
      have n4_ := aK (zD BK492.out)
      have n5_ := aK (zD BK500.out)
      have n6_ := aK (yD HB.out)
      clear HO490
      clear HO498
      clear BK480
      clear BK481
      clear BK492
      clear BK500
      clear HB
      have HO490 := n0_
      have HO498 := n1_
      have BK480 := n2_
      have BK481 := n3_
      have BK492 := n4_
      have BK500 := n5_
      have HB := n6_
      clear n0_ n1_ n2_ n3_ n4_ n5_ n6_
      refine start_ (n := 12) (S := fun w' => w'.cell? ⟨gb480, 0, none⟩ = some (.string a0_0) ∧ w'.cell? ⟨gb480, 1, none⟩ = some (.int .i64 a0_1) ∧ w'.cell? ⟨gb480, 2, none⟩ = some (.int .i64 a0_2) ∧ w'.cell? ⟨gb480, 3, none⟩ = some (.slice A0_3 l0_3.length c0_3) ∧ w'.cell? ⟨gb481, 0, none⟩ = some (.string a1_0) ∧ w'.cell? ⟨gb481, 1, none⟩ = some (.int .i64 a1_1) ∧ w'.cell? ⟨gb481, 2, none⟩ = some (.int .i64 a1_2) ∧ w'.cell? ⟨gb481, 3, none⟩ = some (.slice A1_3 l1_3.length c1_3) ∧ w'.cell? ⟨gb492, 0, none⟩ = some (.string t485) ∧ w'.cell? ⟨gb492, 1, none⟩ = some (.int .i64 t486) ∧ w'.cell? ⟨gb492, 2, none⟩ = some (.int .i64 t487) ∧ w'.cell? ⟨gb492, 3, none⟩ = some (.slice Ao37 t488.length co37)) (ds := []) #[false, false, false, false, false, false, false, false, false, false, false, false] (by kernel_rfl) rfl rfl ⟨(zC BK480.out 0).trans rfl, (zC BK480.out 1).trans rfl, (zC BK480.out 2).trans rfl, (zC BK480.out 3).trans rfl, (zC BK481.out 0).trans rfl, (zC BK481.out 1).trans rfl, (zC BK481.out 2).trans rfl, (zC BK481.out 3).trans rfl, (zC BK492.out 0).trans rfl, (zC BK492.out 1).trans rfl, (zC BK492.out 2).trans rfl, (zC BK492.out 3).trans rfl⟩ (fun hHeld => ?_); refine with_tabW gangsawlaw14_BoringTogether.tab9 gangsawlaw14_BoringTogether.bits9 (fun HT_ HW_ => ?_)
      generalize w48.drew = w49 at HO490 HO498 BK480 BK481 BK492 BK500 HB hHeld ⊢
      refine pure_ (i := 1) (N := some 52) (v := ?_) (a' := ?_) #[false, true, false, false, false, false, false, false, false, false, false, false] rfl rfl (any_of HT_.out (by kernel_rfl)) (fun _ _ _ h => h) (Or.inl ⟨by rfl, ?_⟩) ?_ ?_
      rotate_left
      ·intro w'
       go_simp
       with_reducible rfl
      rotate_left
      ·simp only [Act.put, sA, sZ, sS, i64_w, i32_w]
       rfl
      refine pure_ (i := 4) (N := some 55) (v := ?_) (a' := ?_) #[false, true, false, false, true, false, false, false, false, false, false, false] rfl rfl (any_of HT_.out (by kernel_rfl)) (fun _ _ _ h => h) (Or.inl ⟨by rfl, ?_⟩) ?_ ?_
      rotate_left
      ·intro w'
       go_simp
       with_reducible rfl
      rotate_left
      ·simp only [Act.put, sA, sZ, sS, i64_w, i32_w]
       rfl
      refine pure_ (i := 7) (N := some 58) (v := ?_) (a' := ?_) #[false, true, false, false, true, false, false, true, false, false, false, false] rfl rfl (any_of HT_.out (by kernel_rfl)) (fun _ _ _ h => h) (Or.inl ⟨by rfl, ?_⟩) ?_ ?_
      rotate_left
      ·intro w'
       go_simp
       with_reducible rfl
      rotate_left
      ·simp only [Act.put, sA, sZ, sS, i64_w, i32_w]
       rfl
      refine take_ (i := 0) (N := some 51) (v := ?_) (a' := ?_) #[true, true, false, false, true, false, false, true, false, false, false, false] rfl rfl (take_ofW HT_.out HW_.out (by kernel_rfl)) (fun _ _ _ h => h) (Or.inl ⟨by rfl, ?_⟩) hHeld ?_ ?_
      rotate_left
      ·rintro w' ⟨s0, s1, s2, s3, s4, s5, s6, s7, s8, s9, s10, s11⟩
       go_simp
       with_reducible rfl
      rotate_left
      ·simp only [Act.put, sA, sZ, sS, i64_w, i32_w]
       rfl
      refine take_ (i := 3) (N := some 54) (v := ?_) (a' := ?_) #[true, true, false, true, true, false, false, true, false, false, false, false] rfl rfl (take_ofW HT_.out HW_.out (by kernel_rfl)) (fun _ _ _ h => h) (Or.inl ⟨by rfl, ?_⟩) hHeld ?_ ?_
      rotate_left
      ·rintro w' ⟨s0, s1, s2, s3, s4, s5, s6, s7, s8, s9, s10, s11⟩
       go_simp
       with_reducible rfl
      rotate_left
      ·simp only [Act.put, sA, sZ, sS, i64_w, i32_w]
       rfl
      refine take_ (i := 6) (N := some 57) (v := ?_) (a' := ?_) #[true, true, false, true, true, false, true, true, false, false, false, false] rfl rfl (take_ofW HT_.out HW_.out (by kernel_rfl)) (fun _ _ _ h => h) (Or.inl ⟨by rfl, ?_⟩) hHeld ?_ ?_
      rotate_left
      ·rintro w' ⟨s0, s1, s2, s3, s4, s5, s6, s7, s8, s9, s10, s11⟩
       go_simp
       with_reducible rfl
      rotate_left
      ·simp only [Act.put, sA, sZ, sS, i64_w, i32_w]
       rfl
      refine one_ (i := 2) (N := some 53) #[true, true, true, true, true, false, true, true, false, false, false, false] rfl rfl (one_of HT_.out (by kernel_rfl)) (by decide) (fun K hK => ?_)
      refine goes_ Tryz.func21 (by kernel_rfl) rfl #[.agg #[.string a0_0, .int .i64 a0_1, .int .i64 a0_2, .slice A0_3 l0_3.length c0_3], .int .i64 a2] (by rfl) rfl rfl (by (try simp only [List.map_toArray, List.map_cons, List.map_nil]); first | done | rfl | (simp only [List.length_drop, List.length_take]; rfl)) ?_
      with_reducible refine (boring_State.calls kj5 a0_0 a0_1 a0_2 _ _ l0_3 a2 t501 _ ?side1 ?side2 A25.out).mono ?_
      (case side1 => repeat (first | exact (Kd.C_below HR0_3.out HB.out) | (with_reducible refine Kd.C_alloc ?_ _) | (with_reducible refine Kd.C_drewN ?_ _) | (with_reducible refine Kd.C_drew ?_)))
      (case side2 => exact HC0_3.out)
      rintro e w50 ⟨rfl, hb⟩
      refine ⟨_, rfl, ?_⟩
      have n0_ := aK (Kd.R_below (by (with_reducible repeat (first | apply Kd.R_alloc | apply Kd.R_drewN | apply Kd.R_drew)); exact HO490.out) hb)
      have n1_ := aK (Kd.R_below (by (with_reducible repeat (first | apply Kd.R_alloc | apply Kd.R_drewN | apply Kd.R_drew)); exact HO498.out) hb)
      have n2_ := zG BK480 hb (fun h => by (with_reducible repeat (first | refine zN ?_ _ | refine zD ?_ | refine zA ?_ _)); exact h)
      have n3_ := zG BK481 hb (fun h => by (with_reducible repeat (first | refine zN ?_ _ | refine zD ?_ | refine zA ?_ _)); exact h)
      have n4_ := zG BK492 hb (fun h => by (with_reducible repeat (first | refine zN ?_ _ | refine zD ?_ | refine zA ?_ _)); exact h)
      have n5_ := zG BK500 hb (fun h => by (with_reducible repeat (first | refine zN ?_ _ | refine zD ?_ | refine zA ?_ _)); exact h)
      have n6_ := aK (yT (by repeat (first | (with_reducible first | exact HB.out | apply yA | apply yN | apply yD | refine yS ?_ GE480.out | refine yS ?_ GE481.out | refine yS ?_ GE492.out | refine yS ?_ GE500.out) | exact HB.out)) hb)
      clear HO490
      clear HO498
      clear BK480
      clear BK481
      clear BK492
      clear BK500
      clear HB
      have HO490 := n0_
      have HO498 := n1_
      have BK480 := n2_
      have BK481 := n3_
      have BK492 := n4_
      have BK500 := n5_
      have HB := n6_
      clear n0_ n1_ n2_ n3_ n4_ n5_ n6_
      (try clear hb)
      (try clear hb2)
      (try clear hk)
      (try clear hi)
      refine hK.out _ _ ⟨(zC BK480.out 0).trans rfl, (zC BK480.out 1).trans rfl, (zC BK480.out 2).trans rfl, (zC BK480.out 3).trans rfl, (zC BK481.out 0).trans rfl, (zC BK481.out 1).trans rfl, (zC BK481.out 2).trans rfl, (zC BK481.out 3).trans rfl, (zC BK492.out 0).trans rfl, (zC BK492.out 1).trans rfl, (zC BK492.out 2).trans rfl, (zC BK492.out 3).trans rfl⟩ (fun hHeld => ?_)
      clear hK K
      refine norm_ (a' := ?_) ?_ ?_
      rotate_left
      ·show Act.put _ (some 53) _ = _
       simp only [Act.put, sA, sZ, sS, i64_w, i32_w]
       rfl
      refine one_ (i := 5) (N := some 56) #[true, true, true, true, true, true, true, true, false, false, false, false] rfl rfl (one_of HT_.out (by kernel_rfl)) (by decide) (fun K hK => ?_)
      refine goes_ Tryz.func21 (by kernel_rfl) rfl #[.agg #[.string a1_0, .int .i64 a1_1, .int .i64 a1_2, .slice A1_3 l1_3.length c1_3], .int .i64 a2] (by rfl) rfl rfl (by (try simp only [List.map_toArray, List.map_cons, List.map_nil]); first | done | rfl | (simp only [List.length_drop, List.length_take]; rfl)) ?_
      with_reducible refine (boring_State.calls kj5 a1_0 a1_1 a1_2 _ _ l1_3 a2 t502 _ ?side1 ?side2 A26.out).mono ?_
      (case side1 => repeat (first | exact (Kd.C_below HR1_3.out HB.out) | (with_reducible refine Kd.C_alloc ?_ _) | (with_reducible refine Kd.C_drewN ?_ _) | (with_reducible refine Kd.C_drew ?_)))
      (case side2 => exact HC1_3.out)
      rintro e w51 ⟨rfl, hb⟩
      refine ⟨_, rfl, ?_⟩
      have n0_ := aK (Kd.R_below (by (with_reducible repeat (first | apply Kd.R_alloc | apply Kd.R_drewN | apply Kd.R_drew)); exact HO490.out) hb)
      have n1_ := aK (Kd.R_below (by (with_reducible repeat (first | apply Kd.R_alloc | apply Kd.R_drewN | apply Kd.R_drew)); exact HO498.out) hb)
      have n2_ := zG BK480 hb (fun h => by (with_reducible repeat (first | refine zN ?_ _ | refine zD ?_ | refine zA ?_ _)); exact h)
      have n3_ := zG BK481 hb (fun h => by (with_reducible repeat (first | refine zN ?_ _ | refine zD ?_ | refine zA ?_ _)); exact h)
      have n4_ := zG BK492 hb (fun h => by (with_reducible repeat (first | refine zN ?_ _ | refine zD ?_ | refine zA ?_ _)); exact h)
      have n5_ := zG BK500 hb (fun h => by (with_reducible repeat (first | refine zN ?_ _ | refine zD ?_ | refine zA ?_ _)); exact h)
      have n6_ := aK (yT (by repeat (first | (with_reducible first | exact HB.out | apply yA | apply yN | apply yD | refine yS ?_ GE480.out | refine yS ?_ GE481.out | refine yS ?_ GE492.out | refine yS ?_ GE500.out) | exact HB.out)) hb)
      clear HO490
      clear HO498
      clear BK480
      clear BK481
      clear BK492
      clear BK500
      clear HB
      have HO490 := n0_
      have HO498 := n1_
      have BK480 := n2_
      have BK481 := n3_
      have BK492 := n4_
      have BK500 := n5_
      have HB := n6_
      clear n0_ n1_ n2_ n3_ n4_ n5_ n6_
      (try clear hb)
      (try clear hb2)
      (try clear hk)
      (try clear hi)
      refine hK.out _ _ ⟨(zC BK480.out 0).trans rfl, (zC BK480.out 1).trans rfl, (zC BK480.out 2).trans rfl, (zC BK480.out 3).trans rfl, (zC BK481.out 0).trans rfl, (zC BK481.out 1).trans rfl, (zC BK481.out 2).trans rfl, (zC BK481.out 3).trans rfl, (zC BK492.out 0).trans rfl, (zC BK492.out 1).trans rfl, (zC BK492.out 2).trans rfl, (zC BK492.out 3).trans rfl⟩ (fun hHeld => ?_)
      clear hK K
      refine norm_ (a' := ?_) ?_ ?_
      rotate_left
      ·show Act.put _ (some 56) _ = _
       simp only [Act.put, sA, sZ, sS, i64_w, i32_w]
       rfl
      refine one_ (i := 8) (N := some 59) #[true, true, true, true, true, true, true, true, true, false, false, false] rfl rfl (one_of HT_.out (by kernel_rfl)) (by decide) (fun K hK => ?_)
      refine goes_ Tryz.func21 (by kernel_rfl) rfl #[.agg #[.string t485, .int .i64 t486, .int .i64 t487, .slice Ao37 t488.length co37], .int .i64 a2] (by rfl) rfl rfl (by (try simp only [List.map_toArray, List.map_cons, List.map_nil]); first | done | rfl | (simp only [List.length_drop, List.length_take]; rfl)) ?_
      with_reducible refine (boring_State.calls kj5 t485 t486 t487 _ _ t488 a2 t503 _ ?side1 ?side2 A27.out).mono ?_
      (case side1 => repeat (first | exact (Kd.R_reads' HO490.out).2.2 | (with_reducible refine Kd.C_alloc ?_ _) | (with_reducible refine Kd.C_drewN ?_ _) | (with_reducible refine Kd.C_drew ?_)))
      (case side2 => exact (Kd.R_reads' HO490.out).2.1)
      rintro e w52 ⟨rfl, hb⟩
      refine ⟨_, rfl, ?_⟩
      have n0_ := aK (Kd.R_below (by (with_reducible repeat (first | apply Kd.R_alloc | apply Kd.R_drewN | apply Kd.R_drew)); exact HO490.out) hb)
      have n1_ := aK (Kd.R_below (by (with_reducible repeat (first | apply Kd.R_alloc | apply Kd.R_drewN | apply Kd.R_drew)); exact HO498.out) hb)
      have n2_ := zG BK480 hb (fun h => by (with_reducible repeat (first | refine zN ?_ _ | refine zD ?_ | refine zA ?_ _)); exact h)
      have n3_ := zG BK481 hb (fun h => by (with_reducible repeat (first | refine zN ?_ _ | refine zD ?_ | refine zA ?_ _)); exact h)
      have n4_ := zG BK492 hb (fun h => by (with_reducible repeat (first | refine zN ?_ _ | refine zD ?_ | refine zA ?_ _)); exact h)
      have n5_ := zG BK500 hb (fun h => by (with_reducible repeat (first | refine zN ?_ _ | refine zD ?_ | refine zA ?_ _)); exact h)
      have n6_ := aK (yT (by repeat (first | (with_reducible first | exact HB.out | apply yA | apply yN | apply yD | refine yS ?_ GE480.out | refine yS ?_ GE481.out | refine yS ?_ GE492.out | refine yS ?_ GE500.out) | exact HB.out)) hb)
      clear HO490
      clear HO498
      clear BK480
      clear BK481
      clear BK492
      clear BK500
      clear HB
      have HO490 := n0_
      have HO498 := n1_
      have BK480 := n2_
      have BK481 := n3_
      have BK492 := n4_
      have BK500 := n5_
      have HB := n6_
      clear n0_ n1_ n2_ n3_ n4_ n5_ n6_
      (try clear hb)
      (try clear hb2)
      (try clear hk)
      (try clear hi)
      refine hK.out _ _ ⟨(zC BK480.out 0).trans rfl, (zC BK480.out 1).trans rfl, (zC BK480.out 2).trans rfl, (zC BK480.out 3).trans rfl, (zC BK481.out 0).trans rfl, (zC BK481.out 1).trans rfl, (zC BK481.out 2).trans rfl, (zC BK481.out 3).trans rfl, (zC BK492.out 0).trans rfl, (zC BK492.out 1).trans rfl, (zC BK492.out 2).trans rfl, (zC BK492.out 3).trans rfl⟩ (fun hHeld => ?_)
      clear hK K
      refine norm_ (a' := ?_) ?_ ?_
      rotate_left
      ·show Act.put _ (some 59) _ = _
       simp only [Act.put, sA, sZ, sS, i64_w, i32_w]
       rfl
      refine pure_ (i := 9) (N := some 11) (v := ?_) (a' := ?_) #[true, true, true, true, true, true, true, true, true, true, false, false] rfl rfl (any_of HT_.out (by kernel_rfl)) (fun _ _ _ h => h) (Or.inl ⟨by rfl, ?_⟩) ?_ ?_
      rotate_left
      ·intro w'
       go_simp
       with_reducible rfl
      rotate_left
      ·simp only [Act.put, sA, sZ, sS, i64_w, i32_w]
       rfl
      refine pure_ (i := 10) (N := some 12) (v := ?_) (a' := ?_) #[true, true, true, true, true, true, true, true, true, true, true, false] rfl rfl (any_of HT_.out (by kernel_rfl)) (fun _ _ _ h => h) (Or.inl ⟨by rfl, ?_⟩) ?_ ?_
      rotate_left
      ·intro w'
       go_simp
       with_reducible rfl
      rotate_left
      ·simp only [Act.put, sA, sZ, sS, i64_w, i32_w]
       rfl
      refine pure_ (i := 11) (N := some 13) (v := ?_) (a' := ?_) #[true, true, true, true, true, true, true, true, true, true, true, true] rfl rfl (any_of HT_.out (by kernel_rfl)) (fun _ _ _ h => h) (Or.inl ⟨by rfl, ?_⟩) ?_ ?_
      rotate_left
      ·intro w'
       go_simp
       with_reducible rfl
      rotate_left
      ·simp only [Act.put, sA, sZ, sS, i64_w, i32_w]
       rfl
      refine done_ (done_of HT_.out (by kernel_rfl)) ?_
      go_upto_if 61 with (fail)
      go_cut [11] (fun v11 wc => ∃ (kq : Nat) (x11_27 : Int), v11 = .int .i64 x11_27 ∧ Aside0 (gangsawlaw14_BoringTogether.j1 kq t499 x11_27 t503 a0_0 a0_1 a0_2 l0_3 a1_0 a1_1 a1_2 l1_3 t485 t486 t487 t488 t493 t494 t495 t496 = some r) ∧ Aside0 (kq ≤ kj5) ∧ Aside0 (Kd.R k48 48 wc w.heap.size (fun k_ => some k_ ≠ ((.slice Ao47 t496.length co47) : Value).ownBlock) (.slice Ao37 t488.length co37) t488) ∧ Aside0 (Kd.R k48 48 wc w.heap.size (fun k_ => some k_ ≠ ((.slice Ao37 t488.length co37) : Value).ownBlock) (.slice Ao47 t496.length co47) t496) ∧ Aside0 (wc.heap[gb480]? = some (.cells #[.string a0_0, .int .i64 a0_1, .int .i64 a0_2, (.slice A0_3 l0_3.length c0_3)] 33 (0, 0))) ∧ Aside0 (wc.heap[gb481]? = some (.cells #[.string a1_0, .int .i64 a1_1, .int .i64 a1_2, (.slice A1_3 l1_3.length c1_3)] 33 (0, 0))) ∧ Aside0 (wc.heap[gb492]? = some (.cells #[.string t485, .int .i64 t486, .int .i64 t487, (.slice Ao37 t488.length co37)] 33 (0, 0))) ∧ Aside0 (wc.heap[gb500]? = some (.cells #[.string t493, .int .i64 t494, .int .i64 t495, (.slice Ao47 t496.length co47)] 33 (0, 0))) ∧ Aside0 (Below w.heap.size w wc))
      case first =>
       have H := HC28.out
       clear HC28
       by_cases c53 : t501 = 0
       ·rw [if_pos c53] at H
        have c53b0 : (t501 == 0) = true := beq_iff_eq.mpr c53
        have c53b1 : (t501 != 0) = false := bne_eq_false_iff_eq.mpr c53
        clear c53
        (first | rw [c53b0] | (simp only [i64_w, i32_w]; rw [c53b0]) | skip)
        have H' := aK H
        clear H
        go_wp2
        go_meet
        case rel => exact ⟨_, (t502), (by first | rfl | (simp; done) | (simp [*]; done)), H', ⟨by have := HJ5.out; first | omega | exact Nat.le_refl _⟩, ⟨by (with_reducible repeat (first | apply Kd.R_alloc | apply Kd.R_drewN | apply Kd.R_drew)); exact HO490.out⟩, ⟨by (with_reducible repeat (first | apply Kd.R_alloc | apply Kd.R_drewN | apply Kd.R_drew)); exact HO498.out⟩, ⟨by (with_reducible repeat (first | refine zN ?_ _ | refine zD ?_ | refine zA ?_ _)); exact BK480.out⟩, ⟨by (with_reducible repeat (first | refine zN ?_ _ | refine zD ?_ | refine zA ?_ _)); exact BK481.out⟩, ⟨by (with_reducible repeat (first | refine zN ?_ _ | refine zD ?_ | refine zA ?_ _)); exact BK492.out⟩, ⟨by (with_reducible repeat (first | refine zN ?_ _ | refine zD ?_ | refine zA ?_ _)); exact BK500.out⟩, ⟨by repeat (first | (with_reducible first | exact HB.out | apply yA | apply yN | apply yD | refine yS ?_ GE480.out | refine yS ?_ GE481.out | refine yS ?_ GE492.out | refine yS ?_ GE500.out) | exact HB.out)⟩⟩
       ·rw [if_neg c53] at H
        have c53b0 : (t501 == 0) = false := beq_eq_false_iff_ne.mpr c53
        have c53b1 : (t501 != 0) = true := bne_iff_ne.mpr c53
        (first | rw [c53b0] | (simp only [i64_w, i32_w]; rw [c53b0]) | skip)
        have H' := aK H
        clear H
        go_wp2
        go_meet
        case rel => exact ⟨_, (t501), (by first | rfl | (simp; done) | (simp [*]; done)), H', ⟨by have := HJ5.out; first | omega | exact Nat.le_refl _⟩, ⟨by (with_reducible repeat (first | apply Kd.R_alloc | apply Kd.R_drewN | apply Kd.R_drew)); exact HO490.out⟩, ⟨by (with_reducible repeat (first | apply Kd.R_alloc | apply Kd.R_drewN | apply Kd.R_drew)); exact HO498.out⟩, ⟨by (with_reducible repeat (first | refine zN ?_ _ | refine zD ?_ | refine zA ?_ _)); exact BK480.out⟩, ⟨by (with_reducible repeat (first | refine zN ?_ _ | refine zD ?_ | refine zA ?_ _)); exact BK481.out⟩, ⟨by (with_reducible repeat (first | refine zN ?_ _ | refine zD ?_ | refine zA ?_ _)); exact BK492.out⟩, ⟨by (with_reducible repeat (first | refine zN ?_ _ | refine zD ?_ | refine zA ?_ _)); exact BK500.out⟩, ⟨by repeat (first | (with_reducible first | exact HB.out | apply yA | apply yN | apply yD | refine yS ?_ GE480.out | refine yS ?_ GE481.out | refine yS ?_ GE492.out | refine yS ?_ GE500.out) | exact HB.out)⟩⟩
      case rest =>
       clear HC28
       try clear c1
       try clear c2
       try clear p2
       try clear c3
       try clear c4
       try clear c5
       try clear c10
       try clear c11
       try clear c12
       try clear c13
       try clear c18
       try clear c21
       try clear c24
       try clear c24b0
       try clear c24b1
       try clear c26
       try clear c29
       try clear c34
       try clear c35
       try clear c43
       try clear c44
       try clear c45
       try clear c53
       try clear c53b0
       try clear c53b1
       try clear hcz14_0
       try clear hcz14_1
       try clear hcz14_2
       try clear hcz14_3
       try clear hcz16_0
       try clear hcz16_1
       try clear hcz16_2
       try clear hcz16_3
       try clear hcz19_0
       try clear hcz19_1
       try clear hcz19_2
       try clear hcz19_3
       try clear hcz30_0
       try clear hcz30_1
       try clear hcz30_2
       try clear hcz30_3
       try clear hcz31_0
       try clear hcz31_1
       try clear hcz31_2
       try clear hcz31_3
       try clear hcz36_0
       try clear hcz36_1
       try clear hcz36_2
       try clear hcz36_3
       try clear hcz39_0
       try clear hcz39_1
       try clear hcz39_2
       try clear hcz39_3
       try clear hcz40_0
       try clear hcz40_1
       try clear hcz40_2
       try clear hcz40_3
       try clear hcz46_0
       try clear hcz46_1
       try clear hcz46_2
       try clear hcz46_3
       try clear hfz14_0
       try clear hfz14_1
       try clear hfz14_2
       try clear hfz14_3
       try clear hfz16_0
       try clear hfz16_1
       try clear hfz16_2
       try clear hfz16_3
       try clear hfz19_0
       try clear hfz19_1
       try clear hfz19_2
       try clear hfz19_3
       try clear hfz30_0
       try clear hfz30_1
       try clear hfz30_2
       try clear hfz30_3
       try clear hfz31_0
       try clear hfz31_1
       try clear hfz31_2
       try clear hfz31_3
       try clear hfz36_0
       try clear hfz36_1
       try clear hfz36_2
       try clear hfz36_3
       try clear hfz39_0
       try clear hfz39_1
       try clear hfz39_2
       try clear hfz39_3
       try clear hfz40_0
       try clear hfz40_1
       try clear hfz40_2
       try clear hfz40_3
       try clear hfz46_0
       try clear hfz46_1
       try clear hfz46_2
       try clear hfz46_3
       try clear p2
       obtain ⟨kq, x11_27, rfl, HA, HJ27, HO_493003, HO_501003, BK480, BK481, BK492, BK500, HB⟩ := hcut
       cases kq with
       | zero => exact absurd HA.out (by simp [gangsawlaw14_BoringTogether.j1])
       | succ kj27 =>
        have H := HA.out
        clear HA
        simp only [gangsawlaw14_BoringTogether.j1] at H
        have HC54 := aK H
        clear H
        go_upto_region 12 with (fail)
        go_cut [92] (fun v92 wc => ∃ (kq : Nat) (x92_53 : Bool), v92 = .bool x92_53 ∧ Aside0 (gangsawlaw14_BoringTogether.j2 kq x92_53 a0_0 a0_1 a0_2 l0_3 t485 t486 t487 t488 t493 t494 t495 t496 = some r) ∧ Aside0 (kq ≤ kj27) ∧ Aside0 (Kd.R k48 48 wc w.heap.size (fun k_ => some k_ ≠ ((.slice Ao47 t496.length co47) : Value).ownBlock) (.slice Ao37 t488.length co37) t488) ∧ Aside0 (Kd.R k48 48 wc w.heap.size (fun k_ => some k_ ≠ ((.slice Ao37 t488.length co37) : Value).ownBlock) (.slice Ao47 t496.length co47) t496) ∧ Aside0 (wc.heap[gb480]? = some (.cells #[.string a0_0, .int .i64 a0_1, .int .i64 a0_2, (.slice A0_3 l0_3.length c0_3)] 33 (0, 0))) ∧ Aside0 (wc.heap[gb481]? = some (.cells #[.string a1_0, .int .i64 a1_1, .int .i64 a1_2, (.slice A1_3 l1_3.length c1_3)] 33 (0, 0))) ∧ Aside0 (wc.heap[gb492]? = some (.cells #[.string t485, .int .i64 t486, .int .i64 t487, (.slice Ao37 t488.length co37)] 33 (0, 0))) ∧ Aside0 (wc.heap[gb500]? = some (.cells #[.string t493, .int .i64 t494, .int .i64 t495, (.slice Ao47 t496.length co47)] 33 (0, 0))) ∧ Aside0 (Below w.heap.size w wc))
        case first =>
         have H := HC54.out
         clear HC54
         by_cases c55 : t499 = 0
         ·rw [if_pos c55] at H
          have c55b0 : (t499 == 0) = true := beq_iff_eq.mpr c55
          have c55b1 : (t499 != 0) = false := bne_eq_false_iff_eq.mpr c55
          clear c55
          (first | rw [c55b0] | (simp only [i64_w, i32_w]; rw [c55b0]) | skip)
          by_cases c56 : t485.toList = a0_0.toList
          ·rw [if_pos c56] at H
           have c56b0 : (t485.toList == a0_0.toList) = true := beq_iff_eq.mpr c56
           have c56b1 : (t485.toList != a0_0.toList) = false := bne_eq_false_iff_eq.mpr c56
           clear c56
           by_cases c57 : t493.toList = a1_0.toList
           ·rw [if_pos c57] at H
            have c57b0 : (t493.toList == a1_0.toList) = true := beq_iff_eq.mpr c57
            have c57b1 : (t493.toList != a1_0.toList) = false := bne_eq_false_iff_eq.mpr c57
            clear c57
            by_cases c58 : (t488.length : Int) = (t496.length : Int)
            ·rw [if_pos c58] at H
             have c58b0 : ((t488.length : Int) == (t496.length : Int)) = true := beq_iff_eq.mpr c58
             have c58b1 : ((t488.length : Int) != (t496.length : Int)) = false := bne_eq_false_iff_eq.mpr c58
             have c58b2 : (t488.length == t496.length) = true := by first | simpa using c58 | (simp at c58 ⊢; omega)
             clear c58
             have H' := aK H
             clear H
             have hnb59 := NB492_480.out
             have hnc59 := NB480_492.out
             have hnb60 := NB492_481.out
             have hnc60 := NB481_492.out
             have hnb61 := NB492_500.out
             have hnc61 := NB500_492.out
             have hcz62_0 := zI BK492 0 rfl
             have hcz62_1 := zI BK492 1 rfl
             have hcz62_2 := zI BK492 2 rfl
             have hcz62_3 := zI BK492 3 rfl
             have hfz62_0 := zF BK492.out 0
             have hfz62_1 := zF BK492.out 1
             have hfz62_2 := zF BK492.out 2
             have hfz62_3 := zF BK492.out 3
             have hnb63 := NB480_481.out
             have hnc63 := NB481_480.out
             have hnb64 := NB480_500.out
             have hnc64 := NB500_480.out
             have hcz65_0 := zI BK480 0 rfl
             have hcz65_1 := zI BK480 1 rfl
             have hcz65_2 := zI BK480 2 rfl
             have hcz65_3 := zI BK480 3 rfl
             have hfz65_0 := zF BK480.out 0
             have hfz65_1 := zF BK480.out 1
             have hfz65_2 := zF BK480.out 2
             have hfz65_3 := zF BK480.out 3
             have hnb66 := NB500_481.out
             have hnc66 := NB481_500.out
             have hcz67_0 := zI BK500 0 rfl
             have hcz67_1 := zI BK500 1 rfl
             have hcz67_2 := zI BK500 2 rfl
             have hcz67_3 := zI BK500 3 rfl
             have hfz67_0 := zF BK500.out 0
             have hfz67_1 := zF BK500.out 1
             have hfz67_2 := zF BK500.out 2
             have hfz67_3 := zF BK500.out 3
             have hcz68_0 := zI BK481 0 rfl
             have hcz68_1 := zI BK481 1 rfl
             have hcz68_2 := zI BK481 2 rfl
             have hcz68_3 := zI BK481 3 rfl
             have hfz68_0 := zF BK481.out 0
             have hfz68_1 := zF BK481.out 1
             have hfz68_2 := zF BK481.out 2
             have hfz68_3 := zF BK481.out 3
             go_wp2
             go_meet
             case rel => exact ⟨_, ((t503 != x11_27)), (by first | rfl | (simp; done) | (simp [*]; done)), H', ⟨by have := HJ5.out; have := HJ27.out; first | omega | exact Nat.le_refl _⟩, ⟨by (with_reducible repeat (first | apply Kd.R_alloc | apply Kd.R_drewN | apply Kd.R_drew)); exact HO_493003.out⟩, ⟨by (with_reducible repeat (first | apply Kd.R_alloc | apply Kd.R_drewN | apply Kd.R_drew)); exact HO_501003.out⟩, ⟨by (with_reducible repeat (first | refine zN ?_ _ | refine zD ?_ | refine zA ?_ _)); exact BK480.out⟩, ⟨by (with_reducible repeat (first | refine zN ?_ _ | refine zD ?_ | refine zA ?_ _)); exact BK481.out⟩, ⟨by (with_reducible repeat (first | refine zN ?_ _ | refine zD ?_ | refine zA ?_ _)); exact BK492.out⟩, ⟨by (with_reducible repeat (first | refine zN ?_ _ | refine zD ?_ | refine zA ?_ _)); exact BK500.out⟩, ⟨by repeat (first | (with_reducible first | exact HB.out | apply yA | apply yN | apply yD | refine yS ?_ GE480.out | refine yS ?_ GE481.out | refine yS ?_ GE492.out | refine yS ?_ GE500.out) | exact HB.out)⟩⟩
            ·rw [if_neg c58] at H
             have c58b0 : ((t488.length : Int) == (t496.length : Int)) = false := beq_eq_false_iff_ne.mpr c58
             have c58b1 : ((t488.length : Int) != (t496.length : Int)) = true := bne_iff_ne.mpr c58
             have c58b2 : (t488.length == t496.length) = false := by first | simpa using c58 | (simp at c58 ⊢; omega)
             have H' := aK H
             clear H
             have hnb69 := NB492_480.out
             have hnc69 := NB480_492.out
             have hnb70 := NB492_481.out
             have hnc70 := NB481_492.out
             have hnb71 := NB492_500.out
             have hnc71 := NB500_492.out
             have hcz72_0 := zI BK492 0 rfl
             have hcz72_1 := zI BK492 1 rfl
             have hcz72_2 := zI BK492 2 rfl
             have hcz72_3 := zI BK492 3 rfl
             have hfz72_0 := zF BK492.out 0
             have hfz72_1 := zF BK492.out 1
             have hfz72_2 := zF BK492.out 2
             have hfz72_3 := zF BK492.out 3
             have hnb73 := NB480_481.out
             have hnc73 := NB481_480.out
             have hnb74 := NB480_500.out
             have hnc74 := NB500_480.out
             have hcz75_0 := zI BK480 0 rfl
             have hcz75_1 := zI BK480 1 rfl
             have hcz75_2 := zI BK480 2 rfl
             have hcz75_3 := zI BK480 3 rfl
             have hfz75_0 := zF BK480.out 0
             have hfz75_1 := zF BK480.out 1
             have hfz75_2 := zF BK480.out 2
             have hfz75_3 := zF BK480.out 3
             have hnb76 := NB500_481.out
             have hnc76 := NB481_500.out
             have hcz77_0 := zI BK500 0 rfl
             have hcz77_1 := zI BK500 1 rfl
             have hcz77_2 := zI BK500 2 rfl
             have hcz77_3 := zI BK500 3 rfl
             have hfz77_0 := zF BK500.out 0
             have hfz77_1 := zF BK500.out 1
             have hfz77_2 := zF BK500.out 2
             have hfz77_3 := zF BK500.out 3
             have hcz78_0 := zI BK481 0 rfl
             have hcz78_1 := zI BK481 1 rfl
             have hcz78_2 := zI BK481 2 rfl
             have hcz78_3 := zI BK481 3 rfl
             have hfz78_0 := zF BK481.out 0
             have hfz78_1 := zF BK481.out 1
             have hfz78_2 := zF BK481.out 2
             have hfz78_3 := zF BK481.out 3
             go_wp2
             go_meet
             case rel => exact ⟨_, (true), (by first | rfl | (simp; done) | (simp [*]; done)), H', ⟨by have := HJ5.out; have := HJ27.out; first | omega | exact Nat.le_refl _⟩, ⟨by (with_reducible repeat (first | apply Kd.R_alloc | apply Kd.R_drewN | apply Kd.R_drew)); exact HO_493003.out⟩, ⟨by (with_reducible repeat (first | apply Kd.R_alloc | apply Kd.R_drewN | apply Kd.R_drew)); exact HO_501003.out⟩, ⟨by (with_reducible repeat (first | refine zN ?_ _ | refine zD ?_ | refine zA ?_ _)); exact BK480.out⟩, ⟨by (with_reducible repeat (first | refine zN ?_ _ | refine zD ?_ | refine zA ?_ _)); exact BK481.out⟩, ⟨by (with_reducible repeat (first | refine zN ?_ _ | refine zD ?_ | refine zA ?_ _)); exact BK492.out⟩, ⟨by (with_reducible repeat (first | refine zN ?_ _ | refine zD ?_ | refine zA ?_ _)); exact BK500.out⟩, ⟨by repeat (first | (with_reducible first | exact HB.out | apply yA | apply yN | apply yD | refine yS ?_ GE480.out | refine yS ?_ GE481.out | refine yS ?_ GE492.out | refine yS ?_ GE500.out) | exact HB.out)⟩⟩
           ·rw [if_neg c57] at H
            have c57b0 : (t493.toList == a1_0.toList) = false := beq_eq_false_iff_ne.mpr c57
            have c57b1 : (t493.toList != a1_0.toList) = true := bne_iff_ne.mpr c57
            have H' := aK H
            clear H
            have hnb79 := NB492_480.out
            have hnc79 := NB480_492.out
            have hnb80 := NB492_481.out
            have hnc80 := NB481_492.out
            have hnb81 := NB492_500.out
            have hnc81 := NB500_492.out
            have hcz82_0 := zI BK492 0 rfl
            have hcz82_1 := zI BK492 1 rfl
            have hcz82_2 := zI BK492 2 rfl
            have hcz82_3 := zI BK492 3 rfl
            have hfz82_0 := zF BK492.out 0
            have hfz82_1 := zF BK492.out 1
            have hfz82_2 := zF BK492.out 2
            have hfz82_3 := zF BK492.out 3
            have hnb83 := NB480_481.out
            have hnc83 := NB481_480.out
            have hnb84 := NB480_500.out
            have hnc84 := NB500_480.out
            have hcz85_0 := zI BK480 0 rfl
            have hcz85_1 := zI BK480 1 rfl
            have hcz85_2 := zI BK480 2 rfl
            have hcz85_3 := zI BK480 3 rfl
            have hfz85_0 := zF BK480.out 0
            have hfz85_1 := zF BK480.out 1
            have hfz85_2 := zF BK480.out 2
            have hfz85_3 := zF BK480.out 3
            have hnb86 := NB500_481.out
            have hnc86 := NB481_500.out
            have hcz87_0 := zI BK500 0 rfl
            have hcz87_1 := zI BK500 1 rfl
            have hcz87_2 := zI BK500 2 rfl
            have hcz87_3 := zI BK500 3 rfl
            have hfz87_0 := zF BK500.out 0
            have hfz87_1 := zF BK500.out 1
            have hfz87_2 := zF BK500.out 2
            have hfz87_3 := zF BK500.out 3
            have hcz88_0 := zI BK481 0 rfl
            have hcz88_1 := zI BK481 1 rfl
            have hcz88_2 := zI BK481 2 rfl
            have hcz88_3 := zI BK481 3 rfl
            have hfz88_0 := zF BK481.out 0
            have hfz88_1 := zF BK481.out 1
            have hfz88_2 := zF BK481.out 2
            have hfz88_3 := zF BK481.out 3
            go_wp2
            go_meet
            case rel => exact ⟨_, (true), (by first | rfl | (simp; done) | (simp [*]; done)), H', ⟨by have := HJ5.out; have := HJ27.out; first | omega | exact Nat.le_refl _⟩, ⟨by (with_reducible repeat (first | apply Kd.R_alloc | apply Kd.R_drewN | apply Kd.R_drew)); exact HO_493003.out⟩, ⟨by (with_reducible repeat (first | apply Kd.R_alloc | apply Kd.R_drewN | apply Kd.R_drew)); exact HO_501003.out⟩, ⟨by (with_reducible repeat (first | refine zN ?_ _ | refine zD ?_ | refine zA ?_ _)); exact BK480.out⟩, ⟨by (with_reducible repeat (first | refine zN ?_ _ | refine zD ?_ | refine zA ?_ _)); exact BK481.out⟩, ⟨by (with_reducible repeat (first | refine zN ?_ _ | refine zD ?_ | refine zA ?_ _)); exact BK492.out⟩, ⟨by (with_reducible repeat (first | refine zN ?_ _ | refine zD ?_ | refine zA ?_ _)); exact BK500.out⟩, ⟨by repeat (first | (with_reducible first | exact HB.out | apply yA | apply yN | apply yD | refine yS ?_ GE480.out | refine yS ?_ GE481.out | refine yS ?_ GE492.out | refine yS ?_ GE500.out) | exact HB.out)⟩⟩
          ·rw [if_neg c56] at H
           have c56b0 : (t485.toList == a0_0.toList) = false := beq_eq_false_iff_ne.mpr c56
           have c56b1 : (t485.toList != a0_0.toList) = true := bne_iff_ne.mpr c56
           have H' := aK H
           clear H
           have hnb89 := NB492_480.out
           have hnc89 := NB480_492.out
           have hnb90 := NB492_481.out
           have hnc90 := NB481_492.out
           have hnb91 := NB492_500.out
           have hnc91 := NB500_492.out
           have hcz92_0 := zI BK492 0 rfl
           have hcz92_1 := zI BK492 1 rfl
           have hcz92_2 := zI BK492 2 rfl
           have hcz92_3 := zI BK492 3 rfl
           have hfz92_0 := zF BK492.out 0
           have hfz92_1 := zF BK492.out 1
           have hfz92_2 := zF BK492.out 2
           have hfz92_3 := zF BK492.out 3
           have hnb93 := NB480_481.out
           have hnc93 := NB481_480.out
           have hnb94 := NB480_500.out
           have hnc94 := NB500_480.out
           have hcz95_0 := zI BK480 0 rfl
           have hcz95_1 := zI BK480 1 rfl
           have hcz95_2 := zI BK480 2 rfl
           have hcz95_3 := zI BK480 3 rfl
           have hfz95_0 := zF BK480.out 0
           have hfz95_1 := zF BK480.out 1
           have hfz95_2 := zF BK480.out 2
           have hfz95_3 := zF BK480.out 3
           go_wp2
           go_meet
           case rel => exact ⟨_, (true), (by first | rfl | (simp; done) | (simp [*]; done)), H', ⟨by have := HJ5.out; have := HJ27.out; first | omega | exact Nat.le_refl _⟩, ⟨by (with_reducible repeat (first | apply Kd.R_alloc | apply Kd.R_drewN | apply Kd.R_drew)); exact HO_493003.out⟩, ⟨by (with_reducible repeat (first | apply Kd.R_alloc | apply Kd.R_drewN | apply Kd.R_drew)); exact HO_501003.out⟩, ⟨by (with_reducible repeat (first | refine zN ?_ _ | refine zD ?_ | refine zA ?_ _)); exact BK480.out⟩, ⟨by (with_reducible repeat (first | refine zN ?_ _ | refine zD ?_ | refine zA ?_ _)); exact BK481.out⟩, ⟨by (with_reducible repeat (first | refine zN ?_ _ | refine zD ?_ | refine zA ?_ _)); exact BK492.out⟩, ⟨by (with_reducible repeat (first | refine zN ?_ _ | refine zD ?_ | refine zA ?_ _)); exact BK500.out⟩, ⟨by repeat (first | (with_reducible first | exact HB.out | apply yA | apply yN | apply yD | refine yS ?_ GE480.out | refine yS ?_ GE481.out | refine yS ?_ GE492.out | refine yS ?_ GE500.out) | exact HB.out)⟩⟩
         ·rw [if_neg c55] at H
          have c55b0 : (t499 == 0) = false := beq_eq_false_iff_ne.mpr c55
          have c55b1 : (t499 != 0) = true := bne_iff_ne.mpr c55
          (first | rw [c55b0] | (simp only [i64_w, i32_w]; rw [c55b0]) | skip)
          have H' := aK H
          clear H
          go_wp2
          go_meet
          case rel => exact ⟨_, (true), (by first | rfl | (simp; done) | (simp [*]; done)), H', ⟨by have := HJ5.out; have := HJ27.out; first | omega | exact Nat.le_refl _⟩, ⟨by (with_reducible repeat (first | apply Kd.R_alloc | apply Kd.R_drewN | apply Kd.R_drew)); exact HO_493003.out⟩, ⟨by (with_reducible repeat (first | apply Kd.R_alloc | apply Kd.R_drewN | apply Kd.R_drew)); exact HO_501003.out⟩, ⟨by (with_reducible repeat (first | refine zN ?_ _ | refine zD ?_ | refine zA ?_ _)); exact BK480.out⟩, ⟨by (with_reducible repeat (first | refine zN ?_ _ | refine zD ?_ | refine zA ?_ _)); exact BK481.out⟩, ⟨by (with_reducible repeat (first | refine zN ?_ _ | refine zD ?_ | refine zA ?_ _)); exact BK492.out⟩, ⟨by (with_reducible repeat (first | refine zN ?_ _ | refine zD ?_ | refine zA ?_ _)); exact BK500.out⟩, ⟨by repeat (first | (with_reducible first | exact HB.out | apply yA | apply yN | apply yD | refine yS ?_ GE480.out | refine yS ?_ GE481.out | refine yS ?_ GE492.out | refine yS ?_ GE500.out) | exact HB.out)⟩⟩
        case rest =>
         clear HC54
         try clear c1
         try clear c2
         try clear p2
         try clear c3
         try clear c4
         try clear c5
         try clear c6
         try clear c7
         try clear c8
         try clear c9
         try clear c10
         try clear c11
         try clear c12
         try clear c13
         try clear c18
         try clear c21
         try clear c24
         try clear c24b0
         try clear c24b1
         try clear c26
         try clear c29
         try clear c34
         try clear c35
         try clear c43
         try clear c44
         try clear c45
         try clear c53
         try clear c53b0
         try clear c53b1
         try clear c55
         try clear c55b0
         try clear c55b1
         try clear c56
         try clear c56b0
         try clear c56b1
         try clear c57
         try clear c57b0
         try clear c57b1
         try clear c58
         try clear c58b0
         try clear c58b1
         try clear c58b2
         try clear c59
         try clear c60
         try clear c61
         try clear c63
         try clear c64
         try clear c66
         try clear c69
         try clear c70
         try clear c71
         try clear c73
         try clear c74
         try clear c76
         try clear c79
         try clear c80
         try clear c81
         try clear c83
         try clear c84
         try clear c86
         try clear c89
         try clear c90
         try clear c91
         try clear c93
         try clear c94
         try clear hcz14_0
         try clear hcz14_1
         try clear hcz14_2
         try clear hcz14_3
         try clear hcz16_0
         try clear hcz16_1
         try clear hcz16_2
         try clear hcz16_3
         try clear hcz19_0
         try clear hcz19_1
         try clear hcz19_2
         try clear hcz19_3
         try clear hcz30_0
         try clear hcz30_1
         try clear hcz30_2
         try clear hcz30_3
         try clear hcz31_0
         try clear hcz31_1
         try clear hcz31_2
         try clear hcz31_3
         try clear hcz36_0
         try clear hcz36_1
         try clear hcz36_2
         try clear hcz36_3
         try clear hcz39_0
         try clear hcz39_1
         try clear hcz39_2
         try clear hcz39_3
         try clear hcz40_0
         try clear hcz40_1
         try clear hcz40_2
         try clear hcz40_3
         try clear hcz46_0
         try clear hcz46_1
         try clear hcz46_2
         try clear hcz46_3
         try clear hcz62_0
         try clear hcz62_1
         try clear hcz62_2
         try clear hcz62_3
         try clear hcz65_0
         try clear hcz65_1
         try clear hcz65_2
         try clear hcz65_3
         try clear hcz67_0
         try clear hcz67_1
         try clear hcz67_2
         try clear hcz67_3
         try clear hcz68_0
         try clear hcz68_1
         try clear hcz68_2
         try clear hcz68_3
         try clear hcz72_0
         try clear hcz72_1
         try clear hcz72_2
         try clear hcz72_3
         try clear hcz75_0
         try clear hcz75_1
         try clear hcz75_2
         try clear hcz75_3
         try clear hcz77_0
         try clear hcz77_1
         try clear hcz77_2
         try clear hcz77_3
         try clear hcz78_0
         try clear hcz78_1
         try clear hcz78_2
         try clear hcz78_3
         try clear hcz82_0
         try clear hcz82_1
         try clear hcz82_2
         try clear hcz82_3
         try clear hcz85_0
         try clear hcz85_1
         try clear hcz85_2
         try clear hcz85_3
         try clear hcz87_0
         try clear hcz87_1
         try clear hcz87_2
         try clear hcz87_3
         try clear hcz88_0
         try clear hcz88_1
         try clear hcz88_2
         try clear hcz88_3
         try clear hcz92_0
         try clear hcz92_1
         try clear hcz92_2
         try clear hcz92_3
         try clear hcz95_0
         try clear hcz95_1
         try clear hcz95_2
         try clear hcz95_3
         try clear hfz14_0
         try clear hfz14_1
         try clear hfz14_2
         try clear hfz14_3
         try clear hfz16_0
         try clear hfz16_1
         try clear hfz16_2
         try clear hfz16_3
         try clear hfz19_0
         try clear hfz19_1
         try clear hfz19_2
         try clear hfz19_3
         try clear hfz30_0
         try clear hfz30_1
         try clear hfz30_2
         try clear hfz30_3
         try clear hfz31_0
         try clear hfz31_1
         try clear hfz31_2
         try clear hfz31_3
         try clear hfz36_0
         try clear hfz36_1
         try clear hfz36_2
         try clear hfz36_3
         try clear hfz39_0
         try clear hfz39_1
         try clear hfz39_2
         try clear hfz39_3
         try clear hfz40_0
         try clear hfz40_1
         try clear hfz40_2
         try clear hfz40_3
         try clear hfz46_0
         try clear hfz46_1
         try clear hfz46_2
         try clear hfz46_3
         try clear hfz62_0
         try clear hfz62_1
         try clear hfz62_2
         try clear hfz62_3
         try clear hfz65_0
         try clear hfz65_1
         try clear hfz65_2
         try clear hfz65_3
         try clear hfz67_0
         try clear hfz67_1
         try clear hfz67_2
         try clear hfz67_3
         try clear hfz68_0
         try clear hfz68_1
         try clear hfz68_2
         try clear hfz68_3
         try clear hfz72_0
         try clear hfz72_1
         try clear hfz72_2
         try clear hfz72_3
         try clear hfz75_0
         try clear hfz75_1
         try clear hfz75_2
         try clear hfz75_3
         try clear hfz77_0
         try clear hfz77_1
         try clear hfz77_2
         try clear hfz77_3
         try clear hfz78_0
         try clear hfz78_1
         try clear hfz78_2
         try clear hfz78_3
         try clear hfz82_0
         try clear hfz82_1
         try clear hfz82_2
         try clear hfz82_3
         try clear hfz85_0
         try clear hfz85_1
         try clear hfz85_2
         try clear hfz85_3
         try clear hfz87_0
         try clear hfz87_1
         try clear hfz87_2
         try clear hfz87_3
         try clear hfz88_0
         try clear hfz88_1
         try clear hfz88_2
         try clear hfz88_3
         try clear hfz92_0
         try clear hfz92_1
         try clear hfz92_2
         try clear hfz92_3
         try clear hfz95_0
         try clear hfz95_1
         try clear hfz95_2
         try clear hfz95_3
         try clear p2
         obtain ⟨kq, x92_53, rfl, HA, HJ53, HO_493003, HO_501003, BK480, BK481, BK492, BK500, HB⟩ := hcut
         cases kq with
         | zero => exact absurd HA.out (by simp [gangsawlaw14_BoringTogether.j2])
         | succ kj53 =>
          have H := HA.out
          clear HA
          simp only [gangsawlaw14_BoringTogether.j2] at H
          by_cases c96 : x92_53 = true
          ·subst c96
           have H1 : (some false) = some r := by rw [if_pos rfl] at H; exact H
           clear H
           have H := H1
           clear H1
           obtain rfl := Option.some.inj H
           exact absurd hr (by decide)
          ·replace c96 := Bool.eq_false_iff.mpr c96
           subst c96
           have H1 : (gangsawlaw14_BoringTogether.l0 kj53 0 a0_0 a0_1 a0_2 l0_3 t485 t486 t487 t488 t493 t494 t495 t496) = some r := by rw [if_neg (show ¬ (false = true) by decide)] at H; exact H
           clear H
           have H := H1
           clear H1
           have H' := aK H
           clear H
           go_wp2
           go_loopg [14] kj53 (fun kq v14 w' => ∃ (x14_4 : Int), v14 = .int .i64 x14_4 ∧ Aside0 (gangsawlaw14_BoringTogether.l0 kq x14_4 a0_0 a0_1 a0_2 l0_3 t485 t486 t487 t488 t493 t494 t495 t496 = some r) ∧ Aside0 (kq ≤ kj53) ∧ Aside0 (Kd.R k48 48 w' w.heap.size (fun k_ => some k_ ≠ ((.slice Ao47 t496.length co47) : Value).ownBlock) (.slice Ao37 t488.length co37) t488) ∧ Aside0 (Kd.R k48 48 w' w.heap.size (fun k_ => some k_ ≠ ((.slice Ao37 t488.length co37) : Value).ownBlock) (.slice Ao47 t496.length co47) t496) ∧ Aside0 (w'.heap[gb480]? = some (.cells #[.string a0_0, .int .i64 a0_1, .int .i64 a0_2, (.slice A0_3 l0_3.length c0_3)] 33 (0, 0))) ∧ Aside0 (w'.heap[gb481]? = some (.cells #[.string a1_0, .int .i64 a1_1, .int .i64 a1_2, (.slice A1_3 l1_3.length c1_3)] 33 (0, 0))) ∧ Aside0 (w'.heap[gb492]? = some (.cells #[.string t485, .int .i64 t486, .int .i64 t487, (.slice Ao37 t488.length co37)] 33 (0, 0))) ∧ Aside0 (w'.heap[gb500]? = some (.cells #[.string t493, .int .i64 t494, .int .i64 t495, (.slice Ao47 t496.length co47)] 33 (0, 0))) ∧ Aside0 (Below w.heap.size w w'))
           case atStart => exact ⟨(0), (by first | rfl | (simp; done) | (simp [*]; done)), H', ⟨Nat.le_refl _⟩, ⟨by (with_reducible repeat (first | apply Kd.R_alloc | apply Kd.R_drewN | apply Kd.R_drew)); exact HO_493003.out⟩, ⟨by (with_reducible repeat (first | apply Kd.R_alloc | apply Kd.R_drewN | apply Kd.R_drew)); exact HO_501003.out⟩, ⟨by (with_reducible repeat (first | refine zN ?_ _ | refine zD ?_ | refine zA ?_ _)); exact BK480.out⟩, ⟨by (with_reducible repeat (first | refine zN ?_ _ | refine zD ?_ | refine zA ?_ _)); exact BK481.out⟩, ⟨by (with_reducible repeat (first | refine zN ?_ _ | refine zD ?_ | refine zA ?_ _)); exact BK492.out⟩, ⟨by (with_reducible repeat (first | refine zN ?_ _ | refine zD ?_ | refine zA ?_ _)); exact BK500.out⟩, ⟨by repeat (first | (with_reducible first | exact HB.out | apply yA | apply yN | apply yD | refine yS ?_ GE480.out | refine yS ?_ GE481.out | refine yS ?_ GE492.out | refine yS ?_ GE500.out) | exact HB.out)⟩⟩
           case round =>
            clear H'
            try clear c1
            try clear c2
            try clear p2
            try clear c3
            try clear c4
            try clear c5
            try clear c6
            try clear c7
            try clear c8
            try clear c9
            try clear c10
            try clear c11
            try clear c12
            try clear c13
            try clear c18
            try clear c21
            try clear c24
            try clear c24b0
            try clear c24b1
            try clear c26
            try clear c29
            try clear c34
            try clear c35
            try clear c43
            try clear c44
            try clear c45
            try clear c53
            try clear c53b0
            try clear c53b1
            try clear c55
            try clear c55b0
            try clear c55b1
            try clear c56
            try clear c56b0
            try clear c56b1
            try clear c57
            try clear c57b0
            try clear c57b1
            try clear c58
            try clear c58b0
            try clear c58b1
            try clear c58b2
            try clear c59
            try clear c60
            try clear c61
            try clear c63
            try clear c64
            try clear c66
            try clear c69
            try clear c70
            try clear c71
            try clear c73
            try clear c74
            try clear c76
            try clear c79
            try clear c80
            try clear c81
            try clear c83
            try clear c84
            try clear c86
            try clear c89
            try clear c90
            try clear c91
            try clear c93
            try clear c94
            try clear c96
            try clear hcz14_0
            try clear hcz14_1
            try clear hcz14_2
            try clear hcz14_3
            try clear hcz16_0
            try clear hcz16_1
            try clear hcz16_2
            try clear hcz16_3
            try clear hcz19_0
            try clear hcz19_1
            try clear hcz19_2
            try clear hcz19_3
            try clear hcz30_0
            try clear hcz30_1
            try clear hcz30_2
            try clear hcz30_3
            try clear hcz31_0
            try clear hcz31_1
            try clear hcz31_2
            try clear hcz31_3
            try clear hcz36_0
            try clear hcz36_1
            try clear hcz36_2
            try clear hcz36_3
            try clear hcz39_0
            try clear hcz39_1
            try clear hcz39_2
            try clear hcz39_3
            try clear hcz40_0
            try clear hcz40_1
            try clear hcz40_2
            try clear hcz40_3
            try clear hcz46_0
            try clear hcz46_1
            try clear hcz46_2
            try clear hcz46_3
            try clear hcz62_0
            try clear hcz62_1
            try clear hcz62_2
            try clear hcz62_3
            try clear hcz65_0
            try clear hcz65_1
            try clear hcz65_2
            try clear hcz65_3
            try clear hcz67_0
            try clear hcz67_1
            try clear hcz67_2
            try clear hcz67_3
            try clear hcz68_0
            try clear hcz68_1
            try clear hcz68_2
            try clear hcz68_3
            try clear hcz72_0
            try clear hcz72_1
            try clear hcz72_2
            try clear hcz72_3
            try clear hcz75_0
            try clear hcz75_1
            try clear hcz75_2
            try clear hcz75_3
            try clear hcz77_0
            try clear hcz77_1
            try clear hcz77_2
            try clear hcz77_3
            try clear hcz78_0
            try clear hcz78_1
            try clear hcz78_2
            try clear hcz78_3
            try clear hcz82_0
            try clear hcz82_1
            try clear hcz82_2
            try clear hcz82_3
            try clear hcz85_0
            try clear hcz85_1
            try clear hcz85_2
            try clear hcz85_3
            try clear hcz87_0
            try clear hcz87_1
            try clear hcz87_2
            try clear hcz87_3
            try clear hcz88_0
            try clear hcz88_1
            try clear hcz88_2
            try clear hcz88_3
            try clear hcz92_0
            try clear hcz92_1
            try clear hcz92_2
            try clear hcz92_3
            try clear hcz95_0
            try clear hcz95_1
            try clear hcz95_2
            try clear hcz95_3
            try clear hfz14_0
            try clear hfz14_1
            try clear hfz14_2
            try clear hfz14_3
            try clear hfz16_0
            try clear hfz16_1
            try clear hfz16_2
            try clear hfz16_3
            try clear hfz19_0
            try clear hfz19_1
            try clear hfz19_2
            try clear hfz19_3
            try clear hfz30_0
            try clear hfz30_1
            try clear hfz30_2
            try clear hfz30_3
            try clear hfz31_0
            try clear hfz31_1
            try clear hfz31_2
            try clear hfz31_3
            try clear hfz36_0
            try clear hfz36_1
            try clear hfz36_2
            try clear hfz36_3
            try clear hfz39_0
            try clear hfz39_1
            try clear hfz39_2
            try clear hfz39_3
            try clear hfz40_0
            try clear hfz40_1
            try clear hfz40_2
            try clear hfz40_3
            try clear hfz46_0
            try clear hfz46_1
            try clear hfz46_2
            try clear hfz46_3
            try clear hfz62_0
            try clear hfz62_1
            try clear hfz62_2
            try clear hfz62_3
            try clear hfz65_0
            try clear hfz65_1
            try clear hfz65_2
            try clear hfz65_3
            try clear hfz67_0
            try clear hfz67_1
            try clear hfz67_2
            try clear hfz67_3
            try clear hfz68_0
            try clear hfz68_1
            try clear hfz68_2
            try clear hfz68_3
            try clear hfz72_0
            try clear hfz72_1
            try clear hfz72_2
            try clear hfz72_3
            try clear hfz75_0
            try clear hfz75_1
            try clear hfz75_2
            try clear hfz75_3
            try clear hfz77_0
            try clear hfz77_1
            try clear hfz77_2
            try clear hfz77_3
            try clear hfz78_0
            try clear hfz78_1
            try clear hfz78_2
            try clear hfz78_3
            try clear hfz82_0
            try clear hfz82_1
            try clear hfz82_2
            try clear hfz82_3
            try clear hfz85_0
            try clear hfz85_1
            try clear hfz85_2
            try clear hfz85_3
            try clear hfz87_0
            try clear hfz87_1
            try clear hfz87_2
            try clear hfz87_3
            try clear hfz88_0
            try clear hfz88_1
            try clear hfz88_2
            try clear hfz88_3
            try clear hfz92_0
            try clear hfz92_1
            try clear hfz92_2
            try clear hfz92_3
            try clear hfz95_0
            try clear hfz95_1
            try clear hfz95_2
            try clear hfz95_3
            try clear p2
            obtain ⟨x14_4, rfl, HA, HK4, HO_493003, HO_501003, BK480, BK481, BK492, BK500, HB⟩ := hrel
            cases gk with
            | zero => exact absurd HA.out (by simp [gangsawlaw14_BoringTogether.l0])
            | succ k4 =>
             have H := HA.out
             clear HA
             simp only [gangsawlaw14_BoringTogether.l0] at H
             by_cases c97 : x14_4 < (t488.length : Int)
             ·rw [if_pos c97] at H
              have c97b0 : decide (x14_4 < (t488.length : Int)) = true := decide_eq_true c97
              clear c97
              by_cases c98 : 0 ≤ x14_4
              ·rw [if_pos c98] at H
               have c98b0 : decide (0 ≤ x14_4) = true := decide_eq_true c98
               clear c98
               by_cases c99 : x14_4 < (t496.length : Int)
               ·rw [if_pos c99] at H
                have c99b0 : decide (x14_4 < (t496.length : Int)) = true := decide_eq_true c99
                clear c99
                by_cases c100 : (!(((rd_T48 t488 x14_4).f0) == ((rd_T48 t496 x14_4).f0)) || (!(((rd_T48 t488 x14_4).f1) == ((rd_T48 t496 x14_4).f1)) || (!(((rd_T48 t488 x14_4).f2) == ((rd_T48 t496 x14_4).f2))))) = true
                ·rw [if_pos c100] at H
                 have c100b0 : (!(((rd_T48 t488 x14_4).f0) == ((rd_T48 t496 x14_4).f0)) || (!(((rd_T48 t488 x14_4).f1) == ((rd_T48 t496 x14_4).f1)) || (!(((rd_T48 t488 x14_4).f2) == ((rd_T48 t496 x14_4).f2))))) = true := c100
                 clear c100
                 obtain rfl := Option.some.inj H
                 exact absurd hr (by decide)
                ·rw [if_neg c100] at H
                 have c100b0 : (!(((rd_T48 t488 x14_4).f0) == ((rd_T48 t496 x14_4).f0)) || (!(((rd_T48 t488 x14_4).f1) == ((rd_T48 t496 x14_4).f1)) || (!(((rd_T48 t488 x14_4).f2) == ((rd_T48 t496 x14_4).f2))))) = false := by simpa using c100
                 clear c100
                 have H' := aK H
                 clear H
                 have hnb101 := NB492_480.out
                 have hnc101 := NB480_492.out
                 have hnb102 := NB492_481.out
                 have hnc102 := NB481_492.out
                 have hnb103 := NB492_500.out
                 have hnc103 := NB500_492.out
                 have hcz104_0 := zI BK492 0 rfl
                 have hcz104_1 := zI BK492 1 rfl
                 have hcz104_2 := zI BK492 2 rfl
                 have hcz104_3 := zI BK492 3 rfl
                 have hfz104_0 := zF BK492.out 0
                 have hfz104_1 := zF BK492.out 1
                 have hfz104_2 := zF BK492.out 2
                 have hfz104_3 := zF BK492.out 3
                 try go_wp2
                 have n0_ := aK (Kd.R_drew HO_493003.out)
                 have n1_ := aK (Kd.R_drew HO_501003.out)
                 have n2_ := aK (zD BK480.out)
                 have n3_ := aK (zD BK481.out)
                 have n4_ := aK (zD BK492.out)
                 have n5_ := aK (zD BK500.out)
                 have n6_ := aK (yD HB.out)
                 clear HO_493003
                 clear HO_501003
                 clear BK480
                 clear BK481
                 clear BK492
                 clear BK500
                 clear HB
                 have HO_493003 := n0_
                 have HO_501003 := n1_
                 have BK480 := n2_
                 have BK481 := n3_
                 have BK492 := n4_
                 have BK500 := n5_
                 have HB := n6_
                 clear n0_ n1_ n2_ n3_ n4_ n5_ n6_
                 have p504 : 0 ≤ (x14_4 : Int) := of_decide_eq_true (by first | (with_reducible assumption) | assumption)
                 have q504 : x14_4 < (t488.length : Int) := of_decide_eq_true (by first | (with_reducible assumption) | assumption)
                 obtain ⟨ad504, e504, hx504_0, hx504_1, hx504_2⟩ := at_T48 (Kd.R_reads' HO_493003.out).2.2 x14_4 p504 q504
                 cases e504
                 replace p504 := eq_true p504
                 replace q504 := eq_true q504
                 have p505 : 0 ≤ (x14_4 : Int) := of_decide_eq_true (by first | (with_reducible assumption) | assumption)
                 have q505 : x14_4 < (t496.length : Int) := of_decide_eq_true (by first | (with_reducible assumption) | assumption)
                 obtain ⟨ad505, e505, hx505_0, hx505_1, hx505_2⟩ := at_T48 (Kd.R_reads' HO_501003.out).2.2 x14_4 p505 q505
                 cases e505
                 replace p505 := eq_true p505
                 replace q505 := eq_true q505
                 refine start_ (n := 11) (S := fun w' => w'.cell? ⟨gb492, 0, none⟩ = some (.string t485) ∧ w'.cell? ⟨gb492, 1, none⟩ = some (.int .i64 t486) ∧ w'.cell? ⟨gb492, 2, none⟩ = some (.int .i64 t487) ∧ w'.cell? ⟨gb492, 3, none⟩ = some (.slice (some ad504) t488.length co37) ∧ w'.cell? ⟨gb500, 0, none⟩ = some (.string t493) ∧ w'.cell? ⟨gb500, 1, none⟩ = some (.int .i64 t494) ∧ w'.cell? ⟨gb500, 2, none⟩ = some (.int .i64 t495) ∧ w'.cell? ⟨gb500, 3, none⟩ = some (.slice (some ad505) t496.length co47) ∧ w'.cell? (ad504.add ((x14_4).toNat * 3)) = some (.int .i64 ((rd_T48 t488 x14_4).f0)) ∧ w'.cell? ⟨(ad504.add ((x14_4).toNat * 3)).block, (ad504.add ((x14_4).toNat * 3)).off + 1, none⟩ = some (.int .i64 ((rd_T48 t488 x14_4).f1)) ∧ w'.cell? ⟨(ad504.add ((x14_4).toNat * 3)).block, (ad504.add ((x14_4).toNat * 3)).off + 2, none⟩ = some (.int .i64 ((rd_T48 t488 x14_4).f2)) ∧ w'.cell? (ad505.add ((x14_4).toNat * 3)) = some (.int .i64 ((rd_T48 t496 x14_4).f0)) ∧ w'.cell? ⟨(ad505.add ((x14_4).toNat * 3)).block, (ad505.add ((x14_4).toNat * 3)).off + 1, none⟩ = some (.int .i64 ((rd_T48 t496 x14_4).f1)) ∧ w'.cell? ⟨(ad505.add ((x14_4).toNat * 3)).block, (ad505.add ((x14_4).toNat * 3)).off + 2, none⟩ = some (.int .i64 ((rd_T48 t496 x14_4).f2))) (ds := []) #[false, false, false, false, false, false, false, false, false, false, false] (by kernel_rfl) rfl rfl ⟨(zC BK492.out 0).trans rfl, (zC BK492.out 1).trans rfl, (zC BK492.out 2).trans rfl, (zC BK492.out 3).trans rfl, (zC BK500.out 0).trans rfl, (zC BK500.out 1).trans rfl, (zC BK500.out 2).trans rfl, (zC BK500.out 3).trans rfl, hx504_0, hx504_1, hx504_2, hx505_0, hx505_1, hx505_2⟩ (fun hHeld => ?_); refine with_tabW gangsawlaw14_BoringTogether.tab17 gangsawlaw14_BoringTogether.bits17 (fun HT_ HW_ => ?_)
                 generalize wr.drew = w105 at HO_493003 HO_501003 BK480 BK481 BK492 BK500 HB hx504_0 hx504_1 hx504_2 hx505_0 hx505_1 hx505_2 hHeld ⊢
                 refine pure_ (i := 0) (N := some 100) (v := ?_) (a' := ?_) #[true, false, false, false, false, false, false, false, false, false, false] rfl rfl (any_of HT_.out (by kernel_rfl)) (fun _ _ _ h => h) (Or.inl ⟨by rfl, ?_⟩) ?_ ?_
                 rotate_left
                 ·intro w'
                  go_simp
                  with_reducible rfl
                 rotate_left
                 ·simp only [Act.put, sA, sZ, sS, i64_w, i32_w]
                  rfl
                 refine pure_ (i := 2) (N := some 102) (v := ?_) (a' := ?_) #[true, false, true, false, false, false, false, false, false, false, false] rfl rfl (any_of HT_.out (by kernel_rfl)) (fun _ _ _ h => h) (Or.inl ⟨by rfl, ?_⟩) ?_ ?_
                 rotate_left
                 ·intro w'
                  go_simp
                  with_reducible rfl
                 rotate_left
                 ·simp only [Act.put, sA, sZ, sS, i64_w, i32_w]
                  rfl
                 refine pure_ (i := 5) (N := some 105) (v := ?_) (a' := ?_) #[true, false, true, false, false, true, false, false, false, false, false] rfl rfl (any_of HT_.out (by kernel_rfl)) (fun _ _ _ h => h) (Or.inl ⟨by rfl, ?_⟩) ?_ ?_
                 rotate_left
                 ·intro w'
                  go_simp
                  with_reducible rfl
                 rotate_left
                 ·simp only [Act.put, sA, sZ, sS, i64_w, i32_w]
                  rfl
                 refine pure_ (i := 7) (N := some 107) (v := ?_) (a' := ?_) #[true, false, true, false, false, true, false, true, false, false, false] rfl rfl (any_of HT_.out (by kernel_rfl)) (fun _ _ _ h => h) (Or.inl ⟨by rfl, ?_⟩) ?_ ?_
                 rotate_left
                 ·intro w'
                  go_simp
                  with_reducible rfl
                 rotate_left
                 ·simp only [Act.put, sA, sZ, sS, i64_w, i32_w]
                  rfl
                 refine take_ (i := 1) (N := some 101) (v := ?_) (a' := ?_) #[true, true, true, false, false, true, false, true, false, false, false] rfl rfl (take_ofW HT_.out HW_.out (by kernel_rfl)) (fun _ _ _ h => h) (Or.inl ⟨by rfl, ?_⟩) hHeld ?_ ?_
                 rotate_left
                 ·rintro w' ⟨s0, s1, s2, s3, s4, s5, s6, s7, s8, s9, s10, s11, s12, s13⟩
                  go_simp
                  with_reducible rfl
                 rotate_left
                 ·simp only [Act.put, sA, sZ, sS, i64_w, i32_w]
                  rfl
                 refine pure_ (i := 3) (N := some 103) (v := ?_) (a' := ?_) #[true, true, true, true, false, true, false, true, false, false, false] rfl rfl (any_of HT_.out (by kernel_rfl)) (fun _ _ _ h => h) (Or.inl ⟨by rfl, ?_⟩) ?_ ?_
                 rotate_left
                 ·intro w'
                  go_simp
                  with_reducible rfl
                 rotate_left
                 ·simp only [Act.put, sA, sZ, sS, i64_w, i32_w]
                  rfl
                 refine take_ (i := 4) (N := some 104) (v := ?_) (a' := ?_) #[true, true, true, true, true, true, false, true, false, false, false] rfl rfl (take_ofW HT_.out HW_.out (by kernel_rfl)) (fun _ _ _ h => h) (Or.inl ⟨by rfl, ?_⟩) hHeld ?_ ?_
                 rotate_left
                 ·rintro w' ⟨s0, s1, s2, s3, s4, s5, s6, s7, s8, s9, s10, s11, s12, s13⟩
                  go_simp
                  with_reducible rfl
                 rotate_left
                 ·simp only [Act.put, sA, sZ, sS, i64_w, i32_w]
                  rfl
                 refine take_ (i := 6) (N := some 106) (v := ?_) (a' := ?_) #[true, true, true, true, true, true, true, true, false, false, false] rfl rfl (take_ofW HT_.out HW_.out (by kernel_rfl)) (fun _ _ _ h => h) (Or.inl ⟨by rfl, ?_⟩) hHeld ?_ ?_
                 rotate_left
                 ·rintro w' ⟨s0, s1, s2, s3, s4, s5, s6, s7, s8, s9, s10, s11, s12, s13⟩
                  go_simp
                  with_reducible rfl
                 rotate_left
                 ·simp only [Act.put, sA, sZ, sS, i64_w, i32_w]
                  rfl
                 refine pure_ (i := 8) (N := some 108) (v := ?_) (a' := ?_) #[true, true, true, true, true, true, true, true, true, false, false] rfl rfl (any_of HT_.out (by kernel_rfl)) (fun _ _ _ h => h) (Or.inl ⟨by rfl, ?_⟩) ?_ ?_
                 rotate_left
                 ·intro w'
                  go_simp
                  with_reducible rfl
                 rotate_left
                 ·simp only [Act.put, sA, sZ, sS, i64_w, i32_w]
                  rfl
                 refine take_ (i := 9) (N := some 109) (v := ?_) (a' := ?_) #[true, true, true, true, true, true, true, true, true, true, false] rfl rfl (take_ofW HT_.out HW_.out (by kernel_rfl)) (fun _ _ _ h => h) (Or.inl ⟨by rfl, ?_⟩) hHeld ?_ ?_
                 rotate_left
                 ·rintro w' ⟨s0, s1, s2, s3, s4, s5, s6, s7, s8, s9, s10, s11, s12, s13⟩
                  go_simp
                  with_reducible rfl
                 rotate_left
                 ·simp only [Act.put, sA, sZ, sS, i64_w, i32_w]
                  rfl
                 refine pure_ (i := 10) (N := some 110) (v := ?_) (a' := ?_) #[true, true, true, true, true, true, true, true, true, true, true] rfl rfl (any_of HT_.out (by kernel_rfl)) (fun _ _ _ h => h) (Or.inl ⟨by rfl, ?_⟩) ?_ ?_
                 rotate_left
                 ·intro w'
                  go_simp
                  with_reducible rfl
                 rotate_left
                 ·simp only [Act.put, sA, sZ, sS, i64_w, i32_w]
                  rfl
                 refine done_ (done_of HT_.out (by kernel_rfl)) ?_
                 try go_wp2
                 go_roundg k4
                 case measure => have := HJ5.out; have := HJ27.out; have := HJ53.out; have := HK4.out; omega
                 case rel => exact ⟨(wrap64 (x14_4 + 1)), (by first | rfl | (simp; done) | (simp [*]; done)), H', ⟨by have := HJ5.out; have := HJ27.out; have := HJ53.out; have := HK4.out; omega⟩, ⟨by (with_reducible repeat (first | apply Kd.R_alloc | apply Kd.R_drewN | apply Kd.R_drew)); exact HO_493003.out⟩, ⟨by (with_reducible repeat (first | apply Kd.R_alloc | apply Kd.R_drewN | apply Kd.R_drew)); exact HO_501003.out⟩, ⟨by (with_reducible repeat (first | refine zN ?_ _ | refine zD ?_ | refine zA ?_ _)); exact BK480.out⟩, ⟨by (with_reducible repeat (first | refine zN ?_ _ | refine zD ?_ | refine zA ?_ _)); exact BK481.out⟩, ⟨by (with_reducible repeat (first | refine zN ?_ _ | refine zD ?_ | refine zA ?_ _)); exact BK492.out⟩, ⟨by (with_reducible repeat (first | refine zN ?_ _ | refine zD ?_ | refine zA ?_ _)); exact BK500.out⟩, ⟨by repeat (first | (with_reducible first | exact HB.out | apply yA | apply yN | apply yD | refine yS ?_ GE480.out | refine yS ?_ GE481.out | refine yS ?_ GE492.out | refine yS ?_ GE500.out) | exact HB.out)⟩⟩
               ·rw [if_neg c99] at H
                exact absurd H (by simp)
              ·rw [if_neg c98] at H
               exact absurd H (by simp)
             ·rw [if_neg c97] at H
              have c97b0 : decide (x14_4 < (t488.length : Int)) = false := decide_eq_false c97
              clear c97
              replace H := Option.bind_eq_some_iff.mp H
              obtain ⟨⟨t506, t507, t508, t509, t512⟩, A1060, H⟩ := H
              replace H : ((boring_Normal.f k4 a0_0 a0_1 a0_2 l0_3).bind fun bt514 => (if t512 = 0 then (if bt514.2.2.2.2 = 0 then ((gangsawref14_Equal.f k4 t506 t507 t508 t509 bt514.1 bt514.2.1 bt514.2.2.1 bt514.2.2.2.1).bind fun t522 => (some t522)) else (some false)) else (some false))) = some r := H
              have A106 := aK A1060
              clear A1060
              replace H := Option.bind_eq_some_iff.mp H
              obtain ⟨⟨t514, t515, t516, t517, t520⟩, A1070, H⟩ := H
              replace H : (if t512 = 0 then (if t520 = 0 then ((gangsawref14_Equal.f k4 t506 t507 t508 t509 t514 t515 t516 t517).bind fun t522 => (some t522)) else (some false)) else (some false)) = some r := H
              have A107 := aK A1070
              clear A1070
              by_cases c108 : t512 = 0
              ·rw [if_pos c108] at H
               have c108b0 : (t512 == 0) = true := beq_iff_eq.mpr c108
               have c108b1 : (t512 != 0) = false := bne_eq_false_iff_eq.mpr c108
               clear c108
               by_cases c109 : t520 = 0
               ·rw [if_pos c109] at H
                have c109b0 : (t520 == 0) = true := beq_iff_eq.mpr c109
                have c109b1 : (t520 != 0) = false := bne_eq_false_iff_eq.mpr c109
                clear c109
                replace H := Option.bind_eq_some_iff.mp H
                obtain ⟨t522, A1100, H⟩ := H
                replace H : (some t522) = some r := H
                have A110 := aK A1100
                clear A1100
                obtain rfl := Option.some.inj H
                simp only [Option.some.injEq, Prod.mk.injEq] at H
                obtain ⟨rfl⟩ := H
                have hnb111 := NB492_480.out
                have hnc111 := NB480_492.out
                have hnb112 := NB492_481.out
                have hnc112 := NB481_492.out
                have hnb113 := NB492_500.out
                have hnc113 := NB500_492.out
                have hcz114_0 := zI BK492 0 rfl
                have hcz114_1 := zI BK492 1 rfl
                have hcz114_2 := zI BK492 2 rfl
                have hcz114_3 := zI BK492 3 rfl
                have hfz114_0 := zF BK492.out 0
                have hfz114_1 := zF BK492.out 1
                have hfz114_2 := zF BK492.out 2
                have hfz114_3 := zF BK492.out 3
                have hnb115 := NB480_481.out
                have hnc115 := NB481_480.out
                have hnb116 := NB480_500.out
                have hnc116 := NB500_480.out
                have hcz117_0 := zI BK480 0 rfl
                have hcz117_1 := zI BK480 1 rfl
                have hcz117_2 := zI BK480 2 rfl
                have hcz117_3 := zI BK480 3 rfl
                have hfz117_0 := zF BK480.out 0
                have hfz117_1 := zF BK480.out 1
                have hfz117_2 := zF BK480.out 2
                have hfz117_3 := zF BK480.out 3
                go_wp2_with (first | ((with_reducible refine gate_callee (f := 26) rfl ?_); refine goesL_ (some 114) rfl rfl Tryz.func26 (by kernel_rfl) rfl #[.agg #[.string a0_0, .int .i64 a0_1, .int .i64 a0_2, .slice A0_3 l0_3.length c0_3], .agg #[.string a0_0, .int .i64 a0_1, .int .i64 a0_2, .slice A0_3 l0_3.length c0_3]] rfl (by (try simp only [List.map_toArray, List.map_cons, List.map_nil]); first | done | rfl | (simp only [List.length_drop, List.length_take]; rfl)) ?_; (with_reducible refine (boring_Merge.calls k4 a0_0 a0_1 a0_2 (fun k_ => k_ < w.heap.size) _ _ l0_3 a0_0 a0_1 a0_2 (fun k_ => k_ < w.heap.size) _ _ l0_3 t506 t507 t508 t509 t512 _ ?side1 ?side2 A106.out).mono ?_); (case side1 => exact Kd.V_mk HC0_3.out (Kd.F_below (Kd.C_F k48_heap HR0_3.out) (by repeat (first | (with_reducible first | exact HB.out | apply yA | apply yN | apply yD | refine yS ?_ GE480.out | refine yS ?_ GE481.out | refine yS ?_ GE492.out | refine yS ?_ GE500.out) | exact HB.out)))); (case side2 => exact Kd.V_mk HC0_3.out (Kd.F_below (Kd.C_F k48_heap HR0_3.out) (by repeat (first | (with_reducible first | exact HB.out | apply yA | apply yN | apply yD | refine yS ?_ GE480.out | refine yS ?_ GE481.out | refine yS ?_ GE492.out | refine yS ?_ GE500.out) | exact HB.out)))); rintro e w118 ⟨v510, rfl, ho0, hb⟩; refine ⟨_, rfl, ?_⟩; have n0_ := aK (Kd.R_elder' (by (with_reducible repeat (first | apply Kd.R_alloc | apply Kd.R_drewN | apply Kd.R_drew)); exact HO_493003.out) (Kd.R_base ho0) hb); have n1_ := aK (Kd.R_elder' (by (with_reducible repeat (first | apply Kd.R_alloc | apply Kd.R_drewN | apply Kd.R_drew)); exact HO_501003.out) (Kd.R_base ho0) hb); have n2_ := aK (Kd.R_lower (Kd.R_new' (Kd.R_new' (Kd.R_mono (ok' := fun k_ => True) ho0 (fun _ hk_ => trivial)) (Kd.R_lt (by (with_reducible repeat (first | apply Kd.R_alloc | apply Kd.R_drewN | apply Kd.R_drew)); exact HO_493003.out))) (Kd.R_lt (by (with_reducible repeat (first | apply Kd.R_alloc | apply Kd.R_drewN | apply Kd.R_drew)); exact HO_501003.out))) (yZ (by repeat (first | (with_reducible first | exact HB.out | apply yA | apply yN | apply yD | refine yS ?_ GE480.out | refine yS ?_ GE481.out | refine yS ?_ GE492.out | refine yS ?_ GE500.out) | exact HB.out)))); have n3_ := zG BK480 hb (fun h => by (with_reducible repeat (first | refine zN ?_ _ | refine zD ?_ | refine zA ?_ _)); exact h); have n4_ := zG BK481 hb (fun h => by (with_reducible repeat (first | refine zN ?_ _ | refine zD ?_ | refine zA ?_ _)); exact h); have n5_ := zG BK492 hb (fun h => by (with_reducible repeat (first | refine zN ?_ _ | refine zD ?_ | refine zA ?_ _)); exact h); have n6_ := zG BK500 hb (fun h => by (with_reducible repeat (first | refine zN ?_ _ | refine zD ?_ | refine zA ?_ _)); exact h); have n7_ := aK (yT (by repeat (first | (with_reducible first | exact HB.out | apply yA | apply yN | apply yD | refine yS ?_ GE480.out | refine yS ?_ GE481.out | refine yS ?_ GE492.out | refine yS ?_ GE500.out) | exact HB.out)) hb); clear HO_493003; clear HO_501003; clear BK480; clear BK481; clear BK492; clear BK500; clear HB; have HO_493003 := n0_; have HO_501003 := n1_; have HO511 := n2_; have BK480 := n3_; have BK481 := n4_; have BK492 := n5_; have BK500 := n6_; have HB := n7_; clear n0_ n1_ n2_ n3_ n4_ n5_ n6_ n7_; (try clear hb); (try clear hb2); (try clear hk); (try clear hi); (try clear ho0)) | ((with_reducible refine gate_dst (N := 15) rfl ?_); (try (refine gate_guard (by rfl) ?_; dsimp only)); refine box_event ?hg (N := 15) ?hd (cs := #[.string (⟨#[]⟩ : ByteArray), .int .i64 0, .int .i64 0, .slice none 0 0]) (t := 33) ?hr ?_; (case hd => rfl); (case hg => rfl); (case hr => first | (go_simp; done) | (go_simp; rfl)); intro gb513 hg w119 hbox hb; have n0_ := aK (Kd.R_below (by (with_reducible repeat (first | apply Kd.R_alloc | apply Kd.R_drewN | apply Kd.R_drew)); exact HO_493003.out) hb); have n1_ := aK (Kd.R_below (by (with_reducible repeat (first | apply Kd.R_alloc | apply Kd.R_drewN | apply Kd.R_drew)); exact HO_501003.out) hb); have n2_ := aK (Kd.R_below (by (with_reducible repeat (first | apply Kd.R_alloc | apply Kd.R_drewN | apply Kd.R_drew)); exact HO511.out) hb); have n3_ := zG BK480 hb (fun h => by (with_reducible repeat (first | refine zN ?_ _ | refine zD ?_ | refine zA ?_ _)); exact h); have n4_ := zG BK481 hb (fun h => by (with_reducible repeat (first | refine zN ?_ _ | refine zD ?_ | refine zA ?_ _)); exact h); have n5_ := zG BK492 hb (fun h => by (with_reducible repeat (first | refine zN ?_ _ | refine zD ?_ | refine zA ?_ _)); exact h); have n6_ := zG BK500 hb (fun h => by (with_reducible repeat (first | refine zN ?_ _ | refine zD ?_ | refine zA ?_ _)); exact h); have ⟨n7_, n9_⟩ := zV (w := w) hb hg (by repeat (first | (with_reducible first | exact HB.out | apply yA | apply yN | apply yD | refine yS ?_ GE480.out | refine yS ?_ GE481.out | refine yS ?_ GE492.out | refine yS ?_ GE500.out) | exact HB.out)); have n8_ := aK (hbox); have n10_ := n9_; have n11_ := aK ((by rw [hg]; exact Nat.ne_of_lt (blk_lt (g := gb480) (o := .cells #[.string a0_0, .int .i64 a0_1, .int .i64 a0_2, .slice A0_3 l0_3.length c0_3] 33 (0, 0)) (by (with_reducible repeat (first | refine zN ?_ _ | refine zD ?_ | refine zA ?_ _)); exact BK480.out)) : gb480 ≠ gb513)); have n12_ := aK ((by rw [hg]; exact Nat.ne_of_gt (blk_lt (g := gb480) (o := .cells #[.string a0_0, .int .i64 a0_1, .int .i64 a0_2, .slice A0_3 l0_3.length c0_3] 33 (0, 0)) (by (with_reducible repeat (first | refine zN ?_ _ | refine zD ?_ | refine zA ?_ _)); exact BK480.out)) : gb513 ≠ gb480)); have n13_ := aK ((by rw [hg]; exact Nat.ne_of_lt (blk_lt (g := gb481) (o := .cells #[.string a1_0, .int .i64 a1_1, .int .i64 a1_2, .slice A1_3 l1_3.length c1_3] 33 (0, 0)) (by (with_reducible repeat (first | refine zN ?_ _ | refine zD ?_ | refine zA ?_ _)); exact BK481.out)) : gb481 ≠ gb513)); have n14_ := aK ((by rw [hg]; exact Nat.ne_of_gt (blk_lt (g := gb481) (o := .cells #[.string a1_0, .int .i64 a1_1, .int .i64 a1_2, .slice A1_3 l1_3.length c1_3] 33 (0, 0)) (by (with_reducible repeat (first | refine zN ?_ _ | refine zD ?_ | refine zA ?_ _)); exact BK481.out)) : gb513 ≠ gb481)); have n15_ := aK ((by rw [hg]; exact Nat.ne_of_lt (blk_lt (g := gb492) (o := .cells #[.string t485, .int .i64 t486, .int .i64 t487, .slice Ao37 t488.length co37] 33 (0, 0)) (by (with_reducible repeat (first | refine zN ?_ _ | refine zD ?_ | refine zA ?_ _)); exact BK492.out)) : gb492 ≠ gb513)); have n16_ := aK ((by rw [hg]; exact Nat.ne_of_gt (blk_lt (g := gb492) (o := .cells #[.string t485, .int .i64 t486, .int .i64 t487, .slice Ao37 t488.length co37] 33 (0, 0)) (by (with_reducible repeat (first | refine zN ?_ _ | refine zD ?_ | refine zA ?_ _)); exact BK492.out)) : gb513 ≠ gb492)); have n17_ := aK ((by rw [hg]; exact Nat.ne_of_lt (blk_lt (g := gb500) (o := .cells #[.string t493, .int .i64 t494, .int .i64 t495, .slice Ao47 t496.length co47] 33 (0, 0)) (by (with_reducible repeat (first | refine zN ?_ _ | refine zD ?_ | refine zA ?_ _)); exact BK500.out)) : gb500 ≠ gb513)); have n18_ := aK ((by rw [hg]; exact Nat.ne_of_gt (blk_lt (g := gb500) (o := .cells #[.string t493, .int .i64 t494, .int .i64 t495, .slice Ao47 t496.length co47] 33 (0, 0)) (by (with_reducible repeat (first | refine zN ?_ _ | refine zD ?_ | refine zA ?_ _)); exact BK500.out)) : gb513 ≠ gb500)); clear HO_493003; clear HO_501003; clear HO511; clear BK480; clear BK481; clear BK492; clear BK500; clear HB; have HO_493003 := n0_; have HO_501003 := n1_; have HO511 := n2_; have BK480 := n3_; have BK481 := n4_; have BK492 := n5_; have BK500 := n6_; have HB := n7_; have BK513 := n8_; have GW513 := n9_; have GE513 := n10_; have NB480_513 := n11_; have NB513_480 := n12_; have NB481_513 := n13_; have NB513_481 := n14_; have NB492_513 := n15_; have NB513_492 := n16_; have NB500_513 := n17_; have NB513_500 := n18_; clear n0_ n1_ n2_ n3_ n4_ n5_ n6_ n7_ n8_ n9_ n10_ n11_ n12_ n13_ n14_ n15_ n16_ n17_ n18_; clear hb hbox hg; have hnb120 := NB513_480.out; have hnc120 := NB480_513.out; have hnb121 := NB513_481.out; have hnc121 := NB481_513.out; have hnb122 := NB513_492.out; have hnc122 := NB492_513.out; have hnb123 := NB513_500.out; have hnc123 := NB500_513.out; have hcz124_0 := zI BK513 0 rfl; have hcz124_1 := zI BK513 1 rfl; have hcz124_2 := zI BK513 2 rfl; have hcz124_3 := zI BK513 3 rfl; have hfz124_0 := zF BK513.out 0; have hfz124_1 := zF BK513.out 1; have hfz124_2 := zF BK513.out 2; have hfz124_3 := zF BK513.out 3; obtain ⟨Ao125, co125, eo125⟩ := Kd.R_slice HO511.out; subst eo125; have hcz126_0 := zI BK480 0 rfl; have hcz126_1 := zI BK480 1 rfl; have hcz126_2 := zI BK480 2 rfl; have hcz126_3 := zI BK480 3 rfl; have hfz126_0 := zF BK480.out 0; have hfz126_1 := zF BK480.out 1; have hfz126_2 := zF BK480.out 2; have hfz126_3 := zF BK480.out 3) | ((with_reducible refine gate_callee (f := 17) rfl ?_); refine goesL_ (some 119) rfl rfl Tryz.func17 (by kernel_rfl) rfl #[.agg #[.string a0_0, .int .i64 a0_1, .int .i64 a0_2, .slice A0_3 l0_3.length c0_3]] rfl (by (try simp only [List.map_toArray, List.map_cons, List.map_nil]); first | done | rfl | (simp only [List.length_drop, List.length_take]; rfl)) ?_; (with_reducible refine (boring_Normal.calls k4 a0_0 a0_1 a0_2 _ _ l0_3 t514 t515 t516 t517 t520 _ ?side1 ?side2 A107.out).mono ?_); (case side1 => exact Kd.C_below HR0_3.out (by repeat (first | (with_reducible first | exact HB.out | apply yA | apply yN | apply yD | refine yS ?_ GE480.out | refine yS ?_ GE481.out | refine yS ?_ GE492.out | refine yS ?_ GE500.out | refine yS ?_ GE513.out) | exact HB.out))); (case side2 => exact HC0_3.out); rintro e w127 ⟨v518, rfl, ho0, hb⟩; refine ⟨_, rfl, ?_⟩; have n0_ := aK (Kd.R_elder' (by (with_reducible repeat (first | apply Kd.R_alloc | apply Kd.R_drewN | apply Kd.R_drew)); exact (Kd.R_mono (Kd.R_far (p := ⟨gb513, 3, none⟩) (Kd.R_far (p := ⟨gb513, 2, none⟩) (Kd.R_far (p := ⟨gb513, 1, none⟩) (Kd.R_far (p := ⟨gb513, 0, none⟩) (Kd.R_types HO_493003.out BK513.out (by decide)) (fun _ hk => hk.2) (.string t506)) (fun _ hk => hk.2) (.int .i64 t507)) (fun _ hk => hk.2) (.int .i64 t508)) (fun _ hk => hk.2) (.slice Ao125 t509.length co125)) (fun _ h_ => h_.1))) (Kd.R_base ho0) hb); have n1_ := aK (Kd.R_elder' (by (with_reducible repeat (first | apply Kd.R_alloc | apply Kd.R_drewN | apply Kd.R_drew)); exact (Kd.R_mono (Kd.R_far (p := ⟨gb513, 3, none⟩) (Kd.R_far (p := ⟨gb513, 2, none⟩) (Kd.R_far (p := ⟨gb513, 1, none⟩) (Kd.R_far (p := ⟨gb513, 0, none⟩) (Kd.R_types HO_501003.out BK513.out (by decide)) (fun _ hk => hk.2) (.string t506)) (fun _ hk => hk.2) (.int .i64 t507)) (fun _ hk => hk.2) (.int .i64 t508)) (fun _ hk => hk.2) (.slice Ao125 t509.length co125)) (fun _ h_ => h_.1))) (Kd.R_base ho0) hb); have n2_ := aK (Kd.R_elder' (by (with_reducible repeat (first | apply Kd.R_alloc | apply Kd.R_drewN | apply Kd.R_drew)); exact (Kd.R_mono (Kd.R_far (p := ⟨gb513, 3, none⟩) (Kd.R_far (p := ⟨gb513, 2, none⟩) (Kd.R_far (p := ⟨gb513, 1, none⟩) (Kd.R_far (p := ⟨gb513, 0, none⟩) (Kd.R_types HO511.out BK513.out (by decide)) (fun _ hk => hk.2) (.string t506)) (fun _ hk => hk.2) (.int .i64 t507)) (fun _ hk => hk.2) (.int .i64 t508)) (fun _ hk => hk.2) (.slice Ao125 t509.length co125)) (fun _ h_ => h_.1))) (Kd.R_base ho0) hb); have n3_ := aK (Kd.R_lower (Kd.R_new' (Kd.R_new' (Kd.R_new' ho0 (Kd.R_lt (by (with_reducible repeat (first | apply Kd.R_alloc | apply Kd.R_drewN | apply Kd.R_drew)); exact (Kd.R_mono (Kd.R_far (p := ⟨gb513, 3, none⟩) (Kd.R_far (p := ⟨gb513, 2, none⟩) (Kd.R_far (p := ⟨gb513, 1, none⟩) (Kd.R_far (p := ⟨gb513, 0, none⟩) (Kd.R_types HO_493003.out BK513.out (by decide)) (fun _ hk => hk.2) (.string t506)) (fun _ hk => hk.2) (.int .i64 t507)) (fun _ hk => hk.2) (.int .i64 t508)) (fun _ hk => hk.2) (.slice Ao125 t509.length co125)) (fun _ h_ => h_.1))))) (Kd.R_lt (by (with_reducible repeat (first | apply Kd.R_alloc | apply Kd.R_drewN | apply Kd.R_drew)); exact (Kd.R_mono (Kd.R_far (p := ⟨gb513, 3, none⟩) (Kd.R_far (p := ⟨gb513, 2, none⟩) (Kd.R_far (p := ⟨gb513, 1, none⟩) (Kd.R_far (p := ⟨gb513, 0, none⟩) (Kd.R_types HO_501003.out BK513.out (by decide)) (fun _ hk => hk.2) (.string t506)) (fun _ hk => hk.2) (.int .i64 t507)) (fun _ hk => hk.2) (.int .i64 t508)) (fun _ hk => hk.2) (.slice Ao125 t509.length co125)) (fun _ h_ => h_.1))))) (Kd.R_lt (by (with_reducible repeat (first | apply Kd.R_alloc | apply Kd.R_drewN | apply Kd.R_drew)); exact (Kd.R_mono (Kd.R_far (p := ⟨gb513, 3, none⟩) (Kd.R_far (p := ⟨gb513, 2, none⟩) (Kd.R_far (p := ⟨gb513, 1, none⟩) (Kd.R_far (p := ⟨gb513, 0, none⟩) (Kd.R_types HO511.out BK513.out (by decide)) (fun _ hk => hk.2) (.string t506)) (fun _ hk => hk.2) (.int .i64 t507)) (fun _ hk => hk.2) (.int .i64 t508)) (fun _ hk => hk.2) (.slice Ao125 t509.length co125)) (fun _ h_ => h_.1))))) (yZ (by repeat (first | (with_reducible first | exact HB.out | apply yA | apply yN | apply yD | refine yS ?_ GE480.out | refine yS ?_ GE481.out | refine yS ?_ GE492.out | refine yS ?_ GE500.out | refine yS ?_ GE513.out) | exact HB.out)))); have n4_ := aK (zB (g := gb480) (o := .cells #[.string a0_0, .int .i64 a0_1, .int .i64 a0_2, .slice A0_3 l0_3.length c0_3] 33 (0, 0)) (by (with_reducible repeat (first | refine zN ?_ _ | refine zD ?_ | refine zA ?_ _)); refine blk_far ?_ NB480_513.out _; (with_reducible repeat (first | refine zN ?_ _ | refine zD ?_ | refine zA ?_ _)); refine blk_far ?_ NB480_513.out _; (with_reducible repeat (first | refine zN ?_ _ | refine zD ?_ | refine zA ?_ _)); refine blk_far ?_ NB480_513.out _; (with_reducible repeat (first | refine zN ?_ _ | refine zD ?_ | refine zA ?_ _)); refine blk_far ?_ NB480_513.out _; (with_reducible repeat (first | refine zN ?_ _ | refine zD ?_ | refine zA ?_ _)); exact BK480.out) hb); have n5_ := aK (zB (g := gb481) (o := .cells #[.string a1_0, .int .i64 a1_1, .int .i64 a1_2, .slice A1_3 l1_3.length c1_3] 33 (0, 0)) (by (with_reducible repeat (first | refine zN ?_ _ | refine zD ?_ | refine zA ?_ _)); refine blk_far ?_ NB481_513.out _; (with_reducible repeat (first | refine zN ?_ _ | refine zD ?_ | refine zA ?_ _)); refine blk_far ?_ NB481_513.out _; (with_reducible repeat (first | refine zN ?_ _ | refine zD ?_ | refine zA ?_ _)); refine blk_far ?_ NB481_513.out _; (with_reducible repeat (first | refine zN ?_ _ | refine zD ?_ | refine zA ?_ _)); refine blk_far ?_ NB481_513.out _; (with_reducible repeat (first | refine zN ?_ _ | refine zD ?_ | refine zA ?_ _)); exact BK481.out) hb); have n6_ := aK (zB (g := gb492) (o := .cells #[.string t485, .int .i64 t486, .int .i64 t487, .slice Ao37 t488.length co37] 33 (0, 0)) (by (with_reducible repeat (first | refine zN ?_ _ | refine zD ?_ | refine zA ?_ _)); refine blk_far ?_ NB492_513.out _; (with_reducible repeat (first | refine zN ?_ _ | refine zD ?_ | refine zA ?_ _)); refine blk_far ?_ NB492_513.out _; (with_reducible repeat (first | refine zN ?_ _ | refine zD ?_ | refine zA ?_ _)); refine blk_far ?_ NB492_513.out _; (with_reducible repeat (first | refine zN ?_ _ | refine zD ?_ | refine zA ?_ _)); refine blk_far ?_ NB492_513.out _; (with_reducible repeat (first | refine zN ?_ _ | refine zD ?_ | refine zA ?_ _)); exact BK492.out) hb); have n7_ := aK (zB (g := gb500) (o := .cells #[.string t493, .int .i64 t494, .int .i64 t495, .slice Ao47 t496.length co47] 33 (0, 0)) (by (with_reducible repeat (first | refine zN ?_ _ | refine zD ?_ | refine zA ?_ _)); refine blk_far ?_ NB500_513.out _; (with_reducible repeat (first | refine zN ?_ _ | refine zD ?_ | refine zA ?_ _)); refine blk_far ?_ NB500_513.out _; (with_reducible repeat (first | refine zN ?_ _ | refine zD ?_ | refine zA ?_ _)); refine blk_far ?_ NB500_513.out _; (with_reducible repeat (first | refine zN ?_ _ | refine zD ?_ | refine zA ?_ _)); refine blk_far ?_ NB500_513.out _; (with_reducible repeat (first | refine zN ?_ _ | refine zD ?_ | refine zA ?_ _)); exact BK500.out) hb); have n8_ := aK (zB (g := gb513) (o := .cells #[.string t506, .int .i64 t507, .int .i64 t508, .slice Ao125 t509.length co125] 33 (0, 0)) (by (with_reducible repeat (first | refine zN ?_ _ | refine zD ?_ | refine zA ?_ _)); refine blk_put (cs := #[.string t506, .int .i64 t507, .int .i64 t508, .slice none 0 0]) ?_ 3 _ rfl; (with_reducible repeat (first | refine zN ?_ _ | refine zD ?_ | refine zA ?_ _)); refine blk_put (cs := #[.string t506, .int .i64 t507, .int .i64 0, .slice none 0 0]) ?_ 2 _ rfl; (with_reducible repeat (first | refine zN ?_ _ | refine zD ?_ | refine zA ?_ _)); refine blk_put (cs := #[.string t506, .int .i64 0, .int .i64 0, .slice none 0 0]) ?_ 1 _ rfl; (with_reducible repeat (first | refine zN ?_ _ | refine zD ?_ | refine zA ?_ _)); refine blk_put (cs := #[.string (⟨#[]⟩ : ByteArray), .int .i64 0, .int .i64 0, .slice none 0 0]) ?_ 0 _ rfl; (with_reducible repeat (first | refine zN ?_ _ | refine zD ?_ | refine zA ?_ _)); exact BK513.out) hb); have n9_ := aK (yT (by repeat (first | (with_reducible first | exact HB.out | apply yA | apply yN | apply yD | refine yS ?_ GE480.out | refine yS ?_ GE481.out | refine yS ?_ GE492.out | refine yS ?_ GE500.out | refine yS ?_ GE513.out) | exact HB.out)) hb); clear HO_493003; clear HO_501003; clear HO511; clear BK480; clear BK481; clear BK492; clear BK500; clear BK513; clear HB; have HO_493003 := n0_; have HO_501003 := n1_; have HO511 := n2_; have HO519 := n3_; have BK480 := n4_; have BK481 := n5_; have BK492 := n6_; have BK500 := n7_; have BK513 := n8_; have HB := n9_; clear n0_ n1_ n2_ n3_ n4_ n5_ n6_ n7_ n8_ n9_; (try clear hb); (try clear hb2); (try clear hk); (try clear hi); (try clear ho0)) | ((with_reducible refine gate_dst (N := 17) rfl ?_); (try (refine gate_guard (by rfl) ?_; dsimp only)); refine box_event ?hg (N := 17) ?hd (cs := #[.string (⟨#[]⟩ : ByteArray), .int .i64 0, .int .i64 0, .slice none 0 0]) (t := 33) ?hr ?_; (case hd => rfl); (case hg => rfl); (case hr => first | (go_simp; done) | (go_simp; rfl)); intro gb521 hg w128 hbox hb; have n0_ := aK (Kd.R_below (by (with_reducible repeat (first | apply Kd.R_alloc | apply Kd.R_drewN | apply Kd.R_drew)); exact HO_493003.out) hb); have n1_ := aK (Kd.R_below (by (with_reducible repeat (first | apply Kd.R_alloc | apply Kd.R_drewN | apply Kd.R_drew)); exact HO_501003.out) hb); have n2_ := aK (Kd.R_below (by (with_reducible repeat (first | apply Kd.R_alloc | apply Kd.R_drewN | apply Kd.R_drew)); exact HO511.out) hb); have n3_ := aK (Kd.R_below (by (with_reducible repeat (first | apply Kd.R_alloc | apply Kd.R_drewN | apply Kd.R_drew)); exact HO519.out) hb); have n4_ := zG BK480 hb (fun h => by (with_reducible repeat (first | refine zN ?_ _ | refine zD ?_ | refine zA ?_ _)); exact h); have n5_ := zG BK481 hb (fun h => by (with_reducible repeat (first | refine zN ?_ _ | refine zD ?_ | refine zA ?_ _)); exact h); have n6_ := zG BK492 hb (fun h => by (with_reducible repeat (first | refine zN ?_ _ | refine zD ?_ | refine zA ?_ _)); exact h); have n7_ := zG BK500 hb (fun h => by (with_reducible repeat (first | refine zN ?_ _ | refine zD ?_ | refine zA ?_ _)); exact h); have n8_ := zG BK513 hb (fun h => by (with_reducible repeat (first | refine zN ?_ _ | refine zD ?_ | refine zA ?_ _)); exact h); have ⟨n9_, n11_⟩ := zV (w := w) hb hg (by repeat (first | (with_reducible first | exact HB.out | apply yA | apply yN | apply yD | refine yS ?_ GE480.out | refine yS ?_ GE481.out | refine yS ?_ GE492.out | refine yS ?_ GE500.out | refine yS ?_ GE513.out) | exact HB.out)); have n10_ := aK (hbox); have n12_ := n11_; have n13_ := aK ((by rw [hg]; exact Nat.ne_of_lt (blk_lt (g := gb480) (o := .cells #[.string a0_0, .int .i64 a0_1, .int .i64 a0_2, .slice A0_3 l0_3.length c0_3] 33 (0, 0)) (by (with_reducible repeat (first | refine zN ?_ _ | refine zD ?_ | refine zA ?_ _)); exact BK480.out)) : gb480 ≠ gb521)); have n14_ := aK ((by rw [hg]; exact Nat.ne_of_gt (blk_lt (g := gb480) (o := .cells #[.string a0_0, .int .i64 a0_1, .int .i64 a0_2, .slice A0_3 l0_3.length c0_3] 33 (0, 0)) (by (with_reducible repeat (first | refine zN ?_ _ | refine zD ?_ | refine zA ?_ _)); exact BK480.out)) : gb521 ≠ gb480)); have n15_ := aK ((by rw [hg]; exact Nat.ne_of_lt (blk_lt (g := gb481) (o := .cells #[.string a1_0, .int .i64 a1_1, .int .i64 a1_2, .slice A1_3 l1_3.length c1_3] 33 (0, 0)) (by (with_reducible repeat (first | refine zN ?_ _ | refine zD ?_ | refine zA ?_ _)); exact BK481.out)) : gb481 ≠ gb521)); have n16_ := aK ((by rw [hg]; exact Nat.ne_of_gt (blk_lt (g := gb481) (o := .cells #[.string a1_0, .int .i64 a1_1, .int .i64 a1_2, .slice A1_3 l1_3.length c1_3] 33 (0, 0)) (by (with_reducible repeat (first | refine zN ?_ _ | refine zD ?_ | refine zA ?_ _)); exact BK481.out)) : gb521 ≠ gb481)); have n17_ := aK ((by rw [hg]; exact Nat.ne_of_lt (blk_lt (g := gb492) (o := .cells #[.string t485, .int .i64 t486, .int .i64 t487, .slice Ao37 t488.length co37] 33 (0, 0)) (by (with_reducible repeat (first | refine zN ?_ _ | refine zD ?_ | refine zA ?_ _)); exact BK492.out)) : gb492 ≠ gb521)); have n18_ := aK ((by rw [hg]; exact Nat.ne_of_gt (blk_lt (g := gb492) (o := .cells #[.string t485, .int .i64 t486, .int .i64 t487, .slice Ao37 t488.length co37] 33 (0, 0)) (by (with_reducible repeat (first | refine zN ?_ _ | refine zD ?_ | refine zA ?_ _)); exact BK492.out)) : gb521 ≠ gb492)); have n19_ := aK ((by rw [hg]; exact Nat.ne_of_lt (blk_lt (g := gb500) (o := .cells #[.string t493, .int .i64 t494, .int .i64 t495, .slice Ao47 t496.length co47] 33 (0, 0)) (by (with_reducible repeat (first | refine zN ?_ _ | refine zD ?_ | refine zA ?_ _)); exact BK500.out)) : gb500 ≠ gb521)); have n20_ := aK ((by rw [hg]; exact Nat.ne_of_gt (blk_lt (g := gb500) (o := .cells #[.string t493, .int .i64 t494, .int .i64 t495, .slice Ao47 t496.length co47] 33 (0, 0)) (by (with_reducible repeat (first | refine zN ?_ _ | refine zD ?_ | refine zA ?_ _)); exact BK500.out)) : gb521 ≠ gb500)); have n21_ := aK ((by rw [hg]; exact Nat.ne_of_lt (blk_lt (g := gb513) (o := .cells #[.string t506, .int .i64 t507, .int .i64 t508, .slice Ao125 t509.length co125] 33 (0, 0)) (by (with_reducible repeat (first | refine zN ?_ _ | refine zD ?_ | refine zA ?_ _)); exact BK513.out)) : gb513 ≠ gb521)); have n22_ := aK ((by rw [hg]; exact Nat.ne_of_gt (blk_lt (g := gb513) (o := .cells #[.string t506, .int .i64 t507, .int .i64 t508, .slice Ao125 t509.length co125] 33 (0, 0)) (by (with_reducible repeat (first | refine zN ?_ _ | refine zD ?_ | refine zA ?_ _)); exact BK513.out)) : gb521 ≠ gb513)); clear HO_493003; clear HO_501003; clear HO511; clear HO519; clear BK480; clear BK481; clear BK492; clear BK500; clear BK513; clear HB; have HO_493003 := n0_; have HO_501003 := n1_; have HO511 := n2_; have HO519 := n3_; have BK480 := n4_; have BK481 := n5_; have BK492 := n6_; have BK500 := n7_; have BK513 := n8_; have HB := n9_; have BK521 := n10_; have GW521 := n11_; have GE521 := n12_; have NB480_521 := n13_; have NB521_480 := n14_; have NB481_521 := n15_; have NB521_481 := n16_; have NB492_521 := n17_; have NB521_492 := n18_; have NB500_521 := n19_; have NB521_500 := n20_; have NB513_521 := n21_; have NB521_513 := n22_; clear n0_ n1_ n2_ n3_ n4_ n5_ n6_ n7_ n8_ n9_ n10_ n11_ n12_ n13_ n14_ n15_ n16_ n17_ n18_ n19_ n20_ n21_ n22_; clear hb hbox hg; have hnb129 := NB521_480.out; have hnc129 := NB480_521.out; have hnb130 := NB521_481.out; have hnc130 := NB481_521.out; have hnb131 := NB521_492.out; have hnc131 := NB492_521.out; have hnb132 := NB521_500.out; have hnc132 := NB500_521.out; have hnb133 := NB521_513.out; have hnc133 := NB513_521.out; have hcz134_0 := zI BK521 0 rfl; have hcz134_1 := zI BK521 1 rfl; have hcz134_2 := zI BK521 2 rfl; have hcz134_3 := zI BK521 3 rfl; have hfz134_0 := zF BK521.out 0; have hfz134_1 := zF BK521.out 1; have hfz134_2 := zF BK521.out 2; have hfz134_3 := zF BK521.out 3; obtain ⟨Ao135, co135, eo135⟩ := Kd.R_slice HO519.out; subst eo135; have hcz136_0 := zI BK513 0 rfl; have hcz136_1 := zI BK513 1 rfl; have hcz136_2 := zI BK513 2 rfl; have hcz136_3 := zI BK513 3 rfl; have hfz136_0 := zF BK513.out 0; have hfz136_1 := zF BK513.out 1; have hfz136_2 := zF BK513.out 2; have hfz136_3 := zF BK513.out 3) | (go_at_call 23; (with_reducible refine (gangsawref14_Equal.calls k4 t506 t507 t508 _ _ t509 t514 t515 t516 _ _ t517 t522 _ ?side1 ?side2 ?side3 ?side4 A110.out).mono ?_); (case side1 => refine (Kd.R_reads' (e := 48) (base := w.heap.size) (ok := fun k_ => (((True ∧ some k_ ≠ (.slice Ao37 t488.length co37 : Value).ownBlock) ∧ some k_ ≠ (.slice Ao47 t496.length co47 : Value).ownBlock) ∧ some k_ ≠ (.slice Ao135 t517.length co135 : Value).ownBlock)) (n := t509.length) (c := co125) ?_).2.2; exact (by (with_reducible repeat (first | apply Kd.R_alloc | apply Kd.R_drewN | apply Kd.R_drew)); exact (Kd.R_mono (Kd.R_far (p := ⟨gb521, 3, none⟩) (Kd.R_far (p := ⟨gb521, 2, none⟩) (Kd.R_far (p := ⟨gb521, 1, none⟩) (Kd.R_far (p := ⟨gb521, 0, none⟩) (Kd.R_types HO511.out BK521.out (by decide)) (fun _ hk => hk.2) (.string t514)) (fun _ hk => hk.2) (.int .i64 t515)) (fun _ hk => hk.2) (.int .i64 t516)) (fun _ hk => hk.2) (.slice Ao135 t517.length co135)) (fun _ h_ => h_.1)))); (case side2 => exact (Kd.R_reads' HO511.out).2.1); (case side3 => refine (Kd.R_reads' (e := 48) (base := w.heap.size) (ok := fun k_ => (((True ∧ some k_ ≠ (.slice Ao37 t488.length co37 : Value).ownBlock) ∧ some k_ ≠ (.slice Ao47 t496.length co47 : Value).ownBlock) ∧ some k_ ≠ (.slice Ao125 t509.length co125 : Value).ownBlock)) (n := t517.length) (c := co135) ?_).2.2; exact (by (with_reducible repeat (first | apply Kd.R_alloc | apply Kd.R_drewN | apply Kd.R_drew)); exact (Kd.R_mono (Kd.R_far (p := ⟨gb521, 3, none⟩) (Kd.R_far (p := ⟨gb521, 2, none⟩) (Kd.R_far (p := ⟨gb521, 1, none⟩) (Kd.R_far (p := ⟨gb521, 0, none⟩) (Kd.R_types HO519.out BK521.out (by decide)) (fun _ hk => hk.2) (.string t514)) (fun _ hk => hk.2) (.int .i64 t515)) (fun _ hk => hk.2) (.int .i64 t516)) (fun _ hk => hk.2) (.slice Ao135 t517.length co135)) (fun _ h_ => h_.1)))); (case side4 => exact (Kd.R_reads' HO519.out).2.1); rintro e w137 ⟨rfl, hb⟩; have n0_ := aK (Kd.R_below (by (with_reducible repeat (first | apply Kd.R_alloc | apply Kd.R_drewN | apply Kd.R_drew)); exact (Kd.R_mono (Kd.R_far (p := ⟨gb521, 3, none⟩) (Kd.R_far (p := ⟨gb521, 2, none⟩) (Kd.R_far (p := ⟨gb521, 1, none⟩) (Kd.R_far (p := ⟨gb521, 0, none⟩) (Kd.R_types HO_493003.out BK521.out (by decide)) (fun _ hk => hk.2) (.string t514)) (fun _ hk => hk.2) (.int .i64 t515)) (fun _ hk => hk.2) (.int .i64 t516)) (fun _ hk => hk.2) (.slice Ao135 t517.length co135)) (fun _ h_ => h_.1))) hb); have n1_ := aK (Kd.R_below (by (with_reducible repeat (first | apply Kd.R_alloc | apply Kd.R_drewN | apply Kd.R_drew)); exact (Kd.R_mono (Kd.R_far (p := ⟨gb521, 3, none⟩) (Kd.R_far (p := ⟨gb521, 2, none⟩) (Kd.R_far (p := ⟨gb521, 1, none⟩) (Kd.R_far (p := ⟨gb521, 0, none⟩) (Kd.R_types HO_501003.out BK521.out (by decide)) (fun _ hk => hk.2) (.string t514)) (fun _ hk => hk.2) (.int .i64 t515)) (fun _ hk => hk.2) (.int .i64 t516)) (fun _ hk => hk.2) (.slice Ao135 t517.length co135)) (fun _ h_ => h_.1))) hb); have n2_ := aK (Kd.R_below (by (with_reducible repeat (first | apply Kd.R_alloc | apply Kd.R_drewN | apply Kd.R_drew)); exact (Kd.R_mono (Kd.R_far (p := ⟨gb521, 3, none⟩) (Kd.R_far (p := ⟨gb521, 2, none⟩) (Kd.R_far (p := ⟨gb521, 1, none⟩) (Kd.R_far (p := ⟨gb521, 0, none⟩) (Kd.R_types HO511.out BK521.out (by decide)) (fun _ hk => hk.2) (.string t514)) (fun _ hk => hk.2) (.int .i64 t515)) (fun _ hk => hk.2) (.int .i64 t516)) (fun _ hk => hk.2) (.slice Ao135 t517.length co135)) (fun _ h_ => h_.1))) hb); have n3_ := aK (Kd.R_below (by (with_reducible repeat (first | apply Kd.R_alloc | apply Kd.R_drewN | apply Kd.R_drew)); exact (Kd.R_mono (Kd.R_far (p := ⟨gb521, 3, none⟩) (Kd.R_far (p := ⟨gb521, 2, none⟩) (Kd.R_far (p := ⟨gb521, 1, none⟩) (Kd.R_far (p := ⟨gb521, 0, none⟩) (Kd.R_types HO519.out BK521.out (by decide)) (fun _ hk => hk.2) (.string t514)) (fun _ hk => hk.2) (.int .i64 t515)) (fun _ hk => hk.2) (.int .i64 t516)) (fun _ hk => hk.2) (.slice Ao135 t517.length co135)) (fun _ h_ => h_.1))) hb); have n4_ := aK (zB (g := gb480) (o := .cells #[.string a0_0, .int .i64 a0_1, .int .i64 a0_2, .slice A0_3 l0_3.length c0_3] 33 (0, 0)) (by (with_reducible repeat (first | refine zN ?_ _ | refine zD ?_ | refine zA ?_ _)); refine blk_far ?_ NB480_521.out _; (with_reducible repeat (first | refine zN ?_ _ | refine zD ?_ | refine zA ?_ _)); refine blk_far ?_ NB480_521.out _; (with_reducible repeat (first | refine zN ?_ _ | refine zD ?_ | refine zA ?_ _)); refine blk_far ?_ NB480_521.out _; (with_reducible repeat (first | refine zN ?_ _ | refine zD ?_ | refine zA ?_ _)); refine blk_far ?_ NB480_521.out _; (with_reducible repeat (first | refine zN ?_ _ | refine zD ?_ | refine zA ?_ _)); exact BK480.out) hb); have n5_ := aK (zB (g := gb481) (o := .cells #[.string a1_0, .int .i64 a1_1, .int .i64 a1_2, .slice A1_3 l1_3.length c1_3] 33 (0, 0)) (by (with_reducible repeat (first | refine zN ?_ _ | refine zD ?_ | refine zA ?_ _)); refine blk_far ?_ NB481_521.out _; (with_reducible repeat (first | refine zN ?_ _ | refine zD ?_ | refine zA ?_ _)); refine blk_far ?_ NB481_521.out _; (with_reducible repeat (first | refine zN ?_ _ | refine zD ?_ | refine zA ?_ _)); refine blk_far ?_ NB481_521.out _; (with_reducible repeat (first | refine zN ?_ _ | refine zD ?_ | refine zA ?_ _)); refine blk_far ?_ NB481_521.out _; (with_reducible repeat (first | refine zN ?_ _ | refine zD ?_ | refine zA ?_ _)); exact BK481.out) hb); have n6_ := aK (zB (g := gb492) (o := .cells #[.string t485, .int .i64 t486, .int .i64 t487, .slice Ao37 t488.length co37] 33 (0, 0)) (by (with_reducible repeat (first | refine zN ?_ _ | refine zD ?_ | refine zA ?_ _)); refine blk_far ?_ NB492_521.out _; (with_reducible repeat (first | refine zN ?_ _ | refine zD ?_ | refine zA ?_ _)); refine blk_far ?_ NB492_521.out _; (with_reducible repeat (first | refine zN ?_ _ | refine zD ?_ | refine zA ?_ _)); refine blk_far ?_ NB492_521.out _; (with_reducible repeat (first | refine zN ?_ _ | refine zD ?_ | refine zA ?_ _)); refine blk_far ?_ NB492_521.out _; (with_reducible repeat (first | refine zN ?_ _ | refine zD ?_ | refine zA ?_ _)); exact BK492.out) hb); have n7_ := aK (zB (g := gb500) (o := .cells #[.string t493, .int .i64 t494, .int .i64 t495, .slice Ao47 t496.length co47] 33 (0, 0)) (by (with_reducible repeat (first | refine zN ?_ _ | refine zD ?_ | refine zA ?_ _)); refine blk_far ?_ NB500_521.out _; (with_reducible repeat (first | refine zN ?_ _ | refine zD ?_ | refine zA ?_ _)); refine blk_far ?_ NB500_521.out _; (with_reducible repeat (first | refine zN ?_ _ | refine zD ?_ | refine zA ?_ _)); refine blk_far ?_ NB500_521.out _; (with_reducible repeat (first | refine zN ?_ _ | refine zD ?_ | refine zA ?_ _)); refine blk_far ?_ NB500_521.out _; (with_reducible repeat (first | refine zN ?_ _ | refine zD ?_ | refine zA ?_ _)); exact BK500.out) hb); have n8_ := aK (zB (g := gb513) (o := .cells #[.string t506, .int .i64 t507, .int .i64 t508, .slice Ao125 t509.length co125] 33 (0, 0)) (by (with_reducible repeat (first | refine zN ?_ _ | refine zD ?_ | refine zA ?_ _)); refine blk_far ?_ NB513_521.out _; (with_reducible repeat (first | refine zN ?_ _ | refine zD ?_ | refine zA ?_ _)); refine blk_far ?_ NB513_521.out _; (with_reducible repeat (first | refine zN ?_ _ | refine zD ?_ | refine zA ?_ _)); refine blk_far ?_ NB513_521.out _; (with_reducible repeat (first | refine zN ?_ _ | refine zD ?_ | refine zA ?_ _)); refine blk_far ?_ NB513_521.out _; (with_reducible repeat (first | refine zN ?_ _ | refine zD ?_ | refine zA ?_ _)); exact BK513.out) hb); have n9_ := aK (zB (g := gb521) (o := .cells #[.string t514, .int .i64 t515, .int .i64 t516, .slice Ao135 t517.length co135] 33 (0, 0)) (by (with_reducible repeat (first | refine zN ?_ _ | refine zD ?_ | refine zA ?_ _)); refine blk_put (cs := #[.string t514, .int .i64 t515, .int .i64 t516, .slice none 0 0]) ?_ 3 _ rfl; (with_reducible repeat (first | refine zN ?_ _ | refine zD ?_ | refine zA ?_ _)); refine blk_put (cs := #[.string t514, .int .i64 t515, .int .i64 0, .slice none 0 0]) ?_ 2 _ rfl; (with_reducible repeat (first | refine zN ?_ _ | refine zD ?_ | refine zA ?_ _)); refine blk_put (cs := #[.string t514, .int .i64 0, .int .i64 0, .slice none 0 0]) ?_ 1 _ rfl; (with_reducible repeat (first | refine zN ?_ _ | refine zD ?_ | refine zA ?_ _)); refine blk_put (cs := #[.string (⟨#[]⟩ : ByteArray), .int .i64 0, .int .i64 0, .slice none 0 0]) ?_ 0 _ rfl; (with_reducible repeat (first | refine zN ?_ _ | refine zD ?_ | refine zA ?_ _)); exact BK521.out) hb); have n10_ := aK (yT (by repeat (first | (with_reducible first | exact HB.out | apply yA | apply yN | apply yD | refine yS ?_ GE480.out | refine yS ?_ GE481.out | refine yS ?_ GE492.out | refine yS ?_ GE500.out | refine yS ?_ GE513.out | refine yS ?_ GE521.out) | exact HB.out)) hb); clear HO_493003; clear HO_501003; clear HO511; clear HO519; clear BK480; clear BK481; clear BK492; clear BK500; clear BK513; clear BK521; clear HB; have HO_493003 := n0_; have HO_501003 := n1_; have HO511 := n2_; have HO519 := n3_; have BK480 := n4_; have BK481 := n5_; have BK492 := n6_; have BK500 := n7_; have BK513 := n8_; have BK521 := n9_; have HB := n10_; clear n0_ n1_ n2_ n3_ n4_ n5_ n6_ n7_ n8_ n9_ n10_; (try clear hb); (try clear hb2); (try clear hk); (try clear hi)))
                go_ret
                exact ⟨by first | rfl | (simp [errW_none, errW_some] <;> rfl) | (simp [*, errW_none, errW_some] <;> rfl), by repeat (first | (with_reducible first | exact HB.out | apply yA | apply yN | apply yD | refine yS ?_ GE480.out | refine yS ?_ GE481.out | refine yS ?_ GE492.out | refine yS ?_ GE500.out | refine yS ?_ GE513.out | refine yS ?_ GE521.out) | exact HB.out)⟩
               ·rw [if_neg c109] at H
                have c109b0 : (t520 == 0) = false := beq_eq_false_iff_ne.mpr c109
                have c109b1 : (t520 != 0) = true := bne_iff_ne.mpr c109
                obtain rfl := Option.some.inj H
                exact absurd hr (by decide)
              ·rw [if_neg c108] at H
               have c108b0 : (t512 == 0) = false := beq_eq_false_iff_ne.mpr c108
               have c108b1 : (t512 != 0) = true := bne_iff_ne.mpr c108
               obtain rfl := Option.some.inj H
               exact absurd hr (by decide)
     ·rw [if_neg c24] at H
      have c24b0 : (t491 == 0) = false := beq_eq_false_iff_ne.mpr c24
      have c24b1 : (t491 != 0) = true := bne_iff_ne.mpr c24
      by_cases c138 : (t488.length : Int) = 0
      ·rw [if_pos c138] at H
       have c138b0 : ((t488.length : Int) == 0) = true := beq_iff_eq.mpr c138
       have c138b1 : ((t488.length : Int) != 0) = false := bne_eq_false_iff_eq.mpr c138
       clear c138
       obtain rfl := Option.some.inj H
       simp only [Option.some.injEq, Prod.mk.injEq] at H
       obtain ⟨rfl⟩ := H
       have hnb139 := NB480_481.out
       have hnc139 := NB481_480.out
       have hcz140_0 := zI BK480 0 rfl
       have hcz140_1 := zI BK480 1 rfl
       have hcz140_2 := zI BK480 2 rfl
       have hcz140_3 := zI BK480 3 rfl
       have hfz140_0 := zF BK480.out 0
       have hfz140_1 := zF BK480.out 1
       have hfz140_2 := zF BK480.out 2
       have hfz140_3 := zF BK480.out 3
       have hcz141_0 := zI BK481 0 rfl
       have hcz141_1 := zI BK481 1 rfl
       have hcz141_2 := zI BK481 2 rfl
       have hcz141_3 := zI BK481 3 rfl
       have hfz141_0 := zF BK481.out 0
       have hfz141_1 := zF BK481.out 1
       have hfz141_2 := zF BK481.out 2
       have hfz141_3 := zF BK481.out 3
       go_wp2_with (first | ((with_reducible refine gate_callee (f := 26) rfl ?_); refine goesL_ (some 32) rfl rfl Tryz.func26 (by kernel_rfl) rfl #[.agg #[.string a0_0, .int .i64 a0_1, .int .i64 a0_2, .slice A0_3 l0_3.length c0_3], .agg #[.string a1_0, .int .i64 a1_1, .int .i64 a1_2, .slice A1_3 l1_3.length c1_3]] rfl (by (try simp only [List.map_toArray, List.map_cons, List.map_nil]); first | done | rfl | (simp only [List.length_drop, List.length_take]; rfl)) ?_; (with_reducible refine (boring_Merge.calls kj5 a0_0 a0_1 a0_2 (fun k_ => k_ < w.heap.size) _ _ l0_3 a1_0 a1_1 a1_2 (fun k_ => k_ < w.heap.size) _ _ l1_3 t485 t486 t487 t488 t491 _ ?side1 ?side2 A22.out).mono ?_); (case side1 => exact Kd.V_mk HC0_3.out (Kd.F_below (Kd.C_F k48_heap HR0_3.out) (by repeat (first | (with_reducible first | exact HB.out | apply yA | apply yN | apply yD | refine yS ?_ GE480.out | refine yS ?_ GE481.out) | exact HB.out)))); (case side2 => exact Kd.V_mk HC1_3.out (Kd.F_below (Kd.C_F k48_heap HR1_3.out) (by repeat (first | (with_reducible first | exact HB.out | apply yA | apply yN | apply yD | refine yS ?_ GE480.out | refine yS ?_ GE481.out) | exact HB.out)))); rintro e w142 ⟨v489, rfl, ho0, hb⟩; refine ⟨_, rfl, ?_⟩; have n0_ := aK (Kd.R_lower (Kd.R_mono (ok' := fun k_ => True) ho0 (fun _ hk_ => trivial)) (yZ (by repeat (first | (with_reducible first | exact HB.out | apply yA | apply yN | apply yD | refine yS ?_ GE480.out | refine yS ?_ GE481.out) | exact HB.out)))); have n1_ := zG BK480 hb (fun h => by (with_reducible repeat (first | refine zN ?_ _ | refine zD ?_ | refine zA ?_ _)); exact h); have n2_ := zG BK481 hb (fun h => by (with_reducible repeat (first | refine zN ?_ _ | refine zD ?_ | refine zA ?_ _)); exact h); have n3_ := aK (yT (by repeat (first | (with_reducible first | exact HB.out | apply yA | apply yN | apply yD | refine yS ?_ GE480.out | refine yS ?_ GE481.out) | exact HB.out)) hb); clear BK480; clear BK481; clear HB; have HO490 := n0_; have BK480 := n1_; have BK481 := n2_; have HB := n3_; clear n0_ n1_ n2_ n3_; (try clear hb); (try clear hb2); (try clear hk); (try clear hi); (try clear ho0)) | ((with_reducible refine gate_dst (N := 7) rfl ?_); (try (refine gate_guard (by rfl) ?_; dsimp only)); refine box_event ?hg (N := 7) ?hd (cs := #[.string (⟨#[]⟩ : ByteArray), .int .i64 0, .int .i64 0, .slice none 0 0]) (t := 33) ?hr ?_; (case hd => rfl); (case hg => rfl); (case hr => first | (go_simp; done) | (go_simp; rfl)); intro gb492 hg w143 hbox hb; have n0_ := aK (Kd.R_below (by (with_reducible repeat (first | apply Kd.R_alloc | apply Kd.R_drewN | apply Kd.R_drew)); exact HO490.out) hb); have n1_ := zG BK480 hb (fun h => by (with_reducible repeat (first | refine zN ?_ _ | refine zD ?_ | refine zA ?_ _)); exact h); have n2_ := zG BK481 hb (fun h => by (with_reducible repeat (first | refine zN ?_ _ | refine zD ?_ | refine zA ?_ _)); exact h); have ⟨n3_, n5_⟩ := zV (w := w) hb hg (by repeat (first | (with_reducible first | exact HB.out | apply yA | apply yN | apply yD | refine yS ?_ GE480.out | refine yS ?_ GE481.out) | exact HB.out)); have n4_ := aK (hbox); have n6_ := n5_; have n7_ := aK ((by rw [hg]; exact Nat.ne_of_lt (blk_lt (g := gb480) (o := .cells #[.string a0_0, .int .i64 a0_1, .int .i64 a0_2, .slice A0_3 l0_3.length c0_3] 33 (0, 0)) (by (with_reducible repeat (first | refine zN ?_ _ | refine zD ?_ | refine zA ?_ _)); exact BK480.out)) : gb480 ≠ gb492)); have n8_ := aK ((by rw [hg]; exact Nat.ne_of_gt (blk_lt (g := gb480) (o := .cells #[.string a0_0, .int .i64 a0_1, .int .i64 a0_2, .slice A0_3 l0_3.length c0_3] 33 (0, 0)) (by (with_reducible repeat (first | refine zN ?_ _ | refine zD ?_ | refine zA ?_ _)); exact BK480.out)) : gb492 ≠ gb480)); have n9_ := aK ((by rw [hg]; exact Nat.ne_of_lt (blk_lt (g := gb481) (o := .cells #[.string a1_0, .int .i64 a1_1, .int .i64 a1_2, .slice A1_3 l1_3.length c1_3] 33 (0, 0)) (by (with_reducible repeat (first | refine zN ?_ _ | refine zD ?_ | refine zA ?_ _)); exact BK481.out)) : gb481 ≠ gb492)); have n10_ := aK ((by rw [hg]; exact Nat.ne_of_gt (blk_lt (g := gb481) (o := .cells #[.string a1_0, .int .i64 a1_1, .int .i64 a1_2, .slice A1_3 l1_3.length c1_3] 33 (0, 0)) (by (with_reducible repeat (first | refine zN ?_ _ | refine zD ?_ | refine zA ?_ _)); exact BK481.out)) : gb492 ≠ gb481)); clear HO490; clear BK480; clear BK481; clear HB; have HO490 := n0_; have BK480 := n1_; have BK481 := n2_; have HB := n3_; have BK492 := n4_; have GW492 := n5_; have GE492 := n6_; have NB480_492 := n7_; have NB492_480 := n8_; have NB481_492 := n9_; have NB492_481 := n10_; clear n0_ n1_ n2_ n3_ n4_ n5_ n6_ n7_ n8_ n9_ n10_; clear hb hbox hg; have hnb144 := NB492_480.out; have hnc144 := NB480_492.out; have hnb145 := NB492_481.out; have hnc145 := NB481_492.out; have hcz146_0 := zI BK492 0 rfl; have hcz146_1 := zI BK492 1 rfl; have hcz146_2 := zI BK492 2 rfl; have hcz146_3 := zI BK492 3 rfl; have hfz146_0 := zF BK492.out 0; have hfz146_1 := zF BK492.out 1; have hfz146_2 := zF BK492.out 2; have hfz146_3 := zF BK492.out 3; obtain ⟨Ao147, co147, eo147⟩ := Kd.R_slice HO490.out; subst eo147) | ((with_reducible refine gate_store (t := 33) (p := 7) rfl ?_); refine store_event (t := 33) (p := 7) (v := ?vo_w148) (w1 := ((((w143.setCell ⟨gb492, 0, none⟩ (.string t485)).setCell ⟨gb492, 1, none⟩ (.int .i64 t486)).setCell ⟨gb492, 2, none⟩ (.int .i64 t487)).setCell ⟨gb492, 3, none⟩ (.slice Ao147 t488.length co147))) ?hg ?ho ?hn ?hr ?_; (case ho => rfl); (case hg => rfl); (case hn => rfl); (case hr => first | (go_simp; done) | (go_simp; rfl)); intro w148 hw; have n0_ : Aside0 (Kd.R k48 48 w148 w.heap.size (fun _ => True) (.slice Ao147 t488.length co147) t488) := ⟨(by rw [hw]; exact (by (with_reducible repeat (first | apply Kd.R_alloc | apply Kd.R_drewN | apply Kd.R_drew)); exact Kd.R_mono (Kd.R_far (p := ⟨gb492, 3, none⟩) (Kd.R_far (p := ⟨gb492, 2, none⟩) (Kd.R_far (p := ⟨gb492, 1, none⟩) (Kd.R_far (p := ⟨gb492, 0, none⟩) (Kd.R_types HO490.out BK492.out (by decide)) (fun _ hk => hk.2) (.string t485)) (fun _ hk => hk.2) (.int .i64 t486)) (fun _ hk => hk.2) (.int .i64 t487)) (fun _ hk => hk.2) (.slice Ao147 t488.length co147)) (fun _ hk => trivial)))⟩; have n1_ : Aside0 (w148.heap[gb480]? = some (.cells #[.string a0_0, .int .i64 a0_1, .int .i64 a0_2, .slice A0_3 l0_3.length c0_3] 33 (0, 0))) := ⟨(by rw [hw]; exact (by (with_reducible repeat (first | refine zN ?_ _ | refine zD ?_ | refine zA ?_ _)); refine blk_far ?_ NB480_492.out _; (with_reducible repeat (first | refine zN ?_ _ | refine zD ?_ | refine zA ?_ _)); refine blk_far ?_ NB480_492.out _; (with_reducible repeat (first | refine zN ?_ _ | refine zD ?_ | refine zA ?_ _)); refine blk_far ?_ NB480_492.out _; (with_reducible repeat (first | refine zN ?_ _ | refine zD ?_ | refine zA ?_ _)); refine blk_far ?_ NB480_492.out _; (with_reducible repeat (first | refine zN ?_ _ | refine zD ?_ | refine zA ?_ _)); exact BK480.out))⟩; have n2_ : Aside0 (w148.heap[gb481]? = some (.cells #[.string a1_0, .int .i64 a1_1, .int .i64 a1_2, .slice A1_3 l1_3.length c1_3] 33 (0, 0))) := ⟨(by rw [hw]; exact (by (with_reducible repeat (first | refine zN ?_ _ | refine zD ?_ | refine zA ?_ _)); refine blk_far ?_ NB481_492.out _; (with_reducible repeat (first | refine zN ?_ _ | refine zD ?_ | refine zA ?_ _)); refine blk_far ?_ NB481_492.out _; (with_reducible repeat (first | refine zN ?_ _ | refine zD ?_ | refine zA ?_ _)); refine blk_far ?_ NB481_492.out _; (with_reducible repeat (first | refine zN ?_ _ | refine zD ?_ | refine zA ?_ _)); refine blk_far ?_ NB481_492.out _; (with_reducible repeat (first | refine zN ?_ _ | refine zD ?_ | refine zA ?_ _)); exact BK481.out))⟩; have n3_ : Aside0 (w148.heap[gb492]? = some (.cells #[.string t485, .int .i64 t486, .int .i64 t487, .slice Ao147 t488.length co147] 33 (0, 0))) := ⟨(by rw [hw]; exact (by (with_reducible repeat (first | refine zN ?_ _ | refine zD ?_ | refine zA ?_ _)); refine blk_put (cs := #[.string t485, .int .i64 t486, .int .i64 t487, .slice none 0 0]) ?_ 3 _ rfl; (with_reducible repeat (first | refine zN ?_ _ | refine zD ?_ | refine zA ?_ _)); refine blk_put (cs := #[.string t485, .int .i64 t486, .int .i64 0, .slice none 0 0]) ?_ 2 _ rfl; (with_reducible repeat (first | refine zN ?_ _ | refine zD ?_ | refine zA ?_ _)); refine blk_put (cs := #[.string t485, .int .i64 0, .int .i64 0, .slice none 0 0]) ?_ 1 _ rfl; (with_reducible repeat (first | refine zN ?_ _ | refine zD ?_ | refine zA ?_ _)); refine blk_put (cs := #[.string (⟨#[]⟩ : ByteArray), .int .i64 0, .int .i64 0, .slice none 0 0]) ?_ 0 _ rfl; (with_reducible repeat (first | refine zN ?_ _ | refine zD ?_ | refine zA ?_ _)); exact BK492.out))⟩; have n4_ : Aside0 (Below w.heap.size w w148) := ⟨(by rw [hw]; exact (by repeat (first | (with_reducible first | exact HB.out | apply yA | apply yN | apply yD | refine yS ?_ GE480.out | refine yS ?_ GE481.out | refine yS ?_ GE492.out) | exact HB.out)))⟩; clear hw; clear HO490; clear BK480; clear BK481; clear BK492; clear HB; have HO490 := n0_; have BK480 := n1_; have BK481 := n2_; have BK492 := n3_; have HB := n4_; clear n0_ n1_ n2_ n3_ n4_; have hcz149_0 := zI BK481 0 rfl; have hcz149_1 := zI BK481 1 rfl; have hcz149_2 := zI BK481 2 rfl; have hcz149_3 := zI BK481 3 rfl; have hfz149_0 := zF BK481.out 0; have hfz149_1 := zF BK481.out 1; have hfz149_2 := zF BK481.out 2; have hfz149_3 := zF BK481.out 3; have hcz150_0 := zI BK480 0 rfl; have hcz150_1 := zI BK480 1 rfl; have hcz150_2 := zI BK480 2 rfl; have hcz150_3 := zI BK480 3 rfl; have hfz150_0 := zF BK480.out 0; have hfz150_1 := zF BK480.out 1; have hfz150_2 := zF BK480.out 2; have hfz150_3 := zF BK480.out 3) | ((with_reducible refine gate_callee (f := 26) rfl ?_); refine goesL_ (some 38) rfl rfl Tryz.func26 (by kernel_rfl) rfl #[.agg #[.string a1_0, .int .i64 a1_1, .int .i64 a1_2, .slice A1_3 l1_3.length c1_3], .agg #[.string a0_0, .int .i64 a0_1, .int .i64 a0_2, .slice A0_3 l0_3.length c0_3]] rfl (by (try simp only [List.map_toArray, List.map_cons, List.map_nil]); first | done | rfl | (simp only [List.length_drop, List.length_take]; rfl)) ?_; (with_reducible refine (boring_Merge.calls kj5 a1_0 a1_1 a1_2 (fun k_ => k_ < w.heap.size) _ _ l1_3 a0_0 a0_1 a0_2 (fun k_ => k_ < w.heap.size) _ _ l0_3 t493 t494 t495 t496 t499 _ ?side1 ?side2 A23.out).mono ?_); (case side1 => exact Kd.V_mk HC1_3.out (Kd.F_below (Kd.C_F k48_heap HR1_3.out) (by repeat (first | (with_reducible first | exact HB.out | apply yA | apply yN | apply yD | refine yS ?_ GE480.out | refine yS ?_ GE481.out | refine yS ?_ GE492.out) | exact HB.out)))); (case side2 => exact Kd.V_mk HC0_3.out (Kd.F_below (Kd.C_F k48_heap HR0_3.out) (by repeat (first | (with_reducible first | exact HB.out | apply yA | apply yN | apply yD | refine yS ?_ GE480.out | refine yS ?_ GE481.out | refine yS ?_ GE492.out) | exact HB.out)))); rintro e w151 ⟨v497, rfl, ho0, hb⟩; refine ⟨_, rfl, ?_⟩; have n0_ := aK (Kd.R_elder' (by (with_reducible repeat (first | apply Kd.R_alloc | apply Kd.R_drewN | apply Kd.R_drew)); exact HO490.out) (Kd.R_base ho0) hb); have n1_ := aK (Kd.R_lower (Kd.R_new' (Kd.R_mono (ok' := fun k_ => True) ho0 (fun _ hk_ => trivial)) (Kd.R_lt (by (with_reducible repeat (first | apply Kd.R_alloc | apply Kd.R_drewN | apply Kd.R_drew)); exact HO490.out))) (yZ (by repeat (first | (with_reducible first | exact HB.out | apply yA | apply yN | apply yD | refine yS ?_ GE480.out | refine yS ?_ GE481.out | refine yS ?_ GE492.out) | exact HB.out)))); have n2_ := zG BK480 hb (fun h => by (with_reducible repeat (first | refine zN ?_ _ | refine zD ?_ | refine zA ?_ _)); exact h); have n3_ := zG BK481 hb (fun h => by (with_reducible repeat (first | refine zN ?_ _ | refine zD ?_ | refine zA ?_ _)); exact h); have n4_ := zG BK492 hb (fun h => by (with_reducible repeat (first | refine zN ?_ _ | refine zD ?_ | refine zA ?_ _)); exact h); have n5_ := aK (yT (by repeat (first | (with_reducible first | exact HB.out | apply yA | apply yN | apply yD | refine yS ?_ GE480.out | refine yS ?_ GE481.out | refine yS ?_ GE492.out) | exact HB.out)) hb); clear HO490; clear BK480; clear BK481; clear BK492; clear HB; have HO490 := n0_; have HO498 := n1_; have BK480 := n2_; have BK481 := n3_; have BK492 := n4_; have HB := n5_; clear n0_ n1_ n2_ n3_ n4_ n5_; (try clear hb); (try clear hb2); (try clear hk); (try clear hi); (try clear ho0)) | ((with_reducible refine gate_dst (N := 9) rfl ?_); (try (refine gate_guard (by rfl) ?_; dsimp only)); refine box_event ?hg (N := 9) ?hd (cs := #[.string (⟨#[]⟩ : ByteArray), .int .i64 0, .int .i64 0, .slice none 0 0]) (t := 33) ?hr ?_; (case hd => rfl); (case hg => rfl); (case hr => first | (go_simp; done) | (go_simp; rfl)); intro gb500 hg w152 hbox hb; have n0_ := aK (Kd.R_below (by (with_reducible repeat (first | apply Kd.R_alloc | apply Kd.R_drewN | apply Kd.R_drew)); exact HO490.out) hb); have n1_ := aK (Kd.R_below (by (with_reducible repeat (first | apply Kd.R_alloc | apply Kd.R_drewN | apply Kd.R_drew)); exact HO498.out) hb); have n2_ := zG BK480 hb (fun h => by (with_reducible repeat (first | refine zN ?_ _ | refine zD ?_ | refine zA ?_ _)); exact h); have n3_ := zG BK481 hb (fun h => by (with_reducible repeat (first | refine zN ?_ _ | refine zD ?_ | refine zA ?_ _)); exact h); have n4_ := zG BK492 hb (fun h => by (with_reducible repeat (first | refine zN ?_ _ | refine zD ?_ | refine zA ?_ _)); exact h); have ⟨n5_, n7_⟩ := zV (w := w) hb hg (by repeat (first | (with_reducible first | exact HB.out | apply yA | apply yN | apply yD | refine yS ?_ GE480.out | refine yS ?_ GE481.out | refine yS ?_ GE492.out) | exact HB.out)); have n6_ := aK (hbox); have n8_ := n7_; have n9_ := aK ((by rw [hg]; exact Nat.ne_of_lt (blk_lt (g := gb480) (o := .cells #[.string a0_0, .int .i64 a0_1, .int .i64 a0_2, .slice A0_3 l0_3.length c0_3] 33 (0, 0)) (by (with_reducible repeat (first | refine zN ?_ _ | refine zD ?_ | refine zA ?_ _)); exact BK480.out)) : gb480 ≠ gb500)); have n10_ := aK ((by rw [hg]; exact Nat.ne_of_gt (blk_lt (g := gb480) (o := .cells #[.string a0_0, .int .i64 a0_1, .int .i64 a0_2, .slice A0_3 l0_3.length c0_3] 33 (0, 0)) (by (with_reducible repeat (first | refine zN ?_ _ | refine zD ?_ | refine zA ?_ _)); exact BK480.out)) : gb500 ≠ gb480)); have n11_ := aK ((by rw [hg]; exact Nat.ne_of_lt (blk_lt (g := gb481) (o := .cells #[.string a1_0, .int .i64 a1_1, .int .i64 a1_2, .slice A1_3 l1_3.length c1_3] 33 (0, 0)) (by (with_reducible repeat (first | refine zN ?_ _ | refine zD ?_ | refine zA ?_ _)); exact BK481.out)) : gb481 ≠ gb500)); have n12_ := aK ((by rw [hg]; exact Nat.ne_of_gt (blk_lt (g := gb481) (o := .cells #[.string a1_0, .int .i64 a1_1, .int .i64 a1_2, .slice A1_3 l1_3.length c1_3] 33 (0, 0)) (by (with_reducible repeat (first | refine zN ?_ _ | refine zD ?_ | refine zA ?_ _)); exact BK481.out)) : gb500 ≠ gb481)); have n13_ := aK ((by rw [hg]; exact Nat.ne_of_lt (blk_lt (g := gb492) (o := .cells #[.string t485, .int .i64 t486, .int .i64 t487, .slice Ao147 t488.length co147] 33 (0, 0)) (by (with_reducible repeat (first | refine zN ?_ _ | refine zD ?_ | refine zA ?_ _)); exact BK492.out)) : gb492 ≠ gb500)); have n14_ := aK ((by rw [hg]; exact Nat.ne_of_gt (blk_lt (g := gb492) (o := .cells #[.string t485, .int .i64 t486, .int .i64 t487, .slice Ao147 t488.length co147] 33 (0, 0)) (by (with_reducible repeat (first | refine zN ?_ _ | refine zD ?_ | refine zA ?_ _)); exact BK492.out)) : gb500 ≠ gb492)); clear HO490; clear HO498; clear BK480; clear BK481; clear BK492; clear HB; have HO490 := n0_; have HO498 := n1_; have BK480 := n2_; have BK481 := n3_; have BK492 := n4_; have HB := n5_; have BK500 := n6_; have GW500 := n7_; have GE500 := n8_; have NB480_500 := n9_; have NB500_480 := n10_; have NB481_500 := n11_; have NB500_481 := n12_; have NB492_500 := n13_; have NB500_492 := n14_; clear n0_ n1_ n2_ n3_ n4_ n5_ n6_ n7_ n8_ n9_ n10_ n11_ n12_ n13_ n14_; clear hb hbox hg; have hnb153 := NB500_480.out; have hnc153 := NB480_500.out; have hnb154 := NB500_481.out; have hnc154 := NB481_500.out; have hnb155 := NB500_492.out; have hnc155 := NB492_500.out; have hcz156_0 := zI BK500 0 rfl; have hcz156_1 := zI BK500 1 rfl; have hcz156_2 := zI BK500 2 rfl; have hcz156_3 := zI BK500 3 rfl; have hfz156_0 := zF BK500.out 0; have hfz156_1 := zF BK500.out 1; have hfz156_2 := zF BK500.out 2; have hfz156_3 := zF BK500.out 3; obtain ⟨Ao157, co157, eo157⟩ := Kd.R_slice HO498.out; subst eo157; have hcz158_0 := zI BK492 0 rfl; have hcz158_1 := zI BK492 1 rfl; have hcz158_2 := zI BK492 2 rfl; have hcz158_3 := zI BK492 3 rfl; have hfz158_0 := zF BK492.out 0; have hfz158_1 := zF BK492.out 1; have hfz158_2 := zF BK492.out 2; have hfz158_3 := zF BK492.out 3))
       go_ret
       exact ⟨by first | rfl | (simp [errW_none, errW_some] <;> rfl) | (simp [*, errW_none, errW_some] <;> rfl), by repeat (first | (with_reducible first | exact HB.out | apply yA | apply yN | apply yD | refine yS ?_ GE480.out | refine yS ?_ GE481.out | refine yS ?_ GE492.out | refine yS ?_ GE500.out) | exact HB.out)⟩
      ·rw [if_neg c138] at H
       have c138b0 : ((t488.length : Int) == 0) = false := beq_eq_false_iff_ne.mpr c138
       have c138b1 : ((t488.length : Int) != 0) = true := bne_iff_ne.mpr c138
       have c138b2 : ¬ (t488 = []) := fun h_ => c138 (by rw [h_]; rfl)
       obtain rfl := Option.some.inj H
       exact absurd hr (by decide)
 ·replace c5 := Bool.eq_false_iff.mpr c5
  subst c5
  have H1 : (some false) = some r := by rw [if_neg (show ¬ (false = true) by decide)] at H; exact H
  clear H
  have H := H1
  clear H1
  obtain rfl := Option.some.inj H
  exact absurd hr (by decide)

end Go.Proofs.YtfedmcehkpfciaaGreat.P
