/- What functions of the program return: each contract says so of one function, for every input at which its pure function yields. -/
import Derived.Test.YtfedmcehkpfciaaGreatPx0
import Derived.Test.YtfedmcehkpfciaaGreatPx2
import Derived.Test.YtfedmcehkpfciaaGreatPx4
import Derived.Test.YtfedmcehkpfciaaGreatPx10
import Derived.Test.YtfedmcehkpfciaaGreatPx11
import Derived.Test.YtfedmcehkpfciaaGreatPx12
import Derived.Test.YtfedmcehkpfciaaGreatPx13
import Derived.Test.YtfedmcehkpfciaaGreatPx14
import Derived.Test.YtfedmcehkpfciaaGreatPx15
import Derived.Test.YtfedmcehkpfciaaGreatPx16
import Derived.Test.YtfedmcehkpfciaaGreatAwk
namespace Go.Proofs.YtfedmcehkpfciaaGreat.P
open Go.RowKit Go.Proofs.YtfedmcehkpfciaaGreatW.PrintWords Go.Proofs.YtfedmcehkpfciaaGreatW.PrintLast Go.Proofs.YtfedmcehkpfciaaGreatW.PrintMore
attribute [local go_sem] max2_int min2_int max_two min_two max_three min_three max_four min_four   -- for this text's walks alone
set_option linter.unusedVariables false
set_option linter.unusedSimpArgs false

open Go.Proofs.YtfedmcehkpfciaaGreat.Awk
attribute [local go_sem high] eqA46
mutual
def gangsawlaw14_BoringSays.j0 : Nat → Int → List (S46) → List (S46) → Bool → ByteArray → Int → Int → List (S48) → Option (Bool)
 | 0, _, _, _, _, _, _, _, _ => none
 | k + 1, x2, x11, x13, x75, x268000, x268001, x268002, x268003 => if x75 = true then (some false) else (gangsawlaw14_BoringSays.l0 k x2 x11 x13 0 x268000 x268001 x268002 x268003)
def gangsawlaw14_BoringSays.l0 : Nat → Int → List (S46) → List (S46) → Int → ByteArray → Int → Int → List (S48) → Option (Bool)
 | 0, _, _, _, _, _, _, _, _ => none
 | k + 1, x2, x11, x13, x15, x268000, x268001, x268002, x268003 => if x15 < (x11.length : Int) then (if 0 ≤ x15 then (if x15 < (x13.length : Int) then (if (!((((rd_T46 x11 x15).f0).toList) == (((rd_T46 x13 x15).f0).toList)) || (((!(((rd_T46 x11 x15).f1.f0.f0) == ((rd_T46 x13 x15).f1.f0.f0)) || (!(((rd_T46 x11 x15).f1.f0.f1) == ((rd_T46 x13 x15).f1.f0.f1)) || (!(((rd_T46 x11 x15).f1.f0.f2) == ((rd_T46 x13 x15).f1.f0.f2))))) || ((!(((rd_T46 x11 x15).f1.f1.f0) == ((rd_T46 x13 x15).f1.f1.f0)) || (!(((rd_T46 x11 x15).f1.f1.f1) == ((rd_T46 x13 x15).f1.f1.f1)) || (!(((rd_T46 x11 x15).f1.f1.f2) == ((rd_T46 x13 x15).f1.f1.f2))))))) || (!(((rd_T46 x11 x15).f2) == ((rd_T46 x13 x15).f2))))) = true then (some false) else (gangsawlaw14_BoringSays.l0 k x2 x11 x13 (wrap64 (x15 + 1)) x268000 x268001 x268002 x268003)) else (none)) else (none)) else (gangsawlaw14_BoringSays.l1 k x2 0 x268000 x268001 x268002 x268003)
def gangsawlaw14_BoringSays.l1 : Nat → Int → Int → ByteArray → Int → Int → List (S48) → Option (Bool)
 | 0, _, _, _, _, _, _ => none
 | k + 1, x2, x16, x268000, x268001, x268002, x268003 => if x16 < (x268003.length : Int) then (if 0 ≤ x16 then (if ((rd_T48 x268003 x16).f0) < (-1000000) then (some true) else (if ((rd_T48 x268003 x16).f1) > 1000000 then (some true) else (gangsawlaw14_BoringSays.l1 k x2 (wrap64 (x16 + 1)) x268000 x268001 x268002 x268003))) else (none)) else ((boring_Seen.f k x268000 x268001 x268002 x268003 x2).bind fun bt301 => ((gangsawref14_Seen.f k x268000 x268001 x268002 x268003 x2).bind fun bt303 => (if bt301.1 = bt303.1 then (some (bt301.2 == bt303.2)) else (some false))))
end
def gangsawlaw14_BoringSays.f (k : Nat) (a0_0 : ByteArray) (a0_1 : Int) (a0_2 : Int) (l0_3 : List (S48)) (a1 : Int) (a2 : Int) : Option (Bool) := (gangsawlaw14_awake.f).bind fun t268 => (if t268 = true then ((gangsawref14_Small.f a0_0 a0_1 a0_2 l0_3).bind fun t269 => (if t269 = true then ((boring_Normal.f k a0_0 a0_1 a0_2 l0_3).bind fun bt270 => ((gangsawref14_Normal.f k a0_0 a0_1 a0_2 l0_3).bind fun bt278 => ((boring_Evidence.f k a0_0 a0_1 a0_2 l0_3).bind fun bt286 => ((gangsawref14_Evidence.f k a0_0 a0_1 a0_2 l0_3).bind fun bt290 => ((boring_State.f k a0_0 a0_1 a0_2 l0_3 a1).bind fun t294 => ((gangsawref14_State.f k a0_0 a0_1 a0_2 l0_3 a1).bind fun t295 => (if t294 = t295 then (if bt270.2.2.2.2 = bt278.2.2.2.2 then (if bt286.2 = bt290.2 then ((gangsawref14_Equal.f k bt270.1 bt270.2.1 bt270.2.2.1 bt270.2.2.2.1 bt278.1 bt278.2.1 bt278.2.2.1 bt278.2.2.2.1).bind fun t296 => (if t296 = true then (gangsawlaw14_BoringSays.j0 k a2 bt286.1 bt290.1 ((bt286.1.length : Int) != (bt290.1.length : Int)) a0_0 a0_1 a0_2 l0_3) else (gangsawlaw14_BoringSays.j0 k a2 bt286.1 bt290.1 true a0_0 a0_1 a0_2 l0_3))) else (gangsawlaw14_BoringSays.j0 k a2 bt286.1 bt290.1 true a0_0 a0_1 a0_2 l0_3)) else (gangsawlaw14_BoringSays.j0 k a2 bt286.1 bt290.1 true a0_0 a0_1 a0_2 l0_3)) else (gangsawlaw14_BoringSays.j0 k a2 bt286.1 bt290.1 true a0_0 a0_1 a0_2 l0_3)))))))) else (some true))) else (some false))
theorem gangsawlaw14_BoringSays.mono_l : ∀ k, (∀ y0 y1 y2 y3 y4 y5 y6 y7, LeO (gangsawlaw14_BoringSays.j0 k y0 y1 y2 y3 y4 y5 y6 y7) (gangsawlaw14_BoringSays.j0 (k + 1) y0 y1 y2 y3 y4 y5 y6 y7)) ∧ (∀ y0 y1 y2 y3 y4 y5 y6 y7, LeO (gangsawlaw14_BoringSays.l0 k y0 y1 y2 y3 y4 y5 y6 y7) (gangsawlaw14_BoringSays.l0 (k + 1) y0 y1 y2 y3 y4 y5 y6 y7)) ∧ (∀ y0 y1 y2 y3 y4 y5, LeO (gangsawlaw14_BoringSays.l1 k y0 y1 y2 y3 y4 y5) (gangsawlaw14_BoringSays.l1 (k + 1) y0 y1 y2 y3 y4 y5))
 | 0 => ⟨fun _ _ _ _ _ _ _ _ r h => by simp [gangsawlaw14_BoringSays.j0] at h, fun _ _ _ _ _ _ _ _ r h => by simp [gangsawlaw14_BoringSays.l0] at h, fun _ _ _ _ _ _ r h => by simp [gangsawlaw14_BoringSays.l1] at h⟩
 | k + 1 => by
  obtain ⟨ih0, ih1, ih2⟩ := gangsawlaw14_BoringSays.mono_l k
  refine ⟨?_, ?_, ?_⟩
  ·intro y0 y1 y2 y3 y4 y5 y6 y7
   unfold gangsawlaw14_BoringSays.j0
   repeat' first
   | (with_reducible exact ih0 _ _ _ _ _ _ _ _)
   | (with_reducible exact ih1 _ _ _ _ _ _ _ _)
   | (with_reducible exact ih2 _ _ _ _ _ _)
   | (with_reducible exact boring_Evidence.mono _ _ _ _ _)
   | (with_reducible exact boring_Normal.mono _ _ _ _ _)
   | (with_reducible exact boring_Seen.mono _ _ _ _ _ _)
   | (with_reducible exact boring_State.mono _ _ _ _ _ _)
   | (with_reducible exact gangsawref14_Equal.mono _ _ _ _ _ _ _ _ _)
   | (with_reducible exact gangsawref14_Evidence.mono _ _ _ _ _)
   | (with_reducible exact gangsawref14_Normal.mono _ _ _ _ _)
   | (with_reducible exact gangsawref14_Seen.mono _ _ _ _ _ _)
   | (with_reducible exact gangsawref14_State.mono _ _ _ _ _ _)
   | (with_reducible refine contains3.mono2 (fun x_ => ?_))
   | (with_reducible refine contains33.mono2 (fun x_ => ?_))
   | (with_reducible refine contains48.mono2 (fun x_ => ?_))
   | (with_reducible refine contains9.mono2 (fun x_ => ?_))
   | (with_reducible refine index3.mono2 (fun x_ => ?_))
   | (with_reducible refine index33.mono2 (fun x_ => ?_))
   | (with_reducible refine index48.mono2 (fun x_ => ?_))
   | (with_reducible refine index9.mono2 (fun x_ => ?_))
   | (with_reducible exact LeO.refl _)
   | (with_reducible exact LeO.none _)
   | (with_reducible refine LeO.ite ?_ ?_)
   | (with_reducible refine LeO.bind ?_ (fun _ => ?_))
   | exact ih0 _ _ _ _ _ _ _ _
   | exact ih1 _ _ _ _ _ _ _ _
   | exact ih2 _ _ _ _ _ _
   | exact boring_Evidence.mono _ _ _ _ _
   | exact boring_Normal.mono _ _ _ _ _
   | exact boring_Seen.mono _ _ _ _ _ _
   | exact boring_State.mono _ _ _ _ _ _
   | exact gangsawref14_Equal.mono _ _ _ _ _ _ _ _ _
   | exact gangsawref14_Evidence.mono _ _ _ _ _
   | exact gangsawref14_Normal.mono _ _ _ _ _
   | exact gangsawref14_Seen.mono _ _ _ _ _ _
   | exact gangsawref14_State.mono _ _ _ _ _ _
   | exact LeO.none _
   | refine LeO.ite ?_ ?_
   | refine LeO.bind ?_ (fun _ => ?_)
  ·intro y0 y1 y2 y3 y4 y5 y6 y7
   unfold gangsawlaw14_BoringSays.l0
   repeat' first
   | (with_reducible exact ih0 _ _ _ _ _ _ _ _)
   | (with_reducible exact ih1 _ _ _ _ _ _ _ _)
   | (with_reducible exact ih2 _ _ _ _ _ _)
   | (with_reducible exact boring_Evidence.mono _ _ _ _ _)
   | (with_reducible exact boring_Normal.mono _ _ _ _ _)
   | (with_reducible exact boring_Seen.mono _ _ _ _ _ _)
   | (with_reducible exact boring_State.mono _ _ _ _ _ _)
   | (with_reducible exact gangsawref14_Equal.mono _ _ _ _ _ _ _ _ _)
   | (with_reducible exact gangsawref14_Evidence.mono _ _ _ _ _)
   | (with_reducible exact gangsawref14_Normal.mono _ _ _ _ _)
   | (with_reducible exact gangsawref14_Seen.mono _ _ _ _ _ _)
   | (with_reducible exact gangsawref14_State.mono _ _ _ _ _ _)
   | (with_reducible refine contains3.mono2 (fun x_ => ?_))
   | (with_reducible refine contains33.mono2 (fun x_ => ?_))
   | (with_reducible refine contains48.mono2 (fun x_ => ?_))
   | (with_reducible refine contains9.mono2 (fun x_ => ?_))
   | (with_reducible refine index3.mono2 (fun x_ => ?_))
   | (with_reducible refine index33.mono2 (fun x_ => ?_))
   | (with_reducible refine index48.mono2 (fun x_ => ?_))
   | (with_reducible refine index9.mono2 (fun x_ => ?_))
   | (with_reducible exact LeO.refl _)
   | (with_reducible exact LeO.none _)
   | (with_reducible refine LeO.ite ?_ ?_)
   | (with_reducible refine LeO.bind ?_ (fun _ => ?_))
   | exact ih0 _ _ _ _ _ _ _ _
   | exact ih1 _ _ _ _ _ _ _ _
   | exact ih2 _ _ _ _ _ _
   | exact boring_Evidence.mono _ _ _ _ _
   | exact boring_Normal.mono _ _ _ _ _
   | exact boring_Seen.mono _ _ _ _ _ _
   | exact boring_State.mono _ _ _ _ _ _
   | exact gangsawref14_Equal.mono _ _ _ _ _ _ _ _ _
   | exact gangsawref14_Evidence.mono _ _ _ _ _
   | exact gangsawref14_Normal.mono _ _ _ _ _
   | exact gangsawref14_Seen.mono _ _ _ _ _ _
   | exact gangsawref14_State.mono _ _ _ _ _ _
   | exact LeO.none _
   | refine LeO.ite ?_ ?_
   | refine LeO.bind ?_ (fun _ => ?_)
  ·intro y0 y1 y2 y3 y4 y5
   unfold gangsawlaw14_BoringSays.l1
   repeat' first
   | (with_reducible exact ih0 _ _ _ _ _ _ _ _)
   | (with_reducible exact ih1 _ _ _ _ _ _ _ _)
   | (with_reducible exact ih2 _ _ _ _ _ _)
   | (with_reducible exact boring_Evidence.mono _ _ _ _ _)
   | (with_reducible exact boring_Normal.mono _ _ _ _ _)
   | (with_reducible exact boring_Seen.mono _ _ _ _ _ _)
   | (with_reducible exact boring_State.mono _ _ _ _ _ _)
   | (with_reducible exact gangsawref14_Equal.mono _ _ _ _ _ _ _ _ _)
   | (with_reducible exact gangsawref14_Evidence.mono _ _ _ _ _)
   | (with_reducible exact gangsawref14_Normal.mono _ _ _ _ _)
   | (with_reducible exact gangsawref14_Seen.mono _ _ _ _ _ _)
   | (with_reducible exact gangsawref14_State.mono _ _ _ _ _ _)
   | (with_reducible refine contains3.mono2 (fun x_ => ?_))
   | (with_reducible refine contains33.mono2 (fun x_ => ?_))
   | (with_reducible refine contains48.mono2 (fun x_ => ?_))
   | (with_reducible refine contains9.mono2 (fun x_ => ?_))
   | (with_reducible refine index3.mono2 (fun x_ => ?_))
   | (with_reducible refine index33.mono2 (fun x_ => ?_))
   | (with_reducible refine index48.mono2 (fun x_ => ?_))
   | (with_reducible refine index9.mono2 (fun x_ => ?_))
   | (with_reducible exact LeO.refl _)
   | (with_reducible exact LeO.none _)
   | (with_reducible refine LeO.ite ?_ ?_)
   | (with_reducible refine LeO.bind ?_ (fun _ => ?_))
   | exact ih0 _ _ _ _ _ _ _ _
   | exact ih1 _ _ _ _ _ _ _ _
   | exact ih2 _ _ _ _ _ _
   | exact boring_Evidence.mono _ _ _ _ _
   | exact boring_Normal.mono _ _ _ _ _
   | exact boring_Seen.mono _ _ _ _ _ _
   | exact boring_State.mono _ _ _ _ _ _
   | exact gangsawref14_Equal.mono _ _ _ _ _ _ _ _ _
   | exact gangsawref14_Evidence.mono _ _ _ _ _
   | exact gangsawref14_Normal.mono _ _ _ _ _
   | exact gangsawref14_Seen.mono _ _ _ _ _ _
   | exact gangsawref14_State.mono _ _ _ _ _ _
   | exact LeO.none _
   | refine LeO.ite ?_ ?_
   | refine LeO.bind ?_ (fun _ => ?_)
theorem gangsawlaw14_BoringSays.mono : ∀ a0 a1 a2 a3 a4 a5 k, LeO (gangsawlaw14_BoringSays.f k a0 a1 a2 a3 a4 a5) (gangsawlaw14_BoringSays.f (k + 1) a0 a1 a2 a3 a4 a5) := by
 intro a0 a1 a2 a3 a4 a5 k
 obtain ⟨ih0, ih1, ih2⟩ := gangsawlaw14_BoringSays.mono_l k
 unfold gangsawlaw14_BoringSays.f
 repeat' first
   | (with_reducible exact ih0 _ _ _ _ _ _ _ _)
   | (with_reducible exact ih1 _ _ _ _ _ _ _ _)
   | (with_reducible exact ih2 _ _ _ _ _ _)
   | (with_reducible exact boring_Evidence.mono _ _ _ _ _)
   | (with_reducible exact boring_Normal.mono _ _ _ _ _)
   | (with_reducible exact boring_Seen.mono _ _ _ _ _ _)
   | (with_reducible exact boring_State.mono _ _ _ _ _ _)
   | (with_reducible exact gangsawref14_Equal.mono _ _ _ _ _ _ _ _ _)
   | (with_reducible exact gangsawref14_Evidence.mono _ _ _ _ _)
   | (with_reducible exact gangsawref14_Normal.mono _ _ _ _ _)
   | (with_reducible exact gangsawref14_Seen.mono _ _ _ _ _ _)
   | (with_reducible exact gangsawref14_State.mono _ _ _ _ _ _)
   | (with_reducible refine contains3.mono2 (fun x_ => ?_))
   | (with_reducible refine contains33.mono2 (fun x_ => ?_))
   | (with_reducible refine contains48.mono2 (fun x_ => ?_))
   | (with_reducible refine contains9.mono2 (fun x_ => ?_))
   | (with_reducible refine index3.mono2 (fun x_ => ?_))
   | (with_reducible refine index33.mono2 (fun x_ => ?_))
   | (with_reducible refine index48.mono2 (fun x_ => ?_))
   | (with_reducible refine index9.mono2 (fun x_ => ?_))
   | (with_reducible exact LeO.refl _)
   | (with_reducible exact LeO.none _)
   | (with_reducible refine LeO.ite ?_ ?_)
   | (with_reducible refine LeO.bind ?_ (fun _ => ?_))
   | exact ih0 _ _ _ _ _ _ _ _
   | exact ih1 _ _ _ _ _ _ _ _
   | exact ih2 _ _ _ _ _ _
   | exact boring_Evidence.mono _ _ _ _ _
   | exact boring_Normal.mono _ _ _ _ _
   | exact boring_Seen.mono _ _ _ _ _ _
   | exact boring_State.mono _ _ _ _ _ _
   | exact gangsawref14_Equal.mono _ _ _ _ _ _ _ _ _
   | exact gangsawref14_Evidence.mono _ _ _ _ _
   | exact gangsawref14_Normal.mono _ _ _ _ _
   | exact gangsawref14_Seen.mono _ _ _ _ _ _
   | exact gangsawref14_State.mono _ _ _ _ _ _
   | exact LeO.none _
   | refine LeO.ite ?_ ?_
   | refine LeO.bind ?_ (fun _ => ?_)
def gangsawlaw14_BoringSays.T9 : Bool × List (List Nat × List Nat) := (true, [([], []), ([], []), ([0, 1], [0, 1]), ([], []), ([], []), ([3, 4, 2], [3, 4]), ([2, 5], [2, 5]), ([6, 5], [6]), ([7], [7]), ([7], [7]), ([8, 9, 7], [7, 8, 9]), ([7, 10], [7, 10]), ([11, 7], [11]), ([12], [12]), ([12], [12]), ([13, 14, 12], [12, 13, 14]), ([12, 15], [12, 15]), ([16, 12], [16]), ([17], [17]), ([17], [17]), ([18, 19, 17, 17], [17, 18, 19]), ([20, 17], [17, 20]), ([17, 21], [17, 21]), ([22, 20], [22]), ([23], [23]), ([24, 23], [23, 24]), ([23], [23]), ([26, 23], [23, 26]), ([25, 27, 23], [23, 25, 27]), ([23, 28], [23, 28])])
def gangsawlaw14_BoringSays.B9 : List Nat := [0, 0, 3, 0, 0, 31, 63, 127, 255, 255, 1023, 2047, 4095, 8191, 8191, 32767, 65535, 131071, 262143, 262143, 1048575, 2097151, 4194303, 8388607, 16777215, 33554431, 16777215, 83886079, 268435455, 536870911]
theorem gangsawlaw14_BoringSays.tab9 : rtab .any (opsOf Tryz.f4 9) = gangsawlaw14_BoringSays.T9 := by kernel_rfl
theorem gangsawlaw14_BoringSays.bits9 : waitsOk gangsawlaw14_BoringSays.T9.2 gangsawlaw14_BoringSays.B9 = true := by kernel_rfl
def gangsawlaw14_BoringSays.T14 : Bool × List (List Nat × List Nat) := (true, [([], []), ([], []), ([0, 1], [0, 1]), ([2], [2]), ([], []), ([], []), ([4, 5], [4, 5]), ([6], [6]), ([3, 7], [3, 7])])
def gangsawlaw14_BoringSays.B14 : List Nat := [0, 0, 3, 7, 0, 0, 48, 112, 255]
theorem gangsawlaw14_BoringSays.tab14 : rtab .any (opsOf Tryz.f4 14) = gangsawlaw14_BoringSays.T14 := by kernel_rfl
theorem gangsawlaw14_BoringSays.bits14 : waitsOk gangsawlaw14_BoringSays.T14.2 gangsawlaw14_BoringSays.B14 = true := by kernel_rfl
set_option maxHeartbeats 8000000 in
set_option maxRecDepth 100000 in
theorem gangsawlaw14_BoringSays.calls (k : Nat) (a0_0 : ByteArray) (a0_1 : Int) (a0_2 : Int) (A0_3 : Option Addr) (c0_3 : Nat) (l0_3 : List (S48)) (a1 : Int) (a2 : Int) (r : Bool) (w : World) (hr0_3 : Kd.C k48 w A0_3 l0_3.length l0_3) (hc0_3 : l0_3.length ≤ c0_3) (h : gangsawlaw14_BoringSays.f k a0_0 a0_1 a0_2 l0_3 a1 a2 = some r) (hr : r = true) :
  Calls Tryz.prog 4 #[.agg #[.string a0_0, .int .i64 a0_1, .int .i64 a0_2, .slice A0_3 l0_3.length c0_3], .int .i64 a1, .int .i64 a2] w fun e w' => e = .returned (.bool r) ∧ Below w.heap.size w w' := by
 have hu33 := Tryz.underlying33
 have hu46 := Tryz.underlying46
 have HR0_3 := aK hr0_3
 have HC0_3 := aK hc0_3
 clear hr0_3 hc0_3
 have HB := aK (Below.refl w.heap.size w)
 have H : ((gangsawlaw14_awake.f).bind fun t268 => (if t268 = true then ((gangsawref14_Small.f a0_0 a0_1 a0_2 l0_3).bind fun t269 => (if t269 = true then ((boring_Normal.f k a0_0 a0_1 a0_2 l0_3).bind fun bt270 => ((gangsawref14_Normal.f k a0_0 a0_1 a0_2 l0_3).bind fun bt278 => ((boring_Evidence.f k a0_0 a0_1 a0_2 l0_3).bind fun bt286 => ((gangsawref14_Evidence.f k a0_0 a0_1 a0_2 l0_3).bind fun bt290 => ((boring_State.f k a0_0 a0_1 a0_2 l0_3 a1).bind fun t294 => ((gangsawref14_State.f k a0_0 a0_1 a0_2 l0_3 a1).bind fun t295 => (if t294 = t295 then (if bt270.2.2.2.2 = bt278.2.2.2.2 then (if bt286.2 = bt290.2 then ((gangsawref14_Equal.f k bt270.1 bt270.2.1 bt270.2.2.1 bt270.2.2.2.1 bt278.1 bt278.2.1 bt278.2.2.1 bt278.2.2.2.1).bind fun t296 => (if t296 = true then (gangsawlaw14_BoringSays.j0 k a2 bt286.1 bt290.1 ((bt286.1.length : Int) != (bt290.1.length : Int)) a0_0 a0_1 a0_2 l0_3) else (gangsawlaw14_BoringSays.j0 k a2 bt286.1 bt290.1 true a0_0 a0_1 a0_2 l0_3))) else (gangsawlaw14_BoringSays.j0 k a2 bt286.1 bt290.1 true a0_0 a0_1 a0_2 l0_3)) else (gangsawlaw14_BoringSays.j0 k a2 bt286.1 bt290.1 true a0_0 a0_1 a0_2 l0_3)) else (gangsawlaw14_BoringSays.j0 k a2 bt286.1 bt290.1 true a0_0 a0_1 a0_2 l0_3)))))))) else (some true))) else (some false))) = some r := h
 clear h
 replace H := Option.bind_eq_some_iff.mp H
 obtain ⟨t268, A40, H⟩ := H
 replace H : (if t268 = true then ((gangsawref14_Small.f a0_0 a0_1 a0_2 l0_3).bind fun t269 => (if t269 = true then ((boring_Normal.f k a0_0 a0_1 a0_2 l0_3).bind fun bt270 => ((gangsawref14_Normal.f k a0_0 a0_1 a0_2 l0_3).bind fun bt278 => ((boring_Evidence.f k a0_0 a0_1 a0_2 l0_3).bind fun bt286 => ((gangsawref14_Evidence.f k a0_0 a0_1 a0_2 l0_3).bind fun bt290 => ((boring_State.f k a0_0 a0_1 a0_2 l0_3 a1).bind fun t294 => ((gangsawref14_State.f k a0_0 a0_1 a0_2 l0_3 a1).bind fun t295 => (if t294 = t295 then (if bt270.2.2.2.2 = bt278.2.2.2.2 then (if bt286.2 = bt290.2 then ((gangsawref14_Equal.f k bt270.1 bt270.2.1 bt270.2.2.1 bt270.2.2.2.1 bt278.1 bt278.2.1 bt278.2.2.1 bt278.2.2.2.1).bind fun t296 => (if t296 = true then (gangsawlaw14_BoringSays.j0 k a2 bt286.1 bt290.1 ((bt286.1.length : Int) != (bt290.1.length : Int)) a0_0 a0_1 a0_2 l0_3) else (gangsawlaw14_BoringSays.j0 k a2 bt286.1 bt290.1 true a0_0 a0_1 a0_2 l0_3))) else (gangsawlaw14_BoringSays.j0 k a2 bt286.1 bt290.1 true a0_0 a0_1 a0_2 l0_3)) else (gangsawlaw14_BoringSays.j0 k a2 bt286.1 bt290.1 true a0_0 a0_1 a0_2 l0_3)) else (gangsawlaw14_BoringSays.j0 k a2 bt286.1 bt290.1 true a0_0 a0_1 a0_2 l0_3)))))))) else (some true))) else (some false)) = some r := H
 have A4 := aK A40
 clear A40
 by_cases c5 : t268 = true
 ·subst c5
  have H1 : ((gangsawref14_Small.f a0_0 a0_1 a0_2 l0_3).bind fun t269 => (if t269 = true then ((boring_Normal.f k a0_0 a0_1 a0_2 l0_3).bind fun bt270 => ((gangsawref14_Normal.f k a0_0 a0_1 a0_2 l0_3).bind fun bt278 => ((boring_Evidence.f k a0_0 a0_1 a0_2 l0_3).bind fun bt286 => ((gangsawref14_Evidence.f k a0_0 a0_1 a0_2 l0_3).bind fun bt290 => ((boring_State.f k a0_0 a0_1 a0_2 l0_3 a1).bind fun t294 => ((gangsawref14_State.f k a0_0 a0_1 a0_2 l0_3 a1).bind fun t295 => (if t294 = t295 then (if bt270.2.2.2.2 = bt278.2.2.2.2 then (if bt286.2 = bt290.2 then ((gangsawref14_Equal.f k bt270.1 bt270.2.1 bt270.2.2.1 bt270.2.2.2.1 bt278.1 bt278.2.1 bt278.2.2.1 bt278.2.2.2.1).bind fun t296 => (if t296 = true then (gangsawlaw14_BoringSays.j0 k a2 bt286.1 bt290.1 ((bt286.1.length : Int) != (bt290.1.length : Int)) a0_0 a0_1 a0_2 l0_3) else (gangsawlaw14_BoringSays.j0 k a2 bt286.1 bt290.1 true a0_0 a0_1 a0_2 l0_3))) else (gangsawlaw14_BoringSays.j0 k a2 bt286.1 bt290.1 true a0_0 a0_1 a0_2 l0_3)) else (gangsawlaw14_BoringSays.j0 k a2 bt286.1 bt290.1 true a0_0 a0_1 a0_2 l0_3)) else (gangsawlaw14_BoringSays.j0 k a2 bt286.1 bt290.1 true a0_0 a0_1 a0_2 l0_3)))))))) else (some true))) = some r := by rw [if_pos rfl] at H; exact H
  clear H
  have H := H1
  clear H1
  replace H := Option.bind_eq_some_iff.mp H
  obtain ⟨t269, A60, H⟩ := H
  replace H : (if t269 = true then ((boring_Normal.f k a0_0 a0_1 a0_2 l0_3).bind fun bt270 => ((gangsawref14_Normal.f k a0_0 a0_1 a0_2 l0_3).bind fun bt278 => ((boring_Evidence.f k a0_0 a0_1 a0_2 l0_3).bind fun bt286 => ((gangsawref14_Evidence.f k a0_0 a0_1 a0_2 l0_3).bind fun bt290 => ((boring_State.f k a0_0 a0_1 a0_2 l0_3 a1).bind fun t294 => ((gangsawref14_State.f k a0_0 a0_1 a0_2 l0_3 a1).bind fun t295 => (if t294 = t295 then (if bt270.2.2.2.2 = bt278.2.2.2.2 then (if bt286.2 = bt290.2 then ((gangsawref14_Equal.f k bt270.1 bt270.2.1 bt270.2.2.1 bt270.2.2.2.1 bt278.1 bt278.2.1 bt278.2.2.1 bt278.2.2.2.1).bind fun t296 => (if t296 = true then (gangsawlaw14_BoringSays.j0 k a2 bt286.1 bt290.1 ((bt286.1.length : Int) != (bt290.1.length : Int)) a0_0 a0_1 a0_2 l0_3) else (gangsawlaw14_BoringSays.j0 k a2 bt286.1 bt290.1 true a0_0 a0_1 a0_2 l0_3))) else (gangsawlaw14_BoringSays.j0 k a2 bt286.1 bt290.1 true a0_0 a0_1 a0_2 l0_3)) else (gangsawlaw14_BoringSays.j0 k a2 bt286.1 bt290.1 true a0_0 a0_1 a0_2 l0_3)) else (gangsawlaw14_BoringSays.j0 k a2 bt286.1 bt290.1 true a0_0 a0_1 a0_2 l0_3)))))))) else (some true)) = some r := H
  have A6 := aK A60
  clear A60
  by_cases c7 : t269 = true
  ·subst c7
   have H1 : ((boring_Normal.f k a0_0 a0_1 a0_2 l0_3).bind fun bt270 => ((gangsawref14_Normal.f k a0_0 a0_1 a0_2 l0_3).bind fun bt278 => ((boring_Evidence.f k a0_0 a0_1 a0_2 l0_3).bind fun bt286 => ((gangsawref14_Evidence.f k a0_0 a0_1 a0_2 l0_3).bind fun bt290 => ((boring_State.f k a0_0 a0_1 a0_2 l0_3 a1).bind fun t294 => ((gangsawref14_State.f k a0_0 a0_1 a0_2 l0_3 a1).bind fun t295 => (if t294 = t295 then (if bt270.2.2.2.2 = bt278.2.2.2.2 then (if bt286.2 = bt290.2 then ((gangsawref14_Equal.f k bt270.1 bt270.2.1 bt270.2.2.1 bt270.2.2.2.1 bt278.1 bt278.2.1 bt278.2.2.1 bt278.2.2.2.1).bind fun t296 => (if t296 = true then (gangsawlaw14_BoringSays.j0 k a2 bt286.1 bt290.1 ((bt286.1.length : Int) != (bt290.1.length : Int)) a0_0 a0_1 a0_2 l0_3) else (gangsawlaw14_BoringSays.j0 k a2 bt286.1 bt290.1 true a0_0 a0_1 a0_2 l0_3))) else (gangsawlaw14_BoringSays.j0 k a2 bt286.1 bt290.1 true a0_0 a0_1 a0_2 l0_3)) else (gangsawlaw14_BoringSays.j0 k a2 bt286.1 bt290.1 true a0_0 a0_1 a0_2 l0_3)) else (gangsawlaw14_BoringSays.j0 k a2 bt286.1 bt290.1 true a0_0 a0_1 a0_2 l0_3)))))))) = some r := by rw [if_pos rfl] at H; exact H
   clear H
   have H := H1
   clear H1
   replace H := Option.bind_eq_some_iff.mp H
   obtain ⟨⟨t270, t271, t272, t273, t276⟩, A80, H⟩ := H
   replace H : ((gangsawref14_Normal.f k a0_0 a0_1 a0_2 l0_3).bind fun bt278 => ((boring_Evidence.f k a0_0 a0_1 a0_2 l0_3).bind fun bt286 => ((gangsawref14_Evidence.f k a0_0 a0_1 a0_2 l0_3).bind fun bt290 => ((boring_State.f k a0_0 a0_1 a0_2 l0_3 a1).bind fun t294 => ((gangsawref14_State.f k a0_0 a0_1 a0_2 l0_3 a1).bind fun t295 => (if t294 = t295 then (if t276 = bt278.2.2.2.2 then (if bt286.2 = bt290.2 then ((gangsawref14_Equal.f k t270 t271 t272 t273 bt278.1 bt278.2.1 bt278.2.2.1 bt278.2.2.2.1).bind fun t296 => (if t296 = true then (gangsawlaw14_BoringSays.j0 k a2 bt286.1 bt290.1 ((bt286.1.length : Int) != (bt290.1.length : Int)) a0_0 a0_1 a0_2 l0_3) else (gangsawlaw14_BoringSays.j0 k a2 bt286.1 bt290.1 true a0_0 a0_1 a0_2 l0_3))) else (gangsawlaw14_BoringSays.j0 k a2 bt286.1 bt290.1 true a0_0 a0_1 a0_2 l0_3)) else (gangsawlaw14_BoringSays.j0 k a2 bt286.1 bt290.1 true a0_0 a0_1 a0_2 l0_3)) else (gangsawlaw14_BoringSays.j0 k a2 bt286.1 bt290.1 true a0_0 a0_1 a0_2 l0_3))))))) = some r := H
   have A8 := aK A80
   clear A80
   replace H := Option.bind_eq_some_iff.mp H
   obtain ⟨⟨t278, t279, t280, t281, t284⟩, A90, H⟩ := H
   replace H : ((boring_Evidence.f k a0_0 a0_1 a0_2 l0_3).bind fun bt286 => ((gangsawref14_Evidence.f k a0_0 a0_1 a0_2 l0_3).bind fun bt290 => ((boring_State.f k a0_0 a0_1 a0_2 l0_3 a1).bind fun t294 => ((gangsawref14_State.f k a0_0 a0_1 a0_2 l0_3 a1).bind fun t295 => (if t294 = t295 then (if t276 = t284 then (if bt286.2 = bt290.2 then ((gangsawref14_Equal.f k t270 t271 t272 t273 t278 t279 t280 t281).bind fun t296 => (if t296 = true then (gangsawlaw14_BoringSays.j0 k a2 bt286.1 bt290.1 ((bt286.1.length : Int) != (bt290.1.length : Int)) a0_0 a0_1 a0_2 l0_3) else (gangsawlaw14_BoringSays.j0 k a2 bt286.1 bt290.1 true a0_0 a0_1 a0_2 l0_3))) else (gangsawlaw14_BoringSays.j0 k a2 bt286.1 bt290.1 true a0_0 a0_1 a0_2 l0_3)) else (gangsawlaw14_BoringSays.j0 k a2 bt286.1 bt290.1 true a0_0 a0_1 a0_2 l0_3)) else (gangsawlaw14_BoringSays.j0 k a2 bt286.1 bt290.1 true a0_0 a0_1 a0_2 l0_3)))))) = some r := H
   have A9 := aK A90
   clear A90
   replace H := Option.bind_eq_some_iff.mp H
   obtain ⟨⟨t286, t289⟩, A100, H⟩ := H
   replace H : ((gangsawref14_Evidence.f k a0_0 a0_1 a0_2 l0_3).bind fun bt290 => ((boring_State.f k a0_0 a0_1 a0_2 l0_3 a1).bind fun t294 => ((gangsawref14_State.f k a0_0 a0_1 a0_2 l0_3 a1).bind fun t295 => (if t294 = t295 then (if t276 = t284 then (if t289 = bt290.2 then ((gangsawref14_Equal.f k t270 t271 t272 t273 t278 t279 t280 t281).bind fun t296 => (if t296 = true then (gangsawlaw14_BoringSays.j0 k a2 t286 bt290.1 ((t286.length : Int) != (bt290.1.length : Int)) a0_0 a0_1 a0_2 l0_3) else (gangsawlaw14_BoringSays.j0 k a2 t286 bt290.1 true a0_0 a0_1 a0_2 l0_3))) else (gangsawlaw14_BoringSays.j0 k a2 t286 bt290.1 true a0_0 a0_1 a0_2 l0_3)) else (gangsawlaw14_BoringSays.j0 k a2 t286 bt290.1 true a0_0 a0_1 a0_2 l0_3)) else (gangsawlaw14_BoringSays.j0 k a2 t286 bt290.1 true a0_0 a0_1 a0_2 l0_3))))) = some r := H
   have A10 := aK A100
   clear A100
   replace H := Option.bind_eq_some_iff.mp H
   obtain ⟨⟨t290, t293⟩, A110, H⟩ := H
   replace H : ((boring_State.f k a0_0 a0_1 a0_2 l0_3 a1).bind fun t294 => ((gangsawref14_State.f k a0_0 a0_1 a0_2 l0_3 a1).bind fun t295 => (if t294 = t295 then (if t276 = t284 then (if t289 = t293 then ((gangsawref14_Equal.f k t270 t271 t272 t273 t278 t279 t280 t281).bind fun t296 => (if t296 = true then (gangsawlaw14_BoringSays.j0 k a2 t286 t290 ((t286.length : Int) != (t290.length : Int)) a0_0 a0_1 a0_2 l0_3) else (gangsawlaw14_BoringSays.j0 k a2 t286 t290 true a0_0 a0_1 a0_2 l0_3))) else (gangsawlaw14_BoringSays.j0 k a2 t286 t290 true a0_0 a0_1 a0_2 l0_3)) else (gangsawlaw14_BoringSays.j0 k a2 t286 t290 true a0_0 a0_1 a0_2 l0_3)) else (gangsawlaw14_BoringSays.j0 k a2 t286 t290 true a0_0 a0_1 a0_2 l0_3)))) = some r := H
   have A11 := aK A110
   clear A110
   have HC12 := aK H
   clear H
   go_enter Tryz.func4, Tryz.ntmps4
   go_upto_region 9 with (first | ((with_reducible refine gate_dst (N := 3) rfl ?_); (try (refine gate_guard (by rfl) ?_; dsimp only)); refine box_event ?hg (N := 3) ?hd (cs := #[.string a0_0, .int .i64 a0_1, .int .i64 a0_2, .slice A0_3 l0_3.length c0_3]) (t := 33) ?hr ?_; (case hd => rfl); (case hg => rfl); (case hr => first | (go_simp; done) | (go_simp; rfl)); intro gb267 hg w13 hbox hb; have ⟨n0_, n2_⟩ := zV (w := w) hb hg (by repeat (first | (with_reducible first | exact HB.out | apply yA | apply yN | apply yD) | exact HB.out)); have n1_ := aK (hbox); have n3_ := n2_; clear HB; have HB := n0_; have BK267 := n1_; have GW267 := n2_; have GE267 := n3_; clear n0_ n1_ n2_ n3_; clear hb hbox hg) | ((with_reducible refine gate_callee (f := 11) rfl ?_); refine goesL_ (some 21) rfl rfl Tryz.func11 (by kernel_rfl) rfl #[] rfl (by (try simp only [List.map_toArray, List.map_cons, List.map_nil]); first | done | rfl | (simp only [List.length_drop, List.length_take]; rfl)) ?_; (with_reducible refine (gangsawlaw14_awake.calls  true _ A4.out).mono ?_); rintro e w14 ⟨rfl, hb⟩; refine ⟨_, rfl, ?_⟩; have n0_ := zG BK267 hb (fun h => by (with_reducible repeat (first | refine zN ?_ _ | refine zD ?_ | refine zA ?_ _)); exact h); have n1_ := aK (yT (by repeat (first | (with_reducible first | exact HB.out | apply yA | apply yN | apply yD | refine yS ?_ GE267.out) | exact HB.out)) hb); clear BK267; clear HB; have BK267 := n0_; have HB := n1_; clear n0_ n1_; (try clear hb); (try clear hb2); (try clear hk); (try clear hi); have hcz15_0 := zI BK267 0 rfl; have hcz15_1 := zI BK267 1 rfl; have hcz15_2 := zI BK267 2 rfl; have hcz15_3 := zI BK267 3 rfl; have hfz15_0 := zF BK267.out 0; have hfz15_1 := zF BK267.out 1; have hfz15_2 := zF BK267.out 2; have hfz15_3 := zF BK267.out 3) | ((with_reducible refine gate_callee (f := 12) rfl ?_); refine goesL_ (some 24) rfl rfl Tryz.func12 (by kernel_rfl) rfl #[.agg #[.string a0_0, .int .i64 a0_1, .int .i64 a0_2, .slice A0_3 l0_3.length c0_3]] rfl (by (try simp only [List.map_toArray, List.map_cons, List.map_nil]); first | done | rfl | (simp only [List.length_drop, List.length_take]; rfl)) ?_; (with_reducible refine (gangsawref14_Small.calls a0_0 a0_1 a0_2 _ _ l0_3 true _ ?side1 ?side2 A6.out).mono ?_); (case side1 => repeat (first | exact (Kd.C_below HR0_3.out HB.out) | (with_reducible refine Kd.C_alloc ?_ _) | (with_reducible refine Kd.C_drewN ?_ _) | (with_reducible refine Kd.C_drew ?_))); (case side2 => exact HC0_3.out); rintro e w16 ⟨rfl, hb⟩; refine ⟨_, rfl, ?_⟩; have n0_ := zG BK267 hb (fun h => by (with_reducible repeat (first | refine zN ?_ _ | refine zD ?_ | refine zA ?_ _)); exact h); have n1_ := aK (yT (by repeat (first | (with_reducible first | exact HB.out | apply yA | apply yN | apply yD | refine yS ?_ GE267.out) | exact HB.out)) hb); clear BK267; clear HB; have BK267 := n0_; have HB := n1_; clear n0_ n1_; (try clear hb); (try clear hb2); (try clear hk); (try clear hi); have hcz17_0 := zI BK267 0 rfl; have hcz17_1 := zI BK267 1 rfl; have hcz17_2 := zI BK267 2 rfl; have hcz17_3 := zI BK267 3 rfl; have hfz17_0 := zF BK267.out 0; have hfz17_1 := zF BK267.out 1; have hfz17_2 := zF BK267.out 2; have hfz17_3 := zF BK267.out 3) | ((with_reducible refine gate_callee (f := 17) rfl ?_); refine goesL_ (some 28) rfl rfl Tryz.func17 (by kernel_rfl) rfl #[.agg #[.string a0_0, .int .i64 a0_1, .int .i64 a0_2, .slice A0_3 l0_3.length c0_3]] rfl (by (try simp only [List.map_toArray, List.map_cons, List.map_nil]); first | done | rfl | (simp only [List.length_drop, List.length_take]; rfl)) ?_; (with_reducible refine (boring_Normal.calls k a0_0 a0_1 a0_2 _ _ l0_3 t270 t271 t272 t273 t276 _ ?side1 ?side2 A8.out).mono ?_); (case side1 => repeat (first | exact (Kd.C_below HR0_3.out HB.out) | (with_reducible refine Kd.C_alloc ?_ _) | (with_reducible refine Kd.C_drewN ?_ _) | (with_reducible refine Kd.C_drew ?_))); (case side2 => exact HC0_3.out); rintro e w18 ⟨v274, rfl, ho0, hb⟩; refine ⟨_, rfl, ?_⟩; have n0_ := aK (Kd.R_lower ho0 (yZ (by repeat (first | (with_reducible first | exact HB.out | apply yA | apply yN | apply yD | refine yS ?_ GE267.out) | exact HB.out)))); have n1_ := zG BK267 hb (fun h => by (with_reducible repeat (first | refine zN ?_ _ | refine zD ?_ | refine zA ?_ _)); exact h); have n2_ := aK (yT (by repeat (first | (with_reducible first | exact HB.out | apply yA | apply yN | apply yD | refine yS ?_ GE267.out) | exact HB.out)) hb); clear BK267; clear HB; have HO275 := n0_; have BK267 := n1_; have HB := n2_; clear n0_ n1_ n2_; (try clear hb); (try clear hb2); (try clear hk); (try clear hi); (try clear ho0)) | ((with_reducible refine gate_dst (N := 7) rfl ?_); (try (refine gate_guard (by rfl) ?_; dsimp only)); refine box_event ?hg (N := 7) ?hd (cs := #[.string (⟨#[]⟩ : ByteArray), .int .i64 0, .int .i64 0, .slice none 0 0]) (t := 33) ?hr ?_; (case hd => rfl); (case hg => rfl); (case hr => first | (go_simp; done) | (go_simp; rfl)); intro gb277 hg w19 hbox hb; have n0_ := aK (Kd.R_below (by (with_reducible repeat (first | apply Kd.R_alloc | apply Kd.R_drewN | apply Kd.R_drew)); exact HO275.out) hb); have n1_ := zG BK267 hb (fun h => by (with_reducible repeat (first | refine zN ?_ _ | refine zD ?_ | refine zA ?_ _)); exact h); have ⟨n2_, n4_⟩ := zV (w := w) hb hg (by repeat (first | (with_reducible first | exact HB.out | apply yA | apply yN | apply yD | refine yS ?_ GE267.out) | exact HB.out)); have n3_ := aK (hbox); have n5_ := n4_; have n6_ := aK ((by rw [hg]; exact Nat.ne_of_lt (blk_lt (g := gb267) (o := .cells #[.string a0_0, .int .i64 a0_1, .int .i64 a0_2, .slice A0_3 l0_3.length c0_3] 33 (0, 0)) (by (with_reducible repeat (first | refine zN ?_ _ | refine zD ?_ | refine zA ?_ _)); exact BK267.out)) : gb267 ≠ gb277)); have n7_ := aK ((by rw [hg]; exact Nat.ne_of_gt (blk_lt (g := gb267) (o := .cells #[.string a0_0, .int .i64 a0_1, .int .i64 a0_2, .slice A0_3 l0_3.length c0_3] 33 (0, 0)) (by (with_reducible repeat (first | refine zN ?_ _ | refine zD ?_ | refine zA ?_ _)); exact BK267.out)) : gb277 ≠ gb267)); clear HO275; clear BK267; clear HB; have HO275 := n0_; have BK267 := n1_; have HB := n2_; have BK277 := n3_; have GW277 := n4_; have GE277 := n5_; have NB267_277 := n6_; have NB277_267 := n7_; clear n0_ n1_ n2_ n3_ n4_ n5_ n6_ n7_; clear hb hbox hg; have hnb20 := NB277_267.out; have hnc20 := NB267_277.out; have hcz21_0 := zI BK277 0 rfl; have hcz21_1 := zI BK277 1 rfl; have hcz21_2 := zI BK277 2 rfl; have hcz21_3 := zI BK277 3 rfl; have hfz21_0 := zF BK277.out 0; have hfz21_1 := zF BK277.out 1; have hfz21_2 := zF BK277.out 2; have hfz21_3 := zF BK277.out 3; obtain ⟨Ao22, co22, eo22⟩ := Kd.R_slice HO275.out; subst eo22; have hcz23_0 := zI BK267 0 rfl; have hcz23_1 := zI BK267 1 rfl; have hcz23_2 := zI BK267 2 rfl; have hcz23_3 := zI BK267 3 rfl; have hfz23_0 := zF BK267.out 0; have hfz23_1 := zF BK267.out 1; have hfz23_2 := zF BK267.out 2; have hfz23_3 := zF BK267.out 3) | ((with_reducible refine gate_callee (f := 18) rfl ?_); refine goesL_ (some 33) rfl rfl Tryz.func18 (by kernel_rfl) rfl #[.agg #[.string a0_0, .int .i64 a0_1, .int .i64 a0_2, .slice A0_3 l0_3.length c0_3]] rfl (by (try simp only [List.map_toArray, List.map_cons, List.map_nil]); first | done | rfl | (simp only [List.length_drop, List.length_take]; rfl)) ?_; (with_reducible refine (gangsawref14_Normal.calls k a0_0 a0_1 a0_2 _ _ l0_3 t278 t279 t280 t281 t284 _ ?side1 ?side2 A9.out).mono ?_); (case side1 => exact Kd.C_below HR0_3.out (by repeat (first | (with_reducible first | exact HB.out | apply yA | apply yN | apply yD | refine yS ?_ GE267.out | refine yS ?_ GE277.out) | exact HB.out))); (case side2 => exact HC0_3.out); rintro e w24 ⟨v282, rfl, ho0, hb⟩; refine ⟨_, rfl, ?_⟩; have n0_ := aK (Kd.R_elder' (by (with_reducible repeat (first | apply Kd.R_alloc | apply Kd.R_drewN | apply Kd.R_drew)); exact (Kd.R_mono (Kd.R_far (p := ⟨gb277, 3, none⟩) (Kd.R_far (p := ⟨gb277, 2, none⟩) (Kd.R_far (p := ⟨gb277, 1, none⟩) (Kd.R_far (p := ⟨gb277, 0, none⟩) (Kd.R_types HO275.out BK277.out (by decide)) (fun _ hk => hk.2) (.string t270)) (fun _ hk => hk.2) (.int .i64 t271)) (fun _ hk => hk.2) (.int .i64 t272)) (fun _ hk => hk.2) (.slice Ao22 t273.length co22)) (fun _ h_ => h_.1))) (Kd.R_base ho0) hb); have n1_ := aK (Kd.R_lower (Kd.R_new' ho0 (Kd.R_lt (by (with_reducible repeat (first | apply Kd.R_alloc | apply Kd.R_drewN | apply Kd.R_drew)); exact (Kd.R_mono (Kd.R_far (p := ⟨gb277, 3, none⟩) (Kd.R_far (p := ⟨gb277, 2, none⟩) (Kd.R_far (p := ⟨gb277, 1, none⟩) (Kd.R_far (p := ⟨gb277, 0, none⟩) (Kd.R_types HO275.out BK277.out (by decide)) (fun _ hk => hk.2) (.string t270)) (fun _ hk => hk.2) (.int .i64 t271)) (fun _ hk => hk.2) (.int .i64 t272)) (fun _ hk => hk.2) (.slice Ao22 t273.length co22)) (fun _ h_ => h_.1))))) (yZ (by repeat (first | (with_reducible first | exact HB.out | apply yA | apply yN | apply yD | refine yS ?_ GE267.out | refine yS ?_ GE277.out) | exact HB.out)))); have n2_ := aK (zB (g := gb267) (o := .cells #[.string a0_0, .int .i64 a0_1, .int .i64 a0_2, .slice A0_3 l0_3.length c0_3] 33 (0, 0)) (by (with_reducible repeat (first | refine zN ?_ _ | refine zD ?_ | refine zA ?_ _)); refine blk_far ?_ NB267_277.out _; (with_reducible repeat (first | refine zN ?_ _ | refine zD ?_ | refine zA ?_ _)); refine blk_far ?_ NB267_277.out _; (with_reducible repeat (first | refine zN ?_ _ | refine zD ?_ | refine zA ?_ _)); refine blk_far ?_ NB267_277.out _; (with_reducible repeat (first | refine zN ?_ _ | refine zD ?_ | refine zA ?_ _)); refine blk_far ?_ NB267_277.out _; (with_reducible repeat (first | refine zN ?_ _ | refine zD ?_ | refine zA ?_ _)); exact BK267.out) hb); have n3_ := aK (zB (g := gb277) (o := .cells #[.string t270, .int .i64 t271, .int .i64 t272, .slice Ao22 t273.length co22] 33 (0, 0)) (by (with_reducible repeat (first | refine zN ?_ _ | refine zD ?_ | refine zA ?_ _)); refine blk_put (cs := #[.string t270, .int .i64 t271, .int .i64 t272, .slice none 0 0]) ?_ 3 _ rfl; (with_reducible repeat (first | refine zN ?_ _ | refine zD ?_ | refine zA ?_ _)); refine blk_put (cs := #[.string t270, .int .i64 t271, .int .i64 0, .slice none 0 0]) ?_ 2 _ rfl; (with_reducible repeat (first | refine zN ?_ _ | refine zD ?_ | refine zA ?_ _)); refine blk_put (cs := #[.string t270, .int .i64 0, .int .i64 0, .slice none 0 0]) ?_ 1 _ rfl; (with_reducible repeat (first | refine zN ?_ _ | refine zD ?_ | refine zA ?_ _)); refine blk_put (cs := #[.string (⟨#[]⟩ : ByteArray), .int .i64 0, .int .i64 0, .slice none 0 0]) ?_ 0 _ rfl; (with_reducible repeat (first | refine zN ?_ _ | refine zD ?_ | refine zA ?_ _)); exact BK277.out) hb); have n4_ := aK (yT (by repeat (first | (with_reducible first | exact HB.out | apply yA | apply yN | apply yD | refine yS ?_ GE267.out | refine yS ?_ GE277.out) | exact HB.out)) hb); clear HO275; clear BK267; clear BK277; clear HB; have HO275 := n0_; have HO283 := n1_; have BK267 := n2_; have BK277 := n3_; have HB := n4_; clear n0_ n1_ n2_ n3_ n4_; (try clear hb); (try clear hb2); (try clear hk); (try clear hi); (try clear ho0)) | ((with_reducible refine gate_dst (N := 9) rfl ?_); (try (refine gate_guard (by rfl) ?_; dsimp only)); refine box_event ?hg (N := 9) ?hd (cs := #[.string (⟨#[]⟩ : ByteArray), .int .i64 0, .int .i64 0, .slice none 0 0]) (t := 33) ?hr ?_; (case hd => rfl); (case hg => rfl); (case hr => first | (go_simp; done) | (go_simp; rfl)); intro gb285 hg w25 hbox hb; have n0_ := aK (Kd.R_below (by (with_reducible repeat (first | apply Kd.R_alloc | apply Kd.R_drewN | apply Kd.R_drew)); exact HO275.out) hb); have n1_ := aK (Kd.R_below (by (with_reducible repeat (first | apply Kd.R_alloc | apply Kd.R_drewN | apply Kd.R_drew)); exact HO283.out) hb); have n2_ := zG BK267 hb (fun h => by (with_reducible repeat (first | refine zN ?_ _ | refine zD ?_ | refine zA ?_ _)); exact h); have n3_ := zG BK277 hb (fun h => by (with_reducible repeat (first | refine zN ?_ _ | refine zD ?_ | refine zA ?_ _)); exact h); have ⟨n4_, n6_⟩ := zV (w := w) hb hg (by repeat (first | (with_reducible first | exact HB.out | apply yA | apply yN | apply yD | refine yS ?_ GE267.out | refine yS ?_ GE277.out) | exact HB.out)); have n5_ := aK (hbox); have n7_ := n6_; have n8_ := aK ((by rw [hg]; exact Nat.ne_of_lt (blk_lt (g := gb267) (o := .cells #[.string a0_0, .int .i64 a0_1, .int .i64 a0_2, .slice A0_3 l0_3.length c0_3] 33 (0, 0)) (by (with_reducible repeat (first | refine zN ?_ _ | refine zD ?_ | refine zA ?_ _)); exact BK267.out)) : gb267 ≠ gb285)); have n9_ := aK ((by rw [hg]; exact Nat.ne_of_gt (blk_lt (g := gb267) (o := .cells #[.string a0_0, .int .i64 a0_1, .int .i64 a0_2, .slice A0_3 l0_3.length c0_3] 33 (0, 0)) (by (with_reducible repeat (first | refine zN ?_ _ | refine zD ?_ | refine zA ?_ _)); exact BK267.out)) : gb285 ≠ gb267)); have n10_ := aK ((by rw [hg]; exact Nat.ne_of_lt (blk_lt (g := gb277) (o := .cells #[.string t270, .int .i64 t271, .int .i64 t272, .slice Ao22 t273.length co22] 33 (0, 0)) (by (with_reducible repeat (first | refine zN ?_ _ | refine zD ?_ | refine zA ?_ _)); exact BK277.out)) : gb277 ≠ gb285)); have n11_ := aK ((by rw [hg]; exact Nat.ne_of_gt (blk_lt (g := gb277) (o := .cells #[.string t270, .int .i64 t271, .int .i64 t272, .slice Ao22 t273.length co22] 33 (0, 0)) (by (with_reducible repeat (first | refine zN ?_ _ | refine zD ?_ | refine zA ?_ _)); exact BK277.out)) : gb285 ≠ gb277)); clear HO275; clear HO283; clear BK267; clear BK277; clear HB; have HO275 := n0_; have HO283 := n1_; have BK267 := n2_; have BK277 := n3_; have HB := n4_; have BK285 := n5_; have GW285 := n6_; have GE285 := n7_; have NB267_285 := n8_; have NB285_267 := n9_; have NB277_285 := n10_; have NB285_277 := n11_; clear n0_ n1_ n2_ n3_ n4_ n5_ n6_ n7_ n8_ n9_ n10_ n11_; clear hb hbox hg; have hnb26 := NB285_267.out; have hnc26 := NB267_285.out; have hnb27 := NB285_277.out; have hnc27 := NB277_285.out; have hcz28_0 := zI BK285 0 rfl; have hcz28_1 := zI BK285 1 rfl; have hcz28_2 := zI BK285 2 rfl; have hcz28_3 := zI BK285 3 rfl; have hfz28_0 := zF BK285.out 0; have hfz28_1 := zF BK285.out 1; have hfz28_2 := zF BK285.out 2; have hfz28_3 := zF BK285.out 3; obtain ⟨Ao29, co29, eo29⟩ := Kd.R_slice HO283.out; subst eo29; have hcz30_0 := zI BK267 0 rfl; have hcz30_1 := zI BK267 1 rfl; have hcz30_2 := zI BK267 2 rfl; have hcz30_3 := zI BK267 3 rfl; have hfz30_0 := zF BK267.out 0; have hfz30_1 := zF BK267.out 1; have hfz30_2 := zF BK267.out 2; have hfz30_3 := zF BK267.out 3) | ((with_reducible refine gate_callee (f := 19) rfl ?_); refine goesL_ (some 38) rfl rfl Tryz.func19 (by kernel_rfl) rfl #[.agg #[.string a0_0, .int .i64 a0_1, .int .i64 a0_2, .slice A0_3 l0_3.length c0_3]] rfl (by (try simp only [List.map_toArray, List.map_cons, List.map_nil]); first | done | rfl | (simp only [List.length_drop, List.length_take]; rfl)) ?_; (with_reducible refine (boring_Evidence.calls k a0_0 a0_1 a0_2 _ _ l0_3 t286 t289 _ ?side1 ?side2 A10.out).mono ?_); (case side1 => exact Kd.C_below HR0_3.out (by repeat (first | (with_reducible first | exact HB.out | apply yA | apply yN | apply yD | refine yS ?_ GE267.out | refine yS ?_ GE277.out | refine yS ?_ GE285.out) | exact HB.out))); (case side2 => exact HC0_3.out); rintro e w31 ⟨v287, rfl, ho0, hb⟩; refine ⟨_, rfl, ?_⟩; have n0_ := aK (Kd.R_below (by (with_reducible repeat (first | apply Kd.R_alloc | apply Kd.R_drewN | apply Kd.R_drew)); exact (Kd.R_mono (Kd.R_far (p := ⟨gb285, 3, none⟩) (Kd.R_far (p := ⟨gb285, 2, none⟩) (Kd.R_far (p := ⟨gb285, 1, none⟩) (Kd.R_far (p := ⟨gb285, 0, none⟩) (Kd.R_types HO275.out BK285.out (by decide)) (fun _ hk => hk.2) (.string t278)) (fun _ hk => hk.2) (.int .i64 t279)) (fun _ hk => hk.2) (.int .i64 t280)) (fun _ hk => hk.2) (.slice Ao29 t281.length co29)) (fun _ h_ => h_.1))) hb); have n1_ := aK (Kd.R_below (by (with_reducible repeat (first | apply Kd.R_alloc | apply Kd.R_drewN | apply Kd.R_drew)); exact (Kd.R_mono (Kd.R_far (p := ⟨gb285, 3, none⟩) (Kd.R_far (p := ⟨gb285, 2, none⟩) (Kd.R_far (p := ⟨gb285, 1, none⟩) (Kd.R_far (p := ⟨gb285, 0, none⟩) (Kd.R_types HO283.out BK285.out (by decide)) (fun _ hk => hk.2) (.string t278)) (fun _ hk => hk.2) (.int .i64 t279)) (fun _ hk => hk.2) (.int .i64 t280)) (fun _ hk => hk.2) (.slice Ao29 t281.length co29)) (fun _ h_ => h_.1))) hb); have n2_ := aK (Kd.R_lower ho0 (yZ (by repeat (first | (with_reducible first | exact HB.out | apply yA | apply yN | apply yD | refine yS ?_ GE267.out | refine yS ?_ GE277.out | refine yS ?_ GE285.out) | exact HB.out)))); have n3_ := aK (zB (g := gb267) (o := .cells #[.string a0_0, .int .i64 a0_1, .int .i64 a0_2, .slice A0_3 l0_3.length c0_3] 33 (0, 0)) (by (with_reducible repeat (first | refine zN ?_ _ | refine zD ?_ | refine zA ?_ _)); refine blk_far ?_ NB267_285.out _; (with_reducible repeat (first | refine zN ?_ _ | refine zD ?_ | refine zA ?_ _)); refine blk_far ?_ NB267_285.out _; (with_reducible repeat (first | refine zN ?_ _ | refine zD ?_ | refine zA ?_ _)); refine blk_far ?_ NB267_285.out _; (with_reducible repeat (first | refine zN ?_ _ | refine zD ?_ | refine zA ?_ _)); refine blk_far ?_ NB267_285.out _; (with_reducible repeat (first | refine zN ?_ _ | refine zD ?_ | refine zA ?_ _)); exact BK267.out) hb); have n4_ := aK (zB (g := gb277) (o := .cells #[.string t270, .int .i64 t271, .int .i64 t272, .slice Ao22 t273.length co22] 33 (0, 0)) (by (with_reducible repeat (first | refine zN ?_ _ | refine zD ?_ | refine zA ?_ _)); refine blk_far ?_ NB277_285.out _; (with_reducible repeat (first | refine zN ?_ _ | refine zD ?_ | refine zA ?_ _)); refine blk_far ?_ NB277_285.out _; (with_reducible repeat (first | refine zN ?_ _ | refine zD ?_ | refine zA ?_ _)); refine blk_far ?_ NB277_285.out _; (with_reducible repeat (first | refine zN ?_ _ | refine zD ?_ | refine zA ?_ _)); refine blk_far ?_ NB277_285.out _; (with_reducible repeat (first | refine zN ?_ _ | refine zD ?_ | refine zA ?_ _)); exact BK277.out) hb); have n5_ := aK (zB (g := gb285) (o := .cells #[.string t278, .int .i64 t279, .int .i64 t280, .slice Ao29 t281.length co29] 33 (0, 0)) (by (with_reducible repeat (first | refine zN ?_ _ | refine zD ?_ | refine zA ?_ _)); refine blk_put (cs := #[.string t278, .int .i64 t279, .int .i64 t280, .slice none 0 0]) ?_ 3 _ rfl; (with_reducible repeat (first | refine zN ?_ _ | refine zD ?_ | refine zA ?_ _)); refine blk_put (cs := #[.string t278, .int .i64 t279, .int .i64 0, .slice none 0 0]) ?_ 2 _ rfl; (with_reducible repeat (first | refine zN ?_ _ | refine zD ?_ | refine zA ?_ _)); refine blk_put (cs := #[.string t278, .int .i64 0, .int .i64 0, .slice none 0 0]) ?_ 1 _ rfl; (with_reducible repeat (first | refine zN ?_ _ | refine zD ?_ | refine zA ?_ _)); refine blk_put (cs := #[.string (⟨#[]⟩ : ByteArray), .int .i64 0, .int .i64 0, .slice none 0 0]) ?_ 0 _ rfl; (with_reducible repeat (first | refine zN ?_ _ | refine zD ?_ | refine zA ?_ _)); exact BK285.out) hb); have n6_ := aK (yT (by repeat (first | (with_reducible first | exact HB.out | apply yA | apply yN | apply yD | refine yS ?_ GE267.out | refine yS ?_ GE277.out | refine yS ?_ GE285.out) | exact HB.out)) hb); clear HO275; clear HO283; clear BK267; clear BK277; clear BK285; clear HB; have HO275 := n0_; have HO283 := n1_; have HO288 := n2_; have BK267 := n3_; have BK277 := n4_; have BK285 := n5_; have HB := n6_; clear n0_ n1_ n2_ n3_ n4_ n5_ n6_; (try clear hb); (try clear hb2); (try clear hk); (try clear hi); (try clear ho0); have hcz32_0 := zI BK267 0 rfl; have hcz32_1 := zI BK267 1 rfl; have hcz32_2 := zI BK267 2 rfl; have hcz32_3 := zI BK267 3 rfl; have hfz32_0 := zF BK267.out 0; have hfz32_1 := zF BK267.out 1; have hfz32_2 := zF BK267.out 2; have hfz32_3 := zF BK267.out 3) | ((with_reducible refine gate_callee (f := 20) rfl ?_); refine goesL_ (some 43) rfl rfl Tryz.func20 (by kernel_rfl) rfl #[.agg #[.string a0_0, .int .i64 a0_1, .int .i64 a0_2, .slice A0_3 l0_3.length c0_3]] rfl (by (try simp only [List.map_toArray, List.map_cons, List.map_nil]); first | done | rfl | (simp only [List.length_drop, List.length_take]; rfl)) ?_; (with_reducible refine (gangsawref14_Evidence.calls k a0_0 a0_1 a0_2 _ _ l0_3 t290 t293 _ ?side1 ?side2 A11.out).mono ?_); (case side1 => repeat (first | exact (Kd.C_below HR0_3.out HB.out) | (with_reducible refine Kd.C_alloc ?_ _) | (with_reducible refine Kd.C_drewN ?_ _) | (with_reducible refine Kd.C_drew ?_))); (case side2 => exact HC0_3.out); rintro e w33 ⟨v291, rfl, ho0, hb⟩; refine ⟨_, rfl, ?_⟩; have n0_ := aK (Kd.R_below (by (with_reducible repeat (first | apply Kd.R_alloc | apply Kd.R_drewN | apply Kd.R_drew)); exact HO275.out) hb); have n1_ := aK (Kd.R_below (by (with_reducible repeat (first | apply Kd.R_alloc | apply Kd.R_drewN | apply Kd.R_drew)); exact HO283.out) hb); have n2_ := aK (Kd.R_elder' (by (with_reducible repeat (first | apply Kd.R_alloc | apply Kd.R_drewN | apply Kd.R_drew)); exact HO288.out) (Kd.R_base ho0) hb); have n3_ := aK (Kd.R_lower (Kd.R_new' ho0 (Kd.R_lt (by (with_reducible repeat (first | apply Kd.R_alloc | apply Kd.R_drewN | apply Kd.R_drew)); exact HO288.out))) (yZ (by repeat (first | (with_reducible first | exact HB.out | apply yA | apply yN | apply yD | refine yS ?_ GE267.out | refine yS ?_ GE277.out | refine yS ?_ GE285.out) | exact HB.out)))); have n4_ := zG BK267 hb (fun h => by (with_reducible repeat (first | refine zN ?_ _ | refine zD ?_ | refine zA ?_ _)); exact h); have n5_ := zG BK277 hb (fun h => by (with_reducible repeat (first | refine zN ?_ _ | refine zD ?_ | refine zA ?_ _)); exact h); have n6_ := zG BK285 hb (fun h => by (with_reducible repeat (first | refine zN ?_ _ | refine zD ?_ | refine zA ?_ _)); exact h); have n7_ := aK (yT (by repeat (first | (with_reducible first | exact HB.out | apply yA | apply yN | apply yD | refine yS ?_ GE267.out | refine yS ?_ GE277.out | refine yS ?_ GE285.out) | exact HB.out)) hb); clear HO275; clear HO283; clear HO288; clear BK267; clear BK277; clear BK285; clear HB; have HO275 := n0_; have HO283 := n1_; have HO288 := n2_; have HO292 := n3_; have BK267 := n4_; have BK277 := n5_; have BK285 := n6_; have HB := n7_; clear n0_ n1_ n2_ n3_ n4_ n5_ n6_ n7_; (try clear hb); (try clear hb2); (try clear hk); (try clear hi); (try clear ho0)))
   (try simp only [Act.put, sA, sZ, sS])
   go_cut [75] (fun v75 wc => ∃ (kq : Nat) (x75_11 : Bool), v75 = .bool x75_11 ∧ Aside0 (gangsawlaw14_BoringSays.j0 kq a2 t286 t290 x75_11 a0_0 a0_1 a0_2 l0_3 = some r) ∧ Aside0 (kq ≤ k) ∧ Aside0 (Kd.R k46 46 wc w.heap.size (fun k_ => some k_ ≠ (v291 : Value).ownBlock) v287 t286) ∧ Aside0 (Kd.R k46 46 wc w.heap.size (fun k_ => some k_ ≠ (v287 : Value).ownBlock) v291 t290) ∧ Aside0 (Kd.R k48 48 wc w.heap.size (fun k_ => some k_ ≠ ((.slice Ao29 t281.length co29) : Value).ownBlock) (.slice Ao22 t273.length co22) t273) ∧ Aside0 (Kd.R k48 48 wc w.heap.size (fun k_ => some k_ ≠ ((.slice Ao22 t273.length co22) : Value).ownBlock) (.slice Ao29 t281.length co29) t281) ∧ Aside0 (wc.heap[gb267]? = some (.cells #[.string a0_0, .int .i64 a0_1, .int .i64 a0_2, (.slice A0_3 l0_3.length c0_3)] 33 (0, 0))) ∧ Aside0 (wc.heap[gb277]? = some (.cells #[.string t270, .int .i64 t271, .int .i64 t272, (.slice Ao22 t273.length co22)] 33 (0, 0))) ∧ Aside0 (wc.heap[gb285]? = some (.cells #[.string t278, .int .i64 t279, .int .i64 t280, (.slice Ao29 t281.length co29)] 33 (0, 0))) ∧ Aside0 (Below w.heap.size w wc))
   case first =>
    have H := HC12.out
    clear HC12
    replace H := Option.bind_eq_some_iff.mp H
    obtain ⟨t294, A340, H⟩ := H
    replace H : ((gangsawref14_State.f k a0_0 a0_1 a0_2 l0_3 a1).bind fun t295 => (if t294 = t295 then (if t276 = t284 then (if t289 = t293 then ((gangsawref14_Equal.f k t270 t271 t272 t273 t278 t279 t280 t281).bind fun t296 => (if t296 = true then (gangsawlaw14_BoringSays.j0 k a2 t286 t290 ((t286.length : Int) != (t290.length : Int)) a0_0 a0_1 a0_2 l0_3) else (gangsawlaw14_BoringSays.j0 k a2 t286 t290 true a0_0 a0_1 a0_2 l0_3))) else (gangsawlaw14_BoringSays.j0 k a2 t286 t290 true a0_0 a0_1 a0_2 l0_3)) else (gangsawlaw14_BoringSays.j0 k a2 t286 t290 true a0_0 a0_1 a0_2 l0_3)) else (gangsawlaw14_BoringSays.j0 k a2 t286 t290 true a0_0 a0_1 a0_2 l0_3))) = some r := H
    have A34 := aK A340
    clear A340
    replace H := Option.bind_eq_some_iff.mp H
    obtain ⟨t295, A350, H⟩ := H
    replace H : (if t294 = t295 then (if t276 = t284 then (if t289 = t293 then ((gangsawref14_Equal.f k t270 t271 t272 t273 t278 t279 t280 t281).bind fun t296 => (if t296 = true then (gangsawlaw14_BoringSays.j0 k a2 t286 t290 ((t286.length : Int) != (t290.length : Int)) a0_0 a0_1 a0_2 l0_3) else (gangsawlaw14_BoringSays.j0 k a2 t286 t290 true a0_0 a0_1 a0_2 l0_3))) else (gangsawlaw14_BoringSays.j0 k a2 t286 t290 true a0_0 a0_1 a0_2 l0_3)) else (gangsawlaw14_BoringSays.j0 k a2 t286 t290 true a0_0 a0_1 a0_2 l0_3)) else (gangsawlaw14_BoringSays.j0 k a2 t286 t290 true a0_0 a0_1 a0_2 l0_3)) = some r := H
    have A35 := aK A350
    clear A350
    by_cases c36 : t294 = t295
    ·rw [if_pos c36] at H
     have c36b0 : (t294 == t295) = true := beq_iff_eq.mpr c36
     have c36b1 : (t294 != t295) = false := bne_eq_false_iff_eq.mpr c36
     clear c36
     (first | rw [c36b0] | (simp only [i64_w, i32_w]; rw [c36b0]) | skip)
     by_cases c37 : t276 = t284
     ·rw [if_pos c37] at H
      have c37b0 : (t276 == t284) = true := beq_iff_eq.mpr c37
      have c37b1 : (t276 != t284) = false := bne_eq_false_iff_eq.mpr c37
      clear c37
      by_cases c38 : t289 = t293
      ·rw [if_pos c38] at H
       have c38b0 : (t289 == t293) = true := beq_iff_eq.mpr c38
       have c38b1 : (t289 != t293) = false := bne_eq_false_iff_eq.mpr c38
       clear c38
       replace H := Option.bind_eq_some_iff.mp H
       obtain ⟨t296, A390, H⟩ := H
       replace H : (if t296 = true then (gangsawlaw14_BoringSays.j0 k a2 t286 t290 ((t286.length : Int) != (t290.length : Int)) a0_0 a0_1 a0_2 l0_3) else (gangsawlaw14_BoringSays.j0 k a2 t286 t290 true a0_0 a0_1 a0_2 l0_3)) = some r := H
       have A39 := aK A390
       clear A390
       by_cases c40 : t296 = true
       ·subst c40
        have H1 : (gangsawlaw14_BoringSays.j0 k a2 t286 t290 ((t286.length : Int) != (t290.length : Int)) a0_0 a0_1 a0_2 l0_3) = some r := by rw [if_pos rfl] at H; exact H
        clear H
        have H := H1
        clear H1
        have H' := aK H
        clear H
        try go_wp2
        have n0_ := aK (Kd.R_drew HO275.out)
        have n1_ := aK (Kd.R_drew HO283.out)
        have n2_ := aK (Kd.R_drew HO288.out)
        have n3_ := aK (Kd.R_drew HO292.out)
        have n4_ := aK (zD BK267.out)
        have n5_ := aK (zD BK277.out)
        have n6_ := aK (zD BK285.out)
        have n7_ := aK (yD HB.out)
        clear HO275
        clear HO283
        clear HO288
        clear HO292
        clear BK267
        clear BK277
        clear BK285
        clear HB
        have HO275 := n0_
        have HO283 := n1_
        have HO288 := n2_
        have HO292 := n3_
        have BK267 := n4_
        have BK277 := n5_
        have BK285 := n6_
        have HB := n7_
        clear n0_ n1_ n2_ n3_ n4_ n5_ n6_ n7_
        refine start_ (n := 30) (S := fun w' => w'.cell? ⟨gb267, 0, none⟩ = some (.string a0_0) ∧ w'.cell? ⟨gb267, 1, none⟩ = some (.int .i64 a0_1) ∧ w'.cell? ⟨gb267, 2, none⟩ = some (.int .i64 a0_2) ∧ w'.cell? ⟨gb267, 3, none⟩ = some (.slice A0_3 l0_3.length c0_3) ∧ w'.cell? ⟨gb277, 0, none⟩ = some (.string t270) ∧ w'.cell? ⟨gb277, 1, none⟩ = some (.int .i64 t271) ∧ w'.cell? ⟨gb277, 2, none⟩ = some (.int .i64 t272) ∧ w'.cell? ⟨gb277, 3, none⟩ = some (.slice Ao22 t273.length co22) ∧ w'.cell? ⟨gb285, 0, none⟩ = some (.string t278) ∧ w'.cell? ⟨gb285, 1, none⟩ = some (.int .i64 t279) ∧ w'.cell? ⟨gb285, 2, none⟩ = some (.int .i64 t280) ∧ w'.cell? ⟨gb285, 3, none⟩ = some (.slice Ao29 t281.length co29)) (ds := []) #[false, false, false, false, false, false, false, false, false, false, false, false, false, false, false, false, false, false, false, false, false, false, false, false, false, false, false, false, false, false] (by kernel_rfl) rfl rfl ⟨(zC BK267.out 0).trans rfl, (zC BK267.out 1).trans rfl, (zC BK267.out 2).trans rfl, (zC BK267.out 3).trans rfl, (zC BK277.out 0).trans rfl, (zC BK277.out 1).trans rfl, (zC BK277.out 2).trans rfl, (zC BK277.out 3).trans rfl, (zC BK285.out 0).trans rfl, (zC BK285.out 1).trans rfl, (zC BK285.out 2).trans rfl, (zC BK285.out 3).trans rfl⟩ (fun hHeld => ?_); refine with_tabW gangsawlaw14_BoringSays.tab9 gangsawlaw14_BoringSays.bits9 (fun HT_ HW_ => ?_)
        generalize w33.drew = w41 at HO275 HO283 HO288 HO292 BK267 BK277 BK285 HB hHeld ⊢
        refine pure_ (i := 1) (N := some 47) (v := ?_) (a' := ?_) #[false, true, false, false, false, false, false, false, false, false, false, false, false, false, false, false, false, false, false, false, false, false, false, false, false, false, false, false, false, false] rfl rfl (any_of HT_.out (by kernel_rfl)) (fun _ _ _ h => h) (Or.inl ⟨by rfl, ?_⟩) ?_ ?_
        rotate_left
        ·intro w'
         go_simp
         with_reducible rfl
        rotate_left
        ·simp only [Act.put, sA, sZ, sS, i64_w, i32_w]
         rfl
        refine pure_ (i := 4) (N := some 50) (v := ?_) (a' := ?_) #[false, true, false, false, true, false, false, false, false, false, false, false, false, false, false, false, false, false, false, false, false, false, false, false, false, false, false, false, false, false] rfl rfl (any_of HT_.out (by kernel_rfl)) (fun _ _ _ h => h) (Or.inl ⟨by rfl, ?_⟩) ?_ ?_
        rotate_left
        ·intro w'
         go_simp
         with_reducible rfl
        rotate_left
        ·simp only [Act.put, sA, sZ, sS, i64_w, i32_w]
         rfl
        refine take_ (i := 0) (N := some 46) (v := ?_) (a' := ?_) #[true, true, false, false, true, false, false, false, false, false, false, false, false, false, false, false, false, false, false, false, false, false, false, false, false, false, false, false, false, false] rfl rfl (take_ofW HT_.out HW_.out (by kernel_rfl)) (fun _ _ _ h => h) (Or.inl ⟨by rfl, ?_⟩) hHeld ?_ ?_
        rotate_left
        ·rintro w' ⟨s0, s1, s2, s3, s4, s5, s6, s7, s8, s9, s10, s11⟩
         go_simp
         with_reducible rfl
        rotate_left
        ·simp only [Act.put, sA, sZ, sS, i64_w, i32_w]
         rfl
        refine take_ (i := 3) (N := some 49) (v := ?_) (a' := ?_) #[true, true, false, true, true, false, false, false, false, false, false, false, false, false, false, false, false, false, false, false, false, false, false, false, false, false, false, false, false, false] rfl rfl (take_ofW HT_.out HW_.out (by kernel_rfl)) (fun _ _ _ h => h) (Or.inl ⟨by rfl, ?_⟩) hHeld ?_ ?_
        rotate_left
        ·rintro w' ⟨s0, s1, s2, s3, s4, s5, s6, s7, s8, s9, s10, s11⟩
         go_simp
         with_reducible rfl
        rotate_left
        ·simp only [Act.put, sA, sZ, sS, i64_w, i32_w]
         rfl
        refine one_ (i := 2) (N := some 48) #[true, true, true, true, true, false, false, false, false, false, false, false, false, false, false, false, false, false, false, false, false, false, false, false, false, false, false, false, false, false] rfl rfl (one_of HT_.out (by kernel_rfl)) (by decide) (fun K hK => ?_)
        refine goes_ Tryz.func21 (by kernel_rfl) rfl #[.agg #[.string a0_0, .int .i64 a0_1, .int .i64 a0_2, .slice A0_3 l0_3.length c0_3], .int .i64 a1] (by rfl) rfl rfl (by (try simp only [List.map_toArray, List.map_cons, List.map_nil]); first | done | rfl | (simp only [List.length_drop, List.length_take]; rfl)) ?_
        with_reducible refine (boring_State.calls k a0_0 a0_1 a0_2 _ _ l0_3 a1 t294 _ ?side1 ?side2 A34.out).mono ?_
        (case side1 => repeat (first | exact (Kd.C_below HR0_3.out HB.out) | (with_reducible refine Kd.C_alloc ?_ _) | (with_reducible refine Kd.C_drewN ?_ _) | (with_reducible refine Kd.C_drew ?_)))
        (case side2 => exact HC0_3.out)
        rintro e w42 ⟨rfl, hb⟩
        refine ⟨_, rfl, ?_⟩
        have n0_ := aK (Kd.R_below (by (with_reducible repeat (first | apply Kd.R_alloc | apply Kd.R_drewN | apply Kd.R_drew)); exact HO275.out) hb)
        have n1_ := aK (Kd.R_below (by (with_reducible repeat (first | apply Kd.R_alloc | apply Kd.R_drewN | apply Kd.R_drew)); exact HO283.out) hb)
        have n2_ := aK (Kd.R_below (by (with_reducible repeat (first | apply Kd.R_alloc | apply Kd.R_drewN | apply Kd.R_drew)); exact HO288.out) hb)
        have n3_ := aK (Kd.R_below (by (with_reducible repeat (first | apply Kd.R_alloc | apply Kd.R_drewN | apply Kd.R_drew)); exact HO292.out) hb)
        have n4_ := zG BK267 hb (fun h => by (with_reducible repeat (first | refine zN ?_ _ | refine zD ?_ | refine zA ?_ _)); exact h)
        have n5_ := zG BK277 hb (fun h => by (with_reducible repeat (first | refine zN ?_ _ | refine zD ?_ | refine zA ?_ _)); exact h)
        have n6_ := zG BK285 hb (fun h => by (with_reducible repeat (first | refine zN ?_ _ | refine zD ?_ | refine zA ?_ _)); exact h)
        have n7_ := aK (yT (by repeat (first | (with_reducible first | exact HB.out | apply yA | apply yN | apply yD | refine yS ?_ GE267.out | refine yS ?_ GE277.out | refine yS ?_ GE285.out) | exact HB.out)) hb)
        clear HO275
        clear HO283
        clear HO288
        clear HO292
        clear BK267
        clear BK277
        clear BK285
        clear HB
        have HO275 := n0_
        have HO283 := n1_
        have HO288 := n2_
        have HO292 := n3_
        have BK267 := n4_
        have BK277 := n5_
        have BK285 := n6_
        have HB := n7_
        clear n0_ n1_ n2_ n3_ n4_ n5_ n6_ n7_
        (try clear hb)
        (try clear hb2)
        (try clear hk)
        (try clear hi)
        refine hK.out _ _ ⟨(zC BK267.out 0).trans rfl, (zC BK267.out 1).trans rfl, (zC BK267.out 2).trans rfl, (zC BK267.out 3).trans rfl, (zC BK277.out 0).trans rfl, (zC BK277.out 1).trans rfl, (zC BK277.out 2).trans rfl, (zC BK277.out 3).trans rfl, (zC BK285.out 0).trans rfl, (zC BK285.out 1).trans rfl, (zC BK285.out 2).trans rfl, (zC BK285.out 3).trans rfl⟩ (fun hHeld => ?_)
        clear hK K
        refine norm_ (a' := ?_) ?_ ?_
        rotate_left
        ·show Act.put _ (some 48) _ = _
         simp only [Act.put, sA, sZ, sS, i64_w, i32_w]
         rfl
        refine one_ (i := 5) (N := some 51) #[true, true, true, true, true, true, false, false, false, false, false, false, false, false, false, false, false, false, false, false, false, false, false, false, false, false, false, false, false, false] rfl rfl (one_of HT_.out (by kernel_rfl)) (by decide) (fun K hK => ?_)
        refine goes_ Tryz.func22 (by kernel_rfl) rfl #[.agg #[.string a0_0, .int .i64 a0_1, .int .i64 a0_2, .slice A0_3 l0_3.length c0_3], .int .i64 a1] (by rfl) rfl rfl (by (try simp only [List.map_toArray, List.map_cons, List.map_nil]); first | done | rfl | (simp only [List.length_drop, List.length_take]; rfl)) ?_
        with_reducible refine (gangsawref14_State.calls k a0_0 a0_1 a0_2 _ _ l0_3 a1 t295 _ ?side1 ?side2 A35.out).mono ?_
        (case side1 => repeat (first | exact (Kd.C_below HR0_3.out HB.out) | (with_reducible refine Kd.C_alloc ?_ _) | (with_reducible refine Kd.C_drewN ?_ _) | (with_reducible refine Kd.C_drew ?_)))
        (case side2 => exact HC0_3.out)
        rintro e w43 ⟨rfl, hb⟩
        refine ⟨_, rfl, ?_⟩
        have n0_ := aK (Kd.R_below (by (with_reducible repeat (first | apply Kd.R_alloc | apply Kd.R_drewN | apply Kd.R_drew)); exact HO275.out) hb)
        have n1_ := aK (Kd.R_below (by (with_reducible repeat (first | apply Kd.R_alloc | apply Kd.R_drewN | apply Kd.R_drew)); exact HO283.out) hb)
        have n2_ := aK (Kd.R_below (by (with_reducible repeat (first | apply Kd.R_alloc | apply Kd.R_drewN | apply Kd.R_drew)); exact HO288.out) hb)
        have n3_ := aK (Kd.R_below (by (with_reducible repeat (first | apply Kd.R_alloc | apply Kd.R_drewN | apply Kd.R_drew)); exact HO292.out) hb)
        have n4_ := zG BK267 hb (fun h => by (with_reducible repeat (first | refine zN ?_ _ | refine zD ?_ | refine zA ?_ _)); exact h)
        have n5_ := zG BK277 hb (fun h => by (with_reducible repeat (first | refine zN ?_ _ | refine zD ?_ | refine zA ?_ _)); exact h)
        have n6_ := zG BK285 hb (fun h => by (with_reducible repeat (first | refine zN ?_ _ | refine zD ?_ | refine zA ?_ _)); exact h)
        have n7_ := aK (yT (by repeat (first | (with_reducible first | exact HB.out | apply yA | apply yN | apply yD | refine yS ?_ GE267.out | refine yS ?_ GE277.out | refine yS ?_ GE285.out) | exact HB.out)) hb)
        clear HO275
        clear HO283
        clear HO288
        clear HO292
        clear BK267
        clear BK277
        clear BK285
        clear HB
        have HO275 := n0_
        have HO283 := n1_
        have HO288 := n2_
        have HO292 := n3_
        have BK267 := n4_
        have BK277 := n5_
        have BK285 := n6_
        have HB := n7_
        clear n0_ n1_ n2_ n3_ n4_ n5_ n6_ n7_
        (try clear hb)
        (try clear hb2)
        (try clear hk)
        (try clear hi)
        refine hK.out _ _ ⟨(zC BK267.out 0).trans rfl, (zC BK267.out 1).trans rfl, (zC BK267.out 2).trans rfl, (zC BK267.out 3).trans rfl, (zC BK277.out 0).trans rfl, (zC BK277.out 1).trans rfl, (zC BK277.out 2).trans rfl, (zC BK277.out 3).trans rfl, (zC BK285.out 0).trans rfl, (zC BK285.out 1).trans rfl, (zC BK285.out 2).trans rfl, (zC BK285.out 3).trans rfl⟩ (fun hHeld => ?_)
        clear hK K
        refine norm_ (a' := ?_) ?_ ?_
        rotate_left
        ·show Act.put _ (some 51) _ = _
         simp only [Act.put, sA, sZ, sS, i64_w, i32_w]
         rfl
        refine pure_ (i := 6) (N := some 52) (v := ?_) (a' := ?_) #[true, true, true, true, true, true, true, false, false, false, false, false, false, false, false, false, false, false, false, false, false, false, false, false, false, false, false, false, false, false] rfl rfl (any_of HT_.out (by kernel_rfl)) (fun _ _ _ h => h) (Or.inl ⟨by rfl, ?_⟩) ?_ ?_
        rotate_left
        ·intro w'
         go_simp
         with_reducible rfl
        rotate_left
        ·simp only [Act.put, sA, sZ, sS, i64_w, i32_w]
         rfl
        refine pure_ (i := 7) (N := some 53) (v := ?_) (a' := ?_) #[true, true, true, true, true, true, true, true, false, false, false, false, false, false, false, false, false, false, false, false, false, false, false, false, false, false, false, false, false, false] rfl rfl (any_of HT_.out (by kernel_rfl)) (fun _ _ _ h => h) (Or.inl ⟨by rfl, ?_⟩) ?_ ?_
        rotate_left
        ·intro w'
         go_simp
         with_reducible rfl
        rotate_left
        ·simp only [Act.put, sA, sZ, sS, i64_w, i32_w]
         rfl
        refine pure_ (i := 8) (N := some 54) (v := ?_) (a' := ?_) #[true, true, true, true, true, true, true, true, true, false, false, false, false, false, false, false, false, false, false, false, false, false, false, false, false, false, false, false, false, false] rfl rfl (any_of HT_.out (by kernel_rfl)) (fun _ _ _ h => h) (Or.inl ⟨by rfl, ?_⟩) ?_ ?_
        rotate_left
        ·intro w'
         go_simp
         with_reducible rfl
        rotate_left
        ·simp only [Act.put, sA, sZ, sS, i64_w, i32_w]
         rfl
        refine pure_ (i := 9) (N := some 55) (v := ?_) (a' := ?_) #[true, true, true, true, true, true, true, true, true, true, false, false, false, false, false, false, false, false, false, false, false, false, false, false, false, false, false, false, false, false] rfl rfl (any_of HT_.out (by kernel_rfl)) (fun _ _ _ h => h) (Or.inl ⟨by rfl, ?_⟩) ?_ ?_
        rotate_left
        ·intro w'
         go_simp
         with_reducible rfl
        rotate_left
        ·simp only [Act.put, sA, sZ, sS, i64_w, i32_w]
         rfl
        refine pure_ (i := 10) (N := some 56) (v := ?_) (a' := ?_) #[true, true, true, true, true, true, true, true, true, true, true, false, false, false, false, false, false, false, false, false, false, false, false, false, false, false, false, false, false, false] rfl rfl (any_of HT_.out (by kernel_rfl)) (fun _ _ _ h => h) (Or.inl ⟨by rfl, ?_⟩) ?_ ?_
        rotate_left
        ·intro w'
         go_simp
         with_reducible rfl
        rotate_left
        ·simp only [Act.put, sA, sZ, sS, i64_w, i32_w]
         rfl
        refine pure_ (i := 11) (N := some 57) (v := ?_) (a' := ?_) #[true, true, true, true, true, true, true, true, true, true, true, true, false, false, false, false, false, false, false, false, false, false, false, false, false, false, false, false, false, false] rfl rfl (any_of HT_.out (by kernel_rfl)) (fun _ _ _ h => h) (Or.inl ⟨by rfl, ?_⟩) ?_ ?_
        rotate_left
        ·intro w'
         go_simp
         with_reducible rfl
        rotate_left
        ·simp only [Act.put, sA, sZ, sS, i64_w, i32_w]
         rfl
        refine pure_ (i := 12) (N := some 58) (v := ?_) (a' := ?_) #[true, true, true, true, true, true, true, true, true, true, true, true, true, false, false, false, false, false, false, false, false, false, false, false, false, false, false, false, false, false] rfl rfl (any_of HT_.out (by kernel_rfl)) (fun _ _ _ h => h) (Or.inl ⟨by rfl, ?_⟩) ?_ ?_
        rotate_left
        ·intro w'
         go_simp
         with_reducible rfl
        rotate_left
        ·simp only [Act.put, sA, sZ, sS, i64_w, i32_w]
         rfl
        refine pure_ (i := 13) (N := some 59) (v := ?_) (a' := ?_) #[true, true, true, true, true, true, true, true, true, true, true, true, true, true, false, false, false, false, false, false, false, false, false, false, false, false, false, false, false, false] rfl rfl (any_of HT_.out (by kernel_rfl)) (fun _ _ _ h => h) (Or.inl ⟨by rfl, ?_⟩) ?_ ?_
        rotate_left
        ·intro w'
         go_simp
         with_reducible rfl
        rotate_left
        ·simp only [Act.put, sA, sZ, sS, i64_w, i32_w]
         rfl
        refine pure_ (i := 14) (N := some 60) (v := ?_) (a' := ?_) #[true, true, true, true, true, true, true, true, true, true, true, true, true, true, true, false, false, false, false, false, false, false, false, false, false, false, false, false, false, false] rfl rfl (any_of HT_.out (by kernel_rfl)) (fun _ _ _ h => h) (Or.inl ⟨by rfl, ?_⟩) ?_ ?_
        rotate_left
        ·intro w'
         go_simp
         with_reducible rfl
        rotate_left
        ·simp only [Act.put, sA, sZ, sS, i64_w, i32_w]
         rfl
        refine pure_ (i := 15) (N := some 61) (v := ?_) (a' := ?_) #[true, true, true, true, true, true, true, true, true, true, true, true, true, true, true, true, false, false, false, false, false, false, false, false, false, false, false, false, false, false] rfl rfl (any_of HT_.out (by kernel_rfl)) (fun _ _ _ h => h) (Or.inl ⟨by rfl, ?_⟩) ?_ ?_
        rotate_left
        ·intro w'
         go_simp
         with_reducible rfl
        rotate_left
        ·simp only [Act.put, sA, sZ, sS, i64_w, i32_w]
         rfl
        refine pure_ (i := 16) (N := some 62) (v := ?_) (a' := ?_) #[true, true, true, true, true, true, true, true, true, true, true, true, true, true, true, true, true, false, false, false, false, false, false, false, false, false, false, false, false, false] rfl rfl (any_of HT_.out (by kernel_rfl)) (fun _ _ _ h => h) (Or.inl ⟨by rfl, ?_⟩) ?_ ?_
        rotate_left
        ·intro w'
         go_simp
         with_reducible rfl
        rotate_left
        ·simp only [Act.put, sA, sZ, sS, i64_w, i32_w]
         rfl
        refine pure_ (i := 17) (N := some 63) (v := ?_) (a' := ?_) #[true, true, true, true, true, true, true, true, true, true, true, true, true, true, true, true, true, true, false, false, false, false, false, false, false, false, false, false, false, false] rfl rfl (any_of HT_.out (by kernel_rfl)) (fun _ _ _ h => h) (Or.inl ⟨by rfl, ?_⟩) ?_ ?_
        rotate_left
        ·intro w'
         go_simp
         with_reducible rfl
        rotate_left
        ·simp only [Act.put, sA, sZ, sS, i64_w, i32_w]
         rfl
        refine take_ (i := 18) (N := some 64) (v := ?_) (a' := ?_) #[true, true, true, true, true, true, true, true, true, true, true, true, true, true, true, true, true, true, true, false, false, false, false, false, false, false, false, false, false, false] rfl rfl (take_ofW HT_.out HW_.out (by kernel_rfl)) (fun _ _ _ h => h) (Or.inl ⟨by rfl, ?_⟩) hHeld ?_ ?_
        rotate_left
        ·rintro w' ⟨s0, s1, s2, s3, s4, s5, s6, s7, s8, s9, s10, s11⟩
         go_simp
         with_reducible rfl
        rotate_left
        ·simp only [Act.put, sA, sZ, sS, i64_w, i32_w]
         rfl
        refine take_ (i := 19) (N := some 65) (v := ?_) (a' := ?_) #[true, true, true, true, true, true, true, true, true, true, true, true, true, true, true, true, true, true, true, true, false, false, false, false, false, false, false, false, false, false] rfl rfl (take_ofW HT_.out HW_.out (by kernel_rfl)) (fun _ _ _ h => h) (Or.inl ⟨by rfl, ?_⟩) hHeld ?_ ?_
        rotate_left
        ·rintro w' ⟨s0, s1, s2, s3, s4, s5, s6, s7, s8, s9, s10, s11⟩
         go_simp
         with_reducible rfl
        rotate_left
        ·simp only [Act.put, sA, sZ, sS, i64_w, i32_w]
         rfl
        refine one_ (i := 20) (N := some 66) #[true, true, true, true, true, true, true, true, true, true, true, true, true, true, true, true, true, true, true, true, true, false, false, false, false, false, false, false, false, false] rfl rfl (one_of HT_.out (by kernel_rfl)) (by decide) (fun K hK => ?_)
        refine goes_ Tryz.func23 (by kernel_rfl) rfl #[.agg #[.string t270, .int .i64 t271, .int .i64 t272, .slice Ao22 t273.length co22], .agg #[.string t278, .int .i64 t279, .int .i64 t280, .slice Ao29 t281.length co29]] (by rfl) rfl rfl (by (try simp only [List.map_toArray, List.map_cons, List.map_nil]); first | done | rfl | (simp only [List.length_drop, List.length_take]; rfl)) ?_
        with_reducible refine (gangsawref14_Equal.calls k t270 t271 t272 _ _ t273 t278 t279 t280 _ _ t281 true _ ?side1 ?side2 ?side3 ?side4 A39.out).mono ?_
        (case side1 => repeat (first | exact (Kd.R_reads' HO275.out).2.2 | (with_reducible refine Kd.C_alloc ?_ _) | (with_reducible refine Kd.C_drewN ?_ _) | (with_reducible refine Kd.C_drew ?_)))
        (case side2 => exact (Kd.R_reads' HO275.out).2.1)
        (case side3 => repeat (first | exact (Kd.R_reads' HO283.out).2.2 | (with_reducible refine Kd.C_alloc ?_ _) | (with_reducible refine Kd.C_drewN ?_ _) | (with_reducible refine Kd.C_drew ?_)))
        (case side4 => exact (Kd.R_reads' HO283.out).2.1)
        rintro e w44 ⟨rfl, hb⟩
        refine ⟨_, rfl, ?_⟩
        have n0_ := aK (Kd.R_below (by (with_reducible repeat (first | apply Kd.R_alloc | apply Kd.R_drewN | apply Kd.R_drew)); exact HO275.out) hb)
        have n1_ := aK (Kd.R_below (by (with_reducible repeat (first | apply Kd.R_alloc | apply Kd.R_drewN | apply Kd.R_drew)); exact HO283.out) hb)
        have n2_ := aK (Kd.R_below (by (with_reducible repeat (first | apply Kd.R_alloc | apply Kd.R_drewN | apply Kd.R_drew)); exact HO288.out) hb)
        have n3_ := aK (Kd.R_below (by (with_reducible repeat (first | apply Kd.R_alloc | apply Kd.R_drewN | apply Kd.R_drew)); exact HO292.out) hb)
        have n4_ := zG BK267 hb (fun h => by (with_reducible repeat (first | refine zN ?_ _ | refine zD ?_ | refine zA ?_ _)); exact h)
        have n5_ := zG BK277 hb (fun h => by (with_reducible repeat (first | refine zN ?_ _ | refine zD ?_ | refine zA ?_ _)); exact h)
        have n6_ := zG BK285 hb (fun h => by (with_reducible repeat (first | refine zN ?_ _ | refine zD ?_ | refine zA ?_ _)); exact h)
        have n7_ := aK (yT (by repeat (first | (with_reducible first | exact HB.out | apply yA | apply yN | apply yD | refine yS ?_ GE267.out | refine yS ?_ GE277.out | refine yS ?_ GE285.out) | exact HB.out)) hb)
        clear HO275
        clear HO283
        clear HO288
        clear HO292
        clear BK267
        clear BK277
        clear BK285
        clear HB
        have HO275 := n0_
        have HO283 := n1_
        have HO288 := n2_
        have HO292 := n3_
        have BK267 := n4_
        have BK277 := n5_
        have BK285 := n6_
        have HB := n7_
        clear n0_ n1_ n2_ n3_ n4_ n5_ n6_ n7_
        (try clear hb)
        (try clear hb2)
        (try clear hk)
        (try clear hi)
        obtain ⟨Ao45, co45, eo45⟩ := Kd.R_slice HO288.out
        (first | subst eo45 | (injection eo45 with f1_ f2_ f3_; have f4_ := f1_.symm; have f5_ := f3_.symm; clear f1_ f2_ f3_; subst f4_; subst f5_))
        obtain ⟨Ao46, co46, eo46⟩ := Kd.R_slice HO292.out
        (first | subst eo46 | (injection eo46 with f1_ f2_ f3_; have f4_ := f1_.symm; have f5_ := f3_.symm; clear f1_ f2_ f3_; subst f4_; subst f5_))
        refine hK.out _ _ ⟨(zC BK267.out 0).trans rfl, (zC BK267.out 1).trans rfl, (zC BK267.out 2).trans rfl, (zC BK267.out 3).trans rfl, (zC BK277.out 0).trans rfl, (zC BK277.out 1).trans rfl, (zC BK277.out 2).trans rfl, (zC BK277.out 3).trans rfl, (zC BK285.out 0).trans rfl, (zC BK285.out 1).trans rfl, (zC BK285.out 2).trans rfl, (zC BK285.out 3).trans rfl⟩ (fun hHeld => ?_)
        clear hK K
        refine norm_ (a' := ?_) ?_ ?_
        rotate_left
        ·show Act.put _ (some 66) _ = _
         simp only [Act.put, sA, sZ, sS, i64_w, i32_w]
         rfl
        refine pure_ (i := 21) (N := some 67) (v := ?_) (a' := ?_) #[true, true, true, true, true, true, true, true, true, true, true, true, true, true, true, true, true, true, true, true, true, true, false, false, false, false, false, false, false, false] rfl rfl (any_of HT_.out (by kernel_rfl)) (fun _ _ _ h => h) (Or.inl ⟨by rfl, ?_⟩) ?_ ?_
        rotate_left
        ·intro w'
         go_simp
         with_reducible rfl
        rotate_left
        ·simp only [Act.put, sA, sZ, sS, i64_w, i32_w]
         rfl
        refine pure_ (i := 22) (N := some 68) (v := ?_) (a' := ?_) #[true, true, true, true, true, true, true, true, true, true, true, true, true, true, true, true, true, true, true, true, true, true, true, false, false, false, false, false, false, false] rfl rfl (any_of HT_.out (by kernel_rfl)) (fun _ _ _ h => h) (Or.inl ⟨by rfl, ?_⟩) ?_ ?_
        rotate_left
        ·intro w'
         go_simp
         with_reducible rfl
        rotate_left
        ·simp only [Act.put, sA, sZ, sS, i64_w, i32_w]
         rfl
        refine pure_ (i := 23) (N := some 69) (v := ?_) (a' := ?_) #[true, true, true, true, true, true, true, true, true, true, true, true, true, true, true, true, true, true, true, true, true, true, true, true, false, false, false, false, false, false] rfl rfl (any_of HT_.out (by kernel_rfl)) (fun _ _ _ h => h) (Or.inl ⟨by rfl, ?_⟩) ?_ ?_
        rotate_left
        ·intro w'
         go_simp
         with_reducible rfl
        rotate_left
        ·simp only [Act.put, sA, sZ, sS, i64_w, i32_w]
         rfl
        refine pure_ (i := 24) (N := some 70) (v := ?_) (a' := ?_) #[true, true, true, true, true, true, true, true, true, true, true, true, true, true, true, true, true, true, true, true, true, true, true, true, true, false, false, false, false, false] rfl rfl (any_of HT_.out (by kernel_rfl)) (fun _ _ _ h => h) (Or.inl ⟨by rfl, ?_⟩) ?_ ?_
        rotate_left
        ·intro w'
         go_simp
         with_reducible rfl
        rotate_left
        ·simp only [Act.put, sA, sZ, sS, i64_w, i32_w]
         rfl
        refine pure_ (i := 25) (N := some 71) (v := ?_) (a' := ?_) #[true, true, true, true, true, true, true, true, true, true, true, true, true, true, true, true, true, true, true, true, true, true, true, true, true, true, false, false, false, false] rfl rfl (any_of HT_.out (by kernel_rfl)) (fun _ _ _ h => h) (Or.inl ⟨by rfl, ?_⟩) ?_ ?_
        rotate_left
        ·intro w'
         go_simp
         with_reducible rfl
        rotate_left
        ·simp only [Act.put, sA, sZ, sS, i64_w, i32_w]
         rfl
        refine pure_ (i := 26) (N := some 72) (v := ?_) (a' := ?_) #[true, true, true, true, true, true, true, true, true, true, true, true, true, true, true, true, true, true, true, true, true, true, true, true, true, true, true, false, false, false] rfl rfl (any_of HT_.out (by kernel_rfl)) (fun _ _ _ h => h) (Or.inl ⟨by rfl, ?_⟩) ?_ ?_
        rotate_left
        ·intro w'
         go_simp
         with_reducible rfl
        rotate_left
        ·simp only [Act.put, sA, sZ, sS, i64_w, i32_w]
         rfl
        refine pure_ (i := 27) (N := some 73) (v := ?_) (a' := ?_) #[true, true, true, true, true, true, true, true, true, true, true, true, true, true, true, true, true, true, true, true, true, true, true, true, true, true, true, true, false, false] rfl rfl (any_of HT_.out (by kernel_rfl)) (fun _ _ _ h => h) (Or.inl ⟨by rfl, ?_⟩) ?_ ?_
        rotate_left
        ·intro w'
         go_simp
         with_reducible rfl
        rotate_left
        ·simp only [Act.put, sA, sZ, sS, i64_w, i32_w]
         rfl
        refine pure_ (i := 28) (N := some 74) (v := ?_) (a' := ?_) #[true, true, true, true, true, true, true, true, true, true, true, true, true, true, true, true, true, true, true, true, true, true, true, true, true, true, true, true, true, false] rfl rfl (any_of HT_.out (by kernel_rfl)) (fun _ _ _ h => h) (Or.inl ⟨by rfl, ?_⟩) ?_ ?_
        rotate_left
        ·intro w'
         go_simp
         with_reducible rfl
        rotate_left
        ·simp only [Act.put, sA, sZ, sS, i64_w, i32_w]
         rfl
        refine pure_ (i := 29) (N := some 75) (v := ?_) (a' := ?_) #[true, true, true, true, true, true, true, true, true, true, true, true, true, true, true, true, true, true, true, true, true, true, true, true, true, true, true, true, true, true] rfl rfl (any_of HT_.out (by kernel_rfl)) (fun _ _ _ h => h) (Or.inl ⟨by rfl, ?_⟩) ?_ ?_
        rotate_left
        ·intro w'
         go_simp
         with_reducible rfl
        rotate_left
        ·simp only [Act.put, sA, sZ, sS, i64_w, i32_w]
         rfl
        refine done_ (done_of HT_.out (by kernel_rfl)) ?_
        try go_wp2
        go_meet
        case rel => exact ⟨_, (((t286.length : Int) != (t290.length : Int))), (by first | rfl | (simp; done) | (simp [*]; done)), H', ⟨by first | omega | exact Nat.le_refl _⟩, ⟨by (with_reducible repeat (first | apply Kd.R_alloc | apply Kd.R_drewN | apply Kd.R_drew)); exact Kd.R_mono HO288.out (fun _ hk => hk.2)⟩, ⟨by (with_reducible repeat (first | apply Kd.R_alloc | apply Kd.R_drewN | apply Kd.R_drew)); exact Kd.R_mono HO292.out (fun _ hk => hk.2)⟩, ⟨by (with_reducible repeat (first | apply Kd.R_alloc | apply Kd.R_drewN | apply Kd.R_drew)); exact Kd.R_mono HO275.out (fun _ hk => hk.2)⟩, ⟨by (with_reducible repeat (first | apply Kd.R_alloc | apply Kd.R_drewN | apply Kd.R_drew)); exact Kd.R_mono HO283.out (fun _ hk => hk.2)⟩, ⟨by (with_reducible repeat (first | refine zN ?_ _ | refine zD ?_ | refine zA ?_ _)); exact BK267.out⟩, ⟨by (with_reducible repeat (first | refine zN ?_ _ | refine zD ?_ | refine zA ?_ _)); exact BK277.out⟩, ⟨by (with_reducible repeat (first | refine zN ?_ _ | refine zD ?_ | refine zA ?_ _)); exact BK285.out⟩, ⟨by repeat (first | (with_reducible first | exact HB.out | apply yA | apply yN | apply yD | refine yS ?_ GE267.out | refine yS ?_ GE277.out | refine yS ?_ GE285.out) | exact HB.out)⟩⟩
       ·replace c40 := Bool.eq_false_iff.mpr c40
        subst c40
        have H1 : (gangsawlaw14_BoringSays.j0 k a2 t286 t290 true a0_0 a0_1 a0_2 l0_3) = some r := by rw [if_neg (show ¬ (false = true) by decide)] at H; exact H
        clear H
        have H := H1
        clear H1
        have H' := aK H
        clear H
        try go_wp2
        have n0_ := aK (Kd.R_drew HO275.out)
        have n1_ := aK (Kd.R_drew HO283.out)
        have n2_ := aK (Kd.R_drew HO288.out)
        have n3_ := aK (Kd.R_drew HO292.out)
        have n4_ := aK (zD BK267.out)
        have n5_ := aK (zD BK277.out)
        have n6_ := aK (zD BK285.out)
        have n7_ := aK (yD HB.out)
        clear HO275
        clear HO283
        clear HO288
        clear HO292
        clear BK267
        clear BK277
        clear BK285
        clear HB
        have HO275 := n0_
        have HO283 := n1_
        have HO288 := n2_
        have HO292 := n3_
        have BK267 := n4_
        have BK277 := n5_
        have BK285 := n6_
        have HB := n7_
        clear n0_ n1_ n2_ n3_ n4_ n5_ n6_ n7_
        refine start_ (n := 30) (S := fun w' => w'.cell? ⟨gb267, 0, none⟩ = some (.string a0_0) ∧ w'.cell? ⟨gb267, 1, none⟩ = some (.int .i64 a0_1) ∧ w'.cell? ⟨gb267, 2, none⟩ = some (.int .i64 a0_2) ∧ w'.cell? ⟨gb267, 3, none⟩ = some (.slice A0_3 l0_3.length c0_3) ∧ w'.cell? ⟨gb277, 0, none⟩ = some (.string t270) ∧ w'.cell? ⟨gb277, 1, none⟩ = some (.int .i64 t271) ∧ w'.cell? ⟨gb277, 2, none⟩ = some (.int .i64 t272) ∧ w'.cell? ⟨gb277, 3, none⟩ = some (.slice Ao22 t273.length co22) ∧ w'.cell? ⟨gb285, 0, none⟩ = some (.string t278) ∧ w'.cell? ⟨gb285, 1, none⟩ = some (.int .i64 t279) ∧ w'.cell? ⟨gb285, 2, none⟩ = some (.int .i64 t280) ∧ w'.cell? ⟨gb285, 3, none⟩ = some (.slice Ao29 t281.length co29)) (ds := []) #[false, false, false, false, false, false, false, false, false, false, false, false, false, false, false, false, false, false, false, false, false, false, false, false, false, false, false, false, false, false] (by kernel_rfl) rfl rfl ⟨(zC BK267.out 0).trans rfl, (zC BK267.out 1).trans rfl, (zC BK267.out 2).trans rfl, (zC BK267.out 3).trans rfl, (zC BK277.out 0).trans rfl, (zC BK277.out 1).trans rfl, (zC BK277.out 2).trans rfl, (zC BK277.out 3).trans rfl, (zC BK285.out 0).trans rfl, (zC BK285.out 1).trans rfl, (zC BK285.out 2).trans rfl, (zC BK285.out 3).trans rfl⟩ (fun hHeld => ?_); refine with_tabW gangsawlaw14_BoringSays.tab9 gangsawlaw14_BoringSays.bits9 (fun HT_ HW_ => ?_)
        generalize w33.drew = w47 at HO275 HO283 HO288 HO292 BK267 BK277 BK285 HB hHeld ⊢
        refine pure_ (i := 1) (N := some 47) (v := ?_) (a' := ?_) #[false, true, false, false, false, false, false, false, false, false, false, false, false, false, false, false, false, false, false, false, false, false, false, false, false, false, false, false, false, false] rfl rfl (any_of HT_.out (by kernel_rfl)) (fun _ _ _ h => h) (Or.inl ⟨by rfl, ?_⟩) ?_ ?_
        rotate_left
        ·intro w'
         go_simp
         with_reducible rfl
        rotate_left
        ·simp only [Act.put, sA, sZ, sS, i64_w, i32_w]
         rfl
        refine pure_ (i := 4) (N := some 50) (v := ?_) (a' := ?_) #[false, true, false, false, true, false, false, false, false, false, false, false, false, false, false, false, false, false, false, false, false, false, false, false, false, false, false, false, false, false] rfl rfl (any_of HT_.out (by kernel_rfl)) (fun _ _ _ h => h) (Or.inl ⟨by rfl, ?_⟩) ?_ ?_
        rotate_left
        ·intro w'
         go_simp
         with_reducible rfl
        rotate_left
        ·simp only [Act.put, sA, sZ, sS, i64_w, i32_w]
         rfl
        refine take_ (i := 0) (N := some 46) (v := ?_) (a' := ?_) #[true, true, false, false, true, false, false, false, false, false, false, false, false, false, false, false, false, false, false, false, false, false, false, false, false, false, false, false, false, false] rfl rfl (take_ofW HT_.out HW_.out (by kernel_rfl)) (fun _ _ _ h => h) (Or.inl ⟨by rfl, ?_⟩) hHeld ?_ ?_
        rotate_left
        ·rintro w' ⟨s0, s1, s2, s3, s4, s5, s6, s7, s8, s9, s10, s11⟩
         go_simp
         with_reducible rfl
        rotate_left
        ·simp only [Act.put, sA, sZ, sS, i64_w, i32_w]
         rfl
        refine take_ (i := 3) (N := some 49) (v := ?_) (a' := ?_) #[true, true, false, true, true, false, false, false, false, false, false, false, false, false, false, false, false, false, false, false, false, false, false, false, false, false, false, false, false, false] rfl rfl (take_ofW HT_.out HW_.out (by kernel_rfl)) (fun _ _ _ h => h) (Or.inl ⟨by rfl, ?_⟩) hHeld ?_ ?_
        rotate_left
        ·rintro w' ⟨s0, s1, s2, s3, s4, s5, s6, s7, s8, s9, s10, s11⟩
         go_simp
         with_reducible rfl
        rotate_left
        ·simp only [Act.put, sA, sZ, sS, i64_w, i32_w]
         rfl
        refine one_ (i := 2) (N := some 48) #[true, true, true, true, true, false, false, false, false, false, false, false, false, false, false, false, false, false, false, false, false, false, false, false, false, false, false, false, false, false] rfl rfl (one_of HT_.out (by kernel_rfl)) (by decide) (fun K hK => ?_)
        refine goes_ Tryz.func21 (by kernel_rfl) rfl #[.agg #[.string a0_0, .int .i64 a0_1, .int .i64 a0_2, .slice A0_3 l0_3.length c0_3], .int .i64 a1] (by rfl) rfl rfl (by (try simp only [List.map_toArray, List.map_cons, List.map_nil]); first | done | rfl | (simp only [List.length_drop, List.length_take]; rfl)) ?_
        with_reducible refine (boring_State.calls k a0_0 a0_1 a0_2 _ _ l0_3 a1 t294 _ ?side1 ?side2 A34.out).mono ?_
        (case side1 => repeat (first | exact (Kd.C_below HR0_3.out HB.out) | (with_reducible refine Kd.C_alloc ?_ _) | (with_reducible refine Kd.C_drewN ?_ _) | (with_reducible refine Kd.C_drew ?_)))
        (case side2 => exact HC0_3.out)
        rintro e w48 ⟨rfl, hb⟩
        refine ⟨_, rfl, ?_⟩
        have n0_ := aK (Kd.R_below (by (with_reducible repeat (first | apply Kd.R_alloc | apply Kd.R_drewN | apply Kd.R_drew)); exact HO275.out) hb)
        have n1_ := aK (Kd.R_below (by (with_reducible repeat (first | apply Kd.R_alloc | apply Kd.R_drewN | apply Kd.R_drew)); exact HO283.out) hb)
        have n2_ := aK (Kd.R_below (by (with_reducible repeat (first | apply Kd.R_alloc | apply Kd.R_drewN | apply Kd.R_drew)); exact HO288.out) hb)
        have n3_ := aK (Kd.R_below (by (with_reducible repeat (first | apply Kd.R_alloc | apply Kd.R_drewN | apply Kd.R_drew)); exact HO292.out) hb)
        have n4_ := zG BK267 hb (fun h => by (with_reducible repeat (first | refine zN ?_ _ | refine zD ?_ | refine zA ?_ _)); exact h)
        have n5_ := zG BK277 hb (fun h => by (with_reducible repeat (first | refine zN ?_ _ | refine zD ?_ | refine zA ?_ _)); exact h)
        have n6_ := zG BK285 hb (fun h => by (with_reducible repeat (first | refine zN ?_ _ | refine zD ?_ | refine zA ?_ _)); exact h)
        have n7_ := aK (yT (by repeat (first | (with_reducible first | exact HB.out | apply yA | apply yN | apply yD | refine yS ?_ GE267.out | refine yS ?_ GE277.out | refine yS ?_ GE285.out) | exact HB.out)) hb)
        clear HO275
        clear HO283
        clear HO288
        clear HO292
        clear BK267
        clear BK277
        clear BK285
        clear HB
        have HO275 := n0_
        have HO283 := n1_
        have HO288 := n2_
        have HO292 := n3_
        have BK267 := n4_
        have BK277 := n5_
        have BK285 := n6_
        have HB := n7_
        clear n0_ n1_ n2_ n3_ n4_ n5_ n6_ n7_
        (try clear hb)
        (try clear hb2)
        (try clear hk)
        (try clear hi)
        refine hK.out _ _ ⟨(zC BK267.out 0).trans rfl, (zC BK267.out 1).trans rfl, (zC BK267.out 2).trans rfl, (zC BK267.out 3).trans rfl, (zC BK277.out 0).trans rfl, (zC BK277.out 1).trans rfl, (zC BK277.out 2).trans rfl, (zC BK277.out 3).trans rfl, (zC BK285.out 0).trans rfl, (zC BK285.out 1).trans rfl, (zC BK285.out 2).trans rfl, (zC BK285.out 3).trans rfl⟩ (fun hHeld => ?_)
        clear hK K
        refine norm_ (a' := ?_) ?_ ?_
        rotate_left
        ·show Act.put _ (some 48) _ = _
         simp only [Act.put, sA, sZ, sS, i64_w, i32_w]
         rfl
        refine one_ (i := 5) (N := some 51) #[true, true, true, true, true, true, false, false, false, false, false, false, false, false, false, false, false, false, false, false, false, false, false, false, false, false, false, false, false, false] rfl rfl (one_of HT_.out (by kernel_rfl)) (by decide) (fun K hK => ?_)
        refine goes_ Tryz.func22 (by kernel_rfl) rfl #[.agg #[.string a0_0, .int .i64 a0_1, .int .i64 a0_2, .slice A0_3 l0_3.length c0_3], .int .i64 a1] (by rfl) rfl rfl (by (try simp only [List.map_toArray, List.map_cons, List.map_nil]); first | done | rfl | (simp only [List.length_drop, List.length_take]; rfl)) ?_
        with_reducible refine (gangsawref14_State.calls k a0_0 a0_1 a0_2 _ _ l0_3 a1 t295 _ ?side1 ?side2 A35.out).mono ?_
        (case side1 => repeat (first | exact (Kd.C_below HR0_3.out HB.out) | (with_reducible refine Kd.C_alloc ?_ _) | (with_reducible refine Kd.C_drewN ?_ _) | (with_reducible refine Kd.C_drew ?_)))
        (case side2 => exact HC0_3.out)
        rintro e w49 ⟨rfl, hb⟩
        refine ⟨_, rfl, ?_⟩
        have n0_ := aK (Kd.R_below (by (with_reducible repeat (first | apply Kd.R_alloc | apply Kd.R_drewN | apply Kd.R_drew)); exact HO275.out) hb)
        have n1_ := aK (Kd.R_below (by (with_reducible repeat (first | apply Kd.R_alloc | apply Kd.R_drewN | apply Kd.R_drew)); exact HO283.out) hb)
        have n2_ := aK (Kd.R_below (by (with_reducible repeat (first | apply Kd.R_alloc | apply Kd.R_drewN | apply Kd.R_drew)); exact HO288.out) hb)
        have n3_ := aK (Kd.R_below (by (with_reducible repeat (first | apply Kd.R_alloc | apply Kd.R_drewN | apply Kd.R_drew)); exact HO292.out) hb)
        have n4_ := zG BK267 hb (fun h => by (with_reducible repeat (first | refine zN ?_ _ | refine zD ?_ | refine zA ?_ _)); exact h)
        have n5_ := zG BK277 hb (fun h => by (with_reducible repeat (first | refine zN ?_ _ | refine zD ?_ | refine zA ?_ _)); exact h)
        have n6_ := zG BK285 hb (fun h => by (with_reducible repeat (first | refine zN ?_ _ | refine zD ?_ | refine zA ?_ _)); exact h)
        have n7_ := aK (yT (by repeat (first | (with_reducible first | exact HB.out | apply yA | apply yN | apply yD | refine yS ?_ GE267.out | refine yS ?_ GE277.out | refine yS ?_ GE285.out) | exact HB.out)) hb)
        clear HO275
        clear HO283
        clear HO288
        clear HO292
        clear BK267
        clear BK277
        clear BK285
        clear HB
        have HO275 := n0_
        have HO283 := n1_
        have HO288 := n2_
        have HO292 := n3_
        have BK267 := n4_
        have BK277 := n5_
        have BK285 := n6_
        have HB := n7_
        clear n0_ n1_ n2_ n3_ n4_ n5_ n6_ n7_
        (try clear hb)
        (try clear hb2)
        (try clear hk)
        (try clear hi)
        refine hK.out _ _ ⟨(zC BK267.out 0).trans rfl, (zC BK267.out 1).trans rfl, (zC BK267.out 2).trans rfl, (zC BK267.out 3).trans rfl, (zC BK277.out 0).trans rfl, (zC BK277.out 1).trans rfl, (zC BK277.out 2).trans rfl, (zC BK277.out 3).trans rfl, (zC BK285.out 0).trans rfl, (zC BK285.out 1).trans rfl, (zC BK285.out 2).trans rfl, (zC BK285.out 3).trans rfl⟩ (fun hHeld => ?_)
        clear hK K
        refine norm_ (a' := ?_) ?_ ?_
        rotate_left
        ·show Act.put _ (some 51) _ = _
         simp only [Act.put, sA, sZ, sS, i64_w, i32_w]
         rfl
        refine pure_ (i := 6) (N := some 52) (v := ?_) (a' := ?_) #[true, true, true, true, true, true, true, false, false, false, false, false, false, false, false, false, false, false, false, false, false, false, false, false, false, false, false, false, false, false] rfl rfl (any_of HT_.out (by kernel_rfl)) (fun _ _ _ h => h) (Or.inl ⟨by rfl, ?_⟩) ?_ ?_
        rotate_left
        ·intro w'
         go_simp
         with_reducible rfl
        rotate_left
        ·simp only [Act.put, sA, sZ, sS, i64_w, i32_w]
         rfl
        refine pure_ (i := 7) (N := some 53) (v := ?_) (a' := ?_) #[true, true, true, true, true, true, true, true, false, false, false, false, false, false, false, false, false, false, false, false, false, false, false, false, false, false, false, false, false, false] rfl rfl (any_of HT_.out (by kernel_rfl)) (fun _ _ _ h => h) (Or.inl ⟨by rfl, ?_⟩) ?_ ?_
        rotate_left
        ·intro w'
         go_simp
         with_reducible rfl
        rotate_left
        ·simp only [Act.put, sA, sZ, sS, i64_w, i32_w]
         rfl
        refine pure_ (i := 8) (N := some 54) (v := ?_) (a' := ?_) #[true, true, true, true, true, true, true, true, true, false, false, false, false, false, false, false, false, false, false, false, false, false, false, false, false, false, false, false, false, false] rfl rfl (any_of HT_.out (by kernel_rfl)) (fun _ _ _ h => h) (Or.inl ⟨by rfl, ?_⟩) ?_ ?_
        rotate_left
        ·intro w'
         go_simp
         with_reducible rfl
        rotate_left
        ·simp only [Act.put, sA, sZ, sS, i64_w, i32_w]
         rfl
        refine pure_ (i := 9) (N := some 55) (v := ?_) (a' := ?_) #[true, true, true, true, true, true, true, true, true, true, false, false, false, false, false, false, false, false, false, false, false, false, false, false, false, false, false, false, false, false] rfl rfl (any_of HT_.out (by kernel_rfl)) (fun _ _ _ h => h) (Or.inl ⟨by rfl, ?_⟩) ?_ ?_
        rotate_left
        ·intro w'
         go_simp
         with_reducible rfl
        rotate_left
        ·simp only [Act.put, sA, sZ, sS, i64_w, i32_w]
         rfl
        refine pure_ (i := 10) (N := some 56) (v := ?_) (a' := ?_) #[true, true, true, true, true, true, true, true, true, true, true, false, false, false, false, false, false, false, false, false, false, false, false, false, false, false, false, false, false, false] rfl rfl (any_of HT_.out (by kernel_rfl)) (fun _ _ _ h => h) (Or.inl ⟨by rfl, ?_⟩) ?_ ?_
        rotate_left
        ·intro w'
         go_simp
         with_reducible rfl
        rotate_left
        ·simp only [Act.put, sA, sZ, sS, i64_w, i32_w]
         rfl
        refine pure_ (i := 11) (N := some 57) (v := ?_) (a' := ?_) #[true, true, true, true, true, true, true, true, true, true, true, true, false, false, false, false, false, false, false, false, false, false, false, false, false, false, false, false, false, false] rfl rfl (any_of HT_.out (by kernel_rfl)) (fun _ _ _ h => h) (Or.inl ⟨by rfl, ?_⟩) ?_ ?_
        rotate_left
        ·intro w'
         go_simp
         with_reducible rfl
        rotate_left
        ·simp only [Act.put, sA, sZ, sS, i64_w, i32_w]
         rfl
        refine pure_ (i := 12) (N := some 58) (v := ?_) (a' := ?_) #[true, true, true, true, true, true, true, true, true, true, true, true, true, false, false, false, false, false, false, false, false, false, false, false, false, false, false, false, false, false] rfl rfl (any_of HT_.out (by kernel_rfl)) (fun _ _ _ h => h) (Or.inl ⟨by rfl, ?_⟩) ?_ ?_
        rotate_left
        ·intro w'
         go_simp
         with_reducible rfl
        rotate_left
        ·simp only [Act.put, sA, sZ, sS, i64_w, i32_w]
         rfl
        refine pure_ (i := 13) (N := some 59) (v := ?_) (a' := ?_) #[true, true, true, true, true, true, true, true, true, true, true, true, true, true, false, false, false, false, false, false, false, false, false, false, false, false, false, false, false, false] rfl rfl (any_of HT_.out (by kernel_rfl)) (fun _ _ _ h => h) (Or.inl ⟨by rfl, ?_⟩) ?_ ?_
        rotate_left
        ·intro w'
         go_simp
         with_reducible rfl
        rotate_left
        ·simp only [Act.put, sA, sZ, sS, i64_w, i32_w]
         rfl
        refine pure_ (i := 14) (N := some 60) (v := ?_) (a' := ?_) #[true, true, true, true, true, true, true, true, true, true, true, true, true, true, true, false, false, false, false, false, false, false, false, false, false, false, false, false, false, false] rfl rfl (any_of HT_.out (by kernel_rfl)) (fun _ _ _ h => h) (Or.inl ⟨by rfl, ?_⟩) ?_ ?_
        rotate_left
        ·intro w'
         go_simp
         with_reducible rfl
        rotate_left
        ·simp only [Act.put, sA, sZ, sS, i64_w, i32_w]
         rfl
        refine pure_ (i := 15) (N := some 61) (v := ?_) (a' := ?_) #[true, true, true, true, true, true, true, true, true, true, true, true, true, true, true, true, false, false, false, false, false, false, false, false, false, false, false, false, false, false] rfl rfl (any_of HT_.out (by kernel_rfl)) (fun _ _ _ h => h) (Or.inl ⟨by rfl, ?_⟩) ?_ ?_
        rotate_left
        ·intro w'
         go_simp
         with_reducible rfl
        rotate_left
        ·simp only [Act.put, sA, sZ, sS, i64_w, i32_w]
         rfl
        refine pure_ (i := 16) (N := some 62) (v := ?_) (a' := ?_) #[true, true, true, true, true, true, true, true, true, true, true, true, true, true, true, true, true, false, false, false, false, false, false, false, false, false, false, false, false, false] rfl rfl (any_of HT_.out (by kernel_rfl)) (fun _ _ _ h => h) (Or.inl ⟨by rfl, ?_⟩) ?_ ?_
        rotate_left
        ·intro w'
         go_simp
         with_reducible rfl
        rotate_left
        ·simp only [Act.put, sA, sZ, sS, i64_w, i32_w]
         rfl
        refine pure_ (i := 17) (N := some 63) (v := ?_) (a' := ?_) #[true, true, true, true, true, true, true, true, true, true, true, true, true, true, true, true, true, true, false, false, false, false, false, false, false, false, false, false, false, false] rfl rfl (any_of HT_.out (by kernel_rfl)) (fun _ _ _ h => h) (Or.inl ⟨by rfl, ?_⟩) ?_ ?_
        rotate_left
        ·intro w'
         go_simp
         with_reducible rfl
        rotate_left
        ·simp only [Act.put, sA, sZ, sS, i64_w, i32_w]
         rfl
        refine take_ (i := 18) (N := some 64) (v := ?_) (a' := ?_) #[true, true, true, true, true, true, true, true, true, true, true, true, true, true, true, true, true, true, true, false, false, false, false, false, false, false, false, false, false, false] rfl rfl (take_ofW HT_.out HW_.out (by kernel_rfl)) (fun _ _ _ h => h) (Or.inl ⟨by rfl, ?_⟩) hHeld ?_ ?_
        rotate_left
        ·rintro w' ⟨s0, s1, s2, s3, s4, s5, s6, s7, s8, s9, s10, s11⟩
         go_simp
         with_reducible rfl
        rotate_left
        ·simp only [Act.put, sA, sZ, sS, i64_w, i32_w]
         rfl
        refine take_ (i := 19) (N := some 65) (v := ?_) (a' := ?_) #[true, true, true, true, true, true, true, true, true, true, true, true, true, true, true, true, true, true, true, true, false, false, false, false, false, false, false, false, false, false] rfl rfl (take_ofW HT_.out HW_.out (by kernel_rfl)) (fun _ _ _ h => h) (Or.inl ⟨by rfl, ?_⟩) hHeld ?_ ?_
        rotate_left
        ·rintro w' ⟨s0, s1, s2, s3, s4, s5, s6, s7, s8, s9, s10, s11⟩
         go_simp
         with_reducible rfl
        rotate_left
        ·simp only [Act.put, sA, sZ, sS, i64_w, i32_w]
         rfl
        refine one_ (i := 20) (N := some 66) #[true, true, true, true, true, true, true, true, true, true, true, true, true, true, true, true, true, true, true, true, true, false, false, false, false, false, false, false, false, false] rfl rfl (one_of HT_.out (by kernel_rfl)) (by decide) (fun K hK => ?_)
        refine goes_ Tryz.func23 (by kernel_rfl) rfl #[.agg #[.string t270, .int .i64 t271, .int .i64 t272, .slice Ao22 t273.length co22], .agg #[.string t278, .int .i64 t279, .int .i64 t280, .slice Ao29 t281.length co29]] (by rfl) rfl rfl (by (try simp only [List.map_toArray, List.map_cons, List.map_nil]); first | done | rfl | (simp only [List.length_drop, List.length_take]; rfl)) ?_
        with_reducible refine (gangsawref14_Equal.calls k t270 t271 t272 _ _ t273 t278 t279 t280 _ _ t281 false _ ?side1 ?side2 ?side3 ?side4 A39.out).mono ?_
        (case side1 => repeat (first | exact (Kd.R_reads' HO275.out).2.2 | (with_reducible refine Kd.C_alloc ?_ _) | (with_reducible refine Kd.C_drewN ?_ _) | (with_reducible refine Kd.C_drew ?_)))
        (case side2 => exact (Kd.R_reads' HO275.out).2.1)
        (case side3 => repeat (first | exact (Kd.R_reads' HO283.out).2.2 | (with_reducible refine Kd.C_alloc ?_ _) | (with_reducible refine Kd.C_drewN ?_ _) | (with_reducible refine Kd.C_drew ?_)))
        (case side4 => exact (Kd.R_reads' HO283.out).2.1)
        rintro e w50 ⟨rfl, hb⟩
        refine ⟨_, rfl, ?_⟩
        have n0_ := aK (Kd.R_below (by (with_reducible repeat (first | apply Kd.R_alloc | apply Kd.R_drewN | apply Kd.R_drew)); exact HO275.out) hb)
        have n1_ := aK (Kd.R_below (by (with_reducible repeat (first | apply Kd.R_alloc | apply Kd.R_drewN | apply Kd.R_drew)); exact HO283.out) hb)
        have n2_ := aK (Kd.R_below (by (with_reducible repeat (first | apply Kd.R_alloc | apply Kd.R_drewN | apply Kd.R_drew)); exact HO288.out) hb)
        have n3_ := aK (Kd.R_below (by (with_reducible repeat (first | apply Kd.R_alloc | apply Kd.R_drewN | apply Kd.R_drew)); exact HO292.out) hb)
        have n4_ := zG BK267 hb (fun h => by (with_reducible repeat (first | refine zN ?_ _ | refine zD ?_ | refine zA ?_ _)); exact h)
        have n5_ := zG BK277 hb (fun h => by (with_reducible repeat (first | refine zN ?_ _ | refine zD ?_ | refine zA ?_ _)); exact h)
        have n6_ := zG BK285 hb (fun h => by (with_reducible repeat (first | refine zN ?_ _ | refine zD ?_ | refine zA ?_ _)); exact h)
        have n7_ := aK (yT (by repeat (first | (with_reducible first | exact HB.out | apply yA | apply yN | apply yD | refine yS ?_ GE267.out | refine yS ?_ GE277.out | refine yS ?_ GE285.out) | exact HB.out)) hb)
        clear HO275
        clear HO283
        clear HO288
        clear HO292
        clear BK267
        clear BK277
        clear BK285
        clear HB
        have HO275 := n0_
        have HO283 := n1_
        have HO288 := n2_
        have HO292 := n3_
        have BK267 := n4_
        have BK277 := n5_
        have BK285 := n6_
        have HB := n7_
        clear n0_ n1_ n2_ n3_ n4_ n5_ n6_ n7_
        (try clear hb)
        (try clear hb2)
        (try clear hk)
        (try clear hi)
        refine hK.out _ _ ⟨(zC BK267.out 0).trans rfl, (zC BK267.out 1).trans rfl, (zC BK267.out 2).trans rfl, (zC BK267.out 3).trans rfl, (zC BK277.out 0).trans rfl, (zC BK277.out 1).trans rfl, (zC BK277.out 2).trans rfl, (zC BK277.out 3).trans rfl, (zC BK285.out 0).trans rfl, (zC BK285.out 1).trans rfl, (zC BK285.out 2).trans rfl, (zC BK285.out 3).trans rfl⟩ (fun hHeld => ?_)
        clear hK K
        refine norm_ (a' := ?_) ?_ ?_
        rotate_left
        ·show Act.put _ (some 66) _ = _
         simp only [Act.put, sA, sZ, sS, i64_w, i32_w]
         rfl
        refine pure_ (i := 21) (N := some 67) (v := ?_) (a' := ?_) #[true, true, true, true, true, true, true, true, true, true, true, true, true, true, true, true, true, true, true, true, true, true, false, false, false, false, false, false, false, false] rfl rfl (any_of HT_.out (by kernel_rfl)) (fun _ _ _ h => h) (Or.inl ⟨by rfl, ?_⟩) ?_ ?_
        rotate_left
        ·intro w'
         go_simp
         with_reducible rfl
        rotate_left
        ·simp only [Act.put, sA, sZ, sS, i64_w, i32_w]
         rfl
        refine pure_ (i := 22) (N := some 68) (v := ?_) (a' := ?_) #[true, true, true, true, true, true, true, true, true, true, true, true, true, true, true, true, true, true, true, true, true, true, true, false, false, false, false, false, false, false] rfl rfl (any_of HT_.out (by kernel_rfl)) (fun _ _ _ h => h) (Or.inl ⟨by rfl, ?_⟩) ?_ ?_
        rotate_left
        ·intro w'
         go_simp
         with_reducible rfl
        rotate_left
        ·simp only [Act.put, sA, sZ, sS, i64_w, i32_w]
         rfl
        refine pure_ (i := 23) (N := some 69) (v := ?_) (a' := ?_) #[true, true, true, true, true, true, true, true, true, true, true, true, true, true, true, true, true, true, true, true, true, true, true, true, false, false, false, false, false, false] rfl rfl (any_of HT_.out (by kernel_rfl)) (fun _ _ _ h => h) (Or.inl ⟨by rfl, ?_⟩) ?_ ?_
        rotate_left
        ·intro w'
         go_simp
         with_reducible rfl
        rotate_left
        ·simp only [Act.put, sA, sZ, sS, i64_w, i32_w]
         rfl
        refine pure_ (i := 24) (N := some 70) (v := undef) (a' := ?_) #[true, true, true, true, true, true, true, true, true, true, true, true, true, true, true, true, true, true, true, true, true, true, true, true, true, false, false, false, false, false] rfl rfl (any_of HT_.out (by kernel_rfl)) (fun _ _ _ h => h) (Or.inr ⟨by rfl, rfl⟩) ?_ ?_
        rotate_left
        ·simp only [Act.put, sA, sZ, sS, i64_w, i32_w]
         rfl
        refine pure_ (i := 25) (N := some 71) (v := undef) (a' := ?_) #[true, true, true, true, true, true, true, true, true, true, true, true, true, true, true, true, true, true, true, true, true, true, true, true, true, true, false, false, false, false] rfl rfl (any_of HT_.out (by kernel_rfl)) (fun _ _ _ h => h) (Or.inr ⟨by rfl, rfl⟩) ?_ ?_
        rotate_left
        ·simp only [Act.put, sA, sZ, sS, i64_w, i32_w]
         rfl
        refine pure_ (i := 26) (N := some 72) (v := undef) (a' := ?_) #[true, true, true, true, true, true, true, true, true, true, true, true, true, true, true, true, true, true, true, true, true, true, true, true, true, true, true, false, false, false] rfl rfl (any_of HT_.out (by kernel_rfl)) (fun _ _ _ h => h) (Or.inr ⟨by rfl, rfl⟩) ?_ ?_
        rotate_left
        ·simp only [Act.put, sA, sZ, sS, i64_w, i32_w]
         rfl
        refine pure_ (i := 27) (N := some 73) (v := undef) (a' := ?_) #[true, true, true, true, true, true, true, true, true, true, true, true, true, true, true, true, true, true, true, true, true, true, true, true, true, true, true, true, false, false] rfl rfl (any_of HT_.out (by kernel_rfl)) (fun _ _ _ h => h) (Or.inr ⟨by rfl, rfl⟩) ?_ ?_
        rotate_left
        ·simp only [Act.put, sA, sZ, sS, i64_w, i32_w]
         rfl
        refine pure_ (i := 28) (N := some 74) (v := undef) (a' := ?_) #[true, true, true, true, true, true, true, true, true, true, true, true, true, true, true, true, true, true, true, true, true, true, true, true, true, true, true, true, true, false] rfl rfl (any_of HT_.out (by kernel_rfl)) (fun _ _ _ h => h) (Or.inr ⟨by rfl, rfl⟩) ?_ ?_
        rotate_left
        ·simp only [Act.put, sA, sZ, sS, i64_w, i32_w]
         rfl
        refine pure_ (i := 29) (N := some 75) (v := ?_) (a' := ?_) #[true, true, true, true, true, true, true, true, true, true, true, true, true, true, true, true, true, true, true, true, true, true, true, true, true, true, true, true, true, true] rfl rfl (any_of HT_.out (by kernel_rfl)) (fun _ _ _ h => h) (Or.inl ⟨by rfl, ?_⟩) ?_ ?_
        rotate_left
        ·intro w'
         go_simp
         with_reducible rfl
        rotate_left
        ·simp only [Act.put, sA, sZ, sS, i64_w, i32_w]
         rfl
        refine done_ (done_of HT_.out (by kernel_rfl)) ?_
        try go_wp2
        go_meet
        case rel => exact ⟨_, (true), (by first | rfl | (simp; done) | (simp [*]; done)), H', ⟨by first | omega | exact Nat.le_refl _⟩, ⟨by (with_reducible repeat (first | apply Kd.R_alloc | apply Kd.R_drewN | apply Kd.R_drew)); exact Kd.R_mono HO288.out (fun _ hk => hk.2)⟩, ⟨by (with_reducible repeat (first | apply Kd.R_alloc | apply Kd.R_drewN | apply Kd.R_drew)); exact Kd.R_mono HO292.out (fun _ hk => hk.2)⟩, ⟨by (with_reducible repeat (first | apply Kd.R_alloc | apply Kd.R_drewN | apply Kd.R_drew)); exact Kd.R_mono HO275.out (fun _ hk => hk.2)⟩, ⟨by (with_reducible repeat (first | apply Kd.R_alloc | apply Kd.R_drewN | apply Kd.R_drew)); exact Kd.R_mono HO283.out (fun _ hk => hk.2)⟩, ⟨by (with_reducible repeat (first | refine zN ?_ _ | refine zD ?_ | refine zA ?_ _)); exact BK267.out⟩, ⟨by (with_reducible repeat (first | refine zN ?_ _ | refine zD ?_ | refine zA ?_ _)); exact BK277.out⟩, ⟨by (with_reducible repeat (first | refine zN ?_ _ | refine zD ?_ | refine zA ?_ _)); exact BK285.out⟩, ⟨by repeat (first | (with_reducible first | exact HB.out | apply yA | apply yN | apply yD | refine yS ?_ GE267.out | refine yS ?_ GE277.out | refine yS ?_ GE285.out) | exact HB.out)⟩⟩
      ·rw [if_neg c38] at H
       have c38b0 : (t289 == t293) = false := beq_eq_false_iff_ne.mpr c38
       have c38b1 : (t289 != t293) = true := bne_iff_ne.mpr c38
       have H' := aK H
       clear H
       try go_wp2
       have n0_ := aK (Kd.R_drew HO275.out)
       have n1_ := aK (Kd.R_drew HO283.out)
       have n2_ := aK (Kd.R_drew HO288.out)
       have n3_ := aK (Kd.R_drew HO292.out)
       have n4_ := aK (zD BK267.out)
       have n5_ := aK (zD BK277.out)
       have n6_ := aK (zD BK285.out)
       have n7_ := aK (yD HB.out)
       clear HO275
       clear HO283
       clear HO288
       clear HO292
       clear BK267
       clear BK277
       clear BK285
       clear HB
       have HO275 := n0_
       have HO283 := n1_
       have HO288 := n2_
       have HO292 := n3_
       have BK267 := n4_
       have BK277 := n5_
       have BK285 := n6_
       have HB := n7_
       clear n0_ n1_ n2_ n3_ n4_ n5_ n6_ n7_
       refine start_ (n := 30) (S := fun w' => w'.cell? ⟨gb267, 0, none⟩ = some (.string a0_0) ∧ w'.cell? ⟨gb267, 1, none⟩ = some (.int .i64 a0_1) ∧ w'.cell? ⟨gb267, 2, none⟩ = some (.int .i64 a0_2) ∧ w'.cell? ⟨gb267, 3, none⟩ = some (.slice A0_3 l0_3.length c0_3)) (ds := []) #[false, false, false, false, false, false, false, false, false, false, false, false, false, false, false, false, false, false, false, false, false, false, false, false, false, false, false, false, false, false] (by kernel_rfl) rfl rfl ⟨(zC BK267.out 0).trans rfl, (zC BK267.out 1).trans rfl, (zC BK267.out 2).trans rfl, (zC BK267.out 3).trans rfl⟩ (fun hHeld => ?_); refine with_tabW gangsawlaw14_BoringSays.tab9 gangsawlaw14_BoringSays.bits9 (fun HT_ HW_ => ?_)
       generalize w33.drew = w51 at HO275 HO283 HO288 HO292 BK267 BK277 BK285 HB hHeld ⊢
       refine pure_ (i := 1) (N := some 47) (v := ?_) (a' := ?_) #[false, true, false, false, false, false, false, false, false, false, false, false, false, false, false, false, false, false, false, false, false, false, false, false, false, false, false, false, false, false] rfl rfl (any_of HT_.out (by kernel_rfl)) (fun _ _ _ h => h) (Or.inl ⟨by rfl, ?_⟩) ?_ ?_
       rotate_left
       ·intro w'
        go_simp
        with_reducible rfl
       rotate_left
       ·simp only [Act.put, sA, sZ, sS, i64_w, i32_w]
        rfl
       refine pure_ (i := 4) (N := some 50) (v := ?_) (a' := ?_) #[false, true, false, false, true, false, false, false, false, false, false, false, false, false, false, false, false, false, false, false, false, false, false, false, false, false, false, false, false, false] rfl rfl (any_of HT_.out (by kernel_rfl)) (fun _ _ _ h => h) (Or.inl ⟨by rfl, ?_⟩) ?_ ?_
       rotate_left
       ·intro w'
        go_simp
        with_reducible rfl
       rotate_left
       ·simp only [Act.put, sA, sZ, sS, i64_w, i32_w]
        rfl
       refine take_ (i := 0) (N := some 46) (v := ?_) (a' := ?_) #[true, true, false, false, true, false, false, false, false, false, false, false, false, false, false, false, false, false, false, false, false, false, false, false, false, false, false, false, false, false] rfl rfl (take_ofW HT_.out HW_.out (by kernel_rfl)) (fun _ _ _ h => h) (Or.inl ⟨by rfl, ?_⟩) hHeld ?_ ?_
       rotate_left
       ·rintro w' ⟨s0, s1, s2, s3⟩
        go_simp
        with_reducible rfl
       rotate_left
       ·simp only [Act.put, sA, sZ, sS, i64_w, i32_w]
        rfl
       refine take_ (i := 3) (N := some 49) (v := ?_) (a' := ?_) #[true, true, false, true, true, false, false, false, false, false, false, false, false, false, false, false, false, false, false, false, false, false, false, false, false, false, false, false, false, false] rfl rfl (take_ofW HT_.out HW_.out (by kernel_rfl)) (fun _ _ _ h => h) (Or.inl ⟨by rfl, ?_⟩) hHeld ?_ ?_
       rotate_left
       ·rintro w' ⟨s0, s1, s2, s3⟩
        go_simp
        with_reducible rfl
       rotate_left
       ·simp only [Act.put, sA, sZ, sS, i64_w, i32_w]
        rfl
       refine one_ (i := 2) (N := some 48) #[true, true, true, true, true, false, false, false, false, false, false, false, false, false, false, false, false, false, false, false, false, false, false, false, false, false, false, false, false, false] rfl rfl (one_of HT_.out (by kernel_rfl)) (by decide) (fun K hK => ?_)
       refine goes_ Tryz.func21 (by kernel_rfl) rfl #[.agg #[.string a0_0, .int .i64 a0_1, .int .i64 a0_2, .slice A0_3 l0_3.length c0_3], .int .i64 a1] (by rfl) rfl rfl (by (try simp only [List.map_toArray, List.map_cons, List.map_nil]); first | done | rfl | (simp only [List.length_drop, List.length_take]; rfl)) ?_
       with_reducible refine (boring_State.calls k a0_0 a0_1 a0_2 _ _ l0_3 a1 t294 _ ?side1 ?side2 A34.out).mono ?_
       (case side1 => repeat (first | exact (Kd.C_below HR0_3.out HB.out) | (with_reducible refine Kd.C_alloc ?_ _) | (with_reducible refine Kd.C_drewN ?_ _) | (with_reducible refine Kd.C_drew ?_)))
       (case side2 => exact HC0_3.out)
       rintro e w52 ⟨rfl, hb⟩
       refine ⟨_, rfl, ?_⟩
       have n0_ := aK (Kd.R_below (by (with_reducible repeat (first | apply Kd.R_alloc | apply Kd.R_drewN | apply Kd.R_drew)); exact HO275.out) hb)
       have n1_ := aK (Kd.R_below (by (with_reducible repeat (first | apply Kd.R_alloc | apply Kd.R_drewN | apply Kd.R_drew)); exact HO283.out) hb)
       have n2_ := aK (Kd.R_below (by (with_reducible repeat (first | apply Kd.R_alloc | apply Kd.R_drewN | apply Kd.R_drew)); exact HO288.out) hb)
       have n3_ := aK (Kd.R_below (by (with_reducible repeat (first | apply Kd.R_alloc | apply Kd.R_drewN | apply Kd.R_drew)); exact HO292.out) hb)
       have n4_ := zG BK267 hb (fun h => by (with_reducible repeat (first | refine zN ?_ _ | refine zD ?_ | refine zA ?_ _)); exact h)
       have n5_ := zG BK277 hb (fun h => by (with_reducible repeat (first | refine zN ?_ _ | refine zD ?_ | refine zA ?_ _)); exact h)
       have n6_ := zG BK285 hb (fun h => by (with_reducible repeat (first | refine zN ?_ _ | refine zD ?_ | refine zA ?_ _)); exact h)
       have n7_ := aK (yT (by repeat (first | (with_reducible first | exact HB.out | apply yA | apply yN | apply yD | refine yS ?_ GE267.out | refine yS ?_ GE277.out | refine yS ?_ GE285.out) | exact HB.out)) hb)
       clear HO275
       clear HO283
       clear HO288
       clear HO292
       clear BK267
       clear BK277
       clear BK285
       clear HB
       have HO275 := n0_
       have HO283 := n1_
       have HO288 := n2_
       have HO292 := n3_
       have BK267 := n4_
       have BK277 := n5_
       have BK285 := n6_
       have HB := n7_
       clear n0_ n1_ n2_ n3_ n4_ n5_ n6_ n7_
       (try clear hb)
       (try clear hb2)
       (try clear hk)
       (try clear hi)
       refine hK.out _ _ ⟨(zC BK267.out 0).trans rfl, (zC BK267.out 1).trans rfl, (zC BK267.out 2).trans rfl, (zC BK267.out 3).trans rfl⟩ (fun hHeld => ?_)
       clear hK K
       refine norm_ (a' := ?_) ?_ ?_
       rotate_left
       ·show Act.put _ (some 48) _ = _
        simp only [Act.put, sA, sZ, sS, i64_w, i32_w]
        rfl
       refine one_ (i := 5) (N := some 51) #[true, true, true, true, true, true, false, false, false, false, false, false, false, false, false, false, false, false, false, false, false, false, false, false, false, false, false, false, false, false] rfl rfl (one_of HT_.out (by kernel_rfl)) (by decide) (fun K hK => ?_)
       refine goes_ Tryz.func22 (by kernel_rfl) rfl #[.agg #[.string a0_0, .int .i64 a0_1, .int .i64 a0_2, .slice A0_3 l0_3.length c0_3], .int .i64 a1] (by rfl) rfl rfl (by (try simp only [List.map_toArray, List.map_cons, List.map_nil]); first | done | rfl | (simp only [List.length_drop, List.length_take]; rfl)) ?_
       with_reducible refine (gangsawref14_State.calls k a0_0 a0_1 a0_2 _ _ l0_3 a1 t295 _ ?side1 ?side2 A35.out).mono ?_
       (case side1 => repeat (first | exact (Kd.C_below HR0_3.out HB.out) | (with_reducible refine Kd.C_alloc ?_ _) | (with_reducible refine Kd.C_drewN ?_ _) | (with_reducible refine Kd.C_drew ?_)))
       (case side2 => exact HC0_3.out)
       rintro e w53 ⟨rfl, hb⟩
       refine ⟨_, rfl, ?_⟩
       have n0_ := aK (Kd.R_below (by (with_reducible repeat (first | apply Kd.R_alloc | apply Kd.R_drewN | apply Kd.R_drew)); exact HO275.out) hb)
       have n1_ := aK (Kd.R_below (by (with_reducible repeat (first | apply Kd.R_alloc | apply Kd.R_drewN | apply Kd.R_drew)); exact HO283.out) hb)
       have n2_ := aK (Kd.R_below (by (with_reducible repeat (first | apply Kd.R_alloc | apply Kd.R_drewN | apply Kd.R_drew)); exact HO288.out) hb)
       have n3_ := aK (Kd.R_below (by (with_reducible repeat (first | apply Kd.R_alloc | apply Kd.R_drewN | apply Kd.R_drew)); exact HO292.out) hb)
       have n4_ := zG BK267 hb (fun h => by (with_reducible repeat (first | refine zN ?_ _ | refine zD ?_ | refine zA ?_ _)); exact h)
       have n5_ := zG BK277 hb (fun h => by (with_reducible repeat (first | refine zN ?_ _ | refine zD ?_ | refine zA ?_ _)); exact h)
       have n6_ := zG BK285 hb (fun h => by (with_reducible repeat (first | refine zN ?_ _ | refine zD ?_ | refine zA ?_ _)); exact h)
       have n7_ := aK (yT (by repeat (first | (with_reducible first | exact HB.out | apply yA | apply yN | apply yD | refine yS ?_ GE267.out | refine yS ?_ GE277.out | refine yS ?_ GE285.out) | exact HB.out)) hb)
       clear HO275
       clear HO283
       clear HO288
       clear HO292
       clear BK267
       clear BK277
       clear BK285
       clear HB
       have HO275 := n0_
       have HO283 := n1_
       have HO288 := n2_
       have HO292 := n3_
       have BK267 := n4_
       have BK277 := n5_
       have BK285 := n6_
       have HB := n7_
       clear n0_ n1_ n2_ n3_ n4_ n5_ n6_ n7_
       (try clear hb)
       (try clear hb2)
       (try clear hk)
       (try clear hi)
       refine hK.out _ _ ⟨(zC BK267.out 0).trans rfl, (zC BK267.out 1).trans rfl, (zC BK267.out 2).trans rfl, (zC BK267.out 3).trans rfl⟩ (fun hHeld => ?_)
       clear hK K
       refine norm_ (a' := ?_) ?_ ?_
       rotate_left
       ·show Act.put _ (some 51) _ = _
        simp only [Act.put, sA, sZ, sS, i64_w, i32_w]
        rfl
       refine pure_ (i := 6) (N := some 52) (v := ?_) (a' := ?_) #[true, true, true, true, true, true, true, false, false, false, false, false, false, false, false, false, false, false, false, false, false, false, false, false, false, false, false, false, false, false] rfl rfl (any_of HT_.out (by kernel_rfl)) (fun _ _ _ h => h) (Or.inl ⟨by rfl, ?_⟩) ?_ ?_
       rotate_left
       ·intro w'
        go_simp
        with_reducible rfl
       rotate_left
       ·simp only [Act.put, sA, sZ, sS, i64_w, i32_w]
        rfl
       refine pure_ (i := 7) (N := some 53) (v := ?_) (a' := ?_) #[true, true, true, true, true, true, true, true, false, false, false, false, false, false, false, false, false, false, false, false, false, false, false, false, false, false, false, false, false, false] rfl rfl (any_of HT_.out (by kernel_rfl)) (fun _ _ _ h => h) (Or.inl ⟨by rfl, ?_⟩) ?_ ?_
       rotate_left
       ·intro w'
        go_simp
        with_reducible rfl
       rotate_left
       ·simp only [Act.put, sA, sZ, sS, i64_w, i32_w]
        rfl
       refine pure_ (i := 8) (N := some 54) (v := ?_) (a' := ?_) #[true, true, true, true, true, true, true, true, true, false, false, false, false, false, false, false, false, false, false, false, false, false, false, false, false, false, false, false, false, false] rfl rfl (any_of HT_.out (by kernel_rfl)) (fun _ _ _ h => h) (Or.inl ⟨by rfl, ?_⟩) ?_ ?_
       rotate_left
       ·intro w'
        go_simp
        with_reducible rfl
       rotate_left
       ·simp only [Act.put, sA, sZ, sS, i64_w, i32_w]
        rfl
       refine pure_ (i := 9) (N := some 55) (v := ?_) (a' := ?_) #[true, true, true, true, true, true, true, true, true, true, false, false, false, false, false, false, false, false, false, false, false, false, false, false, false, false, false, false, false, false] rfl rfl (any_of HT_.out (by kernel_rfl)) (fun _ _ _ h => h) (Or.inl ⟨by rfl, ?_⟩) ?_ ?_
       rotate_left
       ·intro w'
        go_simp
        with_reducible rfl
       rotate_left
       ·simp only [Act.put, sA, sZ, sS, i64_w, i32_w]
        rfl
       refine pure_ (i := 10) (N := some 56) (v := ?_) (a' := ?_) #[true, true, true, true, true, true, true, true, true, true, true, false, false, false, false, false, false, false, false, false, false, false, false, false, false, false, false, false, false, false] rfl rfl (any_of HT_.out (by kernel_rfl)) (fun _ _ _ h => h) (Or.inl ⟨by rfl, ?_⟩) ?_ ?_
       rotate_left
       ·intro w'
        go_simp
        with_reducible rfl
       rotate_left
       ·simp only [Act.put, sA, sZ, sS, i64_w, i32_w]
        rfl
       refine pure_ (i := 11) (N := some 57) (v := ?_) (a' := ?_) #[true, true, true, true, true, true, true, true, true, true, true, true, false, false, false, false, false, false, false, false, false, false, false, false, false, false, false, false, false, false] rfl rfl (any_of HT_.out (by kernel_rfl)) (fun _ _ _ h => h) (Or.inl ⟨by rfl, ?_⟩) ?_ ?_
       rotate_left
       ·intro w'
        go_simp
        with_reducible rfl
       rotate_left
       ·simp only [Act.put, sA, sZ, sS, i64_w, i32_w]
        rfl
       refine pure_ (i := 12) (N := some 58) (v := ?_) (a' := ?_) #[true, true, true, true, true, true, true, true, true, true, true, true, true, false, false, false, false, false, false, false, false, false, false, false, false, false, false, false, false, false] rfl rfl (any_of HT_.out (by kernel_rfl)) (fun _ _ _ h => h) (Or.inl ⟨by rfl, ?_⟩) ?_ ?_
       rotate_left
       ·intro w'
        go_simp
        with_reducible rfl
       rotate_left
       ·simp only [Act.put, sA, sZ, sS, i64_w, i32_w]
        rfl
       refine pure_ (i := 13) (N := some 59) (v := ?_) (a' := ?_) #[true, true, true, true, true, true, true, true, true, true, true, true, true, true, false, false, false, false, false, false, false, false, false, false, false, false, false, false, false, false] rfl rfl (any_of HT_.out (by kernel_rfl)) (fun _ _ _ h => h) (Or.inl ⟨by rfl, ?_⟩) ?_ ?_
       rotate_left
       ·intro w'
        go_simp
        with_reducible rfl
       rotate_left
       ·simp only [Act.put, sA, sZ, sS, i64_w, i32_w]
        rfl
       refine pure_ (i := 14) (N := some 60) (v := ?_) (a' := ?_) #[true, true, true, true, true, true, true, true, true, true, true, true, true, true, true, false, false, false, false, false, false, false, false, false, false, false, false, false, false, false] rfl rfl (any_of HT_.out (by kernel_rfl)) (fun _ _ _ h => h) (Or.inl ⟨by rfl, ?_⟩) ?_ ?_
       rotate_left
       ·intro w'
        go_simp
        with_reducible rfl
       rotate_left
       ·simp only [Act.put, sA, sZ, sS, i64_w, i32_w]
        rfl
       refine pure_ (i := 15) (N := some 61) (v := ?_) (a' := ?_) #[true, true, true, true, true, true, true, true, true, true, true, true, true, true, true, true, false, false, false, false, false, false, false, false, false, false, false, false, false, false] rfl rfl (any_of HT_.out (by kernel_rfl)) (fun _ _ _ h => h) (Or.inl ⟨by rfl, ?_⟩) ?_ ?_
       rotate_left
       ·intro w'
        go_simp
        with_reducible rfl
       rotate_left
       ·simp only [Act.put, sA, sZ, sS, i64_w, i32_w]
        rfl
       refine pure_ (i := 16) (N := some 62) (v := ?_) (a' := ?_) #[true, true, true, true, true, true, true, true, true, true, true, true, true, true, true, true, true, false, false, false, false, false, false, false, false, false, false, false, false, false] rfl rfl (any_of HT_.out (by kernel_rfl)) (fun _ _ _ h => h) (Or.inl ⟨by rfl, ?_⟩) ?_ ?_
       rotate_left
       ·intro w'
        go_simp
        with_reducible rfl
       rotate_left
       ·simp only [Act.put, sA, sZ, sS, i64_w, i32_w]
        rfl
       refine pure_ (i := 17) (N := some 63) (v := ?_) (a' := ?_) #[true, true, true, true, true, true, true, true, true, true, true, true, true, true, true, true, true, true, false, false, false, false, false, false, false, false, false, false, false, false] rfl rfl (any_of HT_.out (by kernel_rfl)) (fun _ _ _ h => h) (Or.inl ⟨by rfl, ?_⟩) ?_ ?_
       rotate_left
       ·intro w'
        go_simp
        with_reducible rfl
       rotate_left
       ·simp only [Act.put, sA, sZ, sS, i64_w, i32_w]
        rfl
       refine pure_ (i := 18) (N := some 64) (v := undef) (a' := ?_) #[true, true, true, true, true, true, true, true, true, true, true, true, true, true, true, true, true, true, true, false, false, false, false, false, false, false, false, false, false, false] rfl rfl (any_of HT_.out (by kernel_rfl)) (fun _ _ _ h => h) (Or.inr ⟨by rfl, rfl⟩) ?_ ?_
       rotate_left
       ·simp only [Act.put, sA, sZ, sS, i64_w, i32_w]
        rfl
       refine pure_ (i := 19) (N := some 65) (v := undef) (a' := ?_) #[true, true, true, true, true, true, true, true, true, true, true, true, true, true, true, true, true, true, true, true, false, false, false, false, false, false, false, false, false, false] rfl rfl (any_of HT_.out (by kernel_rfl)) (fun _ _ _ h => h) (Or.inr ⟨by rfl, rfl⟩) ?_ ?_
       rotate_left
       ·simp only [Act.put, sA, sZ, sS, i64_w, i32_w]
        rfl
       refine pure_ (i := 20) (N := some 66) (v := undef) (a' := ?_) #[true, true, true, true, true, true, true, true, true, true, true, true, true, true, true, true, true, true, true, true, true, false, false, false, false, false, false, false, false, false] rfl rfl (any_of HT_.out (by kernel_rfl)) (fun _ _ _ h => h) (Or.inr ⟨by rfl, rfl⟩) ?_ ?_
       rotate_left
       ·simp only [Act.put, sA, sZ, sS, i64_w, i32_w]
        rfl
       refine pure_ (i := 21) (N := some 67) (v := undef) (a' := ?_) #[true, true, true, true, true, true, true, true, true, true, true, true, true, true, true, true, true, true, true, true, true, true, false, false, false, false, false, false, false, false] rfl rfl (any_of HT_.out (by kernel_rfl)) (fun _ _ _ h => h) (Or.inr ⟨by rfl, rfl⟩) ?_ ?_
       rotate_left
       ·simp only [Act.put, sA, sZ, sS, i64_w, i32_w]
        rfl
       refine pure_ (i := 22) (N := some 68) (v := ?_) (a' := ?_) #[true, true, true, true, true, true, true, true, true, true, true, true, true, true, true, true, true, true, true, true, true, true, true, false, false, false, false, false, false, false] rfl rfl (any_of HT_.out (by kernel_rfl)) (fun _ _ _ h => h) (Or.inl ⟨by rfl, ?_⟩) ?_ ?_
       rotate_left
       ·intro w'
        go_simp
        with_reducible rfl
       rotate_left
       ·simp only [Act.put, sA, sZ, sS, i64_w, i32_w]
        rfl
       refine pure_ (i := 23) (N := some 69) (v := ?_) (a' := ?_) #[true, true, true, true, true, true, true, true, true, true, true, true, true, true, true, true, true, true, true, true, true, true, true, true, false, false, false, false, false, false] rfl rfl (any_of HT_.out (by kernel_rfl)) (fun _ _ _ h => h) (Or.inl ⟨by rfl, ?_⟩) ?_ ?_
       rotate_left
       ·intro w'
        go_simp
        with_reducible rfl
       rotate_left
       ·simp only [Act.put, sA, sZ, sS, i64_w, i32_w]
        rfl
       refine pure_ (i := 24) (N := some 70) (v := undef) (a' := ?_) #[true, true, true, true, true, true, true, true, true, true, true, true, true, true, true, true, true, true, true, true, true, true, true, true, true, false, false, false, false, false] rfl rfl (any_of HT_.out (by kernel_rfl)) (fun _ _ _ h => h) (Or.inr ⟨by rfl, rfl⟩) ?_ ?_
       rotate_left
       ·simp only [Act.put, sA, sZ, sS, i64_w, i32_w]
        rfl
       refine pure_ (i := 25) (N := some 71) (v := undef) (a' := ?_) #[true, true, true, true, true, true, true, true, true, true, true, true, true, true, true, true, true, true, true, true, true, true, true, true, true, true, false, false, false, false] rfl rfl (any_of HT_.out (by kernel_rfl)) (fun _ _ _ h => h) (Or.inr ⟨by rfl, rfl⟩) ?_ ?_
       rotate_left
       ·simp only [Act.put, sA, sZ, sS, i64_w, i32_w]
        rfl
       refine pure_ (i := 26) (N := some 72) (v := undef) (a' := ?_) #[true, true, true, true, true, true, true, true, true, true, true, true, true, true, true, true, true, true, true, true, true, true, true, true, true, true, true, false, false, false] rfl rfl (any_of HT_.out (by kernel_rfl)) (fun _ _ _ h => h) (Or.inr ⟨by rfl, rfl⟩) ?_ ?_
       rotate_left
       ·simp only [Act.put, sA, sZ, sS, i64_w, i32_w]
        rfl
       refine pure_ (i := 27) (N := some 73) (v := undef) (a' := ?_) #[true, true, true, true, true, true, true, true, true, true, true, true, true, true, true, true, true, true, true, true, true, true, true, true, true, true, true, true, false, false] rfl rfl (any_of HT_.out (by kernel_rfl)) (fun _ _ _ h => h) (Or.inr ⟨by rfl, rfl⟩) ?_ ?_
       rotate_left
       ·simp only [Act.put, sA, sZ, sS, i64_w, i32_w]
        rfl
       refine pure_ (i := 28) (N := some 74) (v := undef) (a' := ?_) #[true, true, true, true, true, true, true, true, true, true, true, true, true, true, true, true, true, true, true, true, true, true, true, true, true, true, true, true, true, false] rfl rfl (any_of HT_.out (by kernel_rfl)) (fun _ _ _ h => h) (Or.inr ⟨by rfl, rfl⟩) ?_ ?_
       rotate_left
       ·simp only [Act.put, sA, sZ, sS, i64_w, i32_w]
        rfl
       refine pure_ (i := 29) (N := some 75) (v := ?_) (a' := ?_) #[true, true, true, true, true, true, true, true, true, true, true, true, true, true, true, true, true, true, true, true, true, true, true, true, true, true, true, true, true, true] rfl rfl (any_of HT_.out (by kernel_rfl)) (fun _ _ _ h => h) (Or.inl ⟨by rfl, ?_⟩) ?_ ?_
       rotate_left
       ·intro w'
        go_simp
        with_reducible rfl
       rotate_left
       ·simp only [Act.put, sA, sZ, sS, i64_w, i32_w]
        rfl
       refine done_ (done_of HT_.out (by kernel_rfl)) ?_
       try go_wp2
       go_meet
       case rel => exact ⟨_, (true), (by first | rfl | (simp; done) | (simp [*]; done)), H', ⟨by first | omega | exact Nat.le_refl _⟩, ⟨by (with_reducible repeat (first | apply Kd.R_alloc | apply Kd.R_drewN | apply Kd.R_drew)); exact Kd.R_mono HO288.out (fun _ hk => hk.2)⟩, ⟨by (with_reducible repeat (first | apply Kd.R_alloc | apply Kd.R_drewN | apply Kd.R_drew)); exact Kd.R_mono HO292.out (fun _ hk => hk.2)⟩, ⟨by (with_reducible repeat (first | apply Kd.R_alloc | apply Kd.R_drewN | apply Kd.R_drew)); exact Kd.R_mono HO275.out (fun _ hk => hk.2)⟩, ⟨by (with_reducible repeat (first | apply Kd.R_alloc | apply Kd.R_drewN | apply Kd.R_drew)); exact Kd.R_mono HO283.out (fun _ hk => hk.2)⟩, ⟨by (with_reducible repeat (first | refine zN ?_ _ | refine zD ?_ | refine zA ?_ _)); exact BK267.out⟩, ⟨by (with_reducible repeat (first | refine zN ?_ _ | refine zD ?_ | refine zA ?_ _)); exact BK277.out⟩, ⟨by (with_reducible repeat (first | refine zN ?_ _ | refine zD ?_ | refine zA ?_ _)); exact BK285.out⟩, ⟨by repeat (first | (with_reducible first | exact HB.out | apply yA | apply yN | apply yD | refine yS ?_ GE267.out | refine yS ?_ GE277.out | refine yS ?_ GE285.out) | exact HB.out)⟩⟩
     ·rw [if_neg c37] at H
      have c37b0 : (t276 == t284) = false := beq_eq_false_iff_ne.mpr c37
      have c37b1 : (t276 != t284) = true := bne_iff_ne.mpr c37
      have H' := aK H
      clear H
      try go_wp2
      have n0_ := aK (Kd.R_drew HO275.out)
      have n1_ := aK (Kd.R_drew HO283.out)
      have n2_ := aK (Kd.R_drew HO288.out)
      have n3_ := aK (Kd.R_drew HO292.out)
      have n4_ := aK (zD BK267.out)
      have n5_ := aK (zD BK277.out)
      have n6_ := aK (zD BK285.out)
      have n7_ := aK (yD HB.out)
      clear HO275
      clear HO283
      clear HO288
      clear HO292
      clear BK267
      clear BK277
      clear BK285
      clear HB
      have HO275 := n0_
      have HO283 := n1_
      have HO288 := n2_
      have HO292 := n3_
      have BK267 := n4_
      have BK277 := n5_
      have BK285 := n6_
      have HB := n7_
      clear n0_ n1_ n2_ n3_ n4_ n5_ n6_ n7_
      refine start_ (n := 30) (S := fun w' => w'.cell? ⟨gb267, 0, none⟩ = some (.string a0_0) ∧ w'.cell? ⟨gb267, 1, none⟩ = some (.int .i64 a0_1) ∧ w'.cell? ⟨gb267, 2, none⟩ = some (.int .i64 a0_2) ∧ w'.cell? ⟨gb267, 3, none⟩ = some (.slice A0_3 l0_3.length c0_3)) (ds := []) #[false, false, false, false, false, false, false, false, false, false, false, false, false, false, false, false, false, false, false, false, false, false, false, false, false, false, false, false, false, false] (by kernel_rfl) rfl rfl ⟨(zC BK267.out 0).trans rfl, (zC BK267.out 1).trans rfl, (zC BK267.out 2).trans rfl, (zC BK267.out 3).trans rfl⟩ (fun hHeld => ?_); refine with_tabW gangsawlaw14_BoringSays.tab9 gangsawlaw14_BoringSays.bits9 (fun HT_ HW_ => ?_)
      generalize w33.drew = w54 at HO275 HO283 HO288 HO292 BK267 BK277 BK285 HB hHeld ⊢
      refine pure_ (i := 1) (N := some 47) (v := ?_) (a' := ?_) #[false, true, false, false, false, false, false, false, false, false, false, false, false, false, false, false, false, false, false, false, false, false, false, false, false, false, false, false, false, false] rfl rfl (any_of HT_.out (by kernel_rfl)) (fun _ _ _ h => h) (Or.inl ⟨by rfl, ?_⟩) ?_ ?_
      rotate_left
      ·intro w'
       go_simp
       with_reducible rfl
      rotate_left
      ·simp only [Act.put, sA, sZ, sS, i64_w, i32_w]
       rfl
      refine pure_ (i := 4) (N := some 50) (v := ?_) (a' := ?_) #[false, true, false, false, true, false, false, false, false, false, false, false, false, false, false, false, false, false, false, false, false, false, false, false, false, false, false, false, false, false] rfl rfl (any_of HT_.out (by kernel_rfl)) (fun _ _ _ h => h) (Or.inl ⟨by rfl, ?_⟩) ?_ ?_
      rotate_left
      ·intro w'
       go_simp
       with_reducible rfl
      rotate_left
      ·simp only [Act.put, sA, sZ, sS, i64_w, i32_w]
       rfl
      refine take_ (i := 0) (N := some 46) (v := ?_) (a' := ?_) #[true, true, false, false, true, false, false, false, false, false, false, false, false, false, false, false, false, false, false, false, false, false, false, false, false, false, false, false, false, false] rfl rfl (take_ofW HT_.out HW_.out (by kernel_rfl)) (fun _ _ _ h => h) (Or.inl ⟨by rfl, ?_⟩) hHeld ?_ ?_
      rotate_left
      ·rintro w' ⟨s0, s1, s2, s3⟩
       go_simp
       with_reducible rfl
      rotate_left
      ·simp only [Act.put, sA, sZ, sS, i64_w, i32_w]
       rfl
      refine take_ (i := 3) (N := some 49) (v := ?_) (a' := ?_) #[true, true, false, true, true, false, false, false, false, false, false, false, false, false, false, false, false, false, false, false, false, false, false, false, false, false, false, false, false, false] rfl rfl (take_ofW HT_.out HW_.out (by kernel_rfl)) (fun _ _ _ h => h) (Or.inl ⟨by rfl, ?_⟩) hHeld ?_ ?_
      rotate_left
      ·rintro w' ⟨s0, s1, s2, s3⟩
       go_simp
       with_reducible rfl
      rotate_left
      ·simp only [Act.put, sA, sZ, sS, i64_w, i32_w]
       rfl
      refine one_ (i := 2) (N := some 48) #[true, true, true, true, true, false, false, false, false, false, false, false, false, false, false, false, false, false, false, false, false, false, false, false, false, false, false, false, false, false] rfl rfl (one_of HT_.out (by kernel_rfl)) (by decide) (fun K hK => ?_)
      refine goes_ Tryz.func21 (by kernel_rfl) rfl #[.agg #[.string a0_0, .int .i64 a0_1, .int .i64 a0_2, .slice A0_3 l0_3.length c0_3], .int .i64 a1] (by rfl) rfl rfl (by (try simp only [List.map_toArray, List.map_cons, List.map_nil]); first | done | rfl | (simp only [List.length_drop, List.length_take]; rfl)) ?_
      with_reducible refine (boring_State.calls k a0_0 a0_1 a0_2 _ _ l0_3 a1 t294 _ ?side1 ?side2 A34.out).mono ?_
      (case side1 => repeat (first | exact (Kd.C_below HR0_3.out HB.out) | (with_reducible refine Kd.C_alloc ?_ _) | (with_reducible refine Kd.C_drewN ?_ _) | (with_reducible refine Kd.C_drew ?_)))
      (case side2 => exact HC0_3.out)
      rintro e w55 ⟨rfl, hb⟩
      refine ⟨_, rfl, ?_⟩
      have n0_ := aK (Kd.R_below (by (with_reducible repeat (first | apply Kd.R_alloc | apply Kd.R_drewN | apply Kd.R_drew)); exact HO275.out) hb)
      have n1_ := aK (Kd.R_below (by (with_reducible repeat (first | apply Kd.R_alloc | apply Kd.R_drewN | apply Kd.R_drew)); exact HO283.out) hb)
      have n2_ := aK (Kd.R_below (by (with_reducible repeat (first | apply Kd.R_alloc | apply Kd.R_drewN | apply Kd.R_drew)); exact HO288.out) hb)
      have n3_ := aK (Kd.R_below (by (with_reducible repeat (first | apply Kd.R_alloc | apply Kd.R_drewN | apply Kd.R_drew)); exact HO292.out) hb)
      have n4_ := zG BK267 hb (fun h => by (with_reducible repeat (first | refine zN ?_ _ | refine zD ?_ | refine zA ?_ _)); exact h)
      have n5_ := zG BK277 hb (fun h => by (with_reducible repeat (first | refine zN ?_ _ | refine zD ?_ | refine zA ?_ _)); exact h)
      have n6_ := zG BK285 hb (fun h => by (with_reducible repeat (first | refine zN ?_ _ | refine zD ?_ | refine zA ?_ _)); exact h)
      have n7_ := aK (yT (by repeat (first | (with_reducible first | exact HB.out | apply yA | apply yN | apply yD | refine yS ?_ GE267.out | refine yS ?_ GE277.out | refine yS ?_ GE285.out) | exact HB.out)) hb)
      clear HO275
      clear HO283
      clear HO288
      clear HO292
      clear BK267
      clear BK277
      clear BK285
      clear HB
      have HO275 := n0_
      have HO283 := n1_
      have HO288 := n2_
      have HO292 := n3_
      have BK267 := n4_
      have BK277 := n5_
      have BK285 := n6_
      have HB := n7_
      clear n0_ n1_ n2_ n3_ n4_ n5_ n6_ n7_
      (try clear hb)
      (try clear hb2)
      (try clear hk)
      (try clear hi)
      refine hK.out _ _ ⟨(zC BK267.out 0).trans rfl, (zC BK267.out 1).trans rfl, (zC BK267.out 2).trans rfl, (zC BK267.out 3).trans rfl⟩ (fun hHeld => ?_)
      clear hK K
      refine norm_ (a' := ?_) ?_ ?_
      rotate_left
      ·show Act.put _ (some 48) _ = _
       simp only [Act.put, sA, sZ, sS, i64_w, i32_w]
       rfl
      refine one_ (i := 5) (N := some 51) #[true, true, true, true, true, true, false, false, false, false, false, false, false, false, false, false, false, false, false, false, false, false, false, false, false, false, false, false, false, false] rfl rfl (one_of HT_.out (by kernel_rfl)) (by decide) (fun K hK => ?_)
      refine goes_ Tryz.func22 (by kernel_rfl) rfl #[.agg #[.string a0_0, .int .i64 a0_1, .int .i64 a0_2, .slice A0_3 l0_3.length c0_3], .int .i64 a1] (by rfl) rfl rfl (by (try simp only [List.map_toArray, List.map_cons, List.map_nil]); first | done | rfl | (simp only [List.length_drop, List.length_take]; rfl)) ?_
      with_reducible refine (gangsawref14_State.calls k a0_0 a0_1 a0_2 _ _ l0_3 a1 t295 _ ?side1 ?side2 A35.out).mono ?_
      (case side1 => repeat (first | exact (Kd.C_below HR0_3.out HB.out) | (with_reducible refine Kd.C_alloc ?_ _) | (with_reducible refine Kd.C_drewN ?_ _) | (with_reducible refine Kd.C_drew ?_)))
      (case side2 => exact HC0_3.out)
      rintro e w56 ⟨rfl, hb⟩
      refine ⟨_, rfl, ?_⟩
      have n0_ := aK (Kd.R_below (by (with_reducible repeat (first | apply Kd.R_alloc | apply Kd.R_drewN | apply Kd.R_drew)); exact HO275.out) hb)
      have n1_ := aK (Kd.R_below (by (with_reducible repeat (first | apply Kd.R_alloc | apply Kd.R_drewN | apply Kd.R_drew)); exact HO283.out) hb)
      have n2_ := aK (Kd.R_below (by (with_reducible repeat (first | apply Kd.R_alloc | apply Kd.R_drewN | apply Kd.R_drew)); exact HO288.out) hb)
      have n3_ := aK (Kd.R_below (by (with_reducible repeat (first | apply Kd.R_alloc | apply Kd.R_drewN | apply Kd.R_drew)); exact HO292.out) hb)
      have n4_ := zG BK267 hb (fun h => by (with_reducible repeat (first | refine zN ?_ _ | refine zD ?_ | refine zA ?_ _)); exact h)
      have n5_ := zG BK277 hb (fun h => by (with_reducible repeat (first | refine zN ?_ _ | refine zD ?_ | refine zA ?_ _)); exact h)
      have n6_ := zG BK285 hb (fun h => by (with_reducible repeat (first | refine zN ?_ _ | refine zD ?_ | refine zA ?_ _)); exact h)
      have n7_ := aK (yT (by repeat (first | (with_reducible first | exact HB.out | apply yA | apply yN | apply yD | refine yS ?_ GE267.out | refine yS ?_ GE277.out | refine yS ?_ GE285.out) | exact HB.out)) hb)
      clear HO275
      clear HO283
      clear HO288
      clear HO292
      clear BK267
      clear BK277
      clear BK285
      clear HB
      have HO275 := n0_
      have HO283 := n1_
      have HO288 := n2_
      have HO292 := n3_
      have BK267 := n4_
      have BK277 := n5_
      have BK285 := n6_
      have HB := n7_
      clear n0_ n1_ n2_ n3_ n4_ n5_ n6_ n7_
      (try clear hb)
      (try clear hb2)
      (try clear hk)
      (try clear hi)
      refine hK.out _ _ ⟨(zC BK267.out 0).trans rfl, (zC BK267.out 1).trans rfl, (zC BK267.out 2).trans rfl, (zC BK267.out 3).trans rfl⟩ (fun hHeld => ?_)
      clear hK K
      refine norm_ (a' := ?_) ?_ ?_
      rotate_left
      ·show Act.put _ (some 51) _ = _
       simp only [Act.put, sA, sZ, sS, i64_w, i32_w]
       rfl
      refine pure_ (i := 6) (N := some 52) (v := ?_) (a' := ?_) #[true, true, true, true, true, true, true, false, false, false, false, false, false, false, false, false, false, false, false, false, false, false, false, false, false, false, false, false, false, false] rfl rfl (any_of HT_.out (by kernel_rfl)) (fun _ _ _ h => h) (Or.inl ⟨by rfl, ?_⟩) ?_ ?_
      rotate_left
      ·intro w'
       go_simp
       with_reducible rfl
      rotate_left
      ·simp only [Act.put, sA, sZ, sS, i64_w, i32_w]
       rfl
      refine pure_ (i := 7) (N := some 53) (v := ?_) (a' := ?_) #[true, true, true, true, true, true, true, true, false, false, false, false, false, false, false, false, false, false, false, false, false, false, false, false, false, false, false, false, false, false] rfl rfl (any_of HT_.out (by kernel_rfl)) (fun _ _ _ h => h) (Or.inl ⟨by rfl, ?_⟩) ?_ ?_
      rotate_left
      ·intro w'
       go_simp
       with_reducible rfl
      rotate_left
      ·simp only [Act.put, sA, sZ, sS, i64_w, i32_w]
       rfl
      refine pure_ (i := 8) (N := some 54) (v := ?_) (a' := ?_) #[true, true, true, true, true, true, true, true, true, false, false, false, false, false, false, false, false, false, false, false, false, false, false, false, false, false, false, false, false, false] rfl rfl (any_of HT_.out (by kernel_rfl)) (fun _ _ _ h => h) (Or.inl ⟨by rfl, ?_⟩) ?_ ?_
      rotate_left
      ·intro w'
       go_simp
       with_reducible rfl
      rotate_left
      ·simp only [Act.put, sA, sZ, sS, i64_w, i32_w]
       rfl
      refine pure_ (i := 9) (N := some 55) (v := ?_) (a' := ?_) #[true, true, true, true, true, true, true, true, true, true, false, false, false, false, false, false, false, false, false, false, false, false, false, false, false, false, false, false, false, false] rfl rfl (any_of HT_.out (by kernel_rfl)) (fun _ _ _ h => h) (Or.inl ⟨by rfl, ?_⟩) ?_ ?_
      rotate_left
      ·intro w'
       go_simp
       with_reducible rfl
      rotate_left
      ·simp only [Act.put, sA, sZ, sS, i64_w, i32_w]
       rfl
      refine pure_ (i := 10) (N := some 56) (v := ?_) (a' := ?_) #[true, true, true, true, true, true, true, true, true, true, true, false, false, false, false, false, false, false, false, false, false, false, false, false, false, false, false, false, false, false] rfl rfl (any_of HT_.out (by kernel_rfl)) (fun _ _ _ h => h) (Or.inl ⟨by rfl, ?_⟩) ?_ ?_
      rotate_left
      ·intro w'
       go_simp
       with_reducible rfl
      rotate_left
      ·simp only [Act.put, sA, sZ, sS, i64_w, i32_w]
       rfl
      refine pure_ (i := 11) (N := some 57) (v := ?_) (a' := ?_) #[true, true, true, true, true, true, true, true, true, true, true, true, false, false, false, false, false, false, false, false, false, false, false, false, false, false, false, false, false, false] rfl rfl (any_of HT_.out (by kernel_rfl)) (fun _ _ _ h => h) (Or.inl ⟨by rfl, ?_⟩) ?_ ?_
      rotate_left
      ·intro w'
       go_simp
       with_reducible rfl
      rotate_left
      ·simp only [Act.put, sA, sZ, sS, i64_w, i32_w]
       rfl
      refine pure_ (i := 12) (N := some 58) (v := ?_) (a' := ?_) #[true, true, true, true, true, true, true, true, true, true, true, true, true, false, false, false, false, false, false, false, false, false, false, false, false, false, false, false, false, false] rfl rfl (any_of HT_.out (by kernel_rfl)) (fun _ _ _ h => h) (Or.inl ⟨by rfl, ?_⟩) ?_ ?_
      rotate_left
      ·intro w'
       go_simp
       with_reducible rfl
      rotate_left
      ·simp only [Act.put, sA, sZ, sS, i64_w, i32_w]
       rfl
      refine pure_ (i := 13) (N := some 59) (v := undef) (a' := ?_) #[true, true, true, true, true, true, true, true, true, true, true, true, true, true, false, false, false, false, false, false, false, false, false, false, false, false, false, false, false, false] rfl rfl (any_of HT_.out (by kernel_rfl)) (fun _ _ _ h => h) (Or.inr ⟨by rfl, rfl⟩) ?_ ?_
      rotate_left
      ·simp only [Act.put, sA, sZ, sS, i64_w, i32_w]
       rfl
      refine pure_ (i := 14) (N := some 60) (v := undef) (a' := ?_) #[true, true, true, true, true, true, true, true, true, true, true, true, true, true, true, false, false, false, false, false, false, false, false, false, false, false, false, false, false, false] rfl rfl (any_of HT_.out (by kernel_rfl)) (fun _ _ _ h => h) (Or.inr ⟨by rfl, rfl⟩) ?_ ?_
      rotate_left
      ·simp only [Act.put, sA, sZ, sS, i64_w, i32_w]
       rfl
      refine pure_ (i := 15) (N := some 61) (v := undef) (a' := ?_) #[true, true, true, true, true, true, true, true, true, true, true, true, true, true, true, true, false, false, false, false, false, false, false, false, false, false, false, false, false, false] rfl rfl (any_of HT_.out (by kernel_rfl)) (fun _ _ _ h => h) (Or.inr ⟨by rfl, rfl⟩) ?_ ?_
      rotate_left
      ·simp only [Act.put, sA, sZ, sS, i64_w, i32_w]
       rfl
      refine pure_ (i := 16) (N := some 62) (v := ?_) (a' := ?_) #[true, true, true, true, true, true, true, true, true, true, true, true, true, true, true, true, true, false, false, false, false, false, false, false, false, false, false, false, false, false] rfl rfl (any_of HT_.out (by kernel_rfl)) (fun _ _ _ h => h) (Or.inl ⟨by rfl, ?_⟩) ?_ ?_
      rotate_left
      ·intro w'
       go_simp
       with_reducible rfl
      rotate_left
      ·simp only [Act.put, sA, sZ, sS, i64_w, i32_w]
       rfl
      refine pure_ (i := 17) (N := some 63) (v := ?_) (a' := ?_) #[true, true, true, true, true, true, true, true, true, true, true, true, true, true, true, true, true, true, false, false, false, false, false, false, false, false, false, false, false, false] rfl rfl (any_of HT_.out (by kernel_rfl)) (fun _ _ _ h => h) (Or.inl ⟨by rfl, ?_⟩) ?_ ?_
      rotate_left
      ·intro w'
       go_simp
       with_reducible rfl
      rotate_left
      ·simp only [Act.put, sA, sZ, sS, i64_w, i32_w]
       rfl
      refine pure_ (i := 18) (N := some 64) (v := undef) (a' := ?_) #[true, true, true, true, true, true, true, true, true, true, true, true, true, true, true, true, true, true, true, false, false, false, false, false, false, false, false, false, false, false] rfl rfl (any_of HT_.out (by kernel_rfl)) (fun _ _ _ h => h) (Or.inr ⟨by rfl, rfl⟩) ?_ ?_
      rotate_left
      ·simp only [Act.put, sA, sZ, sS, i64_w, i32_w]
       rfl
      refine pure_ (i := 19) (N := some 65) (v := undef) (a' := ?_) #[true, true, true, true, true, true, true, true, true, true, true, true, true, true, true, true, true, true, true, true, false, false, false, false, false, false, false, false, false, false] rfl rfl (any_of HT_.out (by kernel_rfl)) (fun _ _ _ h => h) (Or.inr ⟨by rfl, rfl⟩) ?_ ?_
      rotate_left
      ·simp only [Act.put, sA, sZ, sS, i64_w, i32_w]
       rfl
      refine pure_ (i := 20) (N := some 66) (v := undef) (a' := ?_) #[true, true, true, true, true, true, true, true, true, true, true, true, true, true, true, true, true, true, true, true, true, false, false, false, false, false, false, false, false, false] rfl rfl (any_of HT_.out (by kernel_rfl)) (fun _ _ _ h => h) (Or.inr ⟨by rfl, rfl⟩) ?_ ?_
      rotate_left
      ·simp only [Act.put, sA, sZ, sS, i64_w, i32_w]
       rfl
      refine pure_ (i := 21) (N := some 67) (v := undef) (a' := ?_) #[true, true, true, true, true, true, true, true, true, true, true, true, true, true, true, true, true, true, true, true, true, true, false, false, false, false, false, false, false, false] rfl rfl (any_of HT_.out (by kernel_rfl)) (fun _ _ _ h => h) (Or.inr ⟨by rfl, rfl⟩) ?_ ?_
      rotate_left
      ·simp only [Act.put, sA, sZ, sS, i64_w, i32_w]
       rfl
      refine pure_ (i := 22) (N := some 68) (v := ?_) (a' := ?_) #[true, true, true, true, true, true, true, true, true, true, true, true, true, true, true, true, true, true, true, true, true, true, true, false, false, false, false, false, false, false] rfl rfl (any_of HT_.out (by kernel_rfl)) (fun _ _ _ h => h) (Or.inl ⟨by rfl, ?_⟩) ?_ ?_
      rotate_left
      ·intro w'
       go_simp
       with_reducible rfl
      rotate_left
      ·simp only [Act.put, sA, sZ, sS, i64_w, i32_w]
       rfl
      refine pure_ (i := 23) (N := some 69) (v := ?_) (a' := ?_) #[true, true, true, true, true, true, true, true, true, true, true, true, true, true, true, true, true, true, true, true, true, true, true, true, false, false, false, false, false, false] rfl rfl (any_of HT_.out (by kernel_rfl)) (fun _ _ _ h => h) (Or.inl ⟨by rfl, ?_⟩) ?_ ?_
      rotate_left
      ·intro w'
       go_simp
       with_reducible rfl
      rotate_left
      ·simp only [Act.put, sA, sZ, sS, i64_w, i32_w]
       rfl
      refine pure_ (i := 24) (N := some 70) (v := undef) (a' := ?_) #[true, true, true, true, true, true, true, true, true, true, true, true, true, true, true, true, true, true, true, true, true, true, true, true, true, false, false, false, false, false] rfl rfl (any_of HT_.out (by kernel_rfl)) (fun _ _ _ h => h) (Or.inr ⟨by rfl, rfl⟩) ?_ ?_
      rotate_left
      ·simp only [Act.put, sA, sZ, sS, i64_w, i32_w]
       rfl
      refine pure_ (i := 25) (N := some 71) (v := undef) (a' := ?_) #[true, true, true, true, true, true, true, true, true, true, true, true, true, true, true, true, true, true, true, true, true, true, true, true, true, true, false, false, false, false] rfl rfl (any_of HT_.out (by kernel_rfl)) (fun _ _ _ h => h) (Or.inr ⟨by rfl, rfl⟩) ?_ ?_
      rotate_left
      ·simp only [Act.put, sA, sZ, sS, i64_w, i32_w]
       rfl
      refine pure_ (i := 26) (N := some 72) (v := undef) (a' := ?_) #[true, true, true, true, true, true, true, true, true, true, true, true, true, true, true, true, true, true, true, true, true, true, true, true, true, true, true, false, false, false] rfl rfl (any_of HT_.out (by kernel_rfl)) (fun _ _ _ h => h) (Or.inr ⟨by rfl, rfl⟩) ?_ ?_
      rotate_left
      ·simp only [Act.put, sA, sZ, sS, i64_w, i32_w]
       rfl
      refine pure_ (i := 27) (N := some 73) (v := undef) (a' := ?_) #[true, true, true, true, true, true, true, true, true, true, true, true, true, true, true, true, true, true, true, true, true, true, true, true, true, true, true, true, false, false] rfl rfl (any_of HT_.out (by kernel_rfl)) (fun _ _ _ h => h) (Or.inr ⟨by rfl, rfl⟩) ?_ ?_
      rotate_left
      ·simp only [Act.put, sA, sZ, sS, i64_w, i32_w]
       rfl
      refine pure_ (i := 28) (N := some 74) (v := undef) (a' := ?_) #[true, true, true, true, true, true, true, true, true, true, true, true, true, true, true, true, true, true, true, true, true, true, true, true, true, true, true, true, true, false] rfl rfl (any_of HT_.out (by kernel_rfl)) (fun _ _ _ h => h) (Or.inr ⟨by rfl, rfl⟩) ?_ ?_
      rotate_left
      ·simp only [Act.put, sA, sZ, sS, i64_w, i32_w]
       rfl
      refine pure_ (i := 29) (N := some 75) (v := ?_) (a' := ?_) #[true, true, true, true, true, true, true, true, true, true, true, true, true, true, true, true, true, true, true, true, true, true, true, true, true, true, true, true, true, true] rfl rfl (any_of HT_.out (by kernel_rfl)) (fun _ _ _ h => h) (Or.inl ⟨by rfl, ?_⟩) ?_ ?_
      rotate_left
      ·intro w'
       go_simp
       with_reducible rfl
      rotate_left
      ·simp only [Act.put, sA, sZ, sS, i64_w, i32_w]
       rfl
      refine done_ (done_of HT_.out (by kernel_rfl)) ?_
      try go_wp2
      go_meet
      case rel => exact ⟨_, (true), (by first | rfl | (simp; done) | (simp [*]; done)), H', ⟨by first | omega | exact Nat.le_refl _⟩, ⟨by (with_reducible repeat (first | apply Kd.R_alloc | apply Kd.R_drewN | apply Kd.R_drew)); exact Kd.R_mono HO288.out (fun _ hk => hk.2)⟩, ⟨by (with_reducible repeat (first | apply Kd.R_alloc | apply Kd.R_drewN | apply Kd.R_drew)); exact Kd.R_mono HO292.out (fun _ hk => hk.2)⟩, ⟨by (with_reducible repeat (first | apply Kd.R_alloc | apply Kd.R_drewN | apply Kd.R_drew)); exact Kd.R_mono HO275.out (fun _ hk => hk.2)⟩, ⟨by (with_reducible repeat (first | apply Kd.R_alloc | apply Kd.R_drewN | apply Kd.R_drew)); exact Kd.R_mono HO283.out (fun _ hk => hk.2)⟩, ⟨by (with_reducible repeat (first | refine zN ?_ _ | refine zD ?_ | refine zA ?_ _)); exact BK267.out⟩, ⟨by (with_reducible repeat (first | refine zN ?_ _ | refine zD ?_ | refine zA ?_ _)); exact BK277.out⟩, ⟨by (with_reducible repeat (first | refine zN ?_ _ | refine zD ?_ | refine zA ?_ _)); exact BK285.out⟩, ⟨by repeat (first | (with_reducible first | exact HB.out | apply yA | apply yN | apply yD | refine yS ?_ GE267.out | refine yS ?_ GE277.out | refine yS ?_ GE285.out) | exact HB.out)⟩⟩
    ·rw [if_neg c36] at H
     have c36b0 : (t294 == t295) = false := beq_eq_false_iff_ne.mpr c36
     have c36b1 : (t294 != t295) = true := bne_iff_ne.mpr c36
     (first | rw [c36b0] | (simp only [i64_w, i32_w]; rw [c36b0]) | skip)
     have H' := aK H
     clear H
     try go_wp2
     have n0_ := aK (Kd.R_drew HO275.out)
     have n1_ := aK (Kd.R_drew HO283.out)
     have n2_ := aK (Kd.R_drew HO288.out)
     have n3_ := aK (Kd.R_drew HO292.out)
     have n4_ := aK (zD BK267.out)
     have n5_ := aK (zD BK277.out)
     have n6_ := aK (zD BK285.out)
     have n7_ := aK (yD HB.out)
     clear HO275
     clear HO283
     clear HO288
     clear HO292
     clear BK267
     clear BK277
     clear BK285
     clear HB
     have HO275 := n0_
     have HO283 := n1_
     have HO288 := n2_
     have HO292 := n3_
     have BK267 := n4_
     have BK277 := n5_
     have BK285 := n6_
     have HB := n7_
     clear n0_ n1_ n2_ n3_ n4_ n5_ n6_ n7_
     refine start_ (n := 30) (S := fun w' => w'.cell? ⟨gb267, 0, none⟩ = some (.string a0_0) ∧ w'.cell? ⟨gb267, 1, none⟩ = some (.int .i64 a0_1) ∧ w'.cell? ⟨gb267, 2, none⟩ = some (.int .i64 a0_2) ∧ w'.cell? ⟨gb267, 3, none⟩ = some (.slice A0_3 l0_3.length c0_3)) (ds := []) #[false, false, false, false, false, false, false, false, false, false, false, false, false, false, false, false, false, false, false, false, false, false, false, false, false, false, false, false, false, false] (by kernel_rfl) rfl rfl ⟨(zC BK267.out 0).trans rfl, (zC BK267.out 1).trans rfl, (zC BK267.out 2).trans rfl, (zC BK267.out 3).trans rfl⟩ (fun hHeld => ?_); refine with_tabW gangsawlaw14_BoringSays.tab9 gangsawlaw14_BoringSays.bits9 (fun HT_ HW_ => ?_)
     generalize w33.drew = w57 at HO275 HO283 HO288 HO292 BK267 BK277 BK285 HB hHeld ⊢
     refine pure_ (i := 1) (N := some 47) (v := ?_) (a' := ?_) #[false, true, false, false, false, false, false, false, false, false, false, false, false, false, false, false, false, false, false, false, false, false, false, false, false, false, false, false, false, false] rfl rfl (any_of HT_.out (by kernel_rfl)) (fun _ _ _ h => h) (Or.inl ⟨by rfl, ?_⟩) ?_ ?_
     rotate_left
     ·intro w'
      go_simp
      with_reducible rfl
     rotate_left
     ·simp only [Act.put, sA, sZ, sS, i64_w, i32_w]
      rfl
     refine pure_ (i := 4) (N := some 50) (v := ?_) (a' := ?_) #[false, true, false, false, true, false, false, false, false, false, false, false, false, false, false, false, false, false, false, false, false, false, false, false, false, false, false, false, false, false] rfl rfl (any_of HT_.out (by kernel_rfl)) (fun _ _ _ h => h) (Or.inl ⟨by rfl, ?_⟩) ?_ ?_
     rotate_left
     ·intro w'
      go_simp
      with_reducible rfl
     rotate_left
     ·simp only [Act.put, sA, sZ, sS, i64_w, i32_w]
      rfl
     refine take_ (i := 0) (N := some 46) (v := ?_) (a' := ?_) #[true, true, false, false, true, false, false, false, false, false, false, false, false, false, false, false, false, false, false, false, false, false, false, false, false, false, false, false, false, false] rfl rfl (take_ofW HT_.out HW_.out (by kernel_rfl)) (fun _ _ _ h => h) (Or.inl ⟨by rfl, ?_⟩) hHeld ?_ ?_
     rotate_left
     ·rintro w' ⟨s0, s1, s2, s3⟩
      go_simp
      with_reducible rfl
     rotate_left
     ·simp only [Act.put, sA, sZ, sS, i64_w, i32_w]
      rfl
     refine take_ (i := 3) (N := some 49) (v := ?_) (a' := ?_) #[true, true, false, true, true, false, false, false, false, false, false, false, false, false, false, false, false, false, false, false, false, false, false, false, false, false, false, false, false, false] rfl rfl (take_ofW HT_.out HW_.out (by kernel_rfl)) (fun _ _ _ h => h) (Or.inl ⟨by rfl, ?_⟩) hHeld ?_ ?_
     rotate_left
     ·rintro w' ⟨s0, s1, s2, s3⟩
      go_simp
      with_reducible rfl
     rotate_left
     ·simp only [Act.put, sA, sZ, sS, i64_w, i32_w]
      rfl
     refine one_ (i := 2) (N := some 48) #[true, true, true, true, true, false, false, false, false, false, false, false, false, false, false, false, false, false, false, false, false, false, false, false, false, false, false, false, false, false] rfl rfl (one_of HT_.out (by kernel_rfl)) (by decide) (fun K hK => ?_)
     refine goes_ Tryz.func21 (by kernel_rfl) rfl #[.agg #[.string a0_0, .int .i64 a0_1, .int .i64 a0_2, .slice A0_3 l0_3.length c0_3], .int .i64 a1] (by rfl) rfl rfl (by (try simp only [List.map_toArray, List.map_cons, List.map_nil]); first | done | rfl | (simp only [List.length_drop, List.length_take]; rfl)) ?_
     with_reducible refine (boring_State.calls k a0_0 a0_1 a0_2 _ _ l0_3 a1 t294 _ ?side1 ?side2 A34.out).mono ?_
     (case side1 => repeat (first | exact (Kd.C_below HR0_3.out HB.out) | (with_reducible refine Kd.C_alloc ?_ _) | (with_reducible refine Kd.C_drewN ?_ _) | (with_reducible refine Kd.C_drew ?_)))
     (case side2 => exact HC0_3.out)
     rintro e w58 ⟨rfl, hb⟩
     refine ⟨_, rfl, ?_⟩
     have n0_ := aK (Kd.R_below (by (with_reducible repeat (first | apply Kd.R_alloc | apply Kd.R_drewN | apply Kd.R_drew)); exact HO275.out) hb)
     have n1_ := aK (Kd.R_below (by (with_reducible repeat (first | apply Kd.R_alloc | apply Kd.R_drewN | apply Kd.R_drew)); exact HO283.out) hb)
     have n2_ := aK (Kd.R_below (by (with_reducible repeat (first | apply Kd.R_alloc | apply Kd.R_drewN | apply Kd.R_drew)); exact HO288.out) hb)
     have n3_ := aK (Kd.R_below (by (with_reducible repeat (first | apply Kd.R_alloc | apply Kd.R_drewN | apply Kd.R_drew)); exact HO292.out) hb)
     have n4_ := zG BK267 hb (fun h => by (with_reducible repeat (first | refine zN ?_ _ | refine zD ?_ | refine zA ?_ _)); exact h)
     have n5_ := zG BK277 hb (fun h => by (with_reducible repeat (first | refine zN ?_ _ | refine zD ?_ | refine zA ?_ _)); exact h)
     have n6_ := zG BK285 hb (fun h => by (with_reducible repeat (first | refine zN ?_ _ | refine zD ?_ | refine zA ?_ _)); exact h)
     have n7_ := aK (yT (by repeat (first | (with_reducible first | exact HB.out | apply yA | apply yN | apply yD | refine yS ?_ GE267.out | refine yS ?_ GE277.out | refine yS ?_ GE285.out) | exact HB.out)) hb)
     clear HO275
     clear HO283
     clear HO288
     clear HO292
     clear BK267
     clear BK277
     clear BK285
     clear HB
     have HO275 := n0_
     have HO283 := n1_
     have HO288 := n2_
     have HO292 := n3_
     have BK267 := n4_
     have BK277 := n5_
     have BK285 := n6_
     have HB := n7_
     clear n0_ n1_ n2_ n3_ n4_ n5_ n6_ n7_
     (try clear hb)
     (try clear hb2)
     (try clear hk)
     (try clear hi)
     refine hK.out _ _ ⟨(zC BK267.out 0).trans rfl, (zC BK267.out 1).trans rfl, (zC BK267.out 2).trans rfl, (zC BK267.out 3).trans rfl⟩ (fun hHeld => ?_)
     clear hK K
     refine norm_ (a' := ?_) ?_ ?_
     rotate_left
     ·show Act.put _ (some 48) _ = _
      simp only [Act.put, sA, sZ, sS, i64_w, i32_w]
      rfl
     refine one_ (i := 5) (N := some 51) #[true, true, true, true, true, true, false, false, false, false, false, false, false, false, false, false, false, false, false, false, false, false, false, false, false, false, false, false, false, false] rfl rfl (one_of HT_.out (by kernel_rfl)) (by decide) (fun K hK => ?_)
     refine goes_ Tryz.func22 (by kernel_rfl) rfl #[.agg #[.string a0_0, .int .i64 a0_1, .int .i64 a0_2, .slice A0_3 l0_3.length c0_3], .int .i64 a1] (by rfl) rfl rfl (by (try simp only [List.map_toArray, List.map_cons, List.map_nil]); first | done | rfl | (simp only [List.length_drop, List.length_take]; rfl)) ?_
     with_reducible refine (gangsawref14_State.calls k a0_0 a0_1 a0_2 _ _ l0_3 a1 t295 _ ?side1 ?side2 A35.out).mono ?_
     (case side1 => repeat (first | exact (Kd.C_below HR0_3.out HB.out) | (with_reducible refine Kd.C_alloc ?_ _) | (with_reducible refine Kd.C_drewN ?_ _) | (with_reducible refine Kd.C_drew ?_)))
     (case side2 => exact HC0_3.out)
     rintro e w59 ⟨rfl, hb⟩
     refine ⟨_, rfl, ?_⟩
     have n0_ := aK (Kd.R_below (by (with_reducible repeat (first | apply Kd.R_alloc | apply Kd.R_drewN | apply Kd.R_drew)); exact HO275.out) hb)
     have n1_ := aK (Kd.R_below (by (with_reducible repeat (first | apply Kd.R_alloc | apply Kd.R_drewN | apply Kd.R_drew)); exact HO283.out) hb)
     have n2_ := aK (Kd.R_below (by (with_reducible repeat (first | apply Kd.R_alloc | apply Kd.R_drewN | apply Kd.R_drew)); exact HO288.out) hb)
     have n3_ := aK (Kd.R_below (by (with_reducible repeat (first | apply Kd.R_alloc | apply Kd.R_drewN | apply Kd.R_drew)); exact HO292.out) hb)
     have n4_ := zG BK267 hb (fun h => by (with_reducible repeat (first | refine zN ?_ _ | refine zD ?_ | refine zA ?_ _)); exact h)
     have n5_ := zG BK277 hb (fun h => by (with_reducible repeat (first | refine zN ?_ _ | refine zD ?_ | refine zA ?_ _)); exact h)
     have n6_ := zG BK285 hb (fun h => by (with_reducible repeat (first | refine zN ?_ _ | refine zD ?_ | refine zA ?_ _)); exact h)
     have n7_ := aK (yT (by repeat (first | (with_reducible first | exact HB.out | apply yA | apply yN | apply yD | refine yS ?_ GE267.out | refine yS ?_ GE277.out | refine yS ?_ GE285.out) | exact HB.out)) hb)
     clear HO275
     clear HO283
     clear HO288
     clear HO292
     clear BK267
     clear BK277
     clear BK285
     clear HB
     have HO275 := n0_
     have HO283 := n1_
     have HO288 := n2_
     have HO292 := n3_
     have BK267 := n4_
     have BK277 := n5_
     have BK285 := n6_
     have HB := n7_
     clear n0_ n1_ n2_ n3_ n4_ n5_ n6_ n7_
     (try clear hb)
     (try clear hb2)
     (try clear hk)
     (try clear hi)
     refine hK.out _ _ ⟨(zC BK267.out 0).trans rfl, (zC BK267.out 1).trans rfl, (zC BK267.out 2).trans rfl, (zC BK267.out 3).trans rfl⟩ (fun hHeld => ?_)
     clear hK K
     refine norm_ (a' := ?_) ?_ ?_
     rotate_left
     ·show Act.put _ (some 51) _ = _
      simp only [Act.put, sA, sZ, sS, i64_w, i32_w]
      rfl
     refine pure_ (i := 6) (N := some 52) (v := ?_) (a' := ?_) #[true, true, true, true, true, true, true, false, false, false, false, false, false, false, false, false, false, false, false, false, false, false, false, false, false, false, false, false, false, false] rfl rfl (any_of HT_.out (by kernel_rfl)) (fun _ _ _ h => h) (Or.inl ⟨by rfl, ?_⟩) ?_ ?_
     rotate_left
     ·intro w'
      go_simp
      with_reducible rfl
     rotate_left
     ·simp only [Act.put, sA, sZ, sS, i64_w, i32_w]
      rfl
     refine pure_ (i := 7) (N := some 53) (v := ?_) (a' := ?_) #[true, true, true, true, true, true, true, true, false, false, false, false, false, false, false, false, false, false, false, false, false, false, false, false, false, false, false, false, false, false] rfl rfl (any_of HT_.out (by kernel_rfl)) (fun _ _ _ h => h) (Or.inl ⟨by rfl, ?_⟩) ?_ ?_
     rotate_left
     ·intro w'
      go_simp
      with_reducible rfl
     rotate_left
     ·simp only [Act.put, sA, sZ, sS, i64_w, i32_w]
      rfl
     refine pure_ (i := 8) (N := some 54) (v := undef) (a' := ?_) #[true, true, true, true, true, true, true, true, true, false, false, false, false, false, false, false, false, false, false, false, false, false, false, false, false, false, false, false, false, false] rfl rfl (any_of HT_.out (by kernel_rfl)) (fun _ _ _ h => h) (Or.inr ⟨by rfl, rfl⟩) ?_ ?_
     rotate_left
     ·simp only [Act.put, sA, sZ, sS, i64_w, i32_w]
      rfl
     refine pure_ (i := 9) (N := some 55) (v := undef) (a' := ?_) #[true, true, true, true, true, true, true, true, true, true, false, false, false, false, false, false, false, false, false, false, false, false, false, false, false, false, false, false, false, false] rfl rfl (any_of HT_.out (by kernel_rfl)) (fun _ _ _ h => h) (Or.inr ⟨by rfl, rfl⟩) ?_ ?_
     rotate_left
     ·simp only [Act.put, sA, sZ, sS, i64_w, i32_w]
      rfl
     refine pure_ (i := 10) (N := some 56) (v := undef) (a' := ?_) #[true, true, true, true, true, true, true, true, true, true, true, false, false, false, false, false, false, false, false, false, false, false, false, false, false, false, false, false, false, false] rfl rfl (any_of HT_.out (by kernel_rfl)) (fun _ _ _ h => h) (Or.inr ⟨by rfl, rfl⟩) ?_ ?_
     rotate_left
     ·simp only [Act.put, sA, sZ, sS, i64_w, i32_w]
      rfl
     refine pure_ (i := 11) (N := some 57) (v := ?_) (a' := ?_) #[true, true, true, true, true, true, true, true, true, true, true, true, false, false, false, false, false, false, false, false, false, false, false, false, false, false, false, false, false, false] rfl rfl (any_of HT_.out (by kernel_rfl)) (fun _ _ _ h => h) (Or.inl ⟨by rfl, ?_⟩) ?_ ?_
     rotate_left
     ·intro w'
      go_simp
      with_reducible rfl
     rotate_left
     ·simp only [Act.put, sA, sZ, sS, i64_w, i32_w]
      rfl
     refine pure_ (i := 12) (N := some 58) (v := ?_) (a' := ?_) #[true, true, true, true, true, true, true, true, true, true, true, true, true, false, false, false, false, false, false, false, false, false, false, false, false, false, false, false, false, false] rfl rfl (any_of HT_.out (by kernel_rfl)) (fun _ _ _ h => h) (Or.inl ⟨by rfl, ?_⟩) ?_ ?_
     rotate_left
     ·intro w'
      go_simp
      with_reducible rfl
     rotate_left
     ·simp only [Act.put, sA, sZ, sS, i64_w, i32_w]
      rfl
     refine pure_ (i := 13) (N := some 59) (v := undef) (a' := ?_) #[true, true, true, true, true, true, true, true, true, true, true, true, true, true, false, false, false, false, false, false, false, false, false, false, false, false, false, false, false, false] rfl rfl (any_of HT_.out (by kernel_rfl)) (fun _ _ _ h => h) (Or.inr ⟨by rfl, rfl⟩) ?_ ?_
     rotate_left
     ·simp only [Act.put, sA, sZ, sS, i64_w, i32_w]
      rfl
     refine pure_ (i := 14) (N := some 60) (v := undef) (a' := ?_) #[true, true, true, true, true, true, true, true, true, true, true, true, true, true, true, false, false, false, false, false, false, false, false, false, false, false, false, false, false, false] rfl rfl (any_of HT_.out (by kernel_rfl)) (fun _ _ _ h => h) (Or.inr ⟨by rfl, rfl⟩) ?_ ?_
     rotate_left
     ·simp only [Act.put, sA, sZ, sS, i64_w, i32_w]
      rfl
     refine pure_ (i := 15) (N := some 61) (v := undef) (a' := ?_) #[true, true, true, true, true, true, true, true, true, true, true, true, true, true, true, true, false, false, false, false, false, false, false, false, false, false, false, false, false, false] rfl rfl (any_of HT_.out (by kernel_rfl)) (fun _ _ _ h => h) (Or.inr ⟨by rfl, rfl⟩) ?_ ?_
     rotate_left
     ·simp only [Act.put, sA, sZ, sS, i64_w, i32_w]
      rfl
     refine pure_ (i := 16) (N := some 62) (v := ?_) (a' := ?_) #[true, true, true, true, true, true, true, true, true, true, true, true, true, true, true, true, true, false, false, false, false, false, false, false, false, false, false, false, false, false] rfl rfl (any_of HT_.out (by kernel_rfl)) (fun _ _ _ h => h) (Or.inl ⟨by rfl, ?_⟩) ?_ ?_
     rotate_left
     ·intro w'
      go_simp
      with_reducible rfl
     rotate_left
     ·simp only [Act.put, sA, sZ, sS, i64_w, i32_w]
      rfl
     refine pure_ (i := 17) (N := some 63) (v := ?_) (a' := ?_) #[true, true, true, true, true, true, true, true, true, true, true, true, true, true, true, true, true, true, false, false, false, false, false, false, false, false, false, false, false, false] rfl rfl (any_of HT_.out (by kernel_rfl)) (fun _ _ _ h => h) (Or.inl ⟨by rfl, ?_⟩) ?_ ?_
     rotate_left
     ·intro w'
      go_simp
      with_reducible rfl
     rotate_left
     ·simp only [Act.put, sA, sZ, sS, i64_w, i32_w]
      rfl
     refine pure_ (i := 18) (N := some 64) (v := undef) (a' := ?_) #[true, true, true, true, true, true, true, true, true, true, true, true, true, true, true, true, true, true, true, false, false, false, false, false, false, false, false, false, false, false] rfl rfl (any_of HT_.out (by kernel_rfl)) (fun _ _ _ h => h) (Or.inr ⟨by rfl, rfl⟩) ?_ ?_
     rotate_left
     ·simp only [Act.put, sA, sZ, sS, i64_w, i32_w]
      rfl
     refine pure_ (i := 19) (N := some 65) (v := undef) (a' := ?_) #[true, true, true, true, true, true, true, true, true, true, true, true, true, true, true, true, true, true, true, true, false, false, false, false, false, false, false, false, false, false] rfl rfl (any_of HT_.out (by kernel_rfl)) (fun _ _ _ h => h) (Or.inr ⟨by rfl, rfl⟩) ?_ ?_
     rotate_left
     ·simp only [Act.put, sA, sZ, sS, i64_w, i32_w]
      rfl
     refine pure_ (i := 20) (N := some 66) (v := undef) (a' := ?_) #[true, true, true, true, true, true, true, true, true, true, true, true, true, true, true, true, true, true, true, true, true, false, false, false, false, false, false, false, false, false] rfl rfl (any_of HT_.out (by kernel_rfl)) (fun _ _ _ h => h) (Or.inr ⟨by rfl, rfl⟩) ?_ ?_
     rotate_left
     ·simp only [Act.put, sA, sZ, sS, i64_w, i32_w]
      rfl
     refine pure_ (i := 21) (N := some 67) (v := undef) (a' := ?_) #[true, true, true, true, true, true, true, true, true, true, true, true, true, true, true, true, true, true, true, true, true, true, false, false, false, false, false, false, false, false] rfl rfl (any_of HT_.out (by kernel_rfl)) (fun _ _ _ h => h) (Or.inr ⟨by rfl, rfl⟩) ?_ ?_
     rotate_left
     ·simp only [Act.put, sA, sZ, sS, i64_w, i32_w]
      rfl
     refine pure_ (i := 22) (N := some 68) (v := ?_) (a' := ?_) #[true, true, true, true, true, true, true, true, true, true, true, true, true, true, true, true, true, true, true, true, true, true, true, false, false, false, false, false, false, false] rfl rfl (any_of HT_.out (by kernel_rfl)) (fun _ _ _ h => h) (Or.inl ⟨by rfl, ?_⟩) ?_ ?_
     rotate_left
     ·intro w'
      go_simp
      with_reducible rfl
     rotate_left
     ·simp only [Act.put, sA, sZ, sS, i64_w, i32_w]
      rfl
     refine pure_ (i := 23) (N := some 69) (v := ?_) (a' := ?_) #[true, true, true, true, true, true, true, true, true, true, true, true, true, true, true, true, true, true, true, true, true, true, true, true, false, false, false, false, false, false] rfl rfl (any_of HT_.out (by kernel_rfl)) (fun _ _ _ h => h) (Or.inl ⟨by rfl, ?_⟩) ?_ ?_
     rotate_left
     ·intro w'
      go_simp
      with_reducible rfl
     rotate_left
     ·simp only [Act.put, sA, sZ, sS, i64_w, i32_w]
      rfl
     refine pure_ (i := 24) (N := some 70) (v := undef) (a' := ?_) #[true, true, true, true, true, true, true, true, true, true, true, true, true, true, true, true, true, true, true, true, true, true, true, true, true, false, false, false, false, false] rfl rfl (any_of HT_.out (by kernel_rfl)) (fun _ _ _ h => h) (Or.inr ⟨by rfl, rfl⟩) ?_ ?_
     rotate_left
     ·simp only [Act.put, sA, sZ, sS, i64_w, i32_w]
      rfl
     refine pure_ (i := 25) (N := some 71) (v := undef) (a' := ?_) #[true, true, true, true, true, true, true, true, true, true, true, true, true, true, true, true, true, true, true, true, true, true, true, true, true, true, false, false, false, false] rfl rfl (any_of HT_.out (by kernel_rfl)) (fun _ _ _ h => h) (Or.inr ⟨by rfl, rfl⟩) ?_ ?_
     rotate_left
     ·simp only [Act.put, sA, sZ, sS, i64_w, i32_w]
      rfl
     refine pure_ (i := 26) (N := some 72) (v := undef) (a' := ?_) #[true, true, true, true, true, true, true, true, true, true, true, true, true, true, true, true, true, true, true, true, true, true, true, true, true, true, true, false, false, false] rfl rfl (any_of HT_.out (by kernel_rfl)) (fun _ _ _ h => h) (Or.inr ⟨by rfl, rfl⟩) ?_ ?_
     rotate_left
     ·simp only [Act.put, sA, sZ, sS, i64_w, i32_w]
      rfl
     refine pure_ (i := 27) (N := some 73) (v := undef) (a' := ?_) #[true, true, true, true, true, true, true, true, true, true, true, true, true, true, true, true, true, true, true, true, true, true, true, true, true, true, true, true, false, false] rfl rfl (any_of HT_.out (by kernel_rfl)) (fun _ _ _ h => h) (Or.inr ⟨by rfl, rfl⟩) ?_ ?_
     rotate_left
     ·simp only [Act.put, sA, sZ, sS, i64_w, i32_w]
      rfl
     refine pure_ (i := 28) (N := some 74) (v := undef) (a' := ?_) #[true, true, true, true, true, true, true, true, true, true, true, true, true, true, true, true, true, true, true, true, true, true, true, true, true, true, true, true, true, false] rfl rfl (any_of HT_.out (by kernel_rfl)) (fun _ _ _ h => h) (Or.inr ⟨by rfl, rfl⟩) ?_ ?_
     rotate_left
     ·simp only [Act.put, sA, sZ, sS, i64_w, i32_w]
      rfl
     refine pure_ (i := 29) (N := some 75) (v := ?_) (a' := ?_) #[true, true, true, true, true, true, true, true, true, true, true, true, true, true, true, true, true, true, true, true, true, true, true, true, true, true, true, true, true, true] rfl rfl (any_of HT_.out (by kernel_rfl)) (fun _ _ _ h => h) (Or.inl ⟨by rfl, ?_⟩) ?_ ?_
     rotate_left
     ·intro w'
      go_simp
      with_reducible rfl
     rotate_left
     ·simp only [Act.put, sA, sZ, sS, i64_w, i32_w]
      rfl
     refine done_ (done_of HT_.out (by kernel_rfl)) ?_
     try go_wp2
     go_meet
     case rel => exact ⟨_, (true), (by first | rfl | (simp; done) | (simp [*]; done)), H', ⟨by first | omega | exact Nat.le_refl _⟩, ⟨by (with_reducible repeat (first | apply Kd.R_alloc | apply Kd.R_drewN | apply Kd.R_drew)); exact Kd.R_mono HO288.out (fun _ hk => hk.2)⟩, ⟨by (with_reducible repeat (first | apply Kd.R_alloc | apply Kd.R_drewN | apply Kd.R_drew)); exact Kd.R_mono HO292.out (fun _ hk => hk.2)⟩, ⟨by (with_reducible repeat (first | apply Kd.R_alloc | apply Kd.R_drewN | apply Kd.R_drew)); exact Kd.R_mono HO275.out (fun _ hk => hk.2)⟩, ⟨by (with_reducible repeat (first | apply Kd.R_alloc | apply Kd.R_drewN | apply Kd.R_drew)); exact Kd.R_mono HO283.out (fun _ hk => hk.2)⟩, ⟨by (with_reducible repeat (first | refine zN ?_ _ | refine zD ?_ | refine zA ?_ _)); exact BK267.out⟩, ⟨by (with_reducible repeat (first | refine zN ?_ _ | refine zD ?_ | refine zA ?_ _)); exact BK277.out⟩, ⟨by (with_reducible repeat (first | refine zN ?_ _ | refine zD ?_ | refine zA ?_ _)); exact BK285.out⟩, ⟨by repeat (first | (with_reducible first | exact HB.out | apply yA | apply yN | apply yD | refine yS ?_ GE267.out | refine yS ?_ GE277.out | refine yS ?_ GE285.out) | exact HB.out)⟩⟩
   case rest =>
    clear HC12
    try clear c2
    try clear p2
    try clear c3
    try clear c21
    try clear c22
    try clear c36
    try clear c36b0
    try clear c36b1
    try clear c37
    try clear c37b0
    try clear c37b1
    obtain ⟨kq, x75_11, rfl, HA, HJ11, HO_11, HO_13, HO_278003, HO_286003, BK267, BK277, BK285, HB⟩ := hcut
    cases kq with
    | zero => exact absurd HA.out (by simp [gangsawlaw14_BoringSays.j0])
    | succ kj11 =>
     have H := HA.out
     clear HA
     simp only [gangsawlaw14_BoringSays.j0] at H
     by_cases c60 : x75_11 = true
     ·subst c60
      have H1 : (some false) = some r := by rw [if_pos rfl] at H; exact H
      clear H
      have H := H1
      clear H1
      obtain rfl := Option.some.inj H
      exact absurd hr (by decide)
     ·replace c60 := Bool.eq_false_iff.mpr c60
      subst c60
      have H1 : (gangsawlaw14_BoringSays.l0 kj11 a2 t286 t290 0 a0_0 a0_1 a0_2 l0_3) = some r := by rw [if_neg (show ¬ (false = true) by decide)] at H; exact H
      clear H
      have H := H1
      clear H1
      have H' := aK H
      clear H
      go_wp2
      go_loopg [15] kj11 (fun kq v15 w' => ∃ (x15_2 : Int), v15 = .int .i64 x15_2 ∧ Aside0 (gangsawlaw14_BoringSays.l0 kq a2 t286 t290 x15_2 a0_0 a0_1 a0_2 l0_3 = some r) ∧ Aside0 (kq ≤ kj11) ∧ Aside0 (Kd.R k46 46 w' w.heap.size (fun k_ => some k_ ≠ (v291 : Value).ownBlock) v287 t286) ∧ Aside0 (Kd.R k46 46 w' w.heap.size (fun k_ => some k_ ≠ (v287 : Value).ownBlock) v291 t290) ∧ Aside0 (Kd.R k48 48 w' w.heap.size (fun k_ => some k_ ≠ ((.slice Ao29 t281.length co29) : Value).ownBlock) (.slice Ao22 t273.length co22) t273) ∧ Aside0 (Kd.R k48 48 w' w.heap.size (fun k_ => some k_ ≠ ((.slice Ao22 t273.length co22) : Value).ownBlock) (.slice Ao29 t281.length co29) t281) ∧ Aside0 (w'.heap[gb267]? = some (.cells #[.string a0_0, .int .i64 a0_1, .int .i64 a0_2, (.slice A0_3 l0_3.length c0_3)] 33 (0, 0))) ∧ Aside0 (w'.heap[gb277]? = some (.cells #[.string t270, .int .i64 t271, .int .i64 t272, (.slice Ao22 t273.length co22)] 33 (0, 0))) ∧ Aside0 (w'.heap[gb285]? = some (.cells #[.string t278, .int .i64 t279, .int .i64 t280, (.slice Ao29 t281.length co29)] 33 (0, 0))) ∧ Aside0 (Below w.heap.size w w'))
      case atStart => exact ⟨(0), (by first | rfl | (simp; done) | (simp [*]; done)), H', ⟨Nat.le_refl _⟩, ⟨by (with_reducible repeat (first | apply Kd.R_alloc | apply Kd.R_drewN | apply Kd.R_drew)); exact HO_11.out⟩, ⟨by (with_reducible repeat (first | apply Kd.R_alloc | apply Kd.R_drewN | apply Kd.R_drew)); exact HO_13.out⟩, ⟨by (with_reducible repeat (first | apply Kd.R_alloc | apply Kd.R_drewN | apply Kd.R_drew)); exact HO_278003.out⟩, ⟨by (with_reducible repeat (first | apply Kd.R_alloc | apply Kd.R_drewN | apply Kd.R_drew)); exact HO_286003.out⟩, ⟨by (with_reducible repeat (first | refine zN ?_ _ | refine zD ?_ | refine zA ?_ _)); exact BK267.out⟩, ⟨by (with_reducible repeat (first | refine zN ?_ _ | refine zD ?_ | refine zA ?_ _)); exact BK277.out⟩, ⟨by (with_reducible repeat (first | refine zN ?_ _ | refine zD ?_ | refine zA ?_ _)); exact BK285.out⟩, ⟨by repeat (first | (with_reducible first | exact HB.out | apply yA | apply yN | apply yD | refine yS ?_ GE267.out | refine yS ?_ GE277.out | refine yS ?_ GE285.out) | exact HB.out)⟩⟩
      case round =>
       clear H'
       try clear c2
       try clear p2
       try clear c3
       try clear c6
       try clear c21
       try clear c22
       try clear c36
       try clear c36b0
       try clear c36b1
       try clear c37
       try clear c37b0
       try clear c37b1
       try clear c60
       try clear p2
       obtain ⟨x15_2, rfl, HA, HK2, HO_11, HO_13, HO_278003, HO_286003, BK267, BK277, BK285, HB⟩ := hrel
       cases gk with
       | zero => exact absurd HA.out (by simp [gangsawlaw14_BoringSays.l0])
       | succ k2 =>
        have H := HA.out
        clear HA
        simp only [gangsawlaw14_BoringSays.l0] at H
        by_cases c61 : x15_2 < (t286.length : Int)
        ·rw [if_pos c61] at H
         have c61b0 : decide (x15_2 < (t286.length : Int)) = true := decide_eq_true c61
         clear c61
         by_cases c62 : 0 ≤ x15_2
         ·rw [if_pos c62] at H
          have c62b0 : decide (0 ≤ x15_2) = true := decide_eq_true c62
          clear c62
          by_cases c63 : x15_2 < (t290.length : Int)
          ·rw [if_pos c63] at H
           have c63b0 : decide (x15_2 < (t290.length : Int)) = true := decide_eq_true c63
           clear c63
           by_cases c64 : (!((((rd_T46 t286 x15_2).f0).toList) == (((rd_T46 t290 x15_2).f0).toList)) || (((!(((rd_T46 t286 x15_2).f1.f0.f0) == ((rd_T46 t290 x15_2).f1.f0.f0)) || (!(((rd_T46 t286 x15_2).f1.f0.f1) == ((rd_T46 t290 x15_2).f1.f0.f1)) || (!(((rd_T46 t286 x15_2).f1.f0.f2) == ((rd_T46 t290 x15_2).f1.f0.f2))))) || ((!(((rd_T46 t286 x15_2).f1.f1.f0) == ((rd_T46 t290 x15_2).f1.f1.f0)) || (!(((rd_T46 t286 x15_2).f1.f1.f1) == ((rd_T46 t290 x15_2).f1.f1.f1)) || (!(((rd_T46 t286 x15_2).f1.f1.f2) == ((rd_T46 t290 x15_2).f1.f1.f2))))))) || (!(((rd_T46 t286 x15_2).f2) == ((rd_T46 t290 x15_2).f2))))) = true
           ·rw [if_pos c64] at H
            have c64b0 : (!((((rd_T46 t286 x15_2).f0).toList) == (((rd_T46 t290 x15_2).f0).toList)) || (((!(((rd_T46 t286 x15_2).f1.f0.f0) == ((rd_T46 t290 x15_2).f1.f0.f0)) || (!(((rd_T46 t286 x15_2).f1.f0.f1) == ((rd_T46 t290 x15_2).f1.f0.f1)) || (!(((rd_T46 t286 x15_2).f1.f0.f2) == ((rd_T46 t290 x15_2).f1.f0.f2))))) || ((!(((rd_T46 t286 x15_2).f1.f1.f0) == ((rd_T46 t290 x15_2).f1.f1.f0)) || (!(((rd_T46 t286 x15_2).f1.f1.f1) == ((rd_T46 t290 x15_2).f1.f1.f1)) || (!(((rd_T46 t286 x15_2).f1.f1.f2) == ((rd_T46 t290 x15_2).f1.f1.f2))))))) || (!(((rd_T46 t286 x15_2).f2) == ((rd_T46 t290 x15_2).f2))))) = true := c64
            clear c64
            obtain rfl := Option.some.inj H
            exact absurd hr (by decide)
           ·rw [if_neg c64] at H
            have c64b0 : (!((((rd_T46 t286 x15_2).f0).toList) == (((rd_T46 t290 x15_2).f0).toList)) || (((!(((rd_T46 t286 x15_2).f1.f0.f0) == ((rd_T46 t290 x15_2).f1.f0.f0)) || (!(((rd_T46 t286 x15_2).f1.f0.f1) == ((rd_T46 t290 x15_2).f1.f0.f1)) || (!(((rd_T46 t286 x15_2).f1.f0.f2) == ((rd_T46 t290 x15_2).f1.f0.f2))))) || ((!(((rd_T46 t286 x15_2).f1.f1.f0) == ((rd_T46 t290 x15_2).f1.f1.f0)) || (!(((rd_T46 t286 x15_2).f1.f1.f1) == ((rd_T46 t290 x15_2).f1.f1.f1)) || (!(((rd_T46 t286 x15_2).f1.f1.f2) == ((rd_T46 t290 x15_2).f1.f1.f2))))))) || (!(((rd_T46 t286 x15_2).f2) == ((rd_T46 t290 x15_2).f2))))) = false := by simpa using c64
            clear c64
            have H' := aK H
            clear H
            obtain ⟨Ao65, co65, eo65⟩ := Kd.R_slice HO_11.out
            subst eo65
            try go_wp2
            have n0_ := aK (Kd.R_drew HO_11.out)
            have n1_ := aK (Kd.R_drew HO_13.out)
            have n2_ := aK (Kd.R_drew HO_278003.out)
            have n3_ := aK (Kd.R_drew HO_286003.out)
            have n4_ := aK (zD BK267.out)
            have n5_ := aK (zD BK277.out)
            have n6_ := aK (zD BK285.out)
            have n7_ := aK (yD HB.out)
            clear HO_11
            clear HO_13
            clear HO_278003
            clear HO_286003
            clear BK267
            clear BK277
            clear BK285
            clear HB
            have HO_11 := n0_
            have HO_13 := n1_
            have HO_278003 := n2_
            have HO_286003 := n3_
            have BK267 := n4_
            have BK277 := n5_
            have BK285 := n6_
            have HB := n7_
            clear n0_ n1_ n2_ n3_ n4_ n5_ n6_ n7_
            have p297 : 0 ≤ (x15_2 : Int) := of_decide_eq_true (by first | (with_reducible assumption) | assumption)
            have q297 : x15_2 < (t286.length : Int) := of_decide_eq_true (by first | (with_reducible assumption) | assumption)
            obtain ⟨ad297, e297, hx297_0, hx297_1, hx297_2, hx297_3, hx297_4, hx297_5, hx297_6, hx297_7⟩ := at_T46 (Kd.R_reads' HO_11.out).2.2 x15_2 p297 q297
            cases e297
            replace p297 := eq_true p297
            replace q297 := eq_true q297
            obtain ⟨Ao67, co67, eo67⟩ := Kd.R_slice HO_13.out
            (first | subst eo67 | (injection eo67 with f1_ f2_ f3_; have f4_ := f1_.symm; have f5_ := f3_.symm; clear f1_ f2_ f3_; subst f4_; subst f5_))
            have p298 : 0 ≤ (x15_2 : Int) := of_decide_eq_true (by first | (with_reducible assumption) | assumption)
            have q298 : x15_2 < (t290.length : Int) := of_decide_eq_true (by first | (with_reducible assumption) | assumption)
            obtain ⟨ad298, e298, hx298_0, hx298_1, hx298_2, hx298_3, hx298_4, hx298_5, hx298_6, hx298_7⟩ := at_T46 (Kd.R_reads' HO_13.out).2.2 x15_2 p298 q298
            cases e298
            replace p298 := eq_true p298
            replace q298 := eq_true q298
            refine start_ (n := 9) (S := fun w' => w'.cell? (ad297.add ((x15_2).toNat * 8)) = some (.string ((rd_T46 t286 x15_2).f0)) ∧ w'.cell? ⟨(ad297.add ((x15_2).toNat * 8)).block, (ad297.add ((x15_2).toNat * 8)).off + 1, none⟩ = some (.int .i64 ((rd_T46 t286 x15_2).f1.f0.f0)) ∧ w'.cell? ⟨(ad297.add ((x15_2).toNat * 8)).block, (ad297.add ((x15_2).toNat * 8)).off + 2, none⟩ = some (.int .i64 ((rd_T46 t286 x15_2).f1.f0.f1)) ∧ w'.cell? ⟨(ad297.add ((x15_2).toNat * 8)).block, (ad297.add ((x15_2).toNat * 8)).off + 3, none⟩ = some (.int .i64 ((rd_T46 t286 x15_2).f1.f0.f2)) ∧ w'.cell? ⟨(ad297.add ((x15_2).toNat * 8)).block, (ad297.add ((x15_2).toNat * 8)).off + 4, none⟩ = some (.int .i64 ((rd_T46 t286 x15_2).f1.f1.f0)) ∧ w'.cell? ⟨(ad297.add ((x15_2).toNat * 8)).block, (ad297.add ((x15_2).toNat * 8)).off + 5, none⟩ = some (.int .i64 ((rd_T46 t286 x15_2).f1.f1.f1)) ∧ w'.cell? ⟨(ad297.add ((x15_2).toNat * 8)).block, (ad297.add ((x15_2).toNat * 8)).off + 6, none⟩ = some (.int .i64 ((rd_T46 t286 x15_2).f1.f1.f2)) ∧ w'.cell? ⟨(ad297.add ((x15_2).toNat * 8)).block, (ad297.add ((x15_2).toNat * 8)).off + 7, none⟩ = some (.int .i64 ((rd_T46 t286 x15_2).f2)) ∧ w'.cell? (ad298.add ((x15_2).toNat * 8)) = some (.string ((rd_T46 t290 x15_2).f0)) ∧ w'.cell? ⟨(ad298.add ((x15_2).toNat * 8)).block, (ad298.add ((x15_2).toNat * 8)).off + 1, none⟩ = some (.int .i64 ((rd_T46 t290 x15_2).f1.f0.f0)) ∧ w'.cell? ⟨(ad298.add ((x15_2).toNat * 8)).block, (ad298.add ((x15_2).toNat * 8)).off + 2, none⟩ = some (.int .i64 ((rd_T46 t290 x15_2).f1.f0.f1)) ∧ w'.cell? ⟨(ad298.add ((x15_2).toNat * 8)).block, (ad298.add ((x15_2).toNat * 8)).off + 3, none⟩ = some (.int .i64 ((rd_T46 t290 x15_2).f1.f0.f2)) ∧ w'.cell? ⟨(ad298.add ((x15_2).toNat * 8)).block, (ad298.add ((x15_2).toNat * 8)).off + 4, none⟩ = some (.int .i64 ((rd_T46 t290 x15_2).f1.f1.f0)) ∧ w'.cell? ⟨(ad298.add ((x15_2).toNat * 8)).block, (ad298.add ((x15_2).toNat * 8)).off + 5, none⟩ = some (.int .i64 ((rd_T46 t290 x15_2).f1.f1.f1)) ∧ w'.cell? ⟨(ad298.add ((x15_2).toNat * 8)).block, (ad298.add ((x15_2).toNat * 8)).off + 6, none⟩ = some (.int .i64 ((rd_T46 t290 x15_2).f1.f1.f2)) ∧ w'.cell? ⟨(ad298.add ((x15_2).toNat * 8)).block, (ad298.add ((x15_2).toNat * 8)).off + 7, none⟩ = some (.int .i64 ((rd_T46 t290 x15_2).f2))) (ds := []) #[false, false, false, false, false, false, false, false, false] (by kernel_rfl) rfl rfl ⟨hx297_0, hx297_1, hx297_2, hx297_3, hx297_4, hx297_5, hx297_6, hx297_7, hx298_0, hx298_1, hx298_2, hx298_3, hx298_4, hx298_5, hx298_6, hx298_7⟩ (fun hHeld => ?_); refine with_tabW gangsawlaw14_BoringSays.tab14 gangsawlaw14_BoringSays.bits14 (fun HT_ HW_ => ?_)
            generalize wr.drew = w66 at HO_11 HO_13 HO_278003 HO_286003 BK267 BK277 BK285 HB hx297_0 hx297_1 hx297_2 hx297_3 hx297_4 hx297_5 hx297_6 hx297_7 hx298_0 hx298_1 hx298_2 hx298_3 hx298_4 hx298_5 hx298_6 hx298_7 hHeld ⊢
            refine pure_ (i := 0) (N := some 82) (v := ?_) (a' := ?_) #[true, false, false, false, false, false, false, false, false] rfl rfl (any_of HT_.out (by kernel_rfl)) (fun _ _ _ h => h) (Or.inl ⟨by rfl, ?_⟩) ?_ ?_
            rotate_left
            ·intro w'
             go_simp
             with_reducible rfl
            rotate_left
            ·simp only [Act.put, sA, sZ, sS, i64_w, i32_w]
             rfl
            refine pure_ (i := 1) (N := some 83) (v := ?_) (a' := ?_) #[true, true, false, false, false, false, false, false, false] rfl rfl (any_of HT_.out (by kernel_rfl)) (fun _ _ _ h => h) (Or.inl ⟨by rfl, ?_⟩) ?_ ?_
            rotate_left
            ·intro w'
             go_simp
             with_reducible rfl
            rotate_left
            ·simp only [Act.put, sA, sZ, sS, i64_w, i32_w]
             rfl
            refine pure_ (i := 2) (N := some 84) (v := ?_) (a' := ?_) #[true, true, true, false, false, false, false, false, false] rfl rfl (any_of HT_.out (by kernel_rfl)) (fun _ _ _ h => h) (Or.inl ⟨by rfl, ?_⟩) ?_ ?_
            rotate_left
            ·intro w'
             go_simp
             with_reducible rfl
            rotate_left
            ·simp only [Act.put, sA, sZ, sS, i64_w, i32_w]
             rfl
            refine pure_ (i := 4) (N := some 86) (v := ?_) (a' := ?_) #[true, true, true, false, true, false, false, false, false] rfl rfl (any_of HT_.out (by kernel_rfl)) (fun _ _ _ h => h) (Or.inl ⟨by rfl, ?_⟩) ?_ ?_
            rotate_left
            ·intro w'
             go_simp
             with_reducible rfl
            rotate_left
            ·simp only [Act.put, sA, sZ, sS, i64_w, i32_w]
             rfl
            refine pure_ (i := 5) (N := some 87) (v := ?_) (a' := ?_) #[true, true, true, false, true, true, false, false, false] rfl rfl (any_of HT_.out (by kernel_rfl)) (fun _ _ _ h => h) (Or.inl ⟨by rfl, ?_⟩) ?_ ?_
            rotate_left
            ·intro w'
             go_simp
             with_reducible rfl
            rotate_left
            ·simp only [Act.put, sA, sZ, sS, i64_w, i32_w]
             rfl
            refine pure_ (i := 6) (N := some 88) (v := ?_) (a' := ?_) #[true, true, true, false, true, true, true, false, false] rfl rfl (any_of HT_.out (by kernel_rfl)) (fun _ _ _ h => h) (Or.inl ⟨by rfl, ?_⟩) ?_ ?_
            rotate_left
            ·intro w'
             go_simp
             with_reducible rfl
            rotate_left
            ·simp only [Act.put, sA, sZ, sS, i64_w, i32_w]
             rfl
            refine take_ (i := 3) (N := some 85) (v := ?_) (a' := ?_) #[true, true, true, true, true, true, true, false, false] rfl rfl (take_ofW HT_.out HW_.out (by kernel_rfl)) (fun _ _ _ h => h) (Or.inl ⟨by rfl, ?_⟩) hHeld ?_ ?_
            rotate_left
            ·rintro w' ⟨s0, s1, s2, s3, s4, s5, s6, s7, s8, s9, s10, s11, s12, s13, s14, s15⟩
             go_simp
             with_reducible rfl
            rotate_left
            ·simp only [Act.put, sA, sZ, sS, i64_w, i32_w]
             rfl
            refine take_ (i := 7) (N := some 89) (v := ?_) (a' := ?_) #[true, true, true, true, true, true, true, true, false] rfl rfl (take_ofW HT_.out HW_.out (by kernel_rfl)) (fun _ _ _ h => h) (Or.inl ⟨by rfl, ?_⟩) hHeld ?_ ?_
            rotate_left
            ·rintro w' ⟨s0, s1, s2, s3, s4, s5, s6, s7, s8, s9, s10, s11, s12, s13, s14, s15⟩
             go_simp
             with_reducible rfl
            rotate_left
            ·simp only [Act.put, sA, sZ, sS, i64_w, i32_w]
             rfl
            refine pure_ (i := 8) (N := some 90) (v := ?_) (a' := ?_) #[true, true, true, true, true, true, true, true, true] rfl rfl (any_of HT_.out (by kernel_rfl)) (fun _ _ _ h => h) (Or.inl ⟨by rfl, ?_⟩) ?_ ?_
            rotate_left
            ·intro w'
             go_simp
             with_reducible rfl
            rotate_left
            ·simp only [Act.put, sA, sZ, sS, i64_w, i32_w]
             rfl
            refine done_ (done_of HT_.out (by kernel_rfl)) ?_
            try go_wp2
            go_roundg k2
            case measure => have := HJ11.out; have := HK2.out; omega
            case rel => exact ⟨(wrap64 (x15_2 + 1)), (by first | rfl | (simp; done) | (simp [*]; done)), H', ⟨by have := HJ11.out; have := HK2.out; omega⟩, ⟨by (with_reducible repeat (first | apply Kd.R_alloc | apply Kd.R_drewN | apply Kd.R_drew)); exact HO_11.out⟩, ⟨by (with_reducible repeat (first | apply Kd.R_alloc | apply Kd.R_drewN | apply Kd.R_drew)); exact HO_13.out⟩, ⟨by (with_reducible repeat (first | apply Kd.R_alloc | apply Kd.R_drewN | apply Kd.R_drew)); exact HO_278003.out⟩, ⟨by (with_reducible repeat (first | apply Kd.R_alloc | apply Kd.R_drewN | apply Kd.R_drew)); exact HO_286003.out⟩, ⟨by (with_reducible repeat (first | refine zN ?_ _ | refine zD ?_ | refine zA ?_ _)); exact BK267.out⟩, ⟨by (with_reducible repeat (first | refine zN ?_ _ | refine zD ?_ | refine zA ?_ _)); exact BK277.out⟩, ⟨by (with_reducible repeat (first | refine zN ?_ _ | refine zD ?_ | refine zA ?_ _)); exact BK285.out⟩, ⟨by repeat (first | (with_reducible first | exact HB.out | apply yA | apply yN | apply yD | refine yS ?_ GE267.out | refine yS ?_ GE277.out | refine yS ?_ GE285.out) | exact HB.out)⟩⟩
          ·rw [if_neg c63] at H
           exact absurd H (by simp)
         ·rw [if_neg c62] at H
          exact absurd H (by simp)
        ·rw [if_neg c61] at H
         have c61b0 : decide (x15_2 < (t286.length : Int)) = false := decide_eq_false c61
         clear c61
         have H' := aK H
         clear H
         obtain ⟨Ao68, co68, eo68⟩ := Kd.R_slice HO_11.out
         subst eo68
         go_wp2
         go_loopg [16] k2 (fun kq v16 w' => ∃ (x16_3 : Int), v16 = .int .i64 x16_3 ∧ Aside0 (gangsawlaw14_BoringSays.l1 kq a2 x16_3 a0_0 a0_1 a0_2 l0_3 = some r) ∧ Aside0 (kq ≤ k2) ∧ Aside0 (Kd.R k48 48 w' w.heap.size (fun k_ => some k_ ≠ ((.slice Ao29 t281.length co29) : Value).ownBlock) (.slice Ao22 t273.length co22) t273) ∧ Aside0 (Kd.R k48 48 w' w.heap.size (fun k_ => some k_ ≠ ((.slice Ao22 t273.length co22) : Value).ownBlock) (.slice Ao29 t281.length co29) t281) ∧ Aside0 (w'.heap[gb267]? = some (.cells #[.string a0_0, .int .i64 a0_1, .int .i64 a0_2, (.slice A0_3 l0_3.length c0_3)] 33 (0, 0))) ∧ Aside0 (w'.heap[gb277]? = some (.cells #[.string t270, .int .i64 t271, .int .i64 t272, (.slice Ao22 t273.length co22)] 33 (0, 0))) ∧ Aside0 (w'.heap[gb285]? = some (.cells #[.string t278, .int .i64 t279, .int .i64 t280, (.slice Ao29 t281.length co29)] 33 (0, 0))) ∧ Aside0 (Below w.heap.size w w'))
         case atStart => exact ⟨(0), (by first | rfl | (simp; done) | (simp [*]; done)), H', ⟨Nat.le_refl _⟩, ⟨by (with_reducible repeat (first | apply Kd.R_alloc | apply Kd.R_drewN | apply Kd.R_drew)); exact HO_278003.out⟩, ⟨by (with_reducible repeat (first | apply Kd.R_alloc | apply Kd.R_drewN | apply Kd.R_drew)); exact HO_286003.out⟩, ⟨by (with_reducible repeat (first | refine zN ?_ _ | refine zD ?_ | refine zA ?_ _)); exact BK267.out⟩, ⟨by (with_reducible repeat (first | refine zN ?_ _ | refine zD ?_ | refine zA ?_ _)); exact BK277.out⟩, ⟨by (with_reducible repeat (first | refine zN ?_ _ | refine zD ?_ | refine zA ?_ _)); exact BK285.out⟩, ⟨by repeat (first | (with_reducible first | exact HB.out | apply yA | apply yN | apply yD | refine yS ?_ GE267.out | refine yS ?_ GE277.out | refine yS ?_ GE285.out) | exact HB.out)⟩⟩
         case round =>
          clear H'
          try clear c2
          try clear p2
          try clear q2
          try clear hx2
          try clear c3
          try clear c6
          try clear p6
          try clear c21
          try clear c22
          try clear p29
          try clear q29
          try clear hx29
          try clear c36
          try clear c36b0
          try clear c36b1
          try clear c37
          try clear c37b0
          try clear c37b1
          try clear c60
          try clear c61
          try clear c61b0
          try clear c62
          try clear c62b0
          try clear c63
          try clear c63b0
          try clear c64
          try clear c64b0
          try clear p64
          try clear hx297_0
          try clear hx297_1
          try clear hx297_2
          try clear hx297_3
          try clear hx297_4
          try clear hx297_5
          try clear hx297_6
          try clear hx297_7
          try clear hx298_0
          try clear hx298_1
          try clear hx298_2
          try clear hx298_3
          try clear hx298_4
          try clear hx298_5
          try clear hx298_6
          try clear hx298_7
          try clear p2
          try clear p297
          try clear p298
          try clear q297
          try clear q298
          obtain ⟨x16_3, rfl, HA, HK3, HO_278003, HO_286003, BK267, BK277, BK285, HB⟩ := hrel
          cases gk with
          | zero => exact absurd HA.out (by simp [gangsawlaw14_BoringSays.l1])
          | succ k3 =>
           have H := HA.out
           clear HA
           simp only [gangsawlaw14_BoringSays.l1] at H
           by_cases c69 : x16_3 < (l0_3.length : Int)
           ·rw [if_pos c69] at H
            have c69b0 : decide (x16_3 < (l0_3.length : Int)) = true := decide_eq_true c69
            clear c69
            by_cases c70 : 0 ≤ x16_3
            ·rw [if_pos c70] at H
             have c70b0 : decide (0 ≤ x16_3) = true := decide_eq_true c70
             clear c70
             by_cases c71 : ((rd_T48 l0_3 x16_3).f0) < (-1000000)
             ·rw [if_pos c71] at H
              have c71b0 : decide (((rd_T48 l0_3 x16_3).f0) < (-1000000)) = true := decide_eq_true c71
              clear c71
              obtain rfl := Option.some.inj H
              simp only [Option.some.injEq, Prod.mk.injEq] at H
              obtain ⟨rfl⟩ := H
              have hnb72 := NB267_277.out
              have hnc72 := NB277_267.out
              have hnb73 := NB267_285.out
              have hnc73 := NB285_267.out
              have hcz74_0 := zI BK267 0 rfl
              have hcz74_1 := zI BK267 1 rfl
              have hcz74_2 := zI BK267 2 rfl
              have hcz74_3 := zI BK267 3 rfl
              have hfz74_0 := zF BK267.out 0
              have hfz74_1 := zF BK267.out 1
              have hfz74_2 := zF BK267.out 2
              have hfz74_3 := zF BK267.out 3
              have p299 : 0 ≤ (x16_3 : Int) := of_decide_eq_true (by first | (with_reducible assumption) | assumption)
              have q299 : x16_3 < (l0_3.length : Int) := of_decide_eq_true (by first | (with_reducible assumption) | assumption)
              obtain ⟨ad299, e299, hx299_0, hx299_1, hx299_2⟩ := at_T48 HR0_3.out x16_3 p299 q299
              cases e299
              replace hx299_0 := (HB.out.cell (World.block_lt_of_cell? w _ hx299_0)).trans hx299_0
              replace hx299_1 := (HB.out.cell (World.block_lt_of_cell? w _ hx299_1)).trans hx299_1
              replace hx299_2 := (HB.out.cell (World.block_lt_of_cell? w _ hx299_2)).trans hx299_2
              replace p299 := eq_true p299
              replace q299 := eq_true q299
              go_wp2
              go_ret
              exact ⟨by first | rfl | (simp [errW_none, errW_some] <;> rfl) | (simp [*, errW_none, errW_some] <;> rfl), by repeat (first | (with_reducible first | exact HB.out | apply yA | apply yN | apply yD | refine yS ?_ GE267.out | refine yS ?_ GE277.out | refine yS ?_ GE285.out) | exact HB.out)⟩
             ·rw [if_neg c71] at H
              have c71b0 : decide (((rd_T48 l0_3 x16_3).f0) < (-1000000)) = false := decide_eq_false c71
              clear c71
              by_cases c75 : ((rd_T48 l0_3 x16_3).f1) > 1000000
              ·rw [if_pos c75] at H
               have c75b0 : decide (1000000 < ((rd_T48 l0_3 x16_3).f1)) = true := decide_eq_true c75
               clear c75
               obtain rfl := Option.some.inj H
               simp only [Option.some.injEq, Prod.mk.injEq] at H
               obtain ⟨rfl⟩ := H
               have hnb76 := NB267_277.out
               have hnc76 := NB277_267.out
               have hnb77 := NB267_285.out
               have hnc77 := NB285_267.out
               have hcz78_0 := zI BK267 0 rfl
               have hcz78_1 := zI BK267 1 rfl
               have hcz78_2 := zI BK267 2 rfl
               have hcz78_3 := zI BK267 3 rfl
               have hfz78_0 := zF BK267.out 0
               have hfz78_1 := zF BK267.out 1
               have hfz78_2 := zF BK267.out 2
               have hfz78_3 := zF BK267.out 3
               have p299 : 0 ≤ (x16_3 : Int) := of_decide_eq_true (by first | (with_reducible assumption) | assumption)
               have q299 : x16_3 < (l0_3.length : Int) := of_decide_eq_true (by first | (with_reducible assumption) | assumption)
               obtain ⟨ad299, e299, hx299_0, hx299_1, hx299_2⟩ := at_T48 HR0_3.out x16_3 p299 q299
               cases e299
               replace hx299_0 := (HB.out.cell (World.block_lt_of_cell? w _ hx299_0)).trans hx299_0
               replace hx299_1 := (HB.out.cell (World.block_lt_of_cell? w _ hx299_1)).trans hx299_1
               replace hx299_2 := (HB.out.cell (World.block_lt_of_cell? w _ hx299_2)).trans hx299_2
               replace p299 := eq_true p299
               replace q299 := eq_true q299
               have p300 : 0 ≤ (x16_3 : Int) := of_decide_eq_true (by first | (with_reducible assumption) | assumption)
               have q300 : x16_3 < (l0_3.length : Int) := of_decide_eq_true (by first | (with_reducible assumption) | assumption)
               obtain ⟨ad300, e300, hx300_0, hx300_1, hx300_2⟩ := at_T48 HR0_3.out x16_3 p300 q300
               obtain rfl : ad299 = ad300 := (by injection e300)
               replace hx300_0 := (HB.out.cell (World.block_lt_of_cell? w _ hx300_0)).trans hx300_0
               replace hx300_1 := (HB.out.cell (World.block_lt_of_cell? w _ hx300_1)).trans hx300_1
               replace hx300_2 := (HB.out.cell (World.block_lt_of_cell? w _ hx300_2)).trans hx300_2
               replace p300 := eq_true p300
               replace q300 := eq_true q300
               go_wp2
               go_ret
               exact ⟨by first | rfl | (simp [errW_none, errW_some] <;> rfl) | (simp [*, errW_none, errW_some] <;> rfl), by repeat (first | (with_reducible first | exact HB.out | apply yA | apply yN | apply yD | refine yS ?_ GE267.out | refine yS ?_ GE277.out | refine yS ?_ GE285.out) | exact HB.out)⟩
              ·rw [if_neg c75] at H
               have c75b0 : decide (1000000 < ((rd_T48 l0_3 x16_3).f1)) = false := decide_eq_false c75
               clear c75
               have H' := aK H
               clear H
               have hnb79 := NB267_277.out
               have hnc79 := NB277_267.out
               have hnb80 := NB267_285.out
               have hnc80 := NB285_267.out
               have hcz81_0 := zI BK267 0 rfl
               have hcz81_1 := zI BK267 1 rfl
               have hcz81_2 := zI BK267 2 rfl
               have hcz81_3 := zI BK267 3 rfl
               have hfz81_0 := zF BK267.out 0
               have hfz81_1 := zF BK267.out 1
               have hfz81_2 := zF BK267.out 2
               have hfz81_3 := zF BK267.out 3
               have p299 : 0 ≤ (x16_3 : Int) := of_decide_eq_true (by first | (with_reducible assumption) | assumption)
               have q299 : x16_3 < (l0_3.length : Int) := of_decide_eq_true (by first | (with_reducible assumption) | assumption)
               obtain ⟨ad299, e299, hx299_0, hx299_1, hx299_2⟩ := at_T48 HR0_3.out x16_3 p299 q299
               cases e299
               replace hx299_0 := (HB.out.cell (World.block_lt_of_cell? w _ hx299_0)).trans hx299_0
               replace hx299_1 := (HB.out.cell (World.block_lt_of_cell? w _ hx299_1)).trans hx299_1
               replace hx299_2 := (HB.out.cell (World.block_lt_of_cell? w _ hx299_2)).trans hx299_2
               replace p299 := eq_true p299
               replace q299 := eq_true q299
               have p300 : 0 ≤ (x16_3 : Int) := of_decide_eq_true (by first | (with_reducible assumption) | assumption)
               have q300 : x16_3 < (l0_3.length : Int) := of_decide_eq_true (by first | (with_reducible assumption) | assumption)
               obtain ⟨ad300, e300, hx300_0, hx300_1, hx300_2⟩ := at_T48 HR0_3.out x16_3 p300 q300
               obtain rfl : ad299 = ad300 := (by injection e300)
               replace hx300_0 := (HB.out.cell (World.block_lt_of_cell? w _ hx300_0)).trans hx300_0
               replace hx300_1 := (HB.out.cell (World.block_lt_of_cell? w _ hx300_1)).trans hx300_1
               replace hx300_2 := (HB.out.cell (World.block_lt_of_cell? w _ hx300_2)).trans hx300_2
               replace p300 := eq_true p300
               replace q300 := eq_true q300
               go_wp2
               go_roundg k3
               case measure => have := HJ11.out; have := HK2.out; have := HK3.out; omega
               case rel => exact ⟨(wrap64 (x16_3 + 1)), (by first | rfl | (simp; done) | (simp [*]; done)), H', ⟨by have := HJ11.out; have := HK2.out; have := HK3.out; omega⟩, ⟨by (with_reducible repeat (first | apply Kd.R_alloc | apply Kd.R_drewN | apply Kd.R_drew)); exact HO_278003.out⟩, ⟨by (with_reducible repeat (first | apply Kd.R_alloc | apply Kd.R_drewN | apply Kd.R_drew)); exact HO_286003.out⟩, ⟨by (with_reducible repeat (first | refine zN ?_ _ | refine zD ?_ | refine zA ?_ _)); exact BK267.out⟩, ⟨by (with_reducible repeat (first | refine zN ?_ _ | refine zD ?_ | refine zA ?_ _)); exact BK277.out⟩, ⟨by (with_reducible repeat (first | refine zN ?_ _ | refine zD ?_ | refine zA ?_ _)); exact BK285.out⟩, ⟨by repeat (first | (with_reducible first | exact HB.out | apply yA | apply yN | apply yD | refine yS ?_ GE267.out | refine yS ?_ GE277.out | refine yS ?_ GE285.out) | exact HB.out)⟩⟩
            ·rw [if_neg c70] at H
             exact absurd H (by simp)
           ·rw [if_neg c69] at H
            have c69b0 : decide (x16_3 < (l0_3.length : Int)) = false := decide_eq_false c69
            clear c69
            replace H := Option.bind_eq_some_iff.mp H
            obtain ⟨⟨t301, t302⟩, A820, H⟩ := H
            replace H : ((gangsawref14_Seen.f k3 a0_0 a0_1 a0_2 l0_3 a2).bind fun bt303 => (if t301 = bt303.1 then (some (t302 == bt303.2)) else (some false))) = some r := H
            have A82 := aK A820
            clear A820
            replace H := Option.bind_eq_some_iff.mp H
            obtain ⟨⟨t303, t304⟩, A830, H⟩ := H
            replace H : (if t301 = t303 then (some (t302 == t304)) else (some false)) = some r := H
            have A83 := aK A830
            clear A830
            by_cases c84 : t301 = t303
            ·rw [if_pos c84] at H
             have c84b0 : (t301 == t303) = true := beq_iff_eq.mpr c84
             have c84b1 : (t301 != t303) = false := bne_eq_false_iff_eq.mpr c84
             clear c84
             obtain rfl := Option.some.inj H
             simp only [Option.some.injEq, Prod.mk.injEq] at H
             obtain ⟨rfl⟩ := H
             have hnb85 := NB267_277.out
             have hnc85 := NB277_267.out
             have hnb86 := NB267_285.out
             have hnc86 := NB285_267.out
             have hcz87_0 := zI BK267 0 rfl
             have hcz87_1 := zI BK267 1 rfl
             have hcz87_2 := zI BK267 2 rfl
             have hcz87_3 := zI BK267 3 rfl
             have hfz87_0 := zF BK267.out 0
             have hfz87_1 := zF BK267.out 1
             have hfz87_2 := zF BK267.out 2
             have hfz87_3 := zF BK267.out 3
             go_wp2_with (first | ((with_reducible refine gate_callee (f := 24) rfl ?_); refine goesL_ (some 117) rfl rfl Tryz.func24 (by kernel_rfl) rfl #[.agg #[.string a0_0, .int .i64 a0_1, .int .i64 a0_2, .slice A0_3 l0_3.length c0_3], .int .i64 a2] rfl (by (try simp only [List.map_toArray, List.map_cons, List.map_nil]); first | done | rfl | (simp only [List.length_drop, List.length_take]; rfl)) ?_; (with_reducible refine (boring_Seen.calls k3 a0_0 a0_1 a0_2 _ _ l0_3 a2 t301 t302 _ ?side1 ?side2 A82.out).mono ?_); (case side1 => repeat (first | exact (Kd.C_below HR0_3.out HB.out) | (with_reducible refine Kd.C_alloc ?_ _) | (with_reducible refine Kd.C_drewN ?_ _) | (with_reducible refine Kd.C_drew ?_))); (case side2 => exact HC0_3.out); rintro e w88 ⟨rfl, hb⟩; refine ⟨_, rfl, ?_⟩; have n0_ := aK (Kd.R_below (by (with_reducible repeat (first | apply Kd.R_alloc | apply Kd.R_drewN | apply Kd.R_drew)); exact HO_278003.out) hb); have n1_ := aK (Kd.R_below (by (with_reducible repeat (first | apply Kd.R_alloc | apply Kd.R_drewN | apply Kd.R_drew)); exact HO_286003.out) hb); have n2_ := zG BK267 hb (fun h => by (with_reducible repeat (first | refine zN ?_ _ | refine zD ?_ | refine zA ?_ _)); exact h); have n3_ := zG BK277 hb (fun h => by (with_reducible repeat (first | refine zN ?_ _ | refine zD ?_ | refine zA ?_ _)); exact h); have n4_ := zG BK285 hb (fun h => by (with_reducible repeat (first | refine zN ?_ _ | refine zD ?_ | refine zA ?_ _)); exact h); have n5_ := aK (yT (by repeat (first | (with_reducible first | exact HB.out | apply yA | apply yN | apply yD | refine yS ?_ GE267.out | refine yS ?_ GE277.out | refine yS ?_ GE285.out) | exact HB.out)) hb); clear HO_278003; clear HO_286003; clear BK267; clear BK277; clear BK285; clear HB; have HO_278003 := n0_; have HO_286003 := n1_; have BK267 := n2_; have BK277 := n3_; have BK285 := n4_; have HB := n5_; clear n0_ n1_ n2_ n3_ n4_ n5_; (try clear hb); (try clear hb2); (try clear hk); (try clear hi); have hcz89_0 := zI BK267 0 rfl; have hcz89_1 := zI BK267 1 rfl; have hcz89_2 := zI BK267 2 rfl; have hcz89_3 := zI BK267 3 rfl; have hfz89_0 := zF BK267.out 0; have hfz89_1 := zF BK267.out 1; have hfz89_2 := zF BK267.out 2; have hfz89_3 := zF BK267.out 3) | ((with_reducible refine gate_callee (f := 25) rfl ?_); refine goesL_ (some 123) rfl rfl Tryz.func25 (by kernel_rfl) rfl #[.agg #[.string a0_0, .int .i64 a0_1, .int .i64 a0_2, .slice A0_3 l0_3.length c0_3], .int .i64 a2] rfl (by (try simp only [List.map_toArray, List.map_cons, List.map_nil]); first | done | rfl | (simp only [List.length_drop, List.length_take]; rfl)) ?_; (with_reducible refine (gangsawref14_Seen.calls k3 a0_0 a0_1 a0_2 _ _ l0_3 a2 t303 t304 _ ?side1 ?side2 A83.out).mono ?_); (case side1 => repeat (first | exact (Kd.C_below HR0_3.out HB.out) | (with_reducible refine Kd.C_alloc ?_ _) | (with_reducible refine Kd.C_drewN ?_ _) | (with_reducible refine Kd.C_drew ?_))); (case side2 => exact HC0_3.out); rintro e w90 ⟨rfl, hb⟩; refine ⟨_, rfl, ?_⟩; have n0_ := aK (Kd.R_below (by (with_reducible repeat (first | apply Kd.R_alloc | apply Kd.R_drewN | apply Kd.R_drew)); exact HO_278003.out) hb); have n1_ := aK (Kd.R_below (by (with_reducible repeat (first | apply Kd.R_alloc | apply Kd.R_drewN | apply Kd.R_drew)); exact HO_286003.out) hb); have n2_ := zG BK267 hb (fun h => by (with_reducible repeat (first | refine zN ?_ _ | refine zD ?_ | refine zA ?_ _)); exact h); have n3_ := zG BK277 hb (fun h => by (with_reducible repeat (first | refine zN ?_ _ | refine zD ?_ | refine zA ?_ _)); exact h); have n4_ := zG BK285 hb (fun h => by (with_reducible repeat (first | refine zN ?_ _ | refine zD ?_ | refine zA ?_ _)); exact h); have n5_ := aK (yT (by repeat (first | (with_reducible first | exact HB.out | apply yA | apply yN | apply yD | refine yS ?_ GE267.out | refine yS ?_ GE277.out | refine yS ?_ GE285.out) | exact HB.out)) hb); clear HO_278003; clear HO_286003; clear BK267; clear BK277; clear BK285; clear HB; have HO_278003 := n0_; have HO_286003 := n1_; have BK267 := n2_; have BK277 := n3_; have BK285 := n4_; have HB := n5_; clear n0_ n1_ n2_ n3_ n4_ n5_; (try clear hb); (try clear hb2); (try clear hk); (try clear hi)))
             go_ret
             exact ⟨by first | rfl | (simp [errW_none, errW_some] <;> rfl) | (simp [*, errW_none, errW_some] <;> rfl), by repeat (first | (with_reducible first | exact HB.out | apply yA | apply yN | apply yD | refine yS ?_ GE267.out | refine yS ?_ GE277.out | refine yS ?_ GE285.out) | exact HB.out)⟩
            ·rw [if_neg c84] at H
             have c84b0 : (t301 == t303) = false := beq_eq_false_iff_ne.mpr c84
             have c84b1 : (t301 != t303) = true := bne_iff_ne.mpr c84
             obtain rfl := Option.some.inj H
             exact absurd hr (by decide)
  ·replace c7 := Bool.eq_false_iff.mpr c7
   subst c7
   have H1 : (some true) = some r := by rw [if_neg (show ¬ (false = true) by decide)] at H; exact H
   clear H
   have H := H1
   clear H1
   obtain rfl := Option.some.inj H
   simp only [Option.some.injEq, Prod.mk.injEq] at H
   obtain ⟨rfl⟩ := H
   go_enter Tryz.func4, Tryz.ntmps4
   go_wp2_with (first | ((with_reducible refine gate_dst (N := 3) rfl ?_); (try (refine gate_guard (by rfl) ?_; dsimp only)); refine box_event ?hg (N := 3) ?hd (cs := #[.string a0_0, .int .i64 a0_1, .int .i64 a0_2, .slice A0_3 l0_3.length c0_3]) (t := 33) ?hr ?_; (case hd => rfl); (case hg => rfl); (case hr => first | (go_simp; done) | (go_simp; rfl)); intro gb267 hg w91 hbox hb; have ⟨n0_, n2_⟩ := zV (w := w) hb hg (by repeat (first | (with_reducible first | exact HB.out | apply yA | apply yN | apply yD) | exact HB.out)); have n1_ := aK (hbox); have n3_ := n2_; clear HB; have HB := n0_; have BK267 := n1_; have GW267 := n2_; have GE267 := n3_; clear n0_ n1_ n2_ n3_; clear hb hbox hg) | ((with_reducible refine gate_callee (f := 11) rfl ?_); refine goesL_ (some 21) rfl rfl Tryz.func11 (by kernel_rfl) rfl #[] rfl (by (try simp only [List.map_toArray, List.map_cons, List.map_nil]); first | done | rfl | (simp only [List.length_drop, List.length_take]; rfl)) ?_; (with_reducible refine (gangsawlaw14_awake.calls  true _ A4.out).mono ?_); rintro e w92 ⟨rfl, hb⟩; refine ⟨_, rfl, ?_⟩; have n0_ := zG BK267 hb (fun h => by (with_reducible repeat (first | refine zN ?_ _ | refine zD ?_ | refine zA ?_ _)); exact h); have n1_ := aK (yT (by repeat (first | (with_reducible first | exact HB.out | apply yA | apply yN | apply yD | refine yS ?_ GE267.out) | exact HB.out)) hb); clear BK267; clear HB; have BK267 := n0_; have HB := n1_; clear n0_ n1_; (try clear hb); (try clear hb2); (try clear hk); (try clear hi); have hcz93_0 := zI BK267 0 rfl; have hcz93_1 := zI BK267 1 rfl; have hcz93_2 := zI BK267 2 rfl; have hcz93_3 := zI BK267 3 rfl; have hfz93_0 := zF BK267.out 0; have hfz93_1 := zF BK267.out 1; have hfz93_2 := zF BK267.out 2; have hfz93_3 := zF BK267.out 3) | ((with_reducible refine gate_callee (f := 12) rfl ?_); refine goesL_ (some 24) rfl rfl Tryz.func12 (by kernel_rfl) rfl #[.agg #[.string a0_0, .int .i64 a0_1, .int .i64 a0_2, .slice A0_3 l0_3.length c0_3]] rfl (by (try simp only [List.map_toArray, List.map_cons, List.map_nil]); first | done | rfl | (simp only [List.length_drop, List.length_take]; rfl)) ?_; (with_reducible refine (gangsawref14_Small.calls a0_0 a0_1 a0_2 _ _ l0_3 false _ ?side1 ?side2 A6.out).mono ?_); (case side1 => repeat (first | exact (Kd.C_below HR0_3.out HB.out) | (with_reducible refine Kd.C_alloc ?_ _) | (with_reducible refine Kd.C_drewN ?_ _) | (with_reducible refine Kd.C_drew ?_))); (case side2 => exact HC0_3.out); rintro e w94 ⟨rfl, hb⟩; refine ⟨_, rfl, ?_⟩; have n0_ := zG BK267 hb (fun h => by (with_reducible repeat (first | refine zN ?_ _ | refine zD ?_ | refine zA ?_ _)); exact h); have n1_ := aK (yT (by repeat (first | (with_reducible first | exact HB.out | apply yA | apply yN | apply yD | refine yS ?_ GE267.out) | exact HB.out)) hb); clear BK267; clear HB; have BK267 := n0_; have HB := n1_; clear n0_ n1_; (try clear hb); (try clear hb2); (try clear hk); (try clear hi)))
   go_ret
   exact ⟨by first | rfl | (simp [errW_none, errW_some] <;> rfl) | (simp [*, errW_none, errW_some] <;> rfl), by repeat (first | (with_reducible first | exact HB.out | apply yA | apply yN | apply yD | refine yS ?_ GE267.out) | exact HB.out)⟩
 ·replace c5 := Bool.eq_false_iff.mpr c5
  subst c5
  have H1 : (some false) = some r := by rw [if_neg (show ¬ (false = true) by decide)] at H; exact H
  clear H
  have H := H1
  clear H1
  obtain rfl := Option.some.inj H
  exact absurd hr (by decide)

end Go.Proofs.YtfedmcehkpfciaaGreat.P
