/- What functions of the program return: each contract says so of one function, for every input at which its pure function yields. -/
import Derived.Test.YtnaahepnabmibaaGreatDoorPx0
import Derived.Test.YtnaahepnabmibaaGreatDoorPx4
import Derived.Test.YtnaahepnabmibaaGreatDoorPx6
import Derived.Test.YtnaahepnabmibaaGreatDoorPx7
import Derived.Test.YtnaahepnabmibaaGreatDoorAwk
import Derived.Test.YtnaahepnabmibaaGreatDoorTurn
namespace Go.Proofs.YtnaahepnabmibaaGreatDoor.P
open Go.RowKit Go.Proofs.YtnaahepnabmibaaGreatDoorW.PrintWords Go.Proofs.YtnaahepnabmibaaGreatDoorW.PrintLast Go.Proofs.YtnaahepnabmibaaGreatDoorW.PrintMore
attribute [local go_sem] max2_int min2_int max_two min_two max_three min_three max_four min_four   -- for this text's walks alone
set_option linter.unusedVariables false
set_option linter.unusedSimpArgs false

open Go.Proofs.YtnaahepnabmibaaGreatDoor.Awk Go.Proofs.YtnaahepnabmibaaGreatDoor.Turn
def gangsawlaw30_SlabFaces.f (k : Nat) (a0_0 : ByteArray) (a0_1 : ByteArray) (a0_2 : Int) (a0_3 : Int) (a0_4 : Int) (a0_5 : Int) (a0_6 : Int) (a0_7 : Int) (a0_8 : Int) (a0_9 : Int) (l0_10 : List Int) (l0_11 : List Int) : Option (Bool) := (gangsawlaw30_awake.f).bind fun t172 => (if t172 = true then ((gangsawref30_Small.f a0_0 a0_1 a0_2 a0_3 a0_4 a0_5 a0_6 a0_7 a0_8 a0_9 l0_10 l0_11).bind fun t173 => (if t173 = true then ((slab_Area.f a0_0 a0_1 a0_2 a0_3 a0_4 a0_5 a0_6 a0_7 a0_8 a0_9 l0_10 l0_11).bind fun bt174 => ((gangsawref30_Area.f k a0_0 a0_1 a0_2 a0_3 a0_4 a0_5 a0_6 a0_7 a0_8 a0_9 l0_10 l0_11).bind fun bt176 => ((slab_Turn.f k a0_0 a0_1 a0_2 a0_3 a0_4 a0_5 a0_6 a0_7 a0_8 a0_9 l0_10 l0_11).bind fun bt178 => (if bt174.1 = bt176.1 then (if bt174.2 = bt176.2 then ((gangsawref30_Turn.f a0_0 a0_1 a0_2 a0_3 a0_4 a0_5 a0_6 a0_7 a0_8 a0_9 l0_10 l0_11).bind fun bt195 => ((gangsawref30_Equal.f k bt178.1 bt178.2.1 bt178.2.2.1 bt178.2.2.2.1 bt178.2.2.2.2.1 bt178.2.2.2.2.2.1 bt178.2.2.2.2.2.2.1 bt178.2.2.2.2.2.2.2.1 bt178.2.2.2.2.2.2.2.2.1 bt178.2.2.2.2.2.2.2.2.2.1 bt178.2.2.2.2.2.2.2.2.2.2.1 bt178.2.2.2.2.2.2.2.2.2.2.2 bt195.1 bt195.2.1 bt195.2.2.1 bt195.2.2.2.1 bt195.2.2.2.2.1 bt195.2.2.2.2.2.1 bt195.2.2.2.2.2.2.1 bt195.2.2.2.2.2.2.2.1 bt195.2.2.2.2.2.2.2.2.1 bt195.2.2.2.2.2.2.2.2.2 l0_11 l0_10).bind fun t205 => (if t205 = true then ((slab_Turn.f k bt178.1 bt178.2.1 bt178.2.2.1 bt178.2.2.2.1 bt178.2.2.2.2.1 bt178.2.2.2.2.2.1 bt178.2.2.2.2.2.2.1 bt178.2.2.2.2.2.2.2.1 bt178.2.2.2.2.2.2.2.2.1 bt178.2.2.2.2.2.2.2.2.2.1 bt178.2.2.2.2.2.2.2.2.2.2.1 bt178.2.2.2.2.2.2.2.2.2.2.2).bind fun bt206 => ((gangsawref30_Equal.f k bt206.1 bt206.2.1 bt206.2.2.1 bt206.2.2.2.1 bt206.2.2.2.2.1 bt206.2.2.2.2.2.1 bt206.2.2.2.2.2.2.1 bt206.2.2.2.2.2.2.2.1 bt206.2.2.2.2.2.2.2.2.1 bt206.2.2.2.2.2.2.2.2.2.1 bt206.2.2.2.2.2.2.2.2.2.2.1 bt206.2.2.2.2.2.2.2.2.2.2.2 a0_0 a0_1 a0_2 a0_3 a0_4 a0_5 a0_6 a0_7 a0_8 a0_9 l0_10 l0_11).bind fun t222 => (some t222))) else (some false)))) else (some false)) else (some false))))) else (some true))) else (some false))
theorem gangsawlaw30_SlabFaces.mono : ∀ a0 a1 a2 a3 a4 a5 a6 a7 a8 a9 a10 a11 k, LeO (gangsawlaw30_SlabFaces.f k a0 a1 a2 a3 a4 a5 a6 a7 a8 a9 a10 a11) (gangsawlaw30_SlabFaces.f (k + 1) a0 a1 a2 a3 a4 a5 a6 a7 a8 a9 a10 a11) := by
 intro a0 a1 a2 a3 a4 a5 a6 a7 a8 a9 a10 a11 k
 unfold gangsawlaw30_SlabFaces.f
 repeat' first
   | (with_reducible exact gangsawref30_Area.mono _ _ _ _ _ _ _ _ _ _ _ _ _)
   | (with_reducible exact gangsawref30_Equal.mono _ _ _ _ _ _ _ _ _ _ _ _ _ _ _ _ _ _ _ _ _ _ _ _ _)
   | (with_reducible exact slab_Turn.mono _ _ _ _ _ _ _ _ _ _ _ _ _)
   | (with_reducible exact LeO.refl _)
   | (with_reducible exact LeO.none _)
   | (with_reducible refine LeO.ite ?_ ?_)
   | (with_reducible refine LeO.bind ?_ (fun _ => ?_))
   | exact gangsawref30_Area.mono _ _ _ _ _ _ _ _ _ _ _ _ _
   | exact gangsawref30_Equal.mono _ _ _ _ _ _ _ _ _ _ _ _ _ _ _ _ _ _ _ _ _ _ _ _ _
   | exact slab_Turn.mono _ _ _ _ _ _ _ _ _ _ _ _ _
   | exact LeO.none _
   | refine LeO.ite ?_ ?_
   | refine LeO.bind ?_ (fun _ => ?_)
def gangsawlaw30_SlabFaces.T8 : Bool × List (List Nat × List Nat) := (true, [([], []), ([], []), ([0, 1], [0, 1]), ([2], [2]), ([3], [3]), ([3], [3]), ([4, 5, 3], [3, 4, 5]), ([3, 6], [3, 6]), ([7, 3], [7]), ([8], [8]), ([8], [8]), ([10, 8, 8], [8, 10]), ([9, 11, 11, 8], [8, 9, 11]), ([8, 12], [8, 12]), ([13, 12], [13]), ([14], [14]), ([15, 14, 14], [14, 15]), ([14], [14]), ([16, 17, 16, 14], [14, 16, 17]), ([14, 18], [14, 18]), ([19, 18, 0, 1, 2, 3, 4, 5, 6, 7, 8, 9, 10, 11, 12, 13, 14, 15, 16, 17, 18, 19], [19])])
def gangsawlaw30_SlabFaces.B8 : List Nat := [0, 0, 3, 7, 15, 15, 63, 127, 255, 511, 511, 1535, 4095, 8191, 16383, 32767, 65535, 32767, 262143, 524287, 1048575]
theorem gangsawlaw30_SlabFaces.tab8 : rtab .any (opsOf Tryz.f7 8) = gangsawlaw30_SlabFaces.T8 := by kernel_rfl
theorem gangsawlaw30_SlabFaces.bits8 : waitsOk gangsawlaw30_SlabFaces.T8.2 gangsawlaw30_SlabFaces.B8 = true := by kernel_rfl
set_option maxHeartbeats 8000000 in
set_option maxRecDepth 100000 in
theorem gangsawlaw30_SlabFaces.calls (k : Nat) (a0_0 : ByteArray) (a0_1 : ByteArray) (a0_2 : Int) (a0_3 : Int) (a0_4 : Int) (a0_5 : Int) (a0_6 : Int) (a0_7 : Int) (a0_8 : Int) (a0_9 : Int) (A0_10 : Option Addr) (c0_10 : Nat) (l0_10 : List Int) (A0_11 : Option Addr) (c0_11 : Nat) (l0_11 : List Int) (r : Bool) (w : World) {w0 : World} (hf0 : LaidAt w0) (hb0 : Below w0.heap.size w0 w) (hr0_10 : Kd.C (Kd.int .i64) w A0_10 l0_10.length l0_10) (hc0_10 : l0_10.length ≤ c0_10) (hr0_11 : Kd.C (Kd.int .i64) w A0_11 l0_11.length l0_11) (hc0_11 : l0_11.length ≤ c0_11) (h : gangsawlaw30_SlabFaces.f k a0_0 a0_1 a0_2 a0_3 a0_4 a0_5 a0_6 a0_7 a0_8 a0_9 l0_10 l0_11 = some r) (hr : r = true) :
  Calls Tryz.prog 7 #[.agg #[.string a0_0, .string a0_1, .int .i64 a0_2, .int .i64 a0_3, .int .i64 a0_4, .int .i64 a0_5, .int .i64 a0_6, .int .i64 a0_7, .int .i64 a0_8, .int .i64 a0_9, .slice A0_10 l0_10.length c0_10, .slice A0_11 l0_11.length c0_11]] w fun e w' => e = .returned (.bool r) ∧ Below w.heap.size w w' := by
 have HLD := Aside0.mk (hf0.below hb0)
 clear hf0 hb0
 have hu35 := Tryz.underlying35
 have HR0_10 := Aside0.mk hr0_10
 have HC0_10 := Aside0.mk hc0_10
 clear hr0_10 hc0_10
 have HR0_11 := Aside0.mk hr0_11
 have HC0_11 := Aside0.mk hc0_11
 clear hr0_11 hc0_11
 have HB := Aside0.mk (Below.refl w.heap.size w)
 have H : ((gangsawlaw30_awake.f).bind fun t172 => (if t172 = true then ((gangsawref30_Small.f a0_0 a0_1 a0_2 a0_3 a0_4 a0_5 a0_6 a0_7 a0_8 a0_9 l0_10 l0_11).bind fun t173 => (if t173 = true then ((slab_Area.f a0_0 a0_1 a0_2 a0_3 a0_4 a0_5 a0_6 a0_7 a0_8 a0_9 l0_10 l0_11).bind fun bt174 => ((gangsawref30_Area.f k a0_0 a0_1 a0_2 a0_3 a0_4 a0_5 a0_6 a0_7 a0_8 a0_9 l0_10 l0_11).bind fun bt176 => ((slab_Turn.f k a0_0 a0_1 a0_2 a0_3 a0_4 a0_5 a0_6 a0_7 a0_8 a0_9 l0_10 l0_11).bind fun bt178 => (if bt174.1 = bt176.1 then (if bt174.2 = bt176.2 then ((gangsawref30_Turn.f a0_0 a0_1 a0_2 a0_3 a0_4 a0_5 a0_6 a0_7 a0_8 a0_9 l0_10 l0_11).bind fun bt195 => ((gangsawref30_Equal.f k bt178.1 bt178.2.1 bt178.2.2.1 bt178.2.2.2.1 bt178.2.2.2.2.1 bt178.2.2.2.2.2.1 bt178.2.2.2.2.2.2.1 bt178.2.2.2.2.2.2.2.1 bt178.2.2.2.2.2.2.2.2.1 bt178.2.2.2.2.2.2.2.2.2.1 bt178.2.2.2.2.2.2.2.2.2.2.1 bt178.2.2.2.2.2.2.2.2.2.2.2 bt195.1 bt195.2.1 bt195.2.2.1 bt195.2.2.2.1 bt195.2.2.2.2.1 bt195.2.2.2.2.2.1 bt195.2.2.2.2.2.2.1 bt195.2.2.2.2.2.2.2.1 bt195.2.2.2.2.2.2.2.2.1 bt195.2.2.2.2.2.2.2.2.2 l0_11 l0_10).bind fun t205 => (if t205 = true then ((slab_Turn.f k bt178.1 bt178.2.1 bt178.2.2.1 bt178.2.2.2.1 bt178.2.2.2.2.1 bt178.2.2.2.2.2.1 bt178.2.2.2.2.2.2.1 bt178.2.2.2.2.2.2.2.1 bt178.2.2.2.2.2.2.2.2.1 bt178.2.2.2.2.2.2.2.2.2.1 bt178.2.2.2.2.2.2.2.2.2.2.1 bt178.2.2.2.2.2.2.2.2.2.2.2).bind fun bt206 => ((gangsawref30_Equal.f k bt206.1 bt206.2.1 bt206.2.2.1 bt206.2.2.2.1 bt206.2.2.2.2.1 bt206.2.2.2.2.2.1 bt206.2.2.2.2.2.2.1 bt206.2.2.2.2.2.2.2.1 bt206.2.2.2.2.2.2.2.2.1 bt206.2.2.2.2.2.2.2.2.2.1 bt206.2.2.2.2.2.2.2.2.2.2.1 bt206.2.2.2.2.2.2.2.2.2.2.2 a0_0 a0_1 a0_2 a0_3 a0_4 a0_5 a0_6 a0_7 a0_8 a0_9 l0_10 l0_11).bind fun t222 => (some t222))) else (some false)))) else (some false)) else (some false))))) else (some true))) else (some false))) = some r := h
 clear h
 replace H := Option.bind_eq_some_iff.mp H
 obtain ⟨t172, A20, H⟩ := H
 replace H : (if t172 = true then ((gangsawref30_Small.f a0_0 a0_1 a0_2 a0_3 a0_4 a0_5 a0_6 a0_7 a0_8 a0_9 l0_10 l0_11).bind fun t173 => (if t173 = true then ((slab_Area.f a0_0 a0_1 a0_2 a0_3 a0_4 a0_5 a0_6 a0_7 a0_8 a0_9 l0_10 l0_11).bind fun bt174 => ((gangsawref30_Area.f k a0_0 a0_1 a0_2 a0_3 a0_4 a0_5 a0_6 a0_7 a0_8 a0_9 l0_10 l0_11).bind fun bt176 => ((slab_Turn.f k a0_0 a0_1 a0_2 a0_3 a0_4 a0_5 a0_6 a0_7 a0_8 a0_9 l0_10 l0_11).bind fun bt178 => (if bt174.1 = bt176.1 then (if bt174.2 = bt176.2 then ((gangsawref30_Turn.f a0_0 a0_1 a0_2 a0_3 a0_4 a0_5 a0_6 a0_7 a0_8 a0_9 l0_10 l0_11).bind fun bt195 => ((gangsawref30_Equal.f k bt178.1 bt178.2.1 bt178.2.2.1 bt178.2.2.2.1 bt178.2.2.2.2.1 bt178.2.2.2.2.2.1 bt178.2.2.2.2.2.2.1 bt178.2.2.2.2.2.2.2.1 bt178.2.2.2.2.2.2.2.2.1 bt178.2.2.2.2.2.2.2.2.2.1 bt178.2.2.2.2.2.2.2.2.2.2.1 bt178.2.2.2.2.2.2.2.2.2.2.2 bt195.1 bt195.2.1 bt195.2.2.1 bt195.2.2.2.1 bt195.2.2.2.2.1 bt195.2.2.2.2.2.1 bt195.2.2.2.2.2.2.1 bt195.2.2.2.2.2.2.2.1 bt195.2.2.2.2.2.2.2.2.1 bt195.2.2.2.2.2.2.2.2.2 l0_11 l0_10).bind fun t205 => (if t205 = true then ((slab_Turn.f k bt178.1 bt178.2.1 bt178.2.2.1 bt178.2.2.2.1 bt178.2.2.2.2.1 bt178.2.2.2.2.2.1 bt178.2.2.2.2.2.2.1 bt178.2.2.2.2.2.2.2.1 bt178.2.2.2.2.2.2.2.2.1 bt178.2.2.2.2.2.2.2.2.2.1 bt178.2.2.2.2.2.2.2.2.2.2.1 bt178.2.2.2.2.2.2.2.2.2.2.2).bind fun bt206 => ((gangsawref30_Equal.f k bt206.1 bt206.2.1 bt206.2.2.1 bt206.2.2.2.1 bt206.2.2.2.2.1 bt206.2.2.2.2.2.1 bt206.2.2.2.2.2.2.1 bt206.2.2.2.2.2.2.2.1 bt206.2.2.2.2.2.2.2.2.1 bt206.2.2.2.2.2.2.2.2.2.1 bt206.2.2.2.2.2.2.2.2.2.2.1 bt206.2.2.2.2.2.2.2.2.2.2.2 a0_0 a0_1 a0_2 a0_3 a0_4 a0_5 a0_6 a0_7 a0_8 a0_9 l0_10 l0_11).bind fun t222 => (some t222))) else (some false)))) else (some false)) else (some false))))) else (some true))) else (some false)) = some r := H
 have A2 := Aside0.mk A20
 clear A20
 by_cases c3 : t172 = true
 ·subst c3
  have H1 : ((gangsawref30_Small.f a0_0 a0_1 a0_2 a0_3 a0_4 a0_5 a0_6 a0_7 a0_8 a0_9 l0_10 l0_11).bind fun t173 => (if t173 = true then ((slab_Area.f a0_0 a0_1 a0_2 a0_3 a0_4 a0_5 a0_6 a0_7 a0_8 a0_9 l0_10 l0_11).bind fun bt174 => ((gangsawref30_Area.f k a0_0 a0_1 a0_2 a0_3 a0_4 a0_5 a0_6 a0_7 a0_8 a0_9 l0_10 l0_11).bind fun bt176 => ((slab_Turn.f k a0_0 a0_1 a0_2 a0_3 a0_4 a0_5 a0_6 a0_7 a0_8 a0_9 l0_10 l0_11).bind fun bt178 => (if bt174.1 = bt176.1 then (if bt174.2 = bt176.2 then ((gangsawref30_Turn.f a0_0 a0_1 a0_2 a0_3 a0_4 a0_5 a0_6 a0_7 a0_8 a0_9 l0_10 l0_11).bind fun bt195 => ((gangsawref30_Equal.f k bt178.1 bt178.2.1 bt178.2.2.1 bt178.2.2.2.1 bt178.2.2.2.2.1 bt178.2.2.2.2.2.1 bt178.2.2.2.2.2.2.1 bt178.2.2.2.2.2.2.2.1 bt178.2.2.2.2.2.2.2.2.1 bt178.2.2.2.2.2.2.2.2.2.1 bt178.2.2.2.2.2.2.2.2.2.2.1 bt178.2.2.2.2.2.2.2.2.2.2.2 bt195.1 bt195.2.1 bt195.2.2.1 bt195.2.2.2.1 bt195.2.2.2.2.1 bt195.2.2.2.2.2.1 bt195.2.2.2.2.2.2.1 bt195.2.2.2.2.2.2.2.1 bt195.2.2.2.2.2.2.2.2.1 bt195.2.2.2.2.2.2.2.2.2 l0_11 l0_10).bind fun t205 => (if t205 = true then ((slab_Turn.f k bt178.1 bt178.2.1 bt178.2.2.1 bt178.2.2.2.1 bt178.2.2.2.2.1 bt178.2.2.2.2.2.1 bt178.2.2.2.2.2.2.1 bt178.2.2.2.2.2.2.2.1 bt178.2.2.2.2.2.2.2.2.1 bt178.2.2.2.2.2.2.2.2.2.1 bt178.2.2.2.2.2.2.2.2.2.2.1 bt178.2.2.2.2.2.2.2.2.2.2.2).bind fun bt206 => ((gangsawref30_Equal.f k bt206.1 bt206.2.1 bt206.2.2.1 bt206.2.2.2.1 bt206.2.2.2.2.1 bt206.2.2.2.2.2.1 bt206.2.2.2.2.2.2.1 bt206.2.2.2.2.2.2.2.1 bt206.2.2.2.2.2.2.2.2.1 bt206.2.2.2.2.2.2.2.2.2.1 bt206.2.2.2.2.2.2.2.2.2.2.1 bt206.2.2.2.2.2.2.2.2.2.2.2 a0_0 a0_1 a0_2 a0_3 a0_4 a0_5 a0_6 a0_7 a0_8 a0_9 l0_10 l0_11).bind fun t222 => (some t222))) else (some false)))) else (some false)) else (some false))))) else (some true))) = some r := by rw [if_pos rfl] at H; exact H
  clear H
  have H := H1
  clear H1
  replace H := Option.bind_eq_some_iff.mp H
  obtain ⟨t173, A40, H⟩ := H
  replace H : (if t173 = true then ((slab_Area.f a0_0 a0_1 a0_2 a0_3 a0_4 a0_5 a0_6 a0_7 a0_8 a0_9 l0_10 l0_11).bind fun bt174 => ((gangsawref30_Area.f k a0_0 a0_1 a0_2 a0_3 a0_4 a0_5 a0_6 a0_7 a0_8 a0_9 l0_10 l0_11).bind fun bt176 => ((slab_Turn.f k a0_0 a0_1 a0_2 a0_3 a0_4 a0_5 a0_6 a0_7 a0_8 a0_9 l0_10 l0_11).bind fun bt178 => (if bt174.1 = bt176.1 then (if bt174.2 = bt176.2 then ((gangsawref30_Turn.f a0_0 a0_1 a0_2 a0_3 a0_4 a0_5 a0_6 a0_7 a0_8 a0_9 l0_10 l0_11).bind fun bt195 => ((gangsawref30_Equal.f k bt178.1 bt178.2.1 bt178.2.2.1 bt178.2.2.2.1 bt178.2.2.2.2.1 bt178.2.2.2.2.2.1 bt178.2.2.2.2.2.2.1 bt178.2.2.2.2.2.2.2.1 bt178.2.2.2.2.2.2.2.2.1 bt178.2.2.2.2.2.2.2.2.2.1 bt178.2.2.2.2.2.2.2.2.2.2.1 bt178.2.2.2.2.2.2.2.2.2.2.2 bt195.1 bt195.2.1 bt195.2.2.1 bt195.2.2.2.1 bt195.2.2.2.2.1 bt195.2.2.2.2.2.1 bt195.2.2.2.2.2.2.1 bt195.2.2.2.2.2.2.2.1 bt195.2.2.2.2.2.2.2.2.1 bt195.2.2.2.2.2.2.2.2.2 l0_11 l0_10).bind fun t205 => (if t205 = true then ((slab_Turn.f k bt178.1 bt178.2.1 bt178.2.2.1 bt178.2.2.2.1 bt178.2.2.2.2.1 bt178.2.2.2.2.2.1 bt178.2.2.2.2.2.2.1 bt178.2.2.2.2.2.2.2.1 bt178.2.2.2.2.2.2.2.2.1 bt178.2.2.2.2.2.2.2.2.2.1 bt178.2.2.2.2.2.2.2.2.2.2.1 bt178.2.2.2.2.2.2.2.2.2.2.2).bind fun bt206 => ((gangsawref30_Equal.f k bt206.1 bt206.2.1 bt206.2.2.1 bt206.2.2.2.1 bt206.2.2.2.2.1 bt206.2.2.2.2.2.1 bt206.2.2.2.2.2.2.1 bt206.2.2.2.2.2.2.2.1 bt206.2.2.2.2.2.2.2.2.1 bt206.2.2.2.2.2.2.2.2.2.1 bt206.2.2.2.2.2.2.2.2.2.2.1 bt206.2.2.2.2.2.2.2.2.2.2.2 a0_0 a0_1 a0_2 a0_3 a0_4 a0_5 a0_6 a0_7 a0_8 a0_9 l0_10 l0_11).bind fun t222 => (some t222))) else (some false)))) else (some false)) else (some false))))) else (some true)) = some r := H
  have A4 := Aside0.mk A40
  clear A40
  by_cases c5 : t173 = true
  ·subst c5
   have H1 : ((slab_Area.f a0_0 a0_1 a0_2 a0_3 a0_4 a0_5 a0_6 a0_7 a0_8 a0_9 l0_10 l0_11).bind fun bt174 => ((gangsawref30_Area.f k a0_0 a0_1 a0_2 a0_3 a0_4 a0_5 a0_6 a0_7 a0_8 a0_9 l0_10 l0_11).bind fun bt176 => ((slab_Turn.f k a0_0 a0_1 a0_2 a0_3 a0_4 a0_5 a0_6 a0_7 a0_8 a0_9 l0_10 l0_11).bind fun bt178 => (if bt174.1 = bt176.1 then (if bt174.2 = bt176.2 then ((gangsawref30_Turn.f a0_0 a0_1 a0_2 a0_3 a0_4 a0_5 a0_6 a0_7 a0_8 a0_9 l0_10 l0_11).bind fun bt195 => ((gangsawref30_Equal.f k bt178.1 bt178.2.1 bt178.2.2.1 bt178.2.2.2.1 bt178.2.2.2.2.1 bt178.2.2.2.2.2.1 bt178.2.2.2.2.2.2.1 bt178.2.2.2.2.2.2.2.1 bt178.2.2.2.2.2.2.2.2.1 bt178.2.2.2.2.2.2.2.2.2.1 bt178.2.2.2.2.2.2.2.2.2.2.1 bt178.2.2.2.2.2.2.2.2.2.2.2 bt195.1 bt195.2.1 bt195.2.2.1 bt195.2.2.2.1 bt195.2.2.2.2.1 bt195.2.2.2.2.2.1 bt195.2.2.2.2.2.2.1 bt195.2.2.2.2.2.2.2.1 bt195.2.2.2.2.2.2.2.2.1 bt195.2.2.2.2.2.2.2.2.2 l0_11 l0_10).bind fun t205 => (if t205 = true then ((slab_Turn.f k bt178.1 bt178.2.1 bt178.2.2.1 bt178.2.2.2.1 bt178.2.2.2.2.1 bt178.2.2.2.2.2.1 bt178.2.2.2.2.2.2.1 bt178.2.2.2.2.2.2.2.1 bt178.2.2.2.2.2.2.2.2.1 bt178.2.2.2.2.2.2.2.2.2.1 bt178.2.2.2.2.2.2.2.2.2.2.1 bt178.2.2.2.2.2.2.2.2.2.2.2).bind fun bt206 => ((gangsawref30_Equal.f k bt206.1 bt206.2.1 bt206.2.2.1 bt206.2.2.2.1 bt206.2.2.2.2.1 bt206.2.2.2.2.2.1 bt206.2.2.2.2.2.2.1 bt206.2.2.2.2.2.2.2.1 bt206.2.2.2.2.2.2.2.2.1 bt206.2.2.2.2.2.2.2.2.2.1 bt206.2.2.2.2.2.2.2.2.2.2.1 bt206.2.2.2.2.2.2.2.2.2.2.2 a0_0 a0_1 a0_2 a0_3 a0_4 a0_5 a0_6 a0_7 a0_8 a0_9 l0_10 l0_11).bind fun t222 => (some t222))) else (some false)))) else (some false)) else (some false))))) = some r := by rw [if_pos rfl] at H; exact H
   clear H
   have H := H1
   clear H1
   replace H := Option.bind_eq_some_iff.mp H
   obtain ⟨⟨t174, t175⟩, A60, H⟩ := H
   replace H : ((gangsawref30_Area.f k a0_0 a0_1 a0_2 a0_3 a0_4 a0_5 a0_6 a0_7 a0_8 a0_9 l0_10 l0_11).bind fun bt176 => ((slab_Turn.f k a0_0 a0_1 a0_2 a0_3 a0_4 a0_5 a0_6 a0_7 a0_8 a0_9 l0_10 l0_11).bind fun bt178 => (if t174 = bt176.1 then (if t175 = bt176.2 then ((gangsawref30_Turn.f a0_0 a0_1 a0_2 a0_3 a0_4 a0_5 a0_6 a0_7 a0_8 a0_9 l0_10 l0_11).bind fun bt195 => ((gangsawref30_Equal.f k bt178.1 bt178.2.1 bt178.2.2.1 bt178.2.2.2.1 bt178.2.2.2.2.1 bt178.2.2.2.2.2.1 bt178.2.2.2.2.2.2.1 bt178.2.2.2.2.2.2.2.1 bt178.2.2.2.2.2.2.2.2.1 bt178.2.2.2.2.2.2.2.2.2.1 bt178.2.2.2.2.2.2.2.2.2.2.1 bt178.2.2.2.2.2.2.2.2.2.2.2 bt195.1 bt195.2.1 bt195.2.2.1 bt195.2.2.2.1 bt195.2.2.2.2.1 bt195.2.2.2.2.2.1 bt195.2.2.2.2.2.2.1 bt195.2.2.2.2.2.2.2.1 bt195.2.2.2.2.2.2.2.2.1 bt195.2.2.2.2.2.2.2.2.2 l0_11 l0_10).bind fun t205 => (if t205 = true then ((slab_Turn.f k bt178.1 bt178.2.1 bt178.2.2.1 bt178.2.2.2.1 bt178.2.2.2.2.1 bt178.2.2.2.2.2.1 bt178.2.2.2.2.2.2.1 bt178.2.2.2.2.2.2.2.1 bt178.2.2.2.2.2.2.2.2.1 bt178.2.2.2.2.2.2.2.2.2.1 bt178.2.2.2.2.2.2.2.2.2.2.1 bt178.2.2.2.2.2.2.2.2.2.2.2).bind fun bt206 => ((gangsawref30_Equal.f k bt206.1 bt206.2.1 bt206.2.2.1 bt206.2.2.2.1 bt206.2.2.2.2.1 bt206.2.2.2.2.2.1 bt206.2.2.2.2.2.2.1 bt206.2.2.2.2.2.2.2.1 bt206.2.2.2.2.2.2.2.2.1 bt206.2.2.2.2.2.2.2.2.2.1 bt206.2.2.2.2.2.2.2.2.2.2.1 bt206.2.2.2.2.2.2.2.2.2.2.2 a0_0 a0_1 a0_2 a0_3 a0_4 a0_5 a0_6 a0_7 a0_8 a0_9 l0_10 l0_11).bind fun t222 => (some t222))) else (some false)))) else (some false)) else (some false)))) = some r := H
   have A6 := Aside0.mk A60
   clear A60
   replace H := Option.bind_eq_some_iff.mp H
   obtain ⟨⟨t176, t177⟩, A70, H⟩ := H
   replace H : ((slab_Turn.f k a0_0 a0_1 a0_2 a0_3 a0_4 a0_5 a0_6 a0_7 a0_8 a0_9 l0_10 l0_11).bind fun bt178 => (if t174 = t176 then (if t175 = t177 then ((gangsawref30_Turn.f a0_0 a0_1 a0_2 a0_3 a0_4 a0_5 a0_6 a0_7 a0_8 a0_9 l0_10 l0_11).bind fun bt195 => ((gangsawref30_Equal.f k bt178.1 bt178.2.1 bt178.2.2.1 bt178.2.2.2.1 bt178.2.2.2.2.1 bt178.2.2.2.2.2.1 bt178.2.2.2.2.2.2.1 bt178.2.2.2.2.2.2.2.1 bt178.2.2.2.2.2.2.2.2.1 bt178.2.2.2.2.2.2.2.2.2.1 bt178.2.2.2.2.2.2.2.2.2.2.1 bt178.2.2.2.2.2.2.2.2.2.2.2 bt195.1 bt195.2.1 bt195.2.2.1 bt195.2.2.2.1 bt195.2.2.2.2.1 bt195.2.2.2.2.2.1 bt195.2.2.2.2.2.2.1 bt195.2.2.2.2.2.2.2.1 bt195.2.2.2.2.2.2.2.2.1 bt195.2.2.2.2.2.2.2.2.2 l0_11 l0_10).bind fun t205 => (if t205 = true then ((slab_Turn.f k bt178.1 bt178.2.1 bt178.2.2.1 bt178.2.2.2.1 bt178.2.2.2.2.1 bt178.2.2.2.2.2.1 bt178.2.2.2.2.2.2.1 bt178.2.2.2.2.2.2.2.1 bt178.2.2.2.2.2.2.2.2.1 bt178.2.2.2.2.2.2.2.2.2.1 bt178.2.2.2.2.2.2.2.2.2.2.1 bt178.2.2.2.2.2.2.2.2.2.2.2).bind fun bt206 => ((gangsawref30_Equal.f k bt206.1 bt206.2.1 bt206.2.2.1 bt206.2.2.2.1 bt206.2.2.2.2.1 bt206.2.2.2.2.2.1 bt206.2.2.2.2.2.2.1 bt206.2.2.2.2.2.2.2.1 bt206.2.2.2.2.2.2.2.2.1 bt206.2.2.2.2.2.2.2.2.2.1 bt206.2.2.2.2.2.2.2.2.2.2.1 bt206.2.2.2.2.2.2.2.2.2.2.2 a0_0 a0_1 a0_2 a0_3 a0_4 a0_5 a0_6 a0_7 a0_8 a0_9 l0_10 l0_11).bind fun t222 => (some t222))) else (some false)))) else (some false)) else (some false))) = some r := H
   have A7 := Aside0.mk A70
   clear A70
   replace H := Option.bind_eq_some_iff.mp H
   obtain ⟨⟨t178, t179, t180, t181, t182, t183, t184, t185, t186, t187, t188, t191⟩, A80, H⟩ := H
   replace H : (if t174 = t176 then (if t175 = t177 then ((gangsawref30_Turn.f a0_0 a0_1 a0_2 a0_3 a0_4 a0_5 a0_6 a0_7 a0_8 a0_9 l0_10 l0_11).bind fun bt195 => ((gangsawref30_Equal.f k t178 t179 t180 t181 t182 t183 t184 t185 t186 t187 t188 t191 bt195.1 bt195.2.1 bt195.2.2.1 bt195.2.2.2.1 bt195.2.2.2.2.1 bt195.2.2.2.2.2.1 bt195.2.2.2.2.2.2.1 bt195.2.2.2.2.2.2.2.1 bt195.2.2.2.2.2.2.2.2.1 bt195.2.2.2.2.2.2.2.2.2 l0_11 l0_10).bind fun t205 => (if t205 = true then ((slab_Turn.f k t178 t179 t180 t181 t182 t183 t184 t185 t186 t187 t188 t191).bind fun bt206 => ((gangsawref30_Equal.f k bt206.1 bt206.2.1 bt206.2.2.1 bt206.2.2.2.1 bt206.2.2.2.2.1 bt206.2.2.2.2.2.1 bt206.2.2.2.2.2.2.1 bt206.2.2.2.2.2.2.2.1 bt206.2.2.2.2.2.2.2.2.1 bt206.2.2.2.2.2.2.2.2.2.1 bt206.2.2.2.2.2.2.2.2.2.2.1 bt206.2.2.2.2.2.2.2.2.2.2.2 a0_0 a0_1 a0_2 a0_3 a0_4 a0_5 a0_6 a0_7 a0_8 a0_9 l0_10 l0_11).bind fun t222 => (some t222))) else (some false)))) else (some false)) else (some false)) = some r := H
   have A8 := Aside0.mk A80
   clear A80
   by_cases c9 : t174 = t176
   ·rw [if_pos c9] at H
    have c9b0 : (t174 == t176) = true := beq_iff_eq.mpr c9
    have c9b1 : (t174 != t176) = false := bne_eq_false_iff_eq.mpr c9
    clear c9
    by_cases c10 : t175 = t177
    ·rw [if_pos c10] at H
     have c10b0 : (t175 == t177) = true := beq_iff_eq.mpr c10
     have c10b1 : (t175 != t177) = false := bne_eq_false_iff_eq.mpr c10
     clear c10
     replace H := Option.bind_eq_some_iff.mp H
     obtain ⟨⟨t195, t196, t197, t198, t199, t200, t201, t202, t203, t204⟩, A110, H⟩ := H
     replace H : ((gangsawref30_Equal.f k t178 t179 t180 t181 t182 t183 t184 t185 t186 t187 t188 t191 t195 t196 t197 t198 t199 t200 t201 t202 t203 t204 l0_11 l0_10).bind fun t205 => (if t205 = true then ((slab_Turn.f k t178 t179 t180 t181 t182 t183 t184 t185 t186 t187 t188 t191).bind fun bt206 => ((gangsawref30_Equal.f k bt206.1 bt206.2.1 bt206.2.2.1 bt206.2.2.2.1 bt206.2.2.2.2.1 bt206.2.2.2.2.2.1 bt206.2.2.2.2.2.2.1 bt206.2.2.2.2.2.2.2.1 bt206.2.2.2.2.2.2.2.2.1 bt206.2.2.2.2.2.2.2.2.2.1 bt206.2.2.2.2.2.2.2.2.2.2.1 bt206.2.2.2.2.2.2.2.2.2.2.2 a0_0 a0_1 a0_2 a0_3 a0_4 a0_5 a0_6 a0_7 a0_8 a0_9 l0_10 l0_11).bind fun t222 => (some t222))) else (some false))) = some r := H
     have A11 := Aside0.mk A110
     clear A110
     replace H := Option.bind_eq_some_iff.mp H
     obtain ⟨t205, A120, H⟩ := H
     replace H : (if t205 = true then ((slab_Turn.f k t178 t179 t180 t181 t182 t183 t184 t185 t186 t187 t188 t191).bind fun bt206 => ((gangsawref30_Equal.f k bt206.1 bt206.2.1 bt206.2.2.1 bt206.2.2.2.1 bt206.2.2.2.2.1 bt206.2.2.2.2.2.1 bt206.2.2.2.2.2.2.1 bt206.2.2.2.2.2.2.2.1 bt206.2.2.2.2.2.2.2.2.1 bt206.2.2.2.2.2.2.2.2.2.1 bt206.2.2.2.2.2.2.2.2.2.2.1 bt206.2.2.2.2.2.2.2.2.2.2.2 a0_0 a0_1 a0_2 a0_3 a0_4 a0_5 a0_6 a0_7 a0_8 a0_9 l0_10 l0_11).bind fun t222 => (some t222))) else (some false)) = some r := H
     have A12 := Aside0.mk A120
     clear A120
     by_cases c13 : t205 = true
     ·subst c13
      have H1 : ((slab_Turn.f k t178 t179 t180 t181 t182 t183 t184 t185 t186 t187 t188 t191).bind fun bt206 => ((gangsawref30_Equal.f k bt206.1 bt206.2.1 bt206.2.2.1 bt206.2.2.2.1 bt206.2.2.2.2.1 bt206.2.2.2.2.2.1 bt206.2.2.2.2.2.2.1 bt206.2.2.2.2.2.2.2.1 bt206.2.2.2.2.2.2.2.2.1 bt206.2.2.2.2.2.2.2.2.2.1 bt206.2.2.2.2.2.2.2.2.2.2.1 bt206.2.2.2.2.2.2.2.2.2.2.2 a0_0 a0_1 a0_2 a0_3 a0_4 a0_5 a0_6 a0_7 a0_8 a0_9 l0_10 l0_11).bind fun t222 => (some t222))) = some r := by rw [if_pos rfl] at H; exact H
      clear H
      have H := H1
      clear H1
      replace H := Option.bind_eq_some_iff.mp H
      obtain ⟨⟨t206, t207, t208, t209, t210, t211, t212, t213, t214, t215, t216, t219⟩, A140, H⟩ := H
      replace H : ((gangsawref30_Equal.f k t206 t207 t208 t209 t210 t211 t212 t213 t214 t215 t216 t219 a0_0 a0_1 a0_2 a0_3 a0_4 a0_5 a0_6 a0_7 a0_8 a0_9 l0_10 l0_11).bind fun t222 => (some t222)) = some r := H
      have A14 := Aside0.mk A140
      clear A140
      replace H := Option.bind_eq_some_iff.mp H
      obtain ⟨t222, A150, H⟩ := H
      replace H : (some t222) = some r := H
      have A15 := Aside0.mk A150
      clear A150
      obtain rfl := Option.some.inj H
      simp only [Option.some.injEq, Prod.mk.injEq] at H
      obtain ⟨rfl⟩ := H
      go_enter Tryz.func7, Tryz.ntmps7
      try go_wp2_with (first | ((with_reducible refine gate_dst (N := 1) rfl ?_); refine box_event ?hg (N := 1) ?hd (cs := #[.string a0_0, .string a0_1, .int .i64 a0_2, .int .i64 a0_3, .int .i64 a0_4, .int .i64 a0_5, .int .i64 a0_6, .int .i64 a0_7, .int .i64 a0_8, .int .i64 a0_9, .slice A0_10 l0_10.length c0_10, .slice A0_11 l0_11.length c0_11]) (t := 35) ?hr ?_; (case hd => rfl); (case hg => rfl); (case hr => first | (go_simp; done) | (go_simp; rfl)); intro gb171 hg w16 hbox hb; have n0_ := Aside0.mk (below_step (by repeat (first | (with_reducible first | exact HB.out | apply below_alloc | apply pw_below_drewN | apply below_drew1) | exact HB.out)) hb); have n1_ := Aside0.mk (hbox); have n2_ := Aside0.mk ((by rw [hg]; exact (below_size (by repeat (first | (with_reducible first | exact HB.out | apply below_alloc | apply pw_below_drewN | apply below_drew1) | exact HB.out))) : w.heap.size ≤ gb171)); have n3_ := Aside0.mk ((by rw [hg]; exact (below_size (by repeat (first | (with_reducible first | exact HB.out | apply below_alloc | apply pw_below_drewN | apply below_drew1) | exact HB.out))) : w.heap.size ≤ gb171)); clear HB; have HB := n0_; have BK171 := n1_; have GW171 := n2_; have GE171 := n3_; clear n0_ n1_ n2_ n3_; clear hb hbox hg) | ((with_reducible refine gate_callee (f := 11) rfl ?_); refine goesL_ (some 8) rfl rfl Tryz.func11 (by kernel_rfl) rfl #[] rfl (by (try simp only [List.map_toArray, List.map_cons, List.map_nil]); first | done | rfl | (simp only [List.length_drop, List.length_take]; rfl)) ?_; (with_reducible refine (gangsawlaw30_awake.calls  true _ HLD.out (by repeat (first | (with_reducible first | exact HB.out | apply below_alloc | apply pw_below_drewN | apply below_drew1 | refine below_set ?_ GE171.out) | exact HB.out)) A2.out).mono ?_); rintro e w17 ⟨rfl, hb⟩; refine ⟨_, rfl, ?_⟩; have n0_ := Aside0.mk (blk_below (g := gb171) (o := .cells #[.string a0_0, .string a0_1, .int .i64 a0_2, .int .i64 a0_3, .int .i64 a0_4, .int .i64 a0_5, .int .i64 a0_6, .int .i64 a0_7, .int .i64 a0_8, .int .i64 a0_9, .slice A0_10 l0_10.length c0_10, .slice A0_11 l0_11.length c0_11] 35 (0, 0)) (by (with_reducible repeat (first | refine blk_drewN ?_ _ | refine blk_drew ?_ | refine blk_alloc ?_ _)); exact BK171.out) hb); have n1_ := Aside0.mk (below_step (by repeat (first | (with_reducible first | exact HB.out | apply below_alloc | apply pw_below_drewN | apply below_drew1 | refine below_set ?_ GE171.out) | exact HB.out)) hb); clear BK171; clear HB; have BK171 := n0_; have HB := n1_; clear n0_ n1_; (try clear hb); (try clear hb2); (try clear hk); (try clear hi); have hcz18_0 : w17.cell? ⟨gb171, 0, none⟩ = some (.string a0_0) := (blk_cell BK171.out 0).trans rfl; have hcz18_1 : w17.cell? ⟨gb171, 1, none⟩ = some (.string a0_1) := (blk_cell BK171.out 1).trans rfl; have hcz18_2 : w17.cell? ⟨gb171, 2, none⟩ = some (.int .i64 a0_2) := (blk_cell BK171.out 2).trans rfl; have hcz18_3 : w17.cell? ⟨gb171, 3, none⟩ = some (.int .i64 a0_3) := (blk_cell BK171.out 3).trans rfl; have hcz18_4 : w17.cell? ⟨gb171, 4, none⟩ = some (.int .i64 a0_4) := (blk_cell BK171.out 4).trans rfl; have hcz18_5 : w17.cell? ⟨gb171, 5, none⟩ = some (.int .i64 a0_5) := (blk_cell BK171.out 5).trans rfl; have hcz18_6 : w17.cell? ⟨gb171, 6, none⟩ = some (.int .i64 a0_6) := (blk_cell BK171.out 6).trans rfl; have hcz18_7 : w17.cell? ⟨gb171, 7, none⟩ = some (.int .i64 a0_7) := (blk_cell BK171.out 7).trans rfl; have hcz18_8 : w17.cell? ⟨gb171, 8, none⟩ = some (.int .i64 a0_8) := (blk_cell BK171.out 8).trans rfl; have hcz18_9 : w17.cell? ⟨gb171, 9, none⟩ = some (.int .i64 a0_9) := (blk_cell BK171.out 9).trans rfl; have hcz18_10 : w17.cell? ⟨gb171, 10, none⟩ = some (.slice A0_10 l0_10.length c0_10) := (blk_cell BK171.out 10).trans rfl; have hcz18_11 : w17.cell? ⟨gb171, 11, none⟩ = some (.slice A0_11 l0_11.length c0_11) := (blk_cell BK171.out 11).trans rfl; have hfz18_0 := blk_frozen BK171.out 0; have hfz18_1 := blk_frozen BK171.out 1; have hfz18_2 := blk_frozen BK171.out 2; have hfz18_3 := blk_frozen BK171.out 3; have hfz18_4 := blk_frozen BK171.out 4; have hfz18_5 := blk_frozen BK171.out 5; have hfz18_6 := blk_frozen BK171.out 6; have hfz18_7 := blk_frozen BK171.out 7; have hfz18_8 := blk_frozen BK171.out 8; have hfz18_9 := blk_frozen BK171.out 9; have hfz18_10 := blk_frozen BK171.out 10; have hfz18_11 := blk_frozen BK171.out 11) | ((with_reducible refine gate_callee (f := 16) rfl ?_); refine goesL_ (some 11) rfl rfl Tryz.func16 (by kernel_rfl) rfl #[.agg #[.string a0_0, .string a0_1, .int .i64 a0_2, .int .i64 a0_3, .int .i64 a0_4, .int .i64 a0_5, .int .i64 a0_6, .int .i64 a0_7, .int .i64 a0_8, .int .i64 a0_9, .slice A0_10 l0_10.length c0_10, .slice A0_11 l0_11.length c0_11]] rfl (by (try simp only [List.map_toArray, List.map_cons, List.map_nil]); first | done | rfl | (simp only [List.length_drop, List.length_take]; rfl)) ?_; (with_reducible refine (gangsawref30_Small.calls a0_0 a0_1 a0_2 a0_3 a0_4 a0_5 a0_6 a0_7 a0_8 a0_9 _ _ l0_10 _ _ l0_11 true _ ?side1 ?side2 ?side3 ?side4 A4.out).mono ?_); (case side1 => repeat (first | exact (Kd.C_below HR0_10.out HB.out) | (with_reducible refine Kd.C_alloc ?_ _) | (with_reducible refine Kd.C_drewN ?_ _) | (with_reducible refine Kd.C_drew ?_))); (case side2 => exact HC0_10.out); (case side3 => repeat (first | exact (Kd.C_below HR0_11.out HB.out) | (with_reducible refine Kd.C_alloc ?_ _) | (with_reducible refine Kd.C_drewN ?_ _) | (with_reducible refine Kd.C_drew ?_))); (case side4 => exact HC0_11.out); rintro e w19 ⟨rfl, hb⟩; refine ⟨_, rfl, ?_⟩; have n0_ := Aside0.mk (blk_below (g := gb171) (o := .cells #[.string a0_0, .string a0_1, .int .i64 a0_2, .int .i64 a0_3, .int .i64 a0_4, .int .i64 a0_5, .int .i64 a0_6, .int .i64 a0_7, .int .i64 a0_8, .int .i64 a0_9, .slice A0_10 l0_10.length c0_10, .slice A0_11 l0_11.length c0_11] 35 (0, 0)) (by (with_reducible repeat (first | refine blk_drewN ?_ _ | refine blk_drew ?_ | refine blk_alloc ?_ _)); exact BK171.out) hb); have n1_ := Aside0.mk (below_step (by repeat (first | (with_reducible first | exact HB.out | apply below_alloc | apply pw_below_drewN | apply below_drew1 | refine below_set ?_ GE171.out) | exact HB.out)) hb); clear BK171; clear HB; have BK171 := n0_; have HB := n1_; clear n0_ n1_; (try clear hb); (try clear hb2); (try clear hk); (try clear hi); have hcz20_0 : w19.cell? ⟨gb171, 0, none⟩ = some (.string a0_0) := (blk_cell BK171.out 0).trans rfl; have hcz20_1 : w19.cell? ⟨gb171, 1, none⟩ = some (.string a0_1) := (blk_cell BK171.out 1).trans rfl; have hcz20_2 : w19.cell? ⟨gb171, 2, none⟩ = some (.int .i64 a0_2) := (blk_cell BK171.out 2).trans rfl; have hcz20_3 : w19.cell? ⟨gb171, 3, none⟩ = some (.int .i64 a0_3) := (blk_cell BK171.out 3).trans rfl; have hcz20_4 : w19.cell? ⟨gb171, 4, none⟩ = some (.int .i64 a0_4) := (blk_cell BK171.out 4).trans rfl; have hcz20_5 : w19.cell? ⟨gb171, 5, none⟩ = some (.int .i64 a0_5) := (blk_cell BK171.out 5).trans rfl; have hcz20_6 : w19.cell? ⟨gb171, 6, none⟩ = some (.int .i64 a0_6) := (blk_cell BK171.out 6).trans rfl; have hcz20_7 : w19.cell? ⟨gb171, 7, none⟩ = some (.int .i64 a0_7) := (blk_cell BK171.out 7).trans rfl; have hcz20_8 : w19.cell? ⟨gb171, 8, none⟩ = some (.int .i64 a0_8) := (blk_cell BK171.out 8).trans rfl; have hcz20_9 : w19.cell? ⟨gb171, 9, none⟩ = some (.int .i64 a0_9) := (blk_cell BK171.out 9).trans rfl; have hcz20_10 : w19.cell? ⟨gb171, 10, none⟩ = some (.slice A0_10 l0_10.length c0_10) := (blk_cell BK171.out 10).trans rfl; have hcz20_11 : w19.cell? ⟨gb171, 11, none⟩ = some (.slice A0_11 l0_11.length c0_11) := (blk_cell BK171.out 11).trans rfl; have hfz20_0 := blk_frozen BK171.out 0; have hfz20_1 := blk_frozen BK171.out 1; have hfz20_2 := blk_frozen BK171.out 2; have hfz20_3 := blk_frozen BK171.out 3; have hfz20_4 := blk_frozen BK171.out 4; have hfz20_5 := blk_frozen BK171.out 5; have hfz20_6 := blk_frozen BK171.out 6; have hfz20_7 := blk_frozen BK171.out 7; have hfz20_8 := blk_frozen BK171.out 8; have hfz20_9 := blk_frozen BK171.out 9; have hfz20_10 := blk_frozen BK171.out 10; have hfz20_11 := blk_frozen BK171.out 11) | ((with_reducible refine gate_callee (f := 31) rfl ?_); refine goesL_ (some 15) rfl rfl Tryz.func31 (by kernel_rfl) rfl #[.agg #[.string a0_0, .string a0_1, .int .i64 a0_2, .int .i64 a0_3, .int .i64 a0_4, .int .i64 a0_5, .int .i64 a0_6, .int .i64 a0_7, .int .i64 a0_8, .int .i64 a0_9, .slice A0_10 l0_10.length c0_10, .slice A0_11 l0_11.length c0_11]] rfl (by (try simp only [List.map_toArray, List.map_cons, List.map_nil]); first | done | rfl | (simp only [List.length_drop, List.length_take]; rfl)) ?_; (with_reducible refine (slab_Area.calls a0_0 a0_1 a0_2 a0_3 a0_4 a0_5 a0_6 a0_7 a0_8 a0_9 _ _ l0_10 _ _ l0_11 t174 t175 _ ?side1 ?side2 ?side3 ?side4 A6.out).mono ?_); (case side1 => repeat (first | exact (Kd.C_below HR0_10.out HB.out) | (with_reducible refine Kd.C_alloc ?_ _) | (with_reducible refine Kd.C_drewN ?_ _) | (with_reducible refine Kd.C_drew ?_))); (case side2 => exact HC0_10.out); (case side3 => repeat (first | exact (Kd.C_below HR0_11.out HB.out) | (with_reducible refine Kd.C_alloc ?_ _) | (with_reducible refine Kd.C_drewN ?_ _) | (with_reducible refine Kd.C_drew ?_))); (case side4 => exact HC0_11.out); rintro e w21 ⟨rfl, hb⟩; refine ⟨_, rfl, ?_⟩; have n0_ := Aside0.mk (blk_below (g := gb171) (o := .cells #[.string a0_0, .string a0_1, .int .i64 a0_2, .int .i64 a0_3, .int .i64 a0_4, .int .i64 a0_5, .int .i64 a0_6, .int .i64 a0_7, .int .i64 a0_8, .int .i64 a0_9, .slice A0_10 l0_10.length c0_10, .slice A0_11 l0_11.length c0_11] 35 (0, 0)) (by (with_reducible repeat (first | refine blk_drewN ?_ _ | refine blk_drew ?_ | refine blk_alloc ?_ _)); exact BK171.out) hb); have n1_ := Aside0.mk (below_step (by repeat (first | (with_reducible first | exact HB.out | apply below_alloc | apply pw_below_drewN | apply below_drew1 | refine below_set ?_ GE171.out) | exact HB.out)) hb); clear BK171; clear HB; have BK171 := n0_; have HB := n1_; clear n0_ n1_; (try clear hb); (try clear hb2); (try clear hk); (try clear hi); have hcz22_0 : w21.cell? ⟨gb171, 0, none⟩ = some (.string a0_0) := (blk_cell BK171.out 0).trans rfl; have hcz22_1 : w21.cell? ⟨gb171, 1, none⟩ = some (.string a0_1) := (blk_cell BK171.out 1).trans rfl; have hcz22_2 : w21.cell? ⟨gb171, 2, none⟩ = some (.int .i64 a0_2) := (blk_cell BK171.out 2).trans rfl; have hcz22_3 : w21.cell? ⟨gb171, 3, none⟩ = some (.int .i64 a0_3) := (blk_cell BK171.out 3).trans rfl; have hcz22_4 : w21.cell? ⟨gb171, 4, none⟩ = some (.int .i64 a0_4) := (blk_cell BK171.out 4).trans rfl; have hcz22_5 : w21.cell? ⟨gb171, 5, none⟩ = some (.int .i64 a0_5) := (blk_cell BK171.out 5).trans rfl; have hcz22_6 : w21.cell? ⟨gb171, 6, none⟩ = some (.int .i64 a0_6) := (blk_cell BK171.out 6).trans rfl; have hcz22_7 : w21.cell? ⟨gb171, 7, none⟩ = some (.int .i64 a0_7) := (blk_cell BK171.out 7).trans rfl; have hcz22_8 : w21.cell? ⟨gb171, 8, none⟩ = some (.int .i64 a0_8) := (blk_cell BK171.out 8).trans rfl; have hcz22_9 : w21.cell? ⟨gb171, 9, none⟩ = some (.int .i64 a0_9) := (blk_cell BK171.out 9).trans rfl; have hcz22_10 : w21.cell? ⟨gb171, 10, none⟩ = some (.slice A0_10 l0_10.length c0_10) := (blk_cell BK171.out 10).trans rfl; have hcz22_11 : w21.cell? ⟨gb171, 11, none⟩ = some (.slice A0_11 l0_11.length c0_11) := (blk_cell BK171.out 11).trans rfl; have hfz22_0 := blk_frozen BK171.out 0; have hfz22_1 := blk_frozen BK171.out 1; have hfz22_2 := blk_frozen BK171.out 2; have hfz22_3 := blk_frozen BK171.out 3; have hfz22_4 := blk_frozen BK171.out 4; have hfz22_5 := blk_frozen BK171.out 5; have hfz22_6 := blk_frozen BK171.out 6; have hfz22_7 := blk_frozen BK171.out 7; have hfz22_8 := blk_frozen BK171.out 8; have hfz22_9 := blk_frozen BK171.out 9; have hfz22_10 := blk_frozen BK171.out 10; have hfz22_11 := blk_frozen BK171.out 11) | ((with_reducible refine gate_callee (f := 32) rfl ?_); refine goesL_ (some 20) rfl rfl Tryz.func32 (by kernel_rfl) rfl #[.agg #[.string a0_0, .string a0_1, .int .i64 a0_2, .int .i64 a0_3, .int .i64 a0_4, .int .i64 a0_5, .int .i64 a0_6, .int .i64 a0_7, .int .i64 a0_8, .int .i64 a0_9, .slice A0_10 l0_10.length c0_10, .slice A0_11 l0_11.length c0_11]] rfl (by (try simp only [List.map_toArray, List.map_cons, List.map_nil]); first | done | rfl | (simp only [List.length_drop, List.length_take]; rfl)) ?_; (with_reducible refine (gangsawref30_Area.calls k a0_0 a0_1 a0_2 a0_3 a0_4 a0_5 a0_6 a0_7 a0_8 a0_9 _ _ l0_10 _ _ l0_11 t176 t177 _ ?side1 ?side2 ?side3 ?side4 A7.out).mono ?_); (case side1 => repeat (first | exact (Kd.C_below HR0_10.out HB.out) | (with_reducible refine Kd.C_alloc ?_ _) | (with_reducible refine Kd.C_drewN ?_ _) | (with_reducible refine Kd.C_drew ?_))); (case side2 => exact HC0_10.out); (case side3 => repeat (first | exact (Kd.C_below HR0_11.out HB.out) | (with_reducible refine Kd.C_alloc ?_ _) | (with_reducible refine Kd.C_drewN ?_ _) | (with_reducible refine Kd.C_drew ?_))); (case side4 => exact HC0_11.out); rintro e w23 ⟨rfl, hb⟩; refine ⟨_, rfl, ?_⟩; have n0_ := Aside0.mk (blk_below (g := gb171) (o := .cells #[.string a0_0, .string a0_1, .int .i64 a0_2, .int .i64 a0_3, .int .i64 a0_4, .int .i64 a0_5, .int .i64 a0_6, .int .i64 a0_7, .int .i64 a0_8, .int .i64 a0_9, .slice A0_10 l0_10.length c0_10, .slice A0_11 l0_11.length c0_11] 35 (0, 0)) (by (with_reducible repeat (first | refine blk_drewN ?_ _ | refine blk_drew ?_ | refine blk_alloc ?_ _)); exact BK171.out) hb); have n1_ := Aside0.mk (below_step (by repeat (first | (with_reducible first | exact HB.out | apply below_alloc | apply pw_below_drewN | apply below_drew1 | refine below_set ?_ GE171.out) | exact HB.out)) hb); clear BK171; clear HB; have BK171 := n0_; have HB := n1_; clear n0_ n1_; (try clear hb); (try clear hb2); (try clear hk); (try clear hi); have hcz24_0 : w23.cell? ⟨gb171, 0, none⟩ = some (.string a0_0) := (blk_cell BK171.out 0).trans rfl; have hcz24_1 : w23.cell? ⟨gb171, 1, none⟩ = some (.string a0_1) := (blk_cell BK171.out 1).trans rfl; have hcz24_2 : w23.cell? ⟨gb171, 2, none⟩ = some (.int .i64 a0_2) := (blk_cell BK171.out 2).trans rfl; have hcz24_3 : w23.cell? ⟨gb171, 3, none⟩ = some (.int .i64 a0_3) := (blk_cell BK171.out 3).trans rfl; have hcz24_4 : w23.cell? ⟨gb171, 4, none⟩ = some (.int .i64 a0_4) := (blk_cell BK171.out 4).trans rfl; have hcz24_5 : w23.cell? ⟨gb171, 5, none⟩ = some (.int .i64 a0_5) := (blk_cell BK171.out 5).trans rfl; have hcz24_6 : w23.cell? ⟨gb171, 6, none⟩ = some (.int .i64 a0_6) := (blk_cell BK171.out 6).trans rfl; have hcz24_7 : w23.cell? ⟨gb171, 7, none⟩ = some (.int .i64 a0_7) := (blk_cell BK171.out 7).trans rfl; have hcz24_8 : w23.cell? ⟨gb171, 8, none⟩ = some (.int .i64 a0_8) := (blk_cell BK171.out 8).trans rfl; have hcz24_9 : w23.cell? ⟨gb171, 9, none⟩ = some (.int .i64 a0_9) := (blk_cell BK171.out 9).trans rfl; have hcz24_10 : w23.cell? ⟨gb171, 10, none⟩ = some (.slice A0_10 l0_10.length c0_10) := (blk_cell BK171.out 10).trans rfl; have hcz24_11 : w23.cell? ⟨gb171, 11, none⟩ = some (.slice A0_11 l0_11.length c0_11) := (blk_cell BK171.out 11).trans rfl; have hfz24_0 := blk_frozen BK171.out 0; have hfz24_1 := blk_frozen BK171.out 1; have hfz24_2 := blk_frozen BK171.out 2; have hfz24_3 := blk_frozen BK171.out 3; have hfz24_4 := blk_frozen BK171.out 4; have hfz24_5 := blk_frozen BK171.out 5; have hfz24_6 := blk_frozen BK171.out 6; have hfz24_7 := blk_frozen BK171.out 7; have hfz24_8 := blk_frozen BK171.out 8; have hfz24_9 := blk_frozen BK171.out 9; have hfz24_10 := blk_frozen BK171.out 10; have hfz24_11 := blk_frozen BK171.out 11) | ((with_reducible refine gate_callee (f := 33) rfl ?_); refine goesL_ (some 24) rfl rfl Tryz.func33 (by kernel_rfl) rfl #[.agg #[.string a0_0, .string a0_1, .int .i64 a0_2, .int .i64 a0_3, .int .i64 a0_4, .int .i64 a0_5, .int .i64 a0_6, .int .i64 a0_7, .int .i64 a0_8, .int .i64 a0_9, .slice A0_10 l0_10.length c0_10, .slice A0_11 l0_11.length c0_11]] rfl (by (try simp only [List.map_toArray, List.map_cons, List.map_nil]); first | done | rfl | (simp only [List.length_drop, List.length_take]; rfl)) ?_; (with_reducible refine (slab_Turn.calls k a0_0 a0_1 a0_2 a0_3 a0_4 a0_5 a0_6 a0_7 a0_8 a0_9 _ _ l0_10 _ _ l0_11 t178 t179 t180 t181 t182 t183 t184 t185 t186 t187 t188 t191 _ ?side1 ?side2 ?side3 ?side4 A8.out).mono ?_); (case side1 => repeat (first | exact (Kd.C_below HR0_10.out HB.out) | (with_reducible refine Kd.C_alloc ?_ _) | (with_reducible refine Kd.C_drewN ?_ _) | (with_reducible refine Kd.C_drew ?_))); (case side2 => exact HC0_10.out); (case side3 => repeat (first | exact (Kd.C_below HR0_11.out HB.out) | (with_reducible refine Kd.C_alloc ?_ _) | (with_reducible refine Kd.C_drewN ?_ _) | (with_reducible refine Kd.C_drew ?_))); (case side4 => exact HC0_11.out); rintro e w25 ⟨v189, v192, rfl, ho0, ho1, hb⟩; refine ⟨_, rfl, ?_⟩; have n0_ := Aside0.mk (Kd.R_lower ho0 (below_size (by repeat (first | (with_reducible first | exact HB.out | apply below_alloc | apply pw_below_drewN | apply below_drew1 | refine below_set ?_ GE171.out) | exact HB.out)))); have n1_ := Aside0.mk (Kd.R_lower ho1 (below_size (by repeat (first | (with_reducible first | exact HB.out | apply below_alloc | apply pw_below_drewN | apply below_drew1 | refine below_set ?_ GE171.out) | exact HB.out)))); have n2_ := Aside0.mk (blk_below (g := gb171) (o := .cells #[.string a0_0, .string a0_1, .int .i64 a0_2, .int .i64 a0_3, .int .i64 a0_4, .int .i64 a0_5, .int .i64 a0_6, .int .i64 a0_7, .int .i64 a0_8, .int .i64 a0_9, .slice A0_10 l0_10.length c0_10, .slice A0_11 l0_11.length c0_11] 35 (0, 0)) (by (with_reducible repeat (first | refine blk_drewN ?_ _ | refine blk_drew ?_ | refine blk_alloc ?_ _)); exact BK171.out) hb); have n3_ := Aside0.mk (below_step (by repeat (first | (with_reducible first | exact HB.out | apply below_alloc | apply pw_below_drewN | apply below_drew1 | refine below_set ?_ GE171.out) | exact HB.out)) hb); clear BK171; clear HB; have HO190 := n0_; have HO193 := n1_; have BK171 := n2_; have HB := n3_; clear n0_ n1_ n2_ n3_; (try clear hb); (try clear hb2); (try clear hk); (try clear hi); (try clear ho0); (try clear ho1)) | ((with_reducible refine gate_dst (N := 7) rfl ?_); refine box_event ?hg (N := 7) ?hd (cs := #[.string (⟨#[]⟩ : ByteArray), .string (⟨#[]⟩ : ByteArray), .int .i64 0, .int .i64 0, .int .i64 0, .int .i64 0, .int .i64 0, .int .i64 0, .int .i64 0, .int .i64 0, .slice none 0 0, .slice none 0 0]) (t := 35) ?hr ?_; (case hd => rfl); (case hg => rfl); (case hr => first | (go_simp; done) | (go_simp; rfl)); intro gb194 hg w26 hbox hb; have n0_ := Aside0.mk (Kd.R_below (by (with_reducible repeat (first | apply Kd.R_alloc | apply Kd.R_drewN | apply Kd.R_drew)); exact HO190.out) hb); have n1_ := Aside0.mk (Kd.R_below (by (with_reducible repeat (first | apply Kd.R_alloc | apply Kd.R_drewN | apply Kd.R_drew)); exact HO193.out) hb); have n2_ := Aside0.mk (blk_below (g := gb171) (o := .cells #[.string a0_0, .string a0_1, .int .i64 a0_2, .int .i64 a0_3, .int .i64 a0_4, .int .i64 a0_5, .int .i64 a0_6, .int .i64 a0_7, .int .i64 a0_8, .int .i64 a0_9, .slice A0_10 l0_10.length c0_10, .slice A0_11 l0_11.length c0_11] 35 (0, 0)) (by (with_reducible repeat (first | refine blk_drewN ?_ _ | refine blk_drew ?_ | refine blk_alloc ?_ _)); exact BK171.out) hb); have n3_ := Aside0.mk (below_step (by repeat (first | (with_reducible first | exact HB.out | apply below_alloc | apply pw_below_drewN | apply below_drew1 | refine below_set ?_ GE171.out) | exact HB.out)) hb); have n4_ := Aside0.mk (hbox); have n5_ := Aside0.mk ((by rw [hg]; exact (below_size (by repeat (first | (with_reducible first | exact HB.out | apply below_alloc | apply pw_below_drewN | apply below_drew1 | refine below_set ?_ GE171.out) | exact HB.out))) : w.heap.size ≤ gb194)); have n6_ := Aside0.mk ((by rw [hg]; exact (below_size (by repeat (first | (with_reducible first | exact HB.out | apply below_alloc | apply pw_below_drewN | apply below_drew1 | refine below_set ?_ GE171.out) | exact HB.out))) : w.heap.size ≤ gb194)); have n7_ := Aside0.mk ((by rw [hg]; exact Nat.ne_of_lt (blk_lt (g := gb171) (o := .cells #[.string a0_0, .string a0_1, .int .i64 a0_2, .int .i64 a0_3, .int .i64 a0_4, .int .i64 a0_5, .int .i64 a0_6, .int .i64 a0_7, .int .i64 a0_8, .int .i64 a0_9, .slice A0_10 l0_10.length c0_10, .slice A0_11 l0_11.length c0_11] 35 (0, 0)) (by (with_reducible repeat (first | refine blk_drewN ?_ _ | refine blk_drew ?_ | refine blk_alloc ?_ _)); exact BK171.out)) : gb171 ≠ gb194)); have n8_ := Aside0.mk ((by rw [hg]; exact Nat.ne_of_gt (blk_lt (g := gb171) (o := .cells #[.string a0_0, .string a0_1, .int .i64 a0_2, .int .i64 a0_3, .int .i64 a0_4, .int .i64 a0_5, .int .i64 a0_6, .int .i64 a0_7, .int .i64 a0_8, .int .i64 a0_9, .slice A0_10 l0_10.length c0_10, .slice A0_11 l0_11.length c0_11] 35 (0, 0)) (by (with_reducible repeat (first | refine blk_drewN ?_ _ | refine blk_drew ?_ | refine blk_alloc ?_ _)); exact BK171.out)) : gb194 ≠ gb171)); clear HO190; clear HO193; clear BK171; clear HB; have HO190 := n0_; have HO193 := n1_; have BK171 := n2_; have HB := n3_; have BK194 := n4_; have GW194 := n5_; have GE194 := n6_; have NB171_194 := n7_; have NB194_171 := n8_; clear n0_ n1_ n2_ n3_ n4_ n5_ n6_ n7_ n8_; clear hb hbox hg; have hnb27 := NB194_171.out; have hnc27 := NB171_194.out; have hcz28_0 : w26.cell? ⟨gb194, 0, none⟩ = some (.string (⟨#[]⟩ : ByteArray)) := (blk_cell BK194.out 0).trans rfl; have hcz28_1 : w26.cell? ⟨gb194, 1, none⟩ = some (.string (⟨#[]⟩ : ByteArray)) := (blk_cell BK194.out 1).trans rfl; have hcz28_2 : w26.cell? ⟨gb194, 2, none⟩ = some (.int .i64 0) := (blk_cell BK194.out 2).trans rfl; have hcz28_3 : w26.cell? ⟨gb194, 3, none⟩ = some (.int .i64 0) := (blk_cell BK194.out 3).trans rfl; have hcz28_4 : w26.cell? ⟨gb194, 4, none⟩ = some (.int .i64 0) := (blk_cell BK194.out 4).trans rfl; have hcz28_5 : w26.cell? ⟨gb194, 5, none⟩ = some (.int .i64 0) := (blk_cell BK194.out 5).trans rfl; have hcz28_6 : w26.cell? ⟨gb194, 6, none⟩ = some (.int .i64 0) := (blk_cell BK194.out 6).trans rfl; have hcz28_7 : w26.cell? ⟨gb194, 7, none⟩ = some (.int .i64 0) := (blk_cell BK194.out 7).trans rfl; have hcz28_8 : w26.cell? ⟨gb194, 8, none⟩ = some (.int .i64 0) := (blk_cell BK194.out 8).trans rfl; have hcz28_9 : w26.cell? ⟨gb194, 9, none⟩ = some (.int .i64 0) := (blk_cell BK194.out 9).trans rfl; have hcz28_10 : w26.cell? ⟨gb194, 10, none⟩ = some (.slice none 0 0) := (blk_cell BK194.out 10).trans rfl; have hcz28_11 : w26.cell? ⟨gb194, 11, none⟩ = some (.slice none 0 0) := (blk_cell BK194.out 11).trans rfl; have hfz28_0 := blk_frozen BK194.out 0; have hfz28_1 := blk_frozen BK194.out 1; have hfz28_2 := blk_frozen BK194.out 2; have hfz28_3 := blk_frozen BK194.out 3; have hfz28_4 := blk_frozen BK194.out 4; have hfz28_5 := blk_frozen BK194.out 5; have hfz28_6 := blk_frozen BK194.out 6; have hfz28_7 := blk_frozen BK194.out 7; have hfz28_8 := blk_frozen BK194.out 8; have hfz28_9 := blk_frozen BK194.out 9; have hfz28_10 := blk_frozen BK194.out 10; have hfz28_11 := blk_frozen BK194.out 11; obtain ⟨Ao29, co29, eo29⟩ := Kd.R_slice HO190.out; subst eo29; obtain ⟨Ao30, co30, eo30⟩ := Kd.R_slice HO193.out; subst eo30))
      have n0_ : Aside0 (Kd.R (Kd.int .i64) 3 ((((((((((((w26.setCell ⟨gb194, 0, none⟩ (.string t178)).setCell ⟨gb194, 1, none⟩ (.string t179)).setCell ⟨gb194, 2, none⟩ (.int .i64 t180)).setCell ⟨gb194, 3, none⟩ (.int .i64 t181)).setCell ⟨gb194, 4, none⟩ (.int .i64 t182)).setCell ⟨gb194, 5, none⟩ (.int .i64 t183)).setCell ⟨gb194, 6, none⟩ (.int .i64 t184)).setCell ⟨gb194, 7, none⟩ (.int .i64 t185)).setCell ⟨gb194, 8, none⟩ (.int .i64 t186)).setCell ⟨gb194, 9, none⟩ (.int .i64 t187)).setCell ⟨gb194, 10, none⟩ (.slice Ao29 t188.length co29)).setCell ⟨gb194, 11, none⟩ (.slice Ao30 t191.length co30)) w.heap.size (fun k_ => some k_ ≠ (.slice Ao30 t191.length co30 : Value).ownBlock) (.slice Ao29 t188.length co29) t188) := ⟨by (with_reducible repeat (first | apply Kd.R_alloc | apply Kd.R_drewN | apply Kd.R_drew)); exact Kd.R_mono (Kd.R_far (p := ⟨gb194, 11, none⟩) (Kd.R_far (p := ⟨gb194, 10, none⟩) (Kd.R_far (p := ⟨gb194, 9, none⟩) (Kd.R_far (p := ⟨gb194, 8, none⟩) (Kd.R_far (p := ⟨gb194, 7, none⟩) (Kd.R_far (p := ⟨gb194, 6, none⟩) (Kd.R_far (p := ⟨gb194, 5, none⟩) (Kd.R_far (p := ⟨gb194, 4, none⟩) (Kd.R_far (p := ⟨gb194, 3, none⟩) (Kd.R_far (p := ⟨gb194, 2, none⟩) (Kd.R_far (p := ⟨gb194, 1, none⟩) (Kd.R_far (p := ⟨gb194, 0, none⟩) (Kd.R_types HO190.out BK194.out (by decide)) (fun _ hk => hk.2) (.string t178)) (fun _ hk => hk.2) (.string t179)) (fun _ hk => hk.2) (.int .i64 t180)) (fun _ hk => hk.2) (.int .i64 t181)) (fun _ hk => hk.2) (.int .i64 t182)) (fun _ hk => hk.2) (.int .i64 t183)) (fun _ hk => hk.2) (.int .i64 t184)) (fun _ hk => hk.2) (.int .i64 t185)) (fun _ hk => hk.2) (.int .i64 t186)) (fun _ hk => hk.2) (.int .i64 t187)) (fun _ hk => hk.2) (.slice Ao29 t188.length co29)) (fun _ hk => hk.2) (.slice Ao30 t191.length co30)) (fun _ hk => hk.1)⟩
      have n1_ : Aside0 (Kd.R (Kd.int .i64) 3 ((((((((((((w26.setCell ⟨gb194, 0, none⟩ (.string t178)).setCell ⟨gb194, 1, none⟩ (.string t179)).setCell ⟨gb194, 2, none⟩ (.int .i64 t180)).setCell ⟨gb194, 3, none⟩ (.int .i64 t181)).setCell ⟨gb194, 4, none⟩ (.int .i64 t182)).setCell ⟨gb194, 5, none⟩ (.int .i64 t183)).setCell ⟨gb194, 6, none⟩ (.int .i64 t184)).setCell ⟨gb194, 7, none⟩ (.int .i64 t185)).setCell ⟨gb194, 8, none⟩ (.int .i64 t186)).setCell ⟨gb194, 9, none⟩ (.int .i64 t187)).setCell ⟨gb194, 10, none⟩ (.slice Ao29 t188.length co29)).setCell ⟨gb194, 11, none⟩ (.slice Ao30 t191.length co30)) w.heap.size (fun k_ => some k_ ≠ (.slice Ao29 t188.length co29 : Value).ownBlock) (.slice Ao30 t191.length co30) t191) := ⟨by (with_reducible repeat (first | apply Kd.R_alloc | apply Kd.R_drewN | apply Kd.R_drew)); exact Kd.R_mono (Kd.R_far (p := ⟨gb194, 11, none⟩) (Kd.R_far (p := ⟨gb194, 10, none⟩) (Kd.R_far (p := ⟨gb194, 9, none⟩) (Kd.R_far (p := ⟨gb194, 8, none⟩) (Kd.R_far (p := ⟨gb194, 7, none⟩) (Kd.R_far (p := ⟨gb194, 6, none⟩) (Kd.R_far (p := ⟨gb194, 5, none⟩) (Kd.R_far (p := ⟨gb194, 4, none⟩) (Kd.R_far (p := ⟨gb194, 3, none⟩) (Kd.R_far (p := ⟨gb194, 2, none⟩) (Kd.R_far (p := ⟨gb194, 1, none⟩) (Kd.R_far (p := ⟨gb194, 0, none⟩) (Kd.R_types HO193.out BK194.out (by decide)) (fun _ hk => hk.2) (.string t178)) (fun _ hk => hk.2) (.string t179)) (fun _ hk => hk.2) (.int .i64 t180)) (fun _ hk => hk.2) (.int .i64 t181)) (fun _ hk => hk.2) (.int .i64 t182)) (fun _ hk => hk.2) (.int .i64 t183)) (fun _ hk => hk.2) (.int .i64 t184)) (fun _ hk => hk.2) (.int .i64 t185)) (fun _ hk => hk.2) (.int .i64 t186)) (fun _ hk => hk.2) (.int .i64 t187)) (fun _ hk => hk.2) (.slice Ao29 t188.length co29)) (fun _ hk => hk.2) (.slice Ao30 t191.length co30)) (fun _ hk => hk.1)⟩
      have n2_ : Aside0 (((((((((((((w26.setCell ⟨gb194, 0, none⟩ (.string t178)).setCell ⟨gb194, 1, none⟩ (.string t179)).setCell ⟨gb194, 2, none⟩ (.int .i64 t180)).setCell ⟨gb194, 3, none⟩ (.int .i64 t181)).setCell ⟨gb194, 4, none⟩ (.int .i64 t182)).setCell ⟨gb194, 5, none⟩ (.int .i64 t183)).setCell ⟨gb194, 6, none⟩ (.int .i64 t184)).setCell ⟨gb194, 7, none⟩ (.int .i64 t185)).setCell ⟨gb194, 8, none⟩ (.int .i64 t186)).setCell ⟨gb194, 9, none⟩ (.int .i64 t187)).setCell ⟨gb194, 10, none⟩ (.slice Ao29 t188.length co29)).setCell ⟨gb194, 11, none⟩ (.slice Ao30 t191.length co30)).heap[gb171]? = some (.cells #[.string a0_0, .string a0_1, .int .i64 a0_2, .int .i64 a0_3, .int .i64 a0_4, .int .i64 a0_5, .int .i64 a0_6, .int .i64 a0_7, .int .i64 a0_8, .int .i64 a0_9, .slice A0_10 l0_10.length c0_10, .slice A0_11 l0_11.length c0_11] 35 (0, 0))) := ⟨by (with_reducible repeat (first | refine blk_drewN ?_ _ | refine blk_drew ?_ | refine blk_alloc ?_ _)); refine blk_far ?_ NB171_194.out _; (with_reducible repeat (first | refine blk_drewN ?_ _ | refine blk_drew ?_ | refine blk_alloc ?_ _)); refine blk_far ?_ NB171_194.out _; (with_reducible repeat (first | refine blk_drewN ?_ _ | refine blk_drew ?_ | refine blk_alloc ?_ _)); refine blk_far ?_ NB171_194.out _; (with_reducible repeat (first | refine blk_drewN ?_ _ | refine blk_drew ?_ | refine blk_alloc ?_ _)); refine blk_far ?_ NB171_194.out _; (with_reducible repeat (first | refine blk_drewN ?_ _ | refine blk_drew ?_ | refine blk_alloc ?_ _)); refine blk_far ?_ NB171_194.out _; (with_reducible repeat (first | refine blk_drewN ?_ _ | refine blk_drew ?_ | refine blk_alloc ?_ _)); refine blk_far ?_ NB171_194.out _; (with_reducible repeat (first | refine blk_drewN ?_ _ | refine blk_drew ?_ | refine blk_alloc ?_ _)); refine blk_far ?_ NB171_194.out _; (with_reducible repeat (first | refine blk_drewN ?_ _ | refine blk_drew ?_ | refine blk_alloc ?_ _)); refine blk_far ?_ NB171_194.out _; (with_reducible repeat (first | refine blk_drewN ?_ _ | refine blk_drew ?_ | refine blk_alloc ?_ _)); refine blk_far ?_ NB171_194.out _; (with_reducible repeat (first | refine blk_drewN ?_ _ | refine blk_drew ?_ | refine blk_alloc ?_ _)); refine blk_far ?_ NB171_194.out _; (with_reducible repeat (first | refine blk_drewN ?_ _ | refine blk_drew ?_ | refine blk_alloc ?_ _)); refine blk_far ?_ NB171_194.out _; (with_reducible repeat (first | refine blk_drewN ?_ _ | refine blk_drew ?_ | refine blk_alloc ?_ _)); refine blk_far ?_ NB171_194.out _; (with_reducible repeat (first | refine blk_drewN ?_ _ | refine blk_drew ?_ | refine blk_alloc ?_ _)); exact BK171.out⟩
      have n3_ : Aside0 (((((((((((((w26.setCell ⟨gb194, 0, none⟩ (.string t178)).setCell ⟨gb194, 1, none⟩ (.string t179)).setCell ⟨gb194, 2, none⟩ (.int .i64 t180)).setCell ⟨gb194, 3, none⟩ (.int .i64 t181)).setCell ⟨gb194, 4, none⟩ (.int .i64 t182)).setCell ⟨gb194, 5, none⟩ (.int .i64 t183)).setCell ⟨gb194, 6, none⟩ (.int .i64 t184)).setCell ⟨gb194, 7, none⟩ (.int .i64 t185)).setCell ⟨gb194, 8, none⟩ (.int .i64 t186)).setCell ⟨gb194, 9, none⟩ (.int .i64 t187)).setCell ⟨gb194, 10, none⟩ (.slice Ao29 t188.length co29)).setCell ⟨gb194, 11, none⟩ (.slice Ao30 t191.length co30)).heap[gb194]? = some (.cells #[.string t178, .string t179, .int .i64 t180, .int .i64 t181, .int .i64 t182, .int .i64 t183, .int .i64 t184, .int .i64 t185, .int .i64 t186, .int .i64 t187, .slice Ao29 t188.length co29, .slice Ao30 t191.length co30] 35 (0, 0))) := ⟨by (with_reducible repeat (first | refine blk_drewN ?_ _ | refine blk_drew ?_ | refine blk_alloc ?_ _)); refine blk_put (cs := #[.string t178, .string t179, .int .i64 t180, .int .i64 t181, .int .i64 t182, .int .i64 t183, .int .i64 t184, .int .i64 t185, .int .i64 t186, .int .i64 t187, .slice Ao29 t188.length co29, .slice none 0 0]) ?_ 11 _ rfl; (with_reducible repeat (first | refine blk_drewN ?_ _ | refine blk_drew ?_ | refine blk_alloc ?_ _)); refine blk_put (cs := #[.string t178, .string t179, .int .i64 t180, .int .i64 t181, .int .i64 t182, .int .i64 t183, .int .i64 t184, .int .i64 t185, .int .i64 t186, .int .i64 t187, .slice none 0 0, .slice none 0 0]) ?_ 10 _ rfl; (with_reducible repeat (first | refine blk_drewN ?_ _ | refine blk_drew ?_ | refine blk_alloc ?_ _)); refine blk_put (cs := #[.string t178, .string t179, .int .i64 t180, .int .i64 t181, .int .i64 t182, .int .i64 t183, .int .i64 t184, .int .i64 t185, .int .i64 t186, .int .i64 0, .slice none 0 0, .slice none 0 0]) ?_ 9 _ rfl; (with_reducible repeat (first | refine blk_drewN ?_ _ | refine blk_drew ?_ | refine blk_alloc ?_ _)); refine blk_put (cs := #[.string t178, .string t179, .int .i64 t180, .int .i64 t181, .int .i64 t182, .int .i64 t183, .int .i64 t184, .int .i64 t185, .int .i64 0, .int .i64 0, .slice none 0 0, .slice none 0 0]) ?_ 8 _ rfl; (with_reducible repeat (first | refine blk_drewN ?_ _ | refine blk_drew ?_ | refine blk_alloc ?_ _)); refine blk_put (cs := #[.string t178, .string t179, .int .i64 t180, .int .i64 t181, .int .i64 t182, .int .i64 t183, .int .i64 t184, .int .i64 0, .int .i64 0, .int .i64 0, .slice none 0 0, .slice none 0 0]) ?_ 7 _ rfl; (with_reducible repeat (first | refine blk_drewN ?_ _ | refine blk_drew ?_ | refine blk_alloc ?_ _)); refine blk_put (cs := #[.string t178, .string t179, .int .i64 t180, .int .i64 t181, .int .i64 t182, .int .i64 t183, .int .i64 0, .int .i64 0, .int .i64 0, .int .i64 0, .slice none 0 0, .slice none 0 0]) ?_ 6 _ rfl; (with_reducible repeat (first | refine blk_drewN ?_ _ | refine blk_drew ?_ | refine blk_alloc ?_ _)); refine blk_put (cs := #[.string t178, .string t179, .int .i64 t180, .int .i64 t181, .int .i64 t182, .int .i64 0, .int .i64 0, .int .i64 0, .int .i64 0, .int .i64 0, .slice none 0 0, .slice none 0 0]) ?_ 5 _ rfl; (with_reducible repeat (first | refine blk_drewN ?_ _ | refine blk_drew ?_ | refine blk_alloc ?_ _)); refine blk_put (cs := #[.string t178, .string t179, .int .i64 t180, .int .i64 t181, .int .i64 0, .int .i64 0, .int .i64 0, .int .i64 0, .int .i64 0, .int .i64 0, .slice none 0 0, .slice none 0 0]) ?_ 4 _ rfl; (with_reducible repeat (first | refine blk_drewN ?_ _ | refine blk_drew ?_ | refine blk_alloc ?_ _)); refine blk_put (cs := #[.string t178, .string t179, .int .i64 t180, .int .i64 0, .int .i64 0, .int .i64 0, .int .i64 0, .int .i64 0, .int .i64 0, .int .i64 0, .slice none 0 0, .slice none 0 0]) ?_ 3 _ rfl; (with_reducible repeat (first | refine blk_drewN ?_ _ | refine blk_drew ?_ | refine blk_alloc ?_ _)); refine blk_put (cs := #[.string t178, .string t179, .int .i64 0, .int .i64 0, .int .i64 0, .int .i64 0, .int .i64 0, .int .i64 0, .int .i64 0, .int .i64 0, .slice none 0 0, .slice none 0 0]) ?_ 2 _ rfl; (with_reducible repeat (first | refine blk_drewN ?_ _ | refine blk_drew ?_ | refine blk_alloc ?_ _)); refine blk_put (cs := #[.string t178, .string (⟨#[]⟩ : ByteArray), .int .i64 0, .int .i64 0, .int .i64 0, .int .i64 0, .int .i64 0, .int .i64 0, .int .i64 0, .int .i64 0, .slice none 0 0, .slice none 0 0]) ?_ 1 _ rfl; (with_reducible repeat (first | refine blk_drewN ?_ _ | refine blk_drew ?_ | refine blk_alloc ?_ _)); refine blk_put (cs := #[.string (⟨#[]⟩ : ByteArray), .string (⟨#[]⟩ : ByteArray), .int .i64 0, .int .i64 0, .int .i64 0, .int .i64 0, .int .i64 0, .int .i64 0, .int .i64 0, .int .i64 0, .slice none 0 0, .slice none 0 0]) ?_ 0 _ rfl; (with_reducible repeat (first | refine blk_drewN ?_ _ | refine blk_drew ?_ | refine blk_alloc ?_ _)); exact BK194.out⟩
      have n4_ : Aside0 (Below w.heap.size w ((((((((((((w26.setCell ⟨gb194, 0, none⟩ (.string t178)).setCell ⟨gb194, 1, none⟩ (.string t179)).setCell ⟨gb194, 2, none⟩ (.int .i64 t180)).setCell ⟨gb194, 3, none⟩ (.int .i64 t181)).setCell ⟨gb194, 4, none⟩ (.int .i64 t182)).setCell ⟨gb194, 5, none⟩ (.int .i64 t183)).setCell ⟨gb194, 6, none⟩ (.int .i64 t184)).setCell ⟨gb194, 7, none⟩ (.int .i64 t185)).setCell ⟨gb194, 8, none⟩ (.int .i64 t186)).setCell ⟨gb194, 9, none⟩ (.int .i64 t187)).setCell ⟨gb194, 10, none⟩ (.slice Ao29 t188.length co29)).setCell ⟨gb194, 11, none⟩ (.slice Ao30 t191.length co30))) := ⟨by repeat (first | (with_reducible first | exact HB.out | apply below_alloc | apply pw_below_drewN | apply below_drew1 | refine below_set ?_ GE171.out | refine below_set ?_ GE194.out) | exact HB.out)⟩
      (try clear HO190)
      (try clear HO193)
      (try clear BK171)
      (try clear BK194)
      (try clear HB)
      generalize ((((((((((((w26.setCell ⟨gb194, 0, none⟩ (.string t178)).setCell ⟨gb194, 1, none⟩ (.string t179)).setCell ⟨gb194, 2, none⟩ (.int .i64 t180)).setCell ⟨gb194, 3, none⟩ (.int .i64 t181)).setCell ⟨gb194, 4, none⟩ (.int .i64 t182)).setCell ⟨gb194, 5, none⟩ (.int .i64 t183)).setCell ⟨gb194, 6, none⟩ (.int .i64 t184)).setCell ⟨gb194, 7, none⟩ (.int .i64 t185)).setCell ⟨gb194, 8, none⟩ (.int .i64 t186)).setCell ⟨gb194, 9, none⟩ (.int .i64 t187)).setCell ⟨gb194, 10, none⟩ (.slice Ao29 t188.length co29)).setCell ⟨gb194, 11, none⟩ (.slice Ao30 t191.length co30)) = w31 at n0_ n1_ n2_ n3_ n4_ ⊢
      have HO190 := n0_
      have HO193 := n1_
      have BK171 := n2_
      have BK194 := n3_
      have HB := n4_
      clear n0_ n1_ n2_ n3_ n4_
      have n0_ := Aside0.mk (Kd.R_drew HO190.out)
      have n1_ := Aside0.mk (Kd.R_drew HO193.out)
      have n2_ := Aside0.mk (blk_drew BK171.out)
      have n3_ := Aside0.mk (blk_drew BK194.out)
      have n4_ := Aside0.mk (below_drew1 HB.out)
      clear HO190
      clear HO193
      clear BK171
      clear BK194
      clear HB
      have HO190 := n0_
      have HO193 := n1_
      have BK171 := n2_
      have BK194 := n3_
      have HB := n4_
      clear n0_ n1_ n2_ n3_ n4_
      refine start_ (n := 21) (S := fun w' => w'.cell? ⟨gb194, 0, none⟩ = some (.string t178) ∧ w'.cell? ⟨gb194, 1, none⟩ = some (.string t179) ∧ w'.cell? ⟨gb194, 2, none⟩ = some (.int .i64 t180) ∧ w'.cell? ⟨gb194, 3, none⟩ = some (.int .i64 t181) ∧ w'.cell? ⟨gb194, 4, none⟩ = some (.int .i64 t182) ∧ w'.cell? ⟨gb194, 5, none⟩ = some (.int .i64 t183) ∧ w'.cell? ⟨gb194, 6, none⟩ = some (.int .i64 t184) ∧ w'.cell? ⟨gb194, 7, none⟩ = some (.int .i64 t185) ∧ w'.cell? ⟨gb194, 8, none⟩ = some (.int .i64 t186) ∧ w'.cell? ⟨gb194, 9, none⟩ = some (.int .i64 t187) ∧ w'.cell? ⟨gb194, 10, none⟩ = some (.slice Ao29 t188.length co29) ∧ w'.cell? ⟨gb194, 11, none⟩ = some (.slice Ao30 t191.length co30) ∧ w'.cell? ⟨gb171, 0, none⟩ = some (.string a0_0) ∧ w'.cell? ⟨gb171, 1, none⟩ = some (.string a0_1) ∧ w'.cell? ⟨gb171, 2, none⟩ = some (.int .i64 a0_2) ∧ w'.cell? ⟨gb171, 3, none⟩ = some (.int .i64 a0_3) ∧ w'.cell? ⟨gb171, 4, none⟩ = some (.int .i64 a0_4) ∧ w'.cell? ⟨gb171, 5, none⟩ = some (.int .i64 a0_5) ∧ w'.cell? ⟨gb171, 6, none⟩ = some (.int .i64 a0_6) ∧ w'.cell? ⟨gb171, 7, none⟩ = some (.int .i64 a0_7) ∧ w'.cell? ⟨gb171, 8, none⟩ = some (.int .i64 a0_8) ∧ w'.cell? ⟨gb171, 9, none⟩ = some (.int .i64 a0_9) ∧ w'.cell? ⟨gb171, 10, none⟩ = some (.slice A0_10 l0_10.length c0_10) ∧ w'.cell? ⟨gb171, 11, none⟩ = some (.slice A0_11 l0_11.length c0_11)) (ds := []) #[false, false, false, false, false, false, false, false, false, false, false, false, false, false, false, false, false, false, false, false, false] (by kernel_rfl) rfl rfl ⟨(blk_cell BK194.out 0).trans rfl, (blk_cell BK194.out 1).trans rfl, (blk_cell BK194.out 2).trans rfl, (blk_cell BK194.out 3).trans rfl, (blk_cell BK194.out 4).trans rfl, (blk_cell BK194.out 5).trans rfl, (blk_cell BK194.out 6).trans rfl, (blk_cell BK194.out 7).trans rfl, (blk_cell BK194.out 8).trans rfl, (blk_cell BK194.out 9).trans rfl, (blk_cell BK194.out 10).trans rfl, (blk_cell BK194.out 11).trans rfl, (blk_cell BK171.out 0).trans rfl, (blk_cell BK171.out 1).trans rfl, (blk_cell BK171.out 2).trans rfl, (blk_cell BK171.out 3).trans rfl, (blk_cell BK171.out 4).trans rfl, (blk_cell BK171.out 5).trans rfl, (blk_cell BK171.out 6).trans rfl, (blk_cell BK171.out 7).trans rfl, (blk_cell BK171.out 8).trans rfl, (blk_cell BK171.out 9).trans rfl, (blk_cell BK171.out 10).trans rfl, (blk_cell BK171.out 11).trans rfl⟩ (fun hHeld => ?_); refine with_tabW gangsawlaw30_SlabFaces.tab8 gangsawlaw30_SlabFaces.bits8 (fun HT_ HW_ => ?_)
      generalize w31.drew = w32 at HO190 HO193 BK171 BK194 HB hHeld ⊢
      refine pure_ (i := 0) (N := some 25) (v := ?_) (a' := ?_) #[true, false, false, false, false, false, false, false, false, false, false, false, false, false, false, false, false, false, false, false, false] rfl rfl (any_of HT_.out (by kernel_rfl)) (fun _ _ _ h => h) (Or.inl ⟨by rfl, ?_⟩) ?_ ?_
      rotate_left
      ·intro w'
       go_simp
       with_reducible rfl
      rotate_left
      ·simp only [Act.put, List.setIfInBounds_toArray, List.set_cons_zero, List.set_cons_succ, i64_w, i32_w]
       rfl
      refine pure_ (i := 1) (N := some 26) (v := ?_) (a' := ?_) #[true, true, false, false, false, false, false, false, false, false, false, false, false, false, false, false, false, false, false, false, false] rfl rfl (any_of HT_.out (by kernel_rfl)) (fun _ _ _ h => h) (Or.inl ⟨by rfl, ?_⟩) ?_ ?_
      rotate_left
      ·intro w'
       go_simp
       with_reducible rfl
      rotate_left
      ·simp only [Act.put, List.setIfInBounds_toArray, List.set_cons_zero, List.set_cons_succ, i64_w, i32_w]
       rfl
      refine pure_ (i := 2) (N := some 27) (v := ?_) (a' := ?_) #[true, true, true, false, false, false, false, false, false, false, false, false, false, false, false, false, false, false, false, false, false] rfl rfl (any_of HT_.out (by kernel_rfl)) (fun _ _ _ h => h) (Or.inl ⟨by rfl, ?_⟩) ?_ ?_
      rotate_left
      ·intro w'
       go_simp
       with_reducible rfl
      rotate_left
      ·simp only [Act.put, List.setIfInBounds_toArray, List.set_cons_zero, List.set_cons_succ, i64_w, i32_w]
       rfl
      refine pure_ (i := 3) (N := some 28) (v := ?_) (a' := ?_) #[true, true, true, true, false, false, false, false, false, false, false, false, false, false, false, false, false, false, false, false, false] rfl rfl (any_of HT_.out (by kernel_rfl)) (fun _ _ _ h => h) (Or.inl ⟨by rfl, ?_⟩) ?_ ?_
      rotate_left
      ·intro w'
       go_simp
       with_reducible rfl
      rotate_left
      ·simp only [Act.put, List.setIfInBounds_toArray, List.set_cons_zero, List.set_cons_succ, i64_w, i32_w]
       rfl
      refine pure_ (i := 4) (N := some 29) (v := ?_) (a' := ?_) #[true, true, true, true, true, false, false, false, false, false, false, false, false, false, false, false, false, false, false, false, false] rfl rfl (any_of HT_.out (by kernel_rfl)) (fun _ _ _ h => h) (Or.inl ⟨by rfl, ?_⟩) ?_ ?_
      rotate_left
      ·intro w'
       go_simp
       with_reducible rfl
      rotate_left
      ·simp only [Act.put, List.setIfInBounds_toArray, List.set_cons_zero, List.set_cons_succ, i64_w, i32_w]
       rfl
      refine pure_ (i := 5) (N := some 30) (v := ?_) (a' := ?_) #[true, true, true, true, true, true, false, false, false, false, false, false, false, false, false, false, false, false, false, false, false] rfl rfl (any_of HT_.out (by kernel_rfl)) (fun _ _ _ h => h) (Or.inl ⟨by rfl, ?_⟩) ?_ ?_
      rotate_left
      ·intro w'
       go_simp
       with_reducible rfl
      rotate_left
      ·simp only [Act.put, List.setIfInBounds_toArray, List.set_cons_zero, List.set_cons_succ, i64_w, i32_w]
       rfl
      refine pure_ (i := 6) (N := some 31) (v := ?_) (a' := ?_) #[true, true, true, true, true, true, true, false, false, false, false, false, false, false, false, false, false, false, false, false, false] rfl rfl (any_of HT_.out (by kernel_rfl)) (fun _ _ _ h => h) (Or.inl ⟨by rfl, ?_⟩) ?_ ?_
      rotate_left
      ·intro w'
       go_simp
       with_reducible rfl
      rotate_left
      ·simp only [Act.put, List.setIfInBounds_toArray, List.set_cons_zero, List.set_cons_succ, i64_w, i32_w]
       rfl
      refine pure_ (i := 7) (N := some 32) (v := ?_) (a' := ?_) #[true, true, true, true, true, true, true, true, false, false, false, false, false, false, false, false, false, false, false, false, false] rfl rfl (any_of HT_.out (by kernel_rfl)) (fun _ _ _ h => h) (Or.inl ⟨by rfl, ?_⟩) ?_ ?_
      rotate_left
      ·intro w'
       go_simp
       with_reducible rfl
      rotate_left
      ·simp only [Act.put, List.setIfInBounds_toArray, List.set_cons_zero, List.set_cons_succ, i64_w, i32_w]
       rfl
      refine pure_ (i := 8) (N := some 33) (v := ?_) (a' := ?_) #[true, true, true, true, true, true, true, true, true, false, false, false, false, false, false, false, false, false, false, false, false] rfl rfl (any_of HT_.out (by kernel_rfl)) (fun _ _ _ h => h) (Or.inl ⟨by rfl, ?_⟩) ?_ ?_
      rotate_left
      ·intro w'
       go_simp
       with_reducible rfl
      rotate_left
      ·simp only [Act.put, List.setIfInBounds_toArray, List.set_cons_zero, List.set_cons_succ, i64_w, i32_w]
       rfl
      refine take_ (i := 9) (N := some 34) (v := ?_) (a' := ?_) #[true, true, true, true, true, true, true, true, true, true, false, false, false, false, false, false, false, false, false, false, false] rfl rfl (take_ofW HT_.out HW_.out (by kernel_rfl)) (fun _ _ _ h => h) (Or.inl ⟨by rfl, ?_⟩) hHeld ?_ ?_
      rotate_left
      ·rintro w' ⟨s0, s1, s2, s3, s4, s5, s6, s7, s8, s9, s10, s11, s12, s13, s14, s15, s16, s17, s18, s19, s20, s21, s22, s23⟩
       go_simp
       with_reducible rfl
      rotate_left
      ·simp only [Act.put, List.setIfInBounds_toArray, List.set_cons_zero, List.set_cons_succ, i64_w, i32_w]
       rfl
      refine take_ (i := 10) (N := some 35) (v := ?_) (a' := ?_) #[true, true, true, true, true, true, true, true, true, true, true, false, false, false, false, false, false, false, false, false, false] rfl rfl (take_ofW HT_.out HW_.out (by kernel_rfl)) (fun _ _ _ h => h) (Or.inl ⟨by rfl, ?_⟩) hHeld ?_ ?_
      rotate_left
      ·rintro w' ⟨s0, s1, s2, s3, s4, s5, s6, s7, s8, s9, s10, s11, s12, s13, s14, s15, s16, s17, s18, s19, s20, s21, s22, s23⟩
       go_simp
       with_reducible rfl
      rotate_left
      ·simp only [Act.put, List.setIfInBounds_toArray, List.set_cons_zero, List.set_cons_succ, i64_w, i32_w]
       rfl
      refine one_ (i := 11) (N := some 36) #[true, true, true, true, true, true, true, true, true, true, true, true, false, false, false, false, false, false, false, false, false] rfl rfl (one_of HT_.out (by kernel_rfl)) (by decide) (fun K hK => ?_)
      refine goes_ Tryz.func34 (by kernel_rfl) rfl #[.agg #[.string a0_0, .string a0_1, .int .i64 a0_2, .int .i64 a0_3, .int .i64 a0_4, .int .i64 a0_5, .int .i64 a0_6, .int .i64 a0_7, .int .i64 a0_8, .int .i64 a0_9, .slice A0_10 l0_10.length c0_10, .slice A0_11 l0_11.length c0_11]] (by rfl) rfl rfl (by (try simp only [List.map_toArray, List.map_cons, List.map_nil]); first | done | rfl | (simp only [List.length_drop, List.length_take]; rfl)) ?_
      with_reducible refine (gangsawref30_Turn.calls a0_0 a0_1 a0_2 a0_3 a0_4 a0_5 a0_6 a0_7 a0_8 a0_9 _ _ l0_10 _ _ l0_11 t195 t196 t197 t198 t199 t200 t201 t202 t203 t204 _ ?side1 ?side2 ?side3 ?side4 A11.out).mono ?_
      (case side1 => repeat (first | exact (Kd.C_below HR0_10.out HB.out) | (with_reducible refine Kd.C_alloc ?_ _) | (with_reducible refine Kd.C_drewN ?_ _) | (with_reducible refine Kd.C_drew ?_)))
      (case side2 => exact HC0_10.out)
      (case side3 => repeat (first | exact (Kd.C_below HR0_11.out HB.out) | (with_reducible refine Kd.C_alloc ?_ _) | (with_reducible refine Kd.C_drewN ?_ _) | (with_reducible refine Kd.C_drew ?_)))
      (case side4 => exact HC0_11.out)
      rintro e w33 ⟨rfl, hb⟩
      refine ⟨_, rfl, ?_⟩
      have n0_ := Aside0.mk (Kd.R_below (by (with_reducible repeat (first | apply Kd.R_alloc | apply Kd.R_drewN | apply Kd.R_drew)); exact HO190.out) hb)
      have n1_ := Aside0.mk (Kd.R_below (by (with_reducible repeat (first | apply Kd.R_alloc | apply Kd.R_drewN | apply Kd.R_drew)); exact HO193.out) hb)
      have n2_ := Aside0.mk (blk_below (g := gb171) (o := .cells #[.string a0_0, .string a0_1, .int .i64 a0_2, .int .i64 a0_3, .int .i64 a0_4, .int .i64 a0_5, .int .i64 a0_6, .int .i64 a0_7, .int .i64 a0_8, .int .i64 a0_9, .slice A0_10 l0_10.length c0_10, .slice A0_11 l0_11.length c0_11] 35 (0, 0)) (by (with_reducible repeat (first | refine blk_drewN ?_ _ | refine blk_drew ?_ | refine blk_alloc ?_ _)); exact BK171.out) hb)
      have n3_ := Aside0.mk (blk_below (g := gb194) (o := .cells #[.string t178, .string t179, .int .i64 t180, .int .i64 t181, .int .i64 t182, .int .i64 t183, .int .i64 t184, .int .i64 t185, .int .i64 t186, .int .i64 t187, .slice Ao29 t188.length co29, .slice Ao30 t191.length co30] 35 (0, 0)) (by (with_reducible repeat (first | refine blk_drewN ?_ _ | refine blk_drew ?_ | refine blk_alloc ?_ _)); exact BK194.out) hb)
      have n4_ := Aside0.mk (below_step (by repeat (first | (with_reducible first | exact HB.out | apply below_alloc | apply pw_below_drewN | apply below_drew1 | refine below_set ?_ GE171.out | refine below_set ?_ GE194.out) | exact HB.out)) hb)
      clear HO190
      clear HO193
      clear BK171
      clear BK194
      clear HB
      have HO190 := n0_
      have HO193 := n1_
      have BK171 := n2_
      have BK194 := n3_
      have HB := n4_
      clear n0_ n1_ n2_ n3_ n4_
      (try clear hb)
      (try clear hb2)
      (try clear hk)
      (try clear hi)
      refine hK.out _ _ ⟨(blk_cell BK194.out 0).trans rfl, (blk_cell BK194.out 1).trans rfl, (blk_cell BK194.out 2).trans rfl, (blk_cell BK194.out 3).trans rfl, (blk_cell BK194.out 4).trans rfl, (blk_cell BK194.out 5).trans rfl, (blk_cell BK194.out 6).trans rfl, (blk_cell BK194.out 7).trans rfl, (blk_cell BK194.out 8).trans rfl, (blk_cell BK194.out 9).trans rfl, (blk_cell BK194.out 10).trans rfl, (blk_cell BK194.out 11).trans rfl, (blk_cell BK171.out 0).trans rfl, (blk_cell BK171.out 1).trans rfl, (blk_cell BK171.out 2).trans rfl, (blk_cell BK171.out 3).trans rfl, (blk_cell BK171.out 4).trans rfl, (blk_cell BK171.out 5).trans rfl, (blk_cell BK171.out 6).trans rfl, (blk_cell BK171.out 7).trans rfl, (blk_cell BK171.out 8).trans rfl, (blk_cell BK171.out 9).trans rfl, (blk_cell BK171.out 10).trans rfl, (blk_cell BK171.out 11).trans rfl⟩ (fun hHeld => ?_)
      clear hK K
      refine norm_ (a' := ?_) ?_ ?_
      rotate_left
      ·show Act.put _ (some 36) _ = _
       simp only [Act.put, List.setIfInBounds_toArray, List.set_cons_zero, List.set_cons_succ, i64_w, i32_w]
       rfl
      refine one_ (i := 12) (N := some 37) #[true, true, true, true, true, true, true, true, true, true, true, true, true, false, false, false, false, false, false, false, false] rfl rfl (one_of HT_.out (by kernel_rfl)) (by decide) (fun K hK => ?_)
      refine goes_ Tryz.func14 (by kernel_rfl) rfl #[.agg #[.string t178, .string t179, .int .i64 t180, .int .i64 t181, .int .i64 t182, .int .i64 t183, .int .i64 t184, .int .i64 t185, .int .i64 t186, .int .i64 t187, .slice Ao29 t188.length co29, .slice Ao30 t191.length co30], .agg #[.string t195, .string t196, .int .i64 t197, .int .i64 t198, .int .i64 t199, .int .i64 t200, .int .i64 t201, .int .i64 t202, .int .i64 t203, .int .i64 t204, .slice A0_11 l0_11.length c0_11, .slice A0_10 l0_10.length c0_10]] (by rfl) rfl rfl (by (try simp only [List.map_toArray, List.map_cons, List.map_nil]); first | done | rfl | (simp only [List.length_drop, List.length_take]; rfl)) ?_
      with_reducible refine (gangsawref30_Equal.calls k t178 t179 t180 t181 t182 t183 t184 t185 t186 t187 _ _ t188 _ _ t191 t195 t196 t197 t198 t199 t200 t201 t202 t203 t204 _ _ l0_11 _ _ l0_10 true _ ?side1 ?side2 ?side3 ?side4 ?side5 ?side6 ?side7 ?side8 A12.out).mono ?_
      (case side1 => repeat (first | exact (Kd.R_reads' HO190.out).2.2 | (with_reducible refine Kd.C_alloc ?_ _) | (with_reducible refine Kd.C_drewN ?_ _) | (with_reducible refine Kd.C_drew ?_)))
      (case side2 => exact (Kd.R_reads' HO190.out).2.1)
      (case side3 => repeat (first | exact (Kd.R_reads' HO193.out).2.2 | (with_reducible refine Kd.C_alloc ?_ _) | (with_reducible refine Kd.C_drewN ?_ _) | (with_reducible refine Kd.C_drew ?_)))
      (case side4 => exact (Kd.R_reads' HO193.out).2.1)
      (case side5 => repeat (first | exact (Kd.C_below HR0_11.out HB.out) | (with_reducible refine Kd.C_alloc ?_ _) | (with_reducible refine Kd.C_drewN ?_ _) | (with_reducible refine Kd.C_drew ?_)))
      (case side6 => exact HC0_11.out)
      (case side7 => repeat (first | exact (Kd.C_below HR0_10.out HB.out) | (with_reducible refine Kd.C_alloc ?_ _) | (with_reducible refine Kd.C_drewN ?_ _) | (with_reducible refine Kd.C_drew ?_)))
      (case side8 => exact HC0_10.out)
      rintro e w34 ⟨rfl, hb⟩
      refine ⟨_, rfl, ?_⟩
      have n0_ := Aside0.mk (Kd.R_below (by (with_reducible repeat (first | apply Kd.R_alloc | apply Kd.R_drewN | apply Kd.R_drew)); exact HO190.out) hb)
      have n1_ := Aside0.mk (Kd.R_below (by (with_reducible repeat (first | apply Kd.R_alloc | apply Kd.R_drewN | apply Kd.R_drew)); exact HO193.out) hb)
      have n2_ := Aside0.mk (blk_below (g := gb171) (o := .cells #[.string a0_0, .string a0_1, .int .i64 a0_2, .int .i64 a0_3, .int .i64 a0_4, .int .i64 a0_5, .int .i64 a0_6, .int .i64 a0_7, .int .i64 a0_8, .int .i64 a0_9, .slice A0_10 l0_10.length c0_10, .slice A0_11 l0_11.length c0_11] 35 (0, 0)) (by (with_reducible repeat (first | refine blk_drewN ?_ _ | refine blk_drew ?_ | refine blk_alloc ?_ _)); exact BK171.out) hb)
      have n3_ := Aside0.mk (blk_below (g := gb194) (o := .cells #[.string t178, .string t179, .int .i64 t180, .int .i64 t181, .int .i64 t182, .int .i64 t183, .int .i64 t184, .int .i64 t185, .int .i64 t186, .int .i64 t187, .slice Ao29 t188.length co29, .slice Ao30 t191.length co30] 35 (0, 0)) (by (with_reducible repeat (first | refine blk_drewN ?_ _ | refine blk_drew ?_ | refine blk_alloc ?_ _)); exact BK194.out) hb)
      have n4_ := Aside0.mk (below_step (by repeat (first | (with_reducible first | exact HB.out | apply below_alloc | apply pw_below_drewN | apply below_drew1 | refine below_set ?_ GE171.out | refine below_set ?_ GE194.out) | exact HB.out)) hb)
      clear HO190
      clear HO193
      clear BK171
      clear BK194
      clear HB
      have HO190 := n0_
      have HO193 := n1_
      have BK171 := n2_
      have BK194 := n3_
      have HB := n4_
      clear n0_ n1_ n2_ n3_ n4_
      (try clear hb)
      (try clear hb2)
      (try clear hk)
      (try clear hi)
      refine hK.out _ _ ⟨(blk_cell BK194.out 0).trans rfl, (blk_cell BK194.out 1).trans rfl, (blk_cell BK194.out 2).trans rfl, (blk_cell BK194.out 3).trans rfl, (blk_cell BK194.out 4).trans rfl, (blk_cell BK194.out 5).trans rfl, (blk_cell BK194.out 6).trans rfl, (blk_cell BK194.out 7).trans rfl, (blk_cell BK194.out 8).trans rfl, (blk_cell BK194.out 9).trans rfl, (blk_cell BK194.out 10).trans rfl, (blk_cell BK194.out 11).trans rfl, (blk_cell BK171.out 0).trans rfl, (blk_cell BK171.out 1).trans rfl, (blk_cell BK171.out 2).trans rfl, (blk_cell BK171.out 3).trans rfl, (blk_cell BK171.out 4).trans rfl, (blk_cell BK171.out 5).trans rfl, (blk_cell BK171.out 6).trans rfl, (blk_cell BK171.out 7).trans rfl, (blk_cell BK171.out 8).trans rfl, (blk_cell BK171.out 9).trans rfl, (blk_cell BK171.out 10).trans rfl, (blk_cell BK171.out 11).trans rfl⟩ (fun hHeld => ?_)
      clear hK K
      refine norm_ (a' := ?_) ?_ ?_
      rotate_left
      ·show Act.put _ (some 37) _ = _
       simp only [Act.put, List.setIfInBounds_toArray, List.set_cons_zero, List.set_cons_succ, i64_w, i32_w]
       rfl
      refine pure_ (i := 13) (N := some 38) (v := ?_) (a' := ?_) #[true, true, true, true, true, true, true, true, true, true, true, true, true, true, false, false, false, false, false, false, false] rfl rfl (any_of HT_.out (by kernel_rfl)) (fun _ _ _ h => h) (Or.inl ⟨by rfl, ?_⟩) ?_ ?_
      rotate_left
      ·intro w'
       go_simp
       with_reducible rfl
      rotate_left
      ·simp only [Act.put, List.setIfInBounds_toArray, List.set_cons_zero, List.set_cons_succ, i64_w, i32_w]
       rfl
      refine pure_ (i := 14) (N := some 39) (v := ?_) (a' := ?_) #[true, true, true, true, true, true, true, true, true, true, true, true, true, true, true, false, false, false, false, false, false] rfl rfl (any_of HT_.out (by kernel_rfl)) (fun _ _ _ h => h) (Or.inl ⟨by rfl, ?_⟩) ?_ ?_
      rotate_left
      ·intro w'
       go_simp
       with_reducible rfl
      rotate_left
      ·simp only [Act.put, List.setIfInBounds_toArray, List.set_cons_zero, List.set_cons_succ, i64_w, i32_w]
       rfl
      refine take_ (i := 15) (N := some 40) (v := ?_) (a' := ?_) #[true, true, true, true, true, true, true, true, true, true, true, true, true, true, true, true, false, false, false, false, false] rfl rfl (take_ofW HT_.out HW_.out (by kernel_rfl)) (fun _ _ _ h => h) (Or.inl ⟨by rfl, ?_⟩) hHeld ?_ ?_
      rotate_left
      ·rintro w' ⟨s0, s1, s2, s3, s4, s5, s6, s7, s8, s9, s10, s11, s12, s13, s14, s15, s16, s17, s18, s19, s20, s21, s22, s23⟩
       go_simp
       with_reducible rfl
      rotate_left
      ·simp only [Act.put, List.setIfInBounds_toArray, List.set_cons_zero, List.set_cons_succ, i64_w, i32_w]
       rfl
      refine take_ (i := 17) (N := some 42) (v := ?_) (a' := ?_) #[true, true, true, true, true, true, true, true, true, true, true, true, true, true, true, true, false, true, false, false, false] rfl rfl (take_ofW HT_.out HW_.out (by kernel_rfl)) (fun _ _ _ h => h) (Or.inl ⟨by rfl, ?_⟩) hHeld ?_ ?_
      rotate_left
      ·rintro w' ⟨s0, s1, s2, s3, s4, s5, s6, s7, s8, s9, s10, s11, s12, s13, s14, s15, s16, s17, s18, s19, s20, s21, s22, s23⟩
       go_simp
       with_reducible rfl
      rotate_left
      ·simp only [Act.put, List.setIfInBounds_toArray, List.set_cons_zero, List.set_cons_succ, i64_w, i32_w]
       rfl
      refine one_ (i := 16) (N := some 41) #[true, true, true, true, true, true, true, true, true, true, true, true, true, true, true, true, true, true, false, false, false] rfl rfl (one_of HT_.out (by kernel_rfl)) (by decide) (fun K hK => ?_)
      refine goes_ Tryz.func33 (by kernel_rfl) rfl #[.agg #[.string t178, .string t179, .int .i64 t180, .int .i64 t181, .int .i64 t182, .int .i64 t183, .int .i64 t184, .int .i64 t185, .int .i64 t186, .int .i64 t187, .slice Ao29 t188.length co29, .slice Ao30 t191.length co30]] (by rfl) rfl rfl (by (try simp only [List.map_toArray, List.map_cons, List.map_nil]); first | done | rfl | (simp only [List.length_drop, List.length_take]; rfl)) ?_
      with_reducible refine (slab_Turn.calls k t178 t179 t180 t181 t182 t183 t184 t185 t186 t187 _ _ t188 _ _ t191 t206 t207 t208 t209 t210 t211 t212 t213 t214 t215 t216 t219 _ ?side1 ?side2 ?side3 ?side4 A14.out).mono ?_
      (case side1 => repeat (first | exact (Kd.R_reads' HO190.out).2.2 | (with_reducible refine Kd.C_alloc ?_ _) | (with_reducible refine Kd.C_drewN ?_ _) | (with_reducible refine Kd.C_drew ?_)))
      (case side2 => exact (Kd.R_reads' HO190.out).2.1)
      (case side3 => repeat (first | exact (Kd.R_reads' HO193.out).2.2 | (with_reducible refine Kd.C_alloc ?_ _) | (with_reducible refine Kd.C_drewN ?_ _) | (with_reducible refine Kd.C_drew ?_)))
      (case side4 => exact (Kd.R_reads' HO193.out).2.1)
      rintro e w35 ⟨v217, v220, rfl, ho0, ho1, hb⟩
      refine ⟨_, rfl, ?_⟩
      have n0_ := Aside0.mk (Kd.R_mono (Kd.R_told (Kd.R_told (Kd.R_old (by (with_reducible repeat (first | apply Kd.R_alloc | apply Kd.R_drewN | apply Kd.R_drew)); exact HO190.out) hb) (Kd.R_base ho0)) (Kd.R_base ho1)) (fun _ h_ => h_.1))
      have n1_ := Aside0.mk (Kd.R_mono (Kd.R_told (Kd.R_told (Kd.R_old (by (with_reducible repeat (first | apply Kd.R_alloc | apply Kd.R_drewN | apply Kd.R_drew)); exact HO193.out) hb) (Kd.R_base ho0)) (Kd.R_base ho1)) (fun _ h_ => h_.1))
      have n2_ := Aside0.mk (Kd.R_lower (Kd.R_new' (Kd.R_new' ho0 (Kd.R_lt (by (with_reducible repeat (first | apply Kd.R_alloc | apply Kd.R_drewN | apply Kd.R_drew)); exact HO190.out))) (Kd.R_lt (by (with_reducible repeat (first | apply Kd.R_alloc | apply Kd.R_drewN | apply Kd.R_drew)); exact HO193.out))) (below_size (by repeat (first | (with_reducible first | exact HB.out | apply below_alloc | apply pw_below_drewN | apply below_drew1 | refine below_set ?_ GE171.out | refine below_set ?_ GE194.out) | exact HB.out))))
      have n3_ := Aside0.mk (Kd.R_lower (Kd.R_new' (Kd.R_new' ho1 (Kd.R_lt (by (with_reducible repeat (first | apply Kd.R_alloc | apply Kd.R_drewN | apply Kd.R_drew)); exact HO190.out))) (Kd.R_lt (by (with_reducible repeat (first | apply Kd.R_alloc | apply Kd.R_drewN | apply Kd.R_drew)); exact HO193.out))) (below_size (by repeat (first | (with_reducible first | exact HB.out | apply below_alloc | apply pw_below_drewN | apply below_drew1 | refine below_set ?_ GE171.out | refine below_set ?_ GE194.out) | exact HB.out))))
      have n4_ := Aside0.mk (blk_below (g := gb171) (o := .cells #[.string a0_0, .string a0_1, .int .i64 a0_2, .int .i64 a0_3, .int .i64 a0_4, .int .i64 a0_5, .int .i64 a0_6, .int .i64 a0_7, .int .i64 a0_8, .int .i64 a0_9, .slice A0_10 l0_10.length c0_10, .slice A0_11 l0_11.length c0_11] 35 (0, 0)) (by (with_reducible repeat (first | refine blk_drewN ?_ _ | refine blk_drew ?_ | refine blk_alloc ?_ _)); exact BK171.out) hb)
      have n5_ := Aside0.mk (blk_below (g := gb194) (o := .cells #[.string t178, .string t179, .int .i64 t180, .int .i64 t181, .int .i64 t182, .int .i64 t183, .int .i64 t184, .int .i64 t185, .int .i64 t186, .int .i64 t187, .slice Ao29 t188.length co29, .slice Ao30 t191.length co30] 35 (0, 0)) (by (with_reducible repeat (first | refine blk_drewN ?_ _ | refine blk_drew ?_ | refine blk_alloc ?_ _)); exact BK194.out) hb)
      have n6_ := Aside0.mk (below_step (by repeat (first | (with_reducible first | exact HB.out | apply below_alloc | apply pw_below_drewN | apply below_drew1 | refine below_set ?_ GE171.out | refine below_set ?_ GE194.out) | exact HB.out)) hb)
      clear HO190
      clear HO193
      clear BK171
      clear BK194
      clear HB
      have HO190 := n0_
      have HO193 := n1_
      have HO218 := n2_
      have HO221 := n3_
      have BK171 := n4_
      have BK194 := n5_
      have HB := n6_
      clear n0_ n1_ n2_ n3_ n4_ n5_ n6_
      (try clear hb)
      (try clear hb2)
      (try clear hk)
      (try clear hi)
      (try clear ho0)
      (try clear ho1)
      obtain ⟨Ao36, co36, eo36⟩ := Kd.R_slice HO218.out
      (first | subst eo36 | (injection eo36 with f1_ f2_ f3_; have f4_ := f1_.symm; have f5_ := f3_.symm; clear f1_ f2_ f3_; subst f4_; subst f5_))
      obtain ⟨Ao37, co37, eo37⟩ := Kd.R_slice HO221.out
      (first | subst eo37 | (injection eo37 with f1_ f2_ f3_; have f4_ := f1_.symm; have f5_ := f3_.symm; clear f1_ f2_ f3_; subst f4_; subst f5_))
      refine hK.out _ _ ⟨(blk_cell BK194.out 0).trans rfl, (blk_cell BK194.out 1).trans rfl, (blk_cell BK194.out 2).trans rfl, (blk_cell BK194.out 3).trans rfl, (blk_cell BK194.out 4).trans rfl, (blk_cell BK194.out 5).trans rfl, (blk_cell BK194.out 6).trans rfl, (blk_cell BK194.out 7).trans rfl, (blk_cell BK194.out 8).trans rfl, (blk_cell BK194.out 9).trans rfl, (blk_cell BK194.out 10).trans rfl, (blk_cell BK194.out 11).trans rfl, (blk_cell BK171.out 0).trans rfl, (blk_cell BK171.out 1).trans rfl, (blk_cell BK171.out 2).trans rfl, (blk_cell BK171.out 3).trans rfl, (blk_cell BK171.out 4).trans rfl, (blk_cell BK171.out 5).trans rfl, (blk_cell BK171.out 6).trans rfl, (blk_cell BK171.out 7).trans rfl, (blk_cell BK171.out 8).trans rfl, (blk_cell BK171.out 9).trans rfl, (blk_cell BK171.out 10).trans rfl, (blk_cell BK171.out 11).trans rfl⟩ (fun hHeld => ?_)
      clear hK K
      refine norm_ (a' := ?_) ?_ ?_
      rotate_left
      ·show Act.put _ (some 41) _ = _
       simp only [Act.put, List.setIfInBounds_toArray, List.set_cons_zero, List.set_cons_succ, i64_w, i32_w]
       rfl
      refine one_ (i := 18) (N := some 43) #[true, true, true, true, true, true, true, true, true, true, true, true, true, true, true, true, true, true, true, false, false] rfl rfl (one_of HT_.out (by kernel_rfl)) (by decide) (fun K hK => ?_)
      refine goes_ Tryz.func14 (by kernel_rfl) rfl #[.agg #[.string t206, .string t207, .int .i64 t208, .int .i64 t209, .int .i64 t210, .int .i64 t211, .int .i64 t212, .int .i64 t213, .int .i64 t214, .int .i64 t215, .slice Ao36 t216.length co36, .slice Ao37 t219.length co37], .agg #[.string a0_0, .string a0_1, .int .i64 a0_2, .int .i64 a0_3, .int .i64 a0_4, .int .i64 a0_5, .int .i64 a0_6, .int .i64 a0_7, .int .i64 a0_8, .int .i64 a0_9, .slice A0_10 l0_10.length c0_10, .slice A0_11 l0_11.length c0_11]] (by rfl) rfl rfl (by (try simp only [List.map_toArray, List.map_cons, List.map_nil]); first | done | rfl | (simp only [List.length_drop, List.length_take]; rfl)) ?_
      with_reducible refine (gangsawref30_Equal.calls k t206 t207 t208 t209 t210 t211 t212 t213 t214 t215 _ _ t216 _ _ t219 a0_0 a0_1 a0_2 a0_3 a0_4 a0_5 a0_6 a0_7 a0_8 a0_9 _ _ l0_10 _ _ l0_11 t222 _ ?side1 ?side2 ?side3 ?side4 ?side5 ?side6 ?side7 ?side8 A15.out).mono ?_
      (case side1 => repeat (first | exact (Kd.R_reads' HO218.out).2.2 | (with_reducible refine Kd.C_alloc ?_ _) | (with_reducible refine Kd.C_drewN ?_ _) | (with_reducible refine Kd.C_drew ?_)))
      (case side2 => exact (Kd.R_reads' HO218.out).2.1)
      (case side3 => repeat (first | exact (Kd.R_reads' HO221.out).2.2 | (with_reducible refine Kd.C_alloc ?_ _) | (with_reducible refine Kd.C_drewN ?_ _) | (with_reducible refine Kd.C_drew ?_)))
      (case side4 => exact (Kd.R_reads' HO221.out).2.1)
      (case side5 => repeat (first | exact (Kd.C_below HR0_10.out HB.out) | (with_reducible refine Kd.C_alloc ?_ _) | (with_reducible refine Kd.C_drewN ?_ _) | (with_reducible refine Kd.C_drew ?_)))
      (case side6 => exact HC0_10.out)
      (case side7 => repeat (first | exact (Kd.C_below HR0_11.out HB.out) | (with_reducible refine Kd.C_alloc ?_ _) | (with_reducible refine Kd.C_drewN ?_ _) | (with_reducible refine Kd.C_drew ?_)))
      (case side8 => exact HC0_11.out)
      rintro e w38 ⟨rfl, hb⟩
      refine ⟨_, rfl, ?_⟩
      have n0_ := Aside0.mk (Kd.R_below (by (with_reducible repeat (first | apply Kd.R_alloc | apply Kd.R_drewN | apply Kd.R_drew)); exact HO190.out) hb)
      have n1_ := Aside0.mk (Kd.R_below (by (with_reducible repeat (first | apply Kd.R_alloc | apply Kd.R_drewN | apply Kd.R_drew)); exact HO193.out) hb)
      have n2_ := Aside0.mk (Kd.R_below (by (with_reducible repeat (first | apply Kd.R_alloc | apply Kd.R_drewN | apply Kd.R_drew)); exact HO218.out) hb)
      have n3_ := Aside0.mk (Kd.R_below (by (with_reducible repeat (first | apply Kd.R_alloc | apply Kd.R_drewN | apply Kd.R_drew)); exact HO221.out) hb)
      have n4_ := Aside0.mk (blk_below (g := gb171) (o := .cells #[.string a0_0, .string a0_1, .int .i64 a0_2, .int .i64 a0_3, .int .i64 a0_4, .int .i64 a0_5, .int .i64 a0_6, .int .i64 a0_7, .int .i64 a0_8, .int .i64 a0_9, .slice A0_10 l0_10.length c0_10, .slice A0_11 l0_11.length c0_11] 35 (0, 0)) (by (with_reducible repeat (first | refine blk_drewN ?_ _ | refine blk_drew ?_ | refine blk_alloc ?_ _)); exact BK171.out) hb)
      have n5_ := Aside0.mk (blk_below (g := gb194) (o := .cells #[.string t178, .string t179, .int .i64 t180, .int .i64 t181, .int .i64 t182, .int .i64 t183, .int .i64 t184, .int .i64 t185, .int .i64 t186, .int .i64 t187, .slice Ao29 t188.length co29, .slice Ao30 t191.length co30] 35 (0, 0)) (by (with_reducible repeat (first | refine blk_drewN ?_ _ | refine blk_drew ?_ | refine blk_alloc ?_ _)); exact BK194.out) hb)
      have n6_ := Aside0.mk (below_step (by repeat (first | (with_reducible first | exact HB.out | apply below_alloc | apply pw_below_drewN | apply below_drew1 | refine below_set ?_ GE171.out | refine below_set ?_ GE194.out) | exact HB.out)) hb)
      clear HO190
      clear HO193
      clear HO218
      clear HO221
      clear BK171
      clear BK194
      clear HB
      have HO190 := n0_
      have HO193 := n1_
      have HO218 := n2_
      have HO221 := n3_
      have BK171 := n4_
      have BK194 := n5_
      have HB := n6_
      clear n0_ n1_ n2_ n3_ n4_ n5_ n6_
      (try clear hb)
      (try clear hb2)
      (try clear hk)
      (try clear hi)
      refine hK.out _ _ ⟨(blk_cell BK194.out 0).trans rfl, (blk_cell BK194.out 1).trans rfl, (blk_cell BK194.out 2).trans rfl, (blk_cell BK194.out 3).trans rfl, (blk_cell BK194.out 4).trans rfl, (blk_cell BK194.out 5).trans rfl, (blk_cell BK194.out 6).trans rfl, (blk_cell BK194.out 7).trans rfl, (blk_cell BK194.out 8).trans rfl, (blk_cell BK194.out 9).trans rfl, (blk_cell BK194.out 10).trans rfl, (blk_cell BK194.out 11).trans rfl, (blk_cell BK171.out 0).trans rfl, (blk_cell BK171.out 1).trans rfl, (blk_cell BK171.out 2).trans rfl, (blk_cell BK171.out 3).trans rfl, (blk_cell BK171.out 4).trans rfl, (blk_cell BK171.out 5).trans rfl, (blk_cell BK171.out 6).trans rfl, (blk_cell BK171.out 7).trans rfl, (blk_cell BK171.out 8).trans rfl, (blk_cell BK171.out 9).trans rfl, (blk_cell BK171.out 10).trans rfl, (blk_cell BK171.out 11).trans rfl⟩ (fun hHeld => ?_)
      clear hK K
      refine norm_ (a' := ?_) ?_ ?_
      rotate_left
      ·show Act.put _ (some 43) _ = _
       simp only [Act.put, List.setIfInBounds_toArray, List.set_cons_zero, List.set_cons_succ, i64_w, i32_w]
       rfl
      refine pure_ (i := 19) (N := some 44) (v := ?_) (a' := ?_) #[true, true, true, true, true, true, true, true, true, true, true, true, true, true, true, true, true, true, true, true, false] rfl rfl (any_of HT_.out (by kernel_rfl)) (fun _ _ _ h => h) (Or.inl ⟨by rfl, ?_⟩) ?_ ?_
      rotate_left
      ·intro w'
       go_simp
       with_reducible rfl
      rotate_left
      ·simp only [Act.put, List.setIfInBounds_toArray, List.set_cons_zero, List.set_cons_succ, i64_w, i32_w]
       rfl
      refine pure_ (i := 20) (N := some 2) (v := ?_) (a' := ?_) #[true, true, true, true, true, true, true, true, true, true, true, true, true, true, true, true, true, true, true, true, true] rfl rfl (any_of HT_.out (by kernel_rfl)) (fun _ _ _ h => h) (Or.inl ⟨by rfl, ?_⟩) ?_ ?_
      rotate_left
      ·intro w'
       go_simp
       with_reducible rfl
      rotate_left
      ·simp only [Act.put, List.setIfInBounds_toArray, List.set_cons_zero, List.set_cons_succ, i64_w, i32_w]
       rfl
      refine done_ (done_of HT_.out (by kernel_rfl)) ?_
      try go_wp2
      go_ret
      exact ⟨by first | rfl | (simp [errW_none, errW_some] <;> rfl) | (simp [*, errW_none, errW_some] <;> rfl), by repeat (first | (with_reducible first | exact HB.out | apply below_alloc | apply pw_below_drewN | apply below_drew1 | refine below_set ?_ GE171.out | refine below_set ?_ GE194.out) | exact HB.out)⟩
     ·replace c13 := Bool.eq_false_iff.mpr c13
      subst c13
      have H1 : (some false) = some r := by rw [if_neg (show ¬ (false = true) by decide)] at H; exact H
      clear H
      have H := H1
      clear H1
      obtain rfl := Option.some.inj H
      exact absurd hr (by decide)
    ·rw [if_neg c10] at H
     have c10b0 : (t175 == t177) = false := beq_eq_false_iff_ne.mpr c10
     have c10b1 : (t175 != t177) = true := bne_iff_ne.mpr c10
     obtain rfl := Option.some.inj H
     exact absurd hr (by decide)
   ·rw [if_neg c9] at H
    have c9b0 : (t174 == t176) = false := beq_eq_false_iff_ne.mpr c9
    have c9b1 : (t174 != t176) = true := bne_iff_ne.mpr c9
    obtain rfl := Option.some.inj H
    exact absurd hr (by decide)
  ·replace c5 := Bool.eq_false_iff.mpr c5
   subst c5
   have H1 : (some true) = some r := by rw [if_neg (show ¬ (false = true) by decide)] at H; exact H
   clear H
   have H := H1
   clear H1
   obtain rfl := Option.some.inj H
   simp only [Option.some.injEq, Prod.mk.injEq] at H
   obtain ⟨rfl⟩ := H
   go_enter Tryz.func7, Tryz.ntmps7
   go_wp2_with (first | ((with_reducible refine gate_dst (N := 1) rfl ?_); refine box_event ?hg (N := 1) ?hd (cs := #[.string a0_0, .string a0_1, .int .i64 a0_2, .int .i64 a0_3, .int .i64 a0_4, .int .i64 a0_5, .int .i64 a0_6, .int .i64 a0_7, .int .i64 a0_8, .int .i64 a0_9, .slice A0_10 l0_10.length c0_10, .slice A0_11 l0_11.length c0_11]) (t := 35) ?hr ?_; (case hd => rfl); (case hg => rfl); (case hr => first | (go_simp; done) | (go_simp; rfl)); intro gb171 hg w39 hbox hb; have n0_ := Aside0.mk (below_step (by repeat (first | (with_reducible first | exact HB.out | apply below_alloc | apply pw_below_drewN | apply below_drew1) | exact HB.out)) hb); have n1_ := Aside0.mk (hbox); have n2_ := Aside0.mk ((by rw [hg]; exact (below_size (by repeat (first | (with_reducible first | exact HB.out | apply below_alloc | apply pw_below_drewN | apply below_drew1) | exact HB.out))) : w.heap.size ≤ gb171)); have n3_ := Aside0.mk ((by rw [hg]; exact (below_size (by repeat (first | (with_reducible first | exact HB.out | apply below_alloc | apply pw_below_drewN | apply below_drew1) | exact HB.out))) : w.heap.size ≤ gb171)); clear HB; have HB := n0_; have BK171 := n1_; have GW171 := n2_; have GE171 := n3_; clear n0_ n1_ n2_ n3_; clear hb hbox hg) | ((with_reducible refine gate_callee (f := 11) rfl ?_); refine goesL_ (some 8) rfl rfl Tryz.func11 (by kernel_rfl) rfl #[] rfl (by (try simp only [List.map_toArray, List.map_cons, List.map_nil]); first | done | rfl | (simp only [List.length_drop, List.length_take]; rfl)) ?_; (with_reducible refine (gangsawlaw30_awake.calls  true _ HLD.out (by repeat (first | (with_reducible first | exact HB.out | apply below_alloc | apply pw_below_drewN | apply below_drew1 | refine below_set ?_ GE171.out) | exact HB.out)) A2.out).mono ?_); rintro e w40 ⟨rfl, hb⟩; refine ⟨_, rfl, ?_⟩; have n0_ := Aside0.mk (blk_below (g := gb171) (o := .cells #[.string a0_0, .string a0_1, .int .i64 a0_2, .int .i64 a0_3, .int .i64 a0_4, .int .i64 a0_5, .int .i64 a0_6, .int .i64 a0_7, .int .i64 a0_8, .int .i64 a0_9, .slice A0_10 l0_10.length c0_10, .slice A0_11 l0_11.length c0_11] 35 (0, 0)) (by (with_reducible repeat (first | refine blk_drewN ?_ _ | refine blk_drew ?_ | refine blk_alloc ?_ _)); exact BK171.out) hb); have n1_ := Aside0.mk (below_step (by repeat (first | (with_reducible first | exact HB.out | apply below_alloc | apply pw_below_drewN | apply below_drew1 | refine below_set ?_ GE171.out) | exact HB.out)) hb); clear BK171; clear HB; have BK171 := n0_; have HB := n1_; clear n0_ n1_; (try clear hb); (try clear hb2); (try clear hk); (try clear hi); have hcz41_0 : w40.cell? ⟨gb171, 0, none⟩ = some (.string a0_0) := (blk_cell BK171.out 0).trans rfl; have hcz41_1 : w40.cell? ⟨gb171, 1, none⟩ = some (.string a0_1) := (blk_cell BK171.out 1).trans rfl; have hcz41_2 : w40.cell? ⟨gb171, 2, none⟩ = some (.int .i64 a0_2) := (blk_cell BK171.out 2).trans rfl; have hcz41_3 : w40.cell? ⟨gb171, 3, none⟩ = some (.int .i64 a0_3) := (blk_cell BK171.out 3).trans rfl; have hcz41_4 : w40.cell? ⟨gb171, 4, none⟩ = some (.int .i64 a0_4) := (blk_cell BK171.out 4).trans rfl; have hcz41_5 : w40.cell? ⟨gb171, 5, none⟩ = some (.int .i64 a0_5) := (blk_cell BK171.out 5).trans rfl; have hcz41_6 : w40.cell? ⟨gb171, 6, none⟩ = some (.int .i64 a0_6) := (blk_cell BK171.out 6).trans rfl; have hcz41_7 : w40.cell? ⟨gb171, 7, none⟩ = some (.int .i64 a0_7) := (blk_cell BK171.out 7).trans rfl; have hcz41_8 : w40.cell? ⟨gb171, 8, none⟩ = some (.int .i64 a0_8) := (blk_cell BK171.out 8).trans rfl; have hcz41_9 : w40.cell? ⟨gb171, 9, none⟩ = some (.int .i64 a0_9) := (blk_cell BK171.out 9).trans rfl; have hcz41_10 : w40.cell? ⟨gb171, 10, none⟩ = some (.slice A0_10 l0_10.length c0_10) := (blk_cell BK171.out 10).trans rfl; have hcz41_11 : w40.cell? ⟨gb171, 11, none⟩ = some (.slice A0_11 l0_11.length c0_11) := (blk_cell BK171.out 11).trans rfl; have hfz41_0 := blk_frozen BK171.out 0; have hfz41_1 := blk_frozen BK171.out 1; have hfz41_2 := blk_frozen BK171.out 2; have hfz41_3 := blk_frozen BK171.out 3; have hfz41_4 := blk_frozen BK171.out 4; have hfz41_5 := blk_frozen BK171.out 5; have hfz41_6 := blk_frozen BK171.out 6; have hfz41_7 := blk_frozen BK171.out 7; have hfz41_8 := blk_frozen BK171.out 8; have hfz41_9 := blk_frozen BK171.out 9; have hfz41_10 := blk_frozen BK171.out 10; have hfz41_11 := blk_frozen BK171.out 11) | ((with_reducible refine gate_callee (f := 16) rfl ?_); refine goesL_ (some 11) rfl rfl Tryz.func16 (by kernel_rfl) rfl #[.agg #[.string a0_0, .string a0_1, .int .i64 a0_2, .int .i64 a0_3, .int .i64 a0_4, .int .i64 a0_5, .int .i64 a0_6, .int .i64 a0_7, .int .i64 a0_8, .int .i64 a0_9, .slice A0_10 l0_10.length c0_10, .slice A0_11 l0_11.length c0_11]] rfl (by (try simp only [List.map_toArray, List.map_cons, List.map_nil]); first | done | rfl | (simp only [List.length_drop, List.length_take]; rfl)) ?_; (with_reducible refine (gangsawref30_Small.calls a0_0 a0_1 a0_2 a0_3 a0_4 a0_5 a0_6 a0_7 a0_8 a0_9 _ _ l0_10 _ _ l0_11 false _ ?side1 ?side2 ?side3 ?side4 A4.out).mono ?_); (case side1 => repeat (first | exact (Kd.C_below HR0_10.out HB.out) | (with_reducible refine Kd.C_alloc ?_ _) | (with_reducible refine Kd.C_drewN ?_ _) | (with_reducible refine Kd.C_drew ?_))); (case side2 => exact HC0_10.out); (case side3 => repeat (first | exact (Kd.C_below HR0_11.out HB.out) | (with_reducible refine Kd.C_alloc ?_ _) | (with_reducible refine Kd.C_drewN ?_ _) | (with_reducible refine Kd.C_drew ?_))); (case side4 => exact HC0_11.out); rintro e w42 ⟨rfl, hb⟩; refine ⟨_, rfl, ?_⟩; have n0_ := Aside0.mk (blk_below (g := gb171) (o := .cells #[.string a0_0, .string a0_1, .int .i64 a0_2, .int .i64 a0_3, .int .i64 a0_4, .int .i64 a0_5, .int .i64 a0_6, .int .i64 a0_7, .int .i64 a0_8, .int .i64 a0_9, .slice A0_10 l0_10.length c0_10, .slice A0_11 l0_11.length c0_11] 35 (0, 0)) (by (with_reducible repeat (first | refine blk_drewN ?_ _ | refine blk_drew ?_ | refine blk_alloc ?_ _)); exact BK171.out) hb); have n1_ := Aside0.mk (below_step (by repeat (first | (with_reducible first | exact HB.out | apply below_alloc | apply pw_below_drewN | apply below_drew1 | refine below_set ?_ GE171.out) | exact HB.out)) hb); clear BK171; clear HB; have BK171 := n0_; have HB := n1_; clear n0_ n1_; (try clear hb); (try clear hb2); (try clear hk); (try clear hi)))
   go_ret
   exact ⟨by first | rfl | (simp [errW_none, errW_some] <;> rfl) | (simp [*, errW_none, errW_some] <;> rfl), by repeat (first | (with_reducible first | exact HB.out | apply below_alloc | apply pw_below_drewN | apply below_drew1 | refine below_set ?_ GE171.out) | exact HB.out)⟩
 ·replace c3 := Bool.eq_false_iff.mpr c3
  subst c3
  have H1 : (some false) = some r := by rw [if_neg (show ¬ (false = true) by decide)] at H; exact H
  clear H
  have H := H1
  clear H1
  obtain rfl := Option.some.inj H
  exact absurd hr (by decide)

end Go.Proofs.YtnaahepnabmibaaGreatDoor.P
