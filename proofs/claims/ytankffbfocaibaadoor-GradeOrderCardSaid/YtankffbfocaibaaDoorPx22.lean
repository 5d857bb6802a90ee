/- What functions of the program return: each contract says so of one function, for every input at which its pure function yields. -/
import Derived.Test.YtankffbfocaibaaDoorPx0
import Derived.Test.YtankffbfocaibaaDoorPx11
import Derived.Test.YtankffbfocaibaaDoorPx15
import Derived.Test.YtankffbfocaibaaDoorAwk
namespace Go.Proofs.YtankffbfocaibaaDoor.P
open Go.RowKit Go.Proofs.YtankffbfocaibaaDoorW.PrintWords Go.Proofs.YtankffbfocaibaaDoorW.PrintLast Go.Proofs.YtankffbfocaibaaDoorW.PrintMore
attribute [local go_sem] max2_int min2_int max_two min_two max_three min_three max_four min_four   -- for this text's walks alone
set_option linter.unusedVariables false
set_option linter.unusedSimpArgs false

open Go.Proofs.YtankffbfocaibaaDoor.Awk
mutual
def gangsawlaw34_GradeOrder.j0 : Nat → List (S46) → Int → Bool → ByteArray → Int → Int → Int → Option (Bool)
 | 0, _, _, _, _, _, _, _ => none
 | k + 1, x1, x2, x32, x389000, x389001, x389002, x389003 => if x32 = true then (some true) else ((some (([] : List (S46)) : List (S46))).bind fun y390 => (if 0 ≤ x2 then (if x2 ≤ (x1.length : Int) then ((some (x1.drop (x2 : Int).toNat : List (S46))).bind fun y393 => (if y390.length + y393.length < 4398046511104 then ((some (y390 ++ y393 : List (S46))).bind fun y397 => ((some (x1.take (x2 : Int).toNat : List (S46))).bind fun y400 => (if y397.length + y400.length < 4398046511104 then ((some (y397 ++ y400 : List (S46))).bind fun y404 => ((grade_Meets.f k x389000 x389001 x389002 x389003 x1).bind fun bt407 => ((grade_Meets.f k x389000 x389001 x389002 x389003 y404).bind fun bt409 => ((grade_Margin.f k x389000 x389001 x389002 x389003 x1).bind fun bt411 => ((grade_Margin.f k x389000 x389001 x389002 x389003 y404).bind fun bt414 => (if bt407.2 = bt409.2 then (if (bt407.1 != bt409.1) = true then (gangsawlaw34_GradeOrder.j1 k x1 bt407.1 bt407.2 bt411.1 bt411.2.1 bt411.2.2 true x389000 x389001 x389002 x389003) else (if bt411.2.2 = bt414.2.2 then (if bt411.1 = bt414.1 then (gangsawlaw34_GradeOrder.j1 k x1 bt407.1 bt407.2 bt411.1 bt411.2.1 bt411.2.2 (bt411.2.1 != bt414.2.1) x389000 x389001 x389002 x389003) else (gangsawlaw34_GradeOrder.j1 k x1 bt407.1 bt407.2 bt411.1 bt411.2.1 bt411.2.2 true x389000 x389001 x389002 x389003)) else (gangsawlaw34_GradeOrder.j1 k x1 bt407.1 bt407.2 bt411.1 bt411.2.1 bt411.2.2 true x389000 x389001 x389002 x389003))) else (gangsawlaw34_GradeOrder.j1 k x1 bt407.1 bt407.2 bt411.1 bt411.2.1 bt411.2.2 true x389000 x389001 x389002 x389003))))))) else (none)))) else (none))) else (none)) else (none)))
def gangsawlaw34_GradeOrder.j1 : Nat → List (S46) → Bool → Int → Int → Int → Int → Bool → ByteArray → Int → Int → Int → Option (Bool)
 | 0, _, _, _, _, _, _, _, _, _, _, _ => none
 | k + 1, x1, x8, x9, x12, x13, x14, x90, x389000, x389001, x389002, x389003 => if x90 = true then (some false) else (if x9 = 0 then (if x14 = 0 then (if x12 ≥ 0 then (if (x8 == (decide (x13 ≥ 0))) = true then (some ((x14 == 9) == (decide ((x1.length : Int) < x389001)))) else (some false)) else (if (x8 == false) = true then (some ((x14 == 9) == (decide ((x1.length : Int) < x389001)))) else (some false))) else (if (x8 == false) = true then (some ((x14 == 9) == (decide ((x1.length : Int) < x389001)))) else (some false))) else (some (x14 == x9)))
end
def gangsawlaw34_GradeOrder.f (k : Nat) (a0_0 : ByteArray) (a0_1 : Int) (a0_2 : Int) (a0_3 : Int) (l1 : List (S46)) (a2 : Int) : Option (Bool) := (gangsawlaw34_awake.f).bind fun t389 => (if t389 = true then (if (l1.length : Int) > 60 then (gangsawlaw34_GradeOrder.j0 k l1 a2 true a0_0 a0_1 a0_2 a0_3) else (if a2 < 0 then (gangsawlaw34_GradeOrder.j0 k l1 a2 true a0_0 a0_1 a0_2 a0_3) else (gangsawlaw34_GradeOrder.j0 k l1 a2 (decide (a2 > (l1.length : Int))) a0_0 a0_1 a0_2 a0_3))) else (some false))
theorem gangsawlaw34_GradeOrder.mono_l : ∀ k, (∀ y0 y1 y2 y3 y4 y5 y6, LeO (gangsawlaw34_GradeOrder.j0 k y0 y1 y2 y3 y4 y5 y6) (gangsawlaw34_GradeOrder.j0 (k + 1) y0 y1 y2 y3 y4 y5 y6)) ∧ (∀ y0 y1 y2 y3 y4 y5 y6 y7 y8 y9 y10, LeO (gangsawlaw34_GradeOrder.j1 k y0 y1 y2 y3 y4 y5 y6 y7 y8 y9 y10) (gangsawlaw34_GradeOrder.j1 (k + 1) y0 y1 y2 y3 y4 y5 y6 y7 y8 y9 y10))
 | 0 => ⟨fun _ _ _ _ _ _ _ r h => by simp [gangsawlaw34_GradeOrder.j0] at h, fun _ _ _ _ _ _ _ _ _ _ _ r h => by simp [gangsawlaw34_GradeOrder.j1] at h⟩
 | k + 1 => by
  obtain ⟨ih0, ih1⟩ := gangsawlaw34_GradeOrder.mono_l k
  refine ⟨?_, ?_⟩
  ·intro y0 y1 y2 y3 y4 y5 y6
   unfold gangsawlaw34_GradeOrder.j0
   repeat' first
   | (with_reducible exact ih0 _ _ _ _ _ _ _)
   | (with_reducible exact ih1 _ _ _ _ _ _ _ _ _ _ _)
   | (with_reducible exact grade_Margin.mono _ _ _ _ _ _)
   | (with_reducible exact grade_Meets.mono _ _ _ _ _ _)
   | (with_reducible refine contains32.mono2 (fun x_ => ?_))
   | (with_reducible refine contains46.mono2 (fun x_ => ?_))
   | (with_reducible refine index32.mono2 (fun x_ => ?_))
   | (with_reducible refine index46.mono2 (fun x_ => ?_))
   | (with_reducible exact LeO.refl _)
   | (with_reducible exact LeO.none _)
   | (with_reducible refine LeO.ite ?_ ?_)
   | (with_reducible refine LeO.bind ?_ (fun _ => ?_))
   | exact ih0 _ _ _ _ _ _ _
   | exact ih1 _ _ _ _ _ _ _ _ _ _ _
   | exact grade_Margin.mono _ _ _ _ _ _
   | exact grade_Meets.mono _ _ _ _ _ _
   | exact LeO.none _
   | refine LeO.ite ?_ ?_
   | refine LeO.bind ?_ (fun _ => ?_)
  ·intro y0 y1 y2 y3 y4 y5 y6 y7 y8 y9 y10
   unfold gangsawlaw34_GradeOrder.j1
   repeat' first
   | (with_reducible exact ih0 _ _ _ _ _ _ _)
   | (with_reducible exact ih1 _ _ _ _ _ _ _ _ _ _ _)
   | (with_reducible exact grade_Margin.mono _ _ _ _ _ _)
   | (with_reducible exact grade_Meets.mono _ _ _ _ _ _)
   | (with_reducible refine contains32.mono2 (fun x_ => ?_))
   | (with_reducible refine contains46.mono2 (fun x_ => ?_))
   | (with_reducible refine index32.mono2 (fun x_ => ?_))
   | (with_reducible refine index46.mono2 (fun x_ => ?_))
   | (with_reducible exact LeO.refl _)
   | (with_reducible exact LeO.none _)
   | (with_reducible refine LeO.ite ?_ ?_)
   | (with_reducible refine LeO.bind ?_ (fun _ => ?_))
   | exact ih0 _ _ _ _ _ _ _
   | exact ih1 _ _ _ _ _ _ _ _ _ _ _
   | exact grade_Margin.mono _ _ _ _ _ _
   | exact grade_Meets.mono _ _ _ _ _ _
   | exact LeO.none _
   | refine LeO.ite ?_ ?_
   | refine LeO.bind ?_ (fun _ => ?_)
theorem gangsawlaw34_GradeOrder.mono : ∀ a0 a1 a2 a3 a4 a5 k, LeO (gangsawlaw34_GradeOrder.f k a0 a1 a2 a3 a4 a5) (gangsawlaw34_GradeOrder.f (k + 1) a0 a1 a2 a3 a4 a5) := by
 intro a0 a1 a2 a3 a4 a5 k
 obtain ⟨ih0, ih1⟩ := gangsawlaw34_GradeOrder.mono_l k
 unfold gangsawlaw34_GradeOrder.f
 repeat' first
   | (with_reducible exact ih0 _ _ _ _ _ _ _)
   | (with_reducible exact ih1 _ _ _ _ _ _ _ _ _ _ _)
   | (with_reducible exact grade_Margin.mono _ _ _ _ _ _)
   | (with_reducible exact grade_Meets.mono _ _ _ _ _ _)
   | (with_reducible refine contains32.mono2 (fun x_ => ?_))
   | (with_reducible refine contains46.mono2 (fun x_ => ?_))
   | (with_reducible refine index32.mono2 (fun x_ => ?_))
   | (with_reducible refine index46.mono2 (fun x_ => ?_))
   | (with_reducible exact LeO.refl _)
   | (with_reducible exact LeO.none _)
   | (with_reducible refine LeO.ite ?_ ?_)
   | (with_reducible refine LeO.bind ?_ (fun _ => ?_))
   | exact ih0 _ _ _ _ _ _ _
   | exact ih1 _ _ _ _ _ _ _ _ _ _ _
   | exact grade_Margin.mono _ _ _ _ _ _
   | exact grade_Meets.mono _ _ _ _ _ _
   | exact LeO.none _
   | refine LeO.ite ?_ ?_
   | refine LeO.bind ?_ (fun _ => ?_)
def gangsawlaw34_GradeOrder.T5 : Bool × List (List Nat × List Nat) := (true, [([], []), ([], []), ([], []), ([1, 2], [1, 2]), ([0, 3], [0, 3]), ([], []), ([], []), ([5, 6], [5, 6]), ([4, 7, 4], [4, 7]), ([8, 8, 0, 1, 2, 3, 4, 5, 6, 7, 8], [8])])
def gangsawlaw34_GradeOrder.B5 : List Nat := [0, 0, 0, 6, 15, 0, 0, 96, 255, 511]
theorem gangsawlaw34_GradeOrder.tab5 : rtab .any (opsOf Tryd.f8 5) = gangsawlaw34_GradeOrder.T5 := by kernel_rfl
theorem gangsawlaw34_GradeOrder.bits5 : waitsOk gangsawlaw34_GradeOrder.T5.2 gangsawlaw34_GradeOrder.B5 = true := by kernel_rfl
set_option maxHeartbeats 8000000 in
set_option maxRecDepth 100000 in
theorem gangsawlaw34_GradeOrder.calls (k : Nat) (a0_0 : ByteArray) (a0_1 : Int) (a0_2 : Int) (a0_3 : Int) (A1 : Option Addr) (c1 : Nat) (l1 : List (S46)) (a2 : Int) (r : Bool) (w : World) (hr1 : Kd.C k46 w A1 l1.length l1) (hc1 : l1.length ≤ c1) (h : gangsawlaw34_GradeOrder.f k a0_0 a0_1 a0_2 a0_3 l1 a2 = some r) (hr : r = true) (hld : FormAt w) :
  Calls Tryd.prog 8 #[.agg #[.string a0_0, .int .i64 a0_1, .int .i64 a0_2, .int .i64 a0_3], .slice A1 l1.length c1, .int .i64 a2] w fun e w' => e = .returned (.bool r) ∧ Below w.heap.size w w' := by
 have HLD := Aside0.mk hld
 clear hld
 have hu32 := Tryd.underlying32
 have HR1 := Aside0.mk hr1
 have HC1 := Aside0.mk hc1
 clear hr1 hc1
 have HB := Aside0.mk (Below.refl w.heap.size w)
 have H : ((gangsawlaw34_awake.f).bind fun t389 => (if t389 = true then (if (l1.length : Int) > 60 then (gangsawlaw34_GradeOrder.j0 k l1 a2 true a0_0 a0_1 a0_2 a0_3) else (if a2 < 0 then (gangsawlaw34_GradeOrder.j0 k l1 a2 true a0_0 a0_1 a0_2 a0_3) else (gangsawlaw34_GradeOrder.j0 k l1 a2 (decide (a2 > (l1.length : Int))) a0_0 a0_1 a0_2 a0_3))) else (some false))) = some r := h
 clear h
 replace H := Option.bind_eq_some_iff.mp H
 obtain ⟨t389, A40, H⟩ := H
 replace H : (if t389 = true then (if (l1.length : Int) > 60 then (gangsawlaw34_GradeOrder.j0 k l1 a2 true a0_0 a0_1 a0_2 a0_3) else (if a2 < 0 then (gangsawlaw34_GradeOrder.j0 k l1 a2 true a0_0 a0_1 a0_2 a0_3) else (gangsawlaw34_GradeOrder.j0 k l1 a2 (decide (a2 > (l1.length : Int))) a0_0 a0_1 a0_2 a0_3))) else (some false)) = some r := H
 have A4 := Aside0.mk A40
 clear A40
 by_cases c5 : t389 = true
 ·subst c5
  have H1 : (if (l1.length : Int) > 60 then (gangsawlaw34_GradeOrder.j0 k l1 a2 true a0_0 a0_1 a0_2 a0_3) else (if a2 < 0 then (gangsawlaw34_GradeOrder.j0 k l1 a2 true a0_0 a0_1 a0_2 a0_3) else (gangsawlaw34_GradeOrder.j0 k l1 a2 (decide (a2 > (l1.length : Int))) a0_0 a0_1 a0_2 a0_3))) = some r := by rw [if_pos rfl] at H; exact H
  clear H
  have H := H1
  clear H1
  have HC6 := Aside0.mk H
  clear H
  go_enter Tryd.func8, Tryd.ntmps8
  go_upto_region 3 with (first | ((with_reducible refine gate_dst (N := 3) rfl ?_); (try (refine gate_guard (by rfl) ?_; dsimp only)); refine box_event ?hg (N := 3) ?hd (cs := #[.string a0_0, .int .i64 a0_1, .int .i64 a0_2, .int .i64 a0_3]) (t := 32) ?hr ?_; (case hd => rfl); (case hg => rfl); (case hr => first | (go_simp; done) | (go_simp; rfl)); intro gb388 hg w7 hbox hb; have n0_ := Aside0.mk (below_step (by repeat (first | (with_reducible first | exact HB.out | apply below_alloc | apply pw_below_drewN | apply below_drew1) | exact HB.out)) hb); have n1_ := Aside0.mk (hbox); have n2_ := Aside0.mk ((by rw [hg]; exact (below_size (by repeat (first | (with_reducible first | exact HB.out | apply below_alloc | apply pw_below_drewN | apply below_drew1) | exact HB.out))) : w.heap.size ≤ gb388)); have n3_ := Aside0.mk ((by rw [hg]; exact (below_size (by repeat (first | (with_reducible first | exact HB.out | apply below_alloc | apply pw_below_drewN | apply below_drew1) | exact HB.out))) : w.heap.size ≤ gb388)); clear HB; have HB := n0_; have BK388 := n1_; have GW388 := n2_; have GE388 := n3_; clear n0_ n1_ n2_ n3_; clear hb hbox hg) | ((with_reducible refine gate_callee (f := 9) rfl ?_); refine goesL_ (some 18) rfl rfl Tryd.func9 (by kernel_rfl) rfl #[] rfl (by (try simp only [List.map_toArray, List.map_cons, List.map_nil]); first | done | rfl | (simp only [List.length_drop, List.length_take]; rfl)) ?_; (with_reducible refine (gangsawlaw34_awake.callsL HLD.out true _ (by repeat (first | (with_reducible first | exact HB.out | apply below_alloc | apply pw_below_drewN | apply below_drew1) | exact HB.out)) A4.out).mono ?_); rintro e w8 ⟨rfl, hb⟩; refine ⟨_, rfl, ?_⟩; have n0_ := Aside0.mk (blk_below (g := gb388) (o := .cells #[.string a0_0, .int .i64 a0_1, .int .i64 a0_2, .int .i64 a0_3] 32 (0, 0)) (by (with_reducible repeat (first | refine blk_drewN ?_ _ | refine blk_drew ?_ | refine blk_alloc ?_ _)); exact BK388.out) hb); have n1_ := Aside0.mk (below_step (by repeat (first | (with_reducible first | exact HB.out | apply below_alloc | apply pw_below_drewN | apply below_drew1 | refine below_set ?_ GE388.out) | exact HB.out)) hb); clear BK388; clear HB; have BK388 := n0_; have HB := n1_; clear n0_ n1_; (try clear hb); (try clear hb2); (try clear hk); (try clear hi)))
  (try simp only [Act.put, List.setIfInBounds_toArray, List.set_cons_zero, List.set_cons_succ])
  go_cut [32] (fun v32 wc => ∃ (kq : Nat) (x32_5 : Bool), v32 = .bool x32_5 ∧ Aside0 (gangsawlaw34_GradeOrder.j0 kq l1 a2 x32_5 a0_0 a0_1 a0_2 a0_3 = some r) ∧ Aside0 (kq ≤ k) ∧ Aside0 (wc.heap[gb388]? = some (.cells #[.string a0_0, .int .i64 a0_1, .int .i64 a0_2, .int .i64 a0_3] 32 (0, 0))) ∧ Aside0 (Below w.heap.size w wc))
  case first =>
   have H := HC6.out
   clear HC6
   by_cases c9 : (l1.length : Int) > 60
   ·rw [if_pos c9] at H
    have c9b0 : decide (60 < (l1.length : Int)) = true := decide_eq_true c9
    have c9b1 : decide (60 < l1.length) = true := decide_eq_true (by omega)
    clear c9
    (first | rw [c9b0] | (simp only [i64_w, i32_w]; rw [c9b0]) | skip)
    have H' := Aside0.mk H
    clear H
    go_wp2
    go_meet
    case rel => exact ⟨_, (true), (by first | rfl | (simp; done) | (simp [*]; done)), H', ⟨by first | omega | exact Nat.le_refl _⟩, ⟨by (with_reducible repeat (first | refine blk_drewN ?_ _ | refine blk_drew ?_ | refine blk_alloc ?_ _)); exact BK388.out⟩, ⟨by repeat (first | (with_reducible first | exact HB.out | apply below_alloc | apply pw_below_drewN | apply below_drew1 | refine below_set ?_ GE388.out) | exact HB.out)⟩⟩
   ·rw [if_neg c9] at H
    have c9b0 : decide (60 < (l1.length : Int)) = false := decide_eq_false c9
    have c9b1 : decide (60 < l1.length) = false := decide_eq_false (by omega)
    clear c9
    (first | rw [c9b0] | (simp only [i64_w, i32_w]; rw [c9b0]) | skip)
    by_cases c10 : a2 < 0
    ·rw [if_pos c10] at H
     have c10b0 : decide (a2 < 0) = true := decide_eq_true c10
     clear c10
     have H' := Aside0.mk H
     clear H
     go_wp2
     go_meet
     case rel => exact ⟨_, (true), (by first | rfl | (simp; done) | (simp [*]; done)), H', ⟨by first | omega | exact Nat.le_refl _⟩, ⟨by (with_reducible repeat (first | refine blk_drewN ?_ _ | refine blk_drew ?_ | refine blk_alloc ?_ _)); exact BK388.out⟩, ⟨by repeat (first | (with_reducible first | exact HB.out | apply below_alloc | apply pw_below_drewN | apply below_drew1 | refine below_set ?_ GE388.out) | exact HB.out)⟩⟩
    ·rw [if_neg c10] at H
     have c10b0 : decide (a2 < 0) = false := decide_eq_false c10
     clear c10
     have H' := Aside0.mk H
     clear H
     go_wp2
     go_meet
     case rel => exact ⟨_, (decide (a2 > (l1.length : Int))), (by first | rfl | (simp; done) | (simp [*]; done)), H', ⟨by first | omega | exact Nat.le_refl _⟩, ⟨by (with_reducible repeat (first | refine blk_drewN ?_ _ | refine blk_drew ?_ | refine blk_alloc ?_ _)); exact BK388.out⟩, ⟨by repeat (first | (with_reducible first | exact HB.out | apply below_alloc | apply pw_below_drewN | apply below_drew1 | refine below_set ?_ GE388.out) | exact HB.out)⟩⟩
  case rest =>
   clear HC6
   try clear c1
   try clear p2
   try clear c5
   try clear c8
   try clear c9
   try clear c9b0
   try clear c9b1
   try clear c10
   try clear c10b0
   obtain ⟨kq, x32_5, rfl, HA, HJ5, BK388, HB⟩ := hcut
   cases kq with
   | zero => exact absurd HA.out (by simp [gangsawlaw34_GradeOrder.j0])
   | succ kj5 =>
    have H := HA.out
    clear HA
    simp only [gangsawlaw34_GradeOrder.j0] at H
    by_cases c11 : x32_5 = true
    ·subst c11
     have H1 : (some true) = some r := by rw [if_pos rfl] at H; exact H
     clear H
     have H := H1
     clear H1
     obtain rfl := Option.some.inj H
     simp only [Option.some.injEq, Prod.mk.injEq] at H
     obtain ⟨rfl⟩ := H
     go_wp2
     go_ret
     exact ⟨by first | rfl | (simp [errW_none, errW_some] <;> rfl) | (simp [*, errW_none, errW_some] <;> rfl), by repeat (first | (with_reducible first | exact HB.out | apply below_alloc | apply pw_below_drewN | apply below_drew1 | refine below_set ?_ GE388.out) | exact HB.out)⟩
    ·replace c11 := Bool.eq_false_iff.mpr c11
     subst c11
     have H1 : ((some (([] : List (S46)) : List (S46))).bind fun y390 => (if 0 ≤ a2 then (if a2 ≤ (l1.length : Int) then ((some (l1.drop (a2 : Int).toNat : List (S46))).bind fun y393 => (if y390.length + y393.length < 4398046511104 then ((some (y390 ++ y393 : List (S46))).bind fun y397 => ((some (l1.take (a2 : Int).toNat : List (S46))).bind fun y400 => (if y397.length + y400.length < 4398046511104 then ((some (y397 ++ y400 : List (S46))).bind fun y404 => ((grade_Meets.f kj5 a0_0 a0_1 a0_2 a0_3 l1).bind fun bt407 => ((grade_Meets.f kj5 a0_0 a0_1 a0_2 a0_3 y404).bind fun bt409 => ((grade_Margin.f kj5 a0_0 a0_1 a0_2 a0_3 l1).bind fun bt411 => ((grade_Margin.f kj5 a0_0 a0_1 a0_2 a0_3 y404).bind fun bt414 => (if bt407.2 = bt409.2 then (if (bt407.1 != bt409.1) = true then (gangsawlaw34_GradeOrder.j1 kj5 l1 bt407.1 bt407.2 bt411.1 bt411.2.1 bt411.2.2 true a0_0 a0_1 a0_2 a0_3) else (if bt411.2.2 = bt414.2.2 then (if bt411.1 = bt414.1 then (gangsawlaw34_GradeOrder.j1 kj5 l1 bt407.1 bt407.2 bt411.1 bt411.2.1 bt411.2.2 (bt411.2.1 != bt414.2.1) a0_0 a0_1 a0_2 a0_3) else (gangsawlaw34_GradeOrder.j1 kj5 l1 bt407.1 bt407.2 bt411.1 bt411.2.1 bt411.2.2 true a0_0 a0_1 a0_2 a0_3)) else (gangsawlaw34_GradeOrder.j1 kj5 l1 bt407.1 bt407.2 bt411.1 bt411.2.1 bt411.2.2 true a0_0 a0_1 a0_2 a0_3))) else (gangsawlaw34_GradeOrder.j1 kj5 l1 bt407.1 bt407.2 bt411.1 bt411.2.1 bt411.2.2 true a0_0 a0_1 a0_2 a0_3))))))) else (none)))) else (none))) else (none)) else (none))) = some r := by rw [if_neg (show ¬ (false = true) by decide)] at H; exact H
     clear H
     have H := H1
     clear H1
     obtain ⟨y390, hy390⟩ : ∃ y_ : List (S46), y_ = (([] : List (S46))) := ⟨_, rfl⟩
     replace H : (if 0 ≤ a2 then (if a2 ≤ (l1.length : Int) then ((some (l1.drop (a2 : Int).toNat : List (S46))).bind fun y393 => (if y390.length + y393.length < 4398046511104 then ((some (y390 ++ y393 : List (S46))).bind fun y397 => ((some (l1.take (a2 : Int).toNat : List (S46))).bind fun y400 => (if y397.length + y400.length < 4398046511104 then ((some (y397 ++ y400 : List (S46))).bind fun y404 => ((grade_Meets.f kj5 a0_0 a0_1 a0_2 a0_3 l1).bind fun bt407 => ((grade_Meets.f kj5 a0_0 a0_1 a0_2 a0_3 y404).bind fun bt409 => ((grade_Margin.f kj5 a0_0 a0_1 a0_2 a0_3 l1).bind fun bt411 => ((grade_Margin.f kj5 a0_0 a0_1 a0_2 a0_3 y404).bind fun bt414 => (if bt407.2 = bt409.2 then (if (bt407.1 != bt409.1) = true then (gangsawlaw34_GradeOrder.j1 kj5 l1 bt407.1 bt407.2 bt411.1 bt411.2.1 bt411.2.2 true a0_0 a0_1 a0_2 a0_3) else (if bt411.2.2 = bt414.2.2 then (if bt411.1 = bt414.1 then (gangsawlaw34_GradeOrder.j1 kj5 l1 bt407.1 bt407.2 bt411.1 bt411.2.1 bt411.2.2 (bt411.2.1 != bt414.2.1) a0_0 a0_1 a0_2 a0_3) else (gangsawlaw34_GradeOrder.j1 kj5 l1 bt407.1 bt407.2 bt411.1 bt411.2.1 bt411.2.2 true a0_0 a0_1 a0_2 a0_3)) else (gangsawlaw34_GradeOrder.j1 kj5 l1 bt407.1 bt407.2 bt411.1 bt411.2.1 bt411.2.2 true a0_0 a0_1 a0_2 a0_3))) else (gangsawlaw34_GradeOrder.j1 kj5 l1 bt407.1 bt407.2 bt411.1 bt411.2.1 bt411.2.2 true a0_0 a0_1 a0_2 a0_3))))))) else (none)))) else (none))) else (none)) else (none)) = some r := by first | (rw [hy390]; with_reducible exact H) | (have H2_ := (Option.bind_some _ _).symm.trans H; rw [hy390]; with_reducible exact H2_) | (have H2_ := (Option.bind_some _ _).symm.trans H; with_reducible exact H2_) | with_reducible exact H | (rw [hy390]; exact H) | exact H
     have Ny390 := Aside0.mk hy390
     clear hy390
     by_cases c12 : 0 ≤ a2
     ·rw [if_pos c12] at H
      have c12b0 := eq_true c12
      have c12b1 : decide (0 ≤ a2) = true := decide_eq_true c12
      clear c12
      by_cases c13 : a2 ≤ (l1.length : Int)
      ·rw [if_pos c13] at H
       have c13b0 := eq_true c13
       have c13b1 : decide (a2 ≤ (l1.length : Int)) = true := decide_eq_true c13
       clear c13
       obtain ⟨y393, hy393⟩ : ∃ y_ : List (S46), y_ = (l1.drop (a2 : Int).toNat) := ⟨_, rfl⟩
       replace H : (if y390.length + y393.length < 4398046511104 then ((some (y390 ++ y393 : List (S46))).bind fun y397 => ((some (l1.take (a2 : Int).toNat : List (S46))).bind fun y400 => (if y397.length + y400.length < 4398046511104 then ((some (y397 ++ y400 : List (S46))).bind fun y404 => ((grade_Meets.f kj5 a0_0 a0_1 a0_2 a0_3 l1).bind fun bt407 => ((grade_Meets.f kj5 a0_0 a0_1 a0_2 a0_3 y404).bind fun bt409 => ((grade_Margin.f kj5 a0_0 a0_1 a0_2 a0_3 l1).bind fun bt411 => ((grade_Margin.f kj5 a0_0 a0_1 a0_2 a0_3 y404).bind fun bt414 => (if bt407.2 = bt409.2 then (if (bt407.1 != bt409.1) = true then (gangsawlaw34_GradeOrder.j1 kj5 l1 bt407.1 bt407.2 bt411.1 bt411.2.1 bt411.2.2 true a0_0 a0_1 a0_2 a0_3) else (if bt411.2.2 = bt414.2.2 then (if bt411.1 = bt414.1 then (gangsawlaw34_GradeOrder.j1 kj5 l1 bt407.1 bt407.2 bt411.1 bt411.2.1 bt411.2.2 (bt411.2.1 != bt414.2.1) a0_0 a0_1 a0_2 a0_3) else (gangsawlaw34_GradeOrder.j1 kj5 l1 bt407.1 bt407.2 bt411.1 bt411.2.1 bt411.2.2 true a0_0 a0_1 a0_2 a0_3)) else (gangsawlaw34_GradeOrder.j1 kj5 l1 bt407.1 bt407.2 bt411.1 bt411.2.1 bt411.2.2 true a0_0 a0_1 a0_2 a0_3))) else (gangsawlaw34_GradeOrder.j1 kj5 l1 bt407.1 bt407.2 bt411.1 bt411.2.1 bt411.2.2 true a0_0 a0_1 a0_2 a0_3))))))) else (none)))) else (none)) = some r := by first | (rw [hy393]; with_reducible exact H) | (have H2_ := (Option.bind_some _ _).symm.trans H; rw [hy393]; with_reducible exact H2_) | (have H2_ := (Option.bind_some _ _).symm.trans H; with_reducible exact H2_) | with_reducible exact H | (rw [hy393]; exact H) | exact H
       have Ny393 := Aside0.mk hy393
       clear hy393
       by_cases c14 : y390.length + y393.length < 4398046511104
       ·rw [if_pos c14] at H
        have LMc14 := Aside0.mk c14
        clear c14
        obtain ⟨y397, hy397⟩ : ∃ y_ : List (S46), y_ = (y390 ++ y393) := ⟨_, rfl⟩
        replace H : ((some (l1.take (a2 : Int).toNat : List (S46))).bind fun y400 => (if y397.length + y400.length < 4398046511104 then ((some (y397 ++ y400 : List (S46))).bind fun y404 => ((grade_Meets.f kj5 a0_0 a0_1 a0_2 a0_3 l1).bind fun bt407 => ((grade_Meets.f kj5 a0_0 a0_1 a0_2 a0_3 y404).bind fun bt409 => ((grade_Margin.f kj5 a0_0 a0_1 a0_2 a0_3 l1).bind fun bt411 => ((grade_Margin.f kj5 a0_0 a0_1 a0_2 a0_3 y404).bind fun bt414 => (if bt407.2 = bt409.2 then (if (bt407.1 != bt409.1) = true then (gangsawlaw34_GradeOrder.j1 kj5 l1 bt407.1 bt407.2 bt411.1 bt411.2.1 bt411.2.2 true a0_0 a0_1 a0_2 a0_3) else (if bt411.2.2 = bt414.2.2 then (if bt411.1 = bt414.1 then (gangsawlaw34_GradeOrder.j1 kj5 l1 bt407.1 bt407.2 bt411.1 bt411.2.1 bt411.2.2 (bt411.2.1 != bt414.2.1) a0_0 a0_1 a0_2 a0_3) else (gangsawlaw34_GradeOrder.j1 kj5 l1 bt407.1 bt407.2 bt411.1 bt411.2.1 bt411.2.2 true a0_0 a0_1 a0_2 a0_3)) else (gangsawlaw34_GradeOrder.j1 kj5 l1 bt407.1 bt407.2 bt411.1 bt411.2.1 bt411.2.2 true a0_0 a0_1 a0_2 a0_3))) else (gangsawlaw34_GradeOrder.j1 kj5 l1 bt407.1 bt407.2 bt411.1 bt411.2.1 bt411.2.2 true a0_0 a0_1 a0_2 a0_3))))))) else (none))) = some r := by first | (rw [hy397]; with_reducible exact H) | (have H2_ := (Option.bind_some _ _).symm.trans H; rw [hy397]; with_reducible exact H2_) | (have H2_ := (Option.bind_some _ _).symm.trans H; with_reducible exact H2_) | with_reducible exact H | (rw [hy397]; exact H) | exact H
        have Ny397 := Aside0.mk hy397
        clear hy397
        have c15b0 := eq_true (of_decide_eq_true (by first | (with_reducible assumption) | assumption) : 0 ≤ a2)
        have c16b0 := eq_true (of_decide_eq_true (by first | (with_reducible assumption) | assumption) : a2 ≤ (l1.length : Int))
        obtain ⟨y400, hy400⟩ : ∃ y_ : List (S46), y_ = (l1.take (a2 : Int).toNat) := ⟨_, rfl⟩
        replace H : (if y397.length + y400.length < 4398046511104 then ((some (y397 ++ y400 : List (S46))).bind fun y404 => ((grade_Meets.f kj5 a0_0 a0_1 a0_2 a0_3 l1).bind fun bt407 => ((grade_Meets.f kj5 a0_0 a0_1 a0_2 a0_3 y404).bind fun bt409 => ((grade_Margin.f kj5 a0_0 a0_1 a0_2 a0_3 l1).bind fun bt411 => ((grade_Margin.f kj5 a0_0 a0_1 a0_2 a0_3 y404).bind fun bt414 => (if bt407.2 = bt409.2 then (if (bt407.1 != bt409.1) = true then (gangsawlaw34_GradeOrder.j1 kj5 l1 bt407.1 bt407.2 bt411.1 bt411.2.1 bt411.2.2 true a0_0 a0_1 a0_2 a0_3) else (if bt411.2.2 = bt414.2.2 then (if bt411.1 = bt414.1 then (gangsawlaw34_GradeOrder.j1 kj5 l1 bt407.1 bt407.2 bt411.1 bt411.2.1 bt411.2.2 (bt411.2.1 != bt414.2.1) a0_0 a0_1 a0_2 a0_3) else (gangsawlaw34_GradeOrder.j1 kj5 l1 bt407.1 bt407.2 bt411.1 bt411.2.1 bt411.2.2 true a0_0 a0_1 a0_2 a0_3)) else (gangsawlaw34_GradeOrder.j1 kj5 l1 bt407.1 bt407.2 bt411.1 bt411.2.1 bt411.2.2 true a0_0 a0_1 a0_2 a0_3))) else (gangsawlaw34_GradeOrder.j1 kj5 l1 bt407.1 bt407.2 bt411.1 bt411.2.1 bt411.2.2 true a0_0 a0_1 a0_2 a0_3))))))) else (none)) = some r := by first | (rw [hy400]; with_reducible exact H) | (have H2_ := (Option.bind_some _ _).symm.trans H; rw [hy400]; with_reducible exact H2_) | (have H2_ := (Option.bind_some _ _).symm.trans H; with_reducible exact H2_) | with_reducible exact H | (rw [hy400]; exact H) | exact H
        have Ny400 := Aside0.mk hy400
        clear hy400
        by_cases c17 : y397.length + y400.length < 4398046511104
        ·rw [if_pos c17] at H
         have LMc17 := Aside0.mk c17
         clear c17
         obtain ⟨y404, hy404⟩ : ∃ y_ : List (S46), y_ = (y397 ++ y400) := ⟨_, rfl⟩
         replace H : ((grade_Meets.f kj5 a0_0 a0_1 a0_2 a0_3 l1).bind fun bt407 => ((grade_Meets.f kj5 a0_0 a0_1 a0_2 a0_3 y404).bind fun bt409 => ((grade_Margin.f kj5 a0_0 a0_1 a0_2 a0_3 l1).bind fun bt411 => ((grade_Margin.f kj5 a0_0 a0_1 a0_2 a0_3 y404).bind fun bt414 => (if bt407.2 = bt409.2 then (if (bt407.1 != bt409.1) = true then (gangsawlaw34_GradeOrder.j1 kj5 l1 bt407.1 bt407.2 bt411.1 bt411.2.1 bt411.2.2 true a0_0 a0_1 a0_2 a0_3) else (if bt411.2.2 = bt414.2.2 then (if bt411.1 = bt414.1 then (gangsawlaw34_GradeOrder.j1 kj5 l1 bt407.1 bt407.2 bt411.1 bt411.2.1 bt411.2.2 (bt411.2.1 != bt414.2.1) a0_0 a0_1 a0_2 a0_3) else (gangsawlaw34_GradeOrder.j1 kj5 l1 bt407.1 bt407.2 bt411.1 bt411.2.1 bt411.2.2 true a0_0 a0_1 a0_2 a0_3)) else (gangsawlaw34_GradeOrder.j1 kj5 l1 bt407.1 bt407.2 bt411.1 bt411.2.1 bt411.2.2 true a0_0 a0_1 a0_2 a0_3))) else (gangsawlaw34_GradeOrder.j1 kj5 l1 bt407.1 bt407.2 bt411.1 bt411.2.1 bt411.2.2 true a0_0 a0_1 a0_2 a0_3)))))) = some r := by first | (rw [hy404]; with_reducible exact H) | (have H2_ := (Option.bind_some _ _).symm.trans H; rw [hy404]; with_reducible exact H2_) | (have H2_ := (Option.bind_some _ _).symm.trans H; with_reducible exact H2_) | with_reducible exact H | (rw [hy404]; exact H) | exact H
         have Ny404 := Aside0.mk hy404
         clear hy404
         replace H := Option.bind_eq_some_iff.mp H
         obtain ⟨⟨t407, t408⟩, A180, H⟩ := H
         replace H : ((grade_Meets.f kj5 a0_0 a0_1 a0_2 a0_3 y404).bind fun bt409 => ((grade_Margin.f kj5 a0_0 a0_1 a0_2 a0_3 l1).bind fun bt411 => ((grade_Margin.f kj5 a0_0 a0_1 a0_2 a0_3 y404).bind fun bt414 => (if t408 = bt409.2 then (if (t407 != bt409.1) = true then (gangsawlaw34_GradeOrder.j1 kj5 l1 t407 t408 bt411.1 bt411.2.1 bt411.2.2 true a0_0 a0_1 a0_2 a0_3) else (if bt411.2.2 = bt414.2.2 then (if bt411.1 = bt414.1 then (gangsawlaw34_GradeOrder.j1 kj5 l1 t407 t408 bt411.1 bt411.2.1 bt411.2.2 (bt411.2.1 != bt414.2.1) a0_0 a0_1 a0_2 a0_3) else (gangsawlaw34_GradeOrder.j1 kj5 l1 t407 t408 bt411.1 bt411.2.1 bt411.2.2 true a0_0 a0_1 a0_2 a0_3)) else (gangsawlaw34_GradeOrder.j1 kj5 l1 t407 t408 bt411.1 bt411.2.1 bt411.2.2 true a0_0 a0_1 a0_2 a0_3))) else (gangsawlaw34_GradeOrder.j1 kj5 l1 t407 t408 bt411.1 bt411.2.1 bt411.2.2 true a0_0 a0_1 a0_2 a0_3))))) = some r := H
         have A18 := Aside0.mk A180
         clear A180
         replace H := Option.bind_eq_some_iff.mp H
         obtain ⟨⟨t409, t410⟩, A190, H⟩ := H
         replace H : ((grade_Margin.f kj5 a0_0 a0_1 a0_2 a0_3 l1).bind fun bt411 => ((grade_Margin.f kj5 a0_0 a0_1 a0_2 a0_3 y404).bind fun bt414 => (if t408 = t410 then (if (t407 != t409) = true then (gangsawlaw34_GradeOrder.j1 kj5 l1 t407 t408 bt411.1 bt411.2.1 bt411.2.2 true a0_0 a0_1 a0_2 a0_3) else (if bt411.2.2 = bt414.2.2 then (if bt411.1 = bt414.1 then (gangsawlaw34_GradeOrder.j1 kj5 l1 t407 t408 bt411.1 bt411.2.1 bt411.2.2 (bt411.2.1 != bt414.2.1) a0_0 a0_1 a0_2 a0_3) else (gangsawlaw34_GradeOrder.j1 kj5 l1 t407 t408 bt411.1 bt411.2.1 bt411.2.2 true a0_0 a0_1 a0_2 a0_3)) else (gangsawlaw34_GradeOrder.j1 kj5 l1 t407 t408 bt411.1 bt411.2.1 bt411.2.2 true a0_0 a0_1 a0_2 a0_3))) else (gangsawlaw34_GradeOrder.j1 kj5 l1 t407 t408 bt411.1 bt411.2.1 bt411.2.2 true a0_0 a0_1 a0_2 a0_3)))) = some r := H
         have A19 := Aside0.mk A190
         clear A190
         replace H := Option.bind_eq_some_iff.mp H
         obtain ⟨⟨t411, t412, t413⟩, A200, H⟩ := H
         replace H : ((grade_Margin.f kj5 a0_0 a0_1 a0_2 a0_3 y404).bind fun bt414 => (if t408 = t410 then (if (t407 != t409) = true then (gangsawlaw34_GradeOrder.j1 kj5 l1 t407 t408 t411 t412 t413 true a0_0 a0_1 a0_2 a0_3) else (if t413 = bt414.2.2 then (if t411 = bt414.1 then (gangsawlaw34_GradeOrder.j1 kj5 l1 t407 t408 t411 t412 t413 (t412 != bt414.2.1) a0_0 a0_1 a0_2 a0_3) else (gangsawlaw34_GradeOrder.j1 kj5 l1 t407 t408 t411 t412 t413 true a0_0 a0_1 a0_2 a0_3)) else (gangsawlaw34_GradeOrder.j1 kj5 l1 t407 t408 t411 t412 t413 true a0_0 a0_1 a0_2 a0_3))) else (gangsawlaw34_GradeOrder.j1 kj5 l1 t407 t408 t411 t412 t413 true a0_0 a0_1 a0_2 a0_3))) = some r := H
         have A20 := Aside0.mk A200
         clear A200
         replace H := Option.bind_eq_some_iff.mp H
         obtain ⟨⟨t414, t415, t416⟩, A210, H⟩ := H
         replace H : (if t408 = t410 then (if (t407 != t409) = true then (gangsawlaw34_GradeOrder.j1 kj5 l1 t407 t408 t411 t412 t413 true a0_0 a0_1 a0_2 a0_3) else (if t413 = t416 then (if t411 = t414 then (gangsawlaw34_GradeOrder.j1 kj5 l1 t407 t408 t411 t412 t413 (t412 != t415) a0_0 a0_1 a0_2 a0_3) else (gangsawlaw34_GradeOrder.j1 kj5 l1 t407 t408 t411 t412 t413 true a0_0 a0_1 a0_2 a0_3)) else (gangsawlaw34_GradeOrder.j1 kj5 l1 t407 t408 t411 t412 t413 true a0_0 a0_1 a0_2 a0_3))) else (gangsawlaw34_GradeOrder.j1 kj5 l1 t407 t408 t411 t412 t413 true a0_0 a0_1 a0_2 a0_3)) = some r := H
         have A21 := Aside0.mk A210
         clear A210
         have HC22 := Aside0.mk H
         clear H
         try go_wp2
         have n0_ := Aside0.mk (blk_drew BK388.out)
         have n1_ := Aside0.mk (below_drew1 HB.out)
         clear BK388
         clear HB
         have BK388 := n0_
         have HB := n1_
         clear n0_ n1_
         have q24 : (a2 : Int) ≤ ((l1.length : Int) : Int) := of_decide_eq_true (by first | (with_reducible assumption) | assumption)
         obtain ⟨i024, hi024, _, hsz24, _⟩ := info_parts info46
         have hroom24 : l1.length ≤ c1 := HC1.out
         have hC24 : Kd.C k46 _ A1 l1.length l1 := HR1.out
         have q024 : (0 : Int) ≤ (a2 : Int) := of_decide_eq_true (by first | (with_reducible assumption) | assumption)
         have hcut24 := cut_from (P := Tryd.prog) 23 46 .i64 Tryd.underlying23 hi024 3 hsz24 A1 l1.length c1 a2 q024 q24
         have hr24 := Kd.C_drop (m := (a2 : Int).toNat) (c := c1) hC24 (by omega) hroom24
         obtain ⟨A24, hA24⟩ : ∃ Az_, Az_ = (if c1 = (a2 : Int).toNat then A1 else (A1 : Option Addr).map (·.add ((a2 : Int).toNat * 3))) := ⟨_, rfl⟩
         obtain ⟨c24, hc24⟩ : ∃ cz_, cz_ = c1 - (a2 : Int).toNat := ⟨_, rfl⟩
         have hy24 : y393.length = l1.length - (a2 : Int).toNat := (by rw [Ny393.out, List.length_drop] <;> omega)
         rw [show (l1).drop (a2 : Int).toNat = y393 from Ny393.out.symm] at hr24
         replace hr24 : Kd.C k46 _ A24 y393.length y393 := (by rw [hA24]; exact hr24)
         rw [← hy24, ← hA24, ← hc24] at hcut24
         have HR396 := Aside0.mk hr24
         have HC396 := Aside0.mk (show y393.length ≤ c24 from by rw [hy24, hc24]; exact Nat.sub_le_sub_right hroom24 _)
         clear hr24 hC24 hroom24 hi024 hsz24 hc24
         have KY24 := Aside0.mk hy24
         have KA24 := Aside0.mk hA24
         clear hy24 hA24
         replace q24 := eq_true q24
         have q25 : (a2 : Int) ≤ ((l1.length : Int) : Int) := of_decide_eq_true (by first | (with_reducible assumption) | assumption)
         obtain ⟨i025, hi025, _, hsz25, _⟩ := info_parts info46
         have hroom25 : l1.length ≤ c1 := HC1.out
         have hC25 : Kd.C k46 _ A1 l1.length l1 := HR1.out
         have hcut25 := cut_to (P := Tryd.prog) 23 46 .i64 Tryd.underlying23 hi025 A1 l1.length c1 a2 (of_decide_eq_true (by first | (with_reducible assumption) | assumption)) q25 hroom25
         have hr25 := Kd.C_take (m := (a2 : Int).toNat) hC25 (by omega)
         have hy25 : y400.length = (a2 : Int).toNat := (by rw [Ny400.out, List.length_take]; omega)
         rw [← Ny400.out] at hr25
         rw [← hy25] at hcut25
         have HR403 := Aside0.mk hr25
         have HC403 := Aside0.mk (show y400.length ≤ c1 from by omega)
         clear hr25 hC25 hroom25 hi025 hsz25
         have KY25 := Aside0.mk hy25
         clear hy25
         replace q25 := eq_true q25
         refine start_ (n := 10) (S := fun w' => True) (ds := []) #[false, false, false, false, false, false, false, false, false, false] (by kernel_rfl) rfl rfl trivial (fun hHeld => ?_); refine with_tabW gangsawlaw34_GradeOrder.tab5 gangsawlaw34_GradeOrder.bits5 (fun HT_ HW_ => ?_)
         generalize wc.drew = w23 at BK388 HB HR396 HR403 hHeld ⊢
         refine pure_ (i := 1) (N := some 34) (v := ?_) (a' := ?_) #[false, true, false, false, false, false, false, false, false, false] rfl rfl (any_of HT_.out (by kernel_rfl)) (fun _ _ _ h => h) (Or.inl ⟨by rfl, ?_⟩) ?_ ?_
         rotate_left
         ·intro w'
          go_simp
          with_reducible rfl
         rotate_left
         ·simp only [Act.put, List.setIfInBounds_toArray, List.set_cons_zero, List.set_cons_succ, i64_w, i32_w]
          rfl
         refine pure_ (i := 2) (N := some 35) (v := ?_) (a' := ?_) #[false, true, true, false, false, false, false, false, false, false] rfl rfl (any_of HT_.out (by kernel_rfl)) (fun _ _ _ h => h) (Or.inl ⟨by rfl, ?_⟩) ?_ ?_
         rotate_left
         ·intro w'
          go_simp
          with_reducible rfl
         rotate_left
         ·simp only [Act.put, List.setIfInBounds_toArray, List.set_cons_zero, List.set_cons_succ, i64_w, i32_w]
          rfl
         refine pure_ (i := 3) (N := some 36) (v := ?_) (a' := ?_) #[false, true, true, true, false, false, false, false, false, false] rfl rfl (any_of HT_.out (by kernel_rfl)) (fun _ _ _ h => h) (Or.inl ⟨by rfl, ?_⟩) ?_ ?_
         rotate_left
         ·intro w'
          go_simp
          with_reducible rfl
         rotate_left
         ·simp only [Act.put, List.setIfInBounds_toArray, List.set_cons_zero, List.set_cons_succ, i64_w, i32_w]
          rfl
         refine pure_ (i := 5) (N := some 38) (v := ?_) (a' := ?_) #[false, true, true, true, false, true, false, false, false, false] rfl rfl (any_of HT_.out (by kernel_rfl)) (fun _ _ _ h => h) (Or.inl ⟨by rfl, ?_⟩) ?_ ?_
         rotate_left
         ·intro w'
          go_simp
          with_reducible rfl
         rotate_left
         ·simp only [Act.put, List.setIfInBounds_toArray, List.set_cons_zero, List.set_cons_succ, i64_w, i32_w]
          rfl
         refine pure_ (i := 6) (N := some 39) (v := ?_) (a' := ?_) #[false, true, true, true, false, true, true, false, false, false] rfl rfl (any_of HT_.out (by kernel_rfl)) (fun _ _ _ h => h) (Or.inl ⟨by rfl, ?_⟩) ?_ ?_
         rotate_left
         ·intro w'
          go_simp
          with_reducible rfl
         rotate_left
         ·simp only [Act.put, List.setIfInBounds_toArray, List.set_cons_zero, List.set_cons_succ, i64_w, i32_w]
          rfl
         refine pure_ (i := 7) (N := some 40) (v := ?_) (a' := ?_) #[false, true, true, true, false, true, true, true, false, false] rfl rfl (any_of HT_.out (by kernel_rfl)) (fun _ _ _ h => h) (Or.inl ⟨by rfl, ?_⟩) ?_ ?_
         rotate_left
         ·intro w'
          go_simp
          with_reducible rfl
         rotate_left
         ·simp only [Act.put, List.setIfInBounds_toArray, List.set_cons_zero, List.set_cons_succ, i64_w, i32_w]
          rfl
         refine one_ (i := 0) (N := some 33) #[true, true, true, true, false, true, true, true, false, false] rfl rfl (one_of HT_.out (by kernel_rfl)) (by decide) (fun K hK => ?_)
         refine Kd.R_lit_step k46 _ 46 ?hg (N := 33) ?hd (xs := ([] : List (S46))) (inner := []) (ok := fun _ => True) (okp := fun _ => True) ?hr ?hp (fun _ hk => hk) trivial (Below.refl _ _) (Nat.le_refl _) (by simp) ?_; (case hd => rfl); (case hg => rfl); (case hr => first | (go_simp; done) | (go_simp; rfl)); (case hp => exact (Reps.none _ _))
         intro v391 w26 ho27 hb hg_ hnew_
         clear hg_ hnew_
         (first | rw [← Ny390.out] at ho27 | (simp only [Int.reduceToNat] at ho27; rw [← Ny390.out] at ho27))
         have n0_ := Aside0.mk (Kd.R_lower ho27 (below_size (by repeat (first | (with_reducible first | exact HB.out | apply below_alloc | apply pw_below_drewN | apply below_drew1 | refine below_set ?_ GE388.out) | exact HB.out))))
         have n1_ := Aside0.mk (blk_below (g := gb388) (o := .cells #[.string a0_0, .int .i64 a0_1, .int .i64 a0_2, .int .i64 a0_3] 32 (0, 0)) (by (with_reducible repeat (first | refine blk_drewN ?_ _ | refine blk_drew ?_ | refine blk_alloc ?_ _)); exact BK388.out) hb)
         have n2_ := Aside0.mk (below_step (by repeat (first | (with_reducible first | exact HB.out | apply below_alloc | apply pw_below_drewN | apply below_drew1 | refine below_set ?_ GE388.out) | exact HB.out)) hb)
         clear BK388
         clear HB
         have HO392 := n0_
         have BK388 := n1_
         have HB := n2_
         clear n0_ n1_ n2_
         clear hb ho27
         refine hK.out _ _ trivial (fun hHeld => ?_)
         clear hK K
         refine norm_ (a' := ?_) ?_ ?_
         rotate_left
         ·show Act.put _ (some 33) _ = _
          simp only [Act.put, List.setIfInBounds_toArray, List.set_cons_zero, List.set_cons_succ, i64_w, i32_w]
          rfl
         refine one_ (i := 4) (N := some 37) #[true, true, true, true, true, true, true, true, false, false] rfl rfl (one_of HT_.out (by kernel_rfl)) (by decide) (fun K hK => ?_)
         refine Kd.R_append_rows_step k46 (w0 := w) w.heap.size (by rfl) (.tmp 33) (.tmp 36) 23 46 (.agg #[(.string ⟨#[]⟩), (.int .i64 0), (.int .i64 0)]) 32 rfl Tryd.underlying23 info46 rfl (by decide) (by omega) v391 y390 y393 _ _ _ (fun _ => True) (fun _ => False) rfl rfl ?aO ?aR (fun _ _ h => h) (fun _ h => h.elim) ?aF ?aB ?aS ?aL ?_
         (case aR => repeat (first | exact (Kd.C_below HR396.out HB.out) | (with_reducible refine Kd.C_alloc ?_ _) | (with_reducible refine Kd.C_drewN ?_ _) | (with_reducible refine Kd.C_drew ?_)))
         (case aB => exact (by repeat (first | (with_reducible first | exact HB.out | apply below_alloc | apply pw_below_drewN | apply below_drew1 | refine below_set ?_ GE388.out) | exact HB.out)))
         (case aF => exact (fun _ _ => trivial))
         (case aO => exact (by (with_reducible repeat (first | apply Kd.R_alloc | apply Kd.R_drewN | apply Kd.R_drew)); exact HO392.out))
         (case aS => exact (below_size (by repeat (first | (with_reducible first | exact HB.out | apply below_alloc | apply pw_below_drewN | apply below_drew1 | refine below_set ?_ GE388.out) | exact HB.out))))
         (case aL => have := LMc14.out; omega)
         intro v398 w28 ho hb hg hat
         rw [← Ny397.out] at ho
         have n0_ := Aside0.mk (blk_grown (g := gb388) (o := .cells #[.string a0_0, .int .i64 a0_1, .int .i64 a0_2, .int .i64 a0_3] 32 (0, 0)) (by (with_reducible repeat (first | refine blk_drewN ?_ _ | refine blk_drew ?_ | refine blk_alloc ?_ _)); exact BK388.out) hg (Kd.R_ne HO392.out BK388.out (by decide)))
         have n1_ := Aside0.mk (hb)
         have n2_ := Aside0.mk (ho)
         clear BK388
         clear HB
         clear HO392
         have BK388 := n0_
         have HB := n1_
         have HO399 := n2_
         clear n0_ n1_ n2_
         clear ho hb hg hat
         refine hK.out _ _ trivial (fun hHeld => ?_)
         clear hK K
         refine norm_ (a' := ?_) ?_ ?_
         rotate_left
         ·show Act.put _ (some 37) _ = _
          simp only [Act.put, List.setIfInBounds_toArray, List.set_cons_zero, List.set_cons_succ, i64_w, i32_w]
          rfl
         refine one_ (i := 8) (N := some 41) #[true, true, true, true, true, true, true, true, true, false] rfl rfl (one_of HT_.out (by kernel_rfl)) (by decide) (fun K hK => ?_)
         refine Kd.R_append_rows_step k46 (w0 := w) w.heap.size (by rfl) (.tmp 37) (.tmp 40) 23 46 (.agg #[(.string ⟨#[]⟩), (.int .i64 0), (.int .i64 0)]) 32 rfl Tryd.underlying23 info46 rfl (by decide) (by omega) v398 y397 y400 _ _ _ (fun _ => True) (fun _ => False) rfl rfl ?aO ?aR (fun _ _ h => h) (fun _ h => h.elim) ?aF ?aB ?aS ?aL ?_
         (case aR => repeat (first | exact (Kd.C_below HR403.out HB.out) | (with_reducible refine Kd.C_alloc ?_ _) | (with_reducible refine Kd.C_drewN ?_ _) | (with_reducible refine Kd.C_drew ?_)))
         (case aB => exact (by repeat (first | (with_reducible first | exact HB.out | apply below_alloc | apply pw_below_drewN | apply below_drew1 | refine below_set ?_ GE388.out) | exact HB.out)))
         (case aF => exact (fun _ _ => trivial))
         (case aO => exact (by (with_reducible repeat (first | apply Kd.R_alloc | apply Kd.R_drewN | apply Kd.R_drew)); exact HO399.out))
         (case aS => exact (below_size (by repeat (first | (with_reducible first | exact HB.out | apply below_alloc | apply pw_below_drewN | apply below_drew1 | refine below_set ?_ GE388.out) | exact HB.out))))
         (case aL => have := LMc17.out; omega)
         intro v405 w29 ho hb hg hat
         rw [← Ny404.out] at ho
         have n0_ := Aside0.mk (blk_grown (g := gb388) (o := .cells #[.string a0_0, .int .i64 a0_1, .int .i64 a0_2, .int .i64 a0_3] 32 (0, 0)) (by (with_reducible repeat (first | refine blk_drewN ?_ _ | refine blk_drew ?_ | refine blk_alloc ?_ _)); exact BK388.out) hg (Kd.R_ne HO399.out BK388.out (by decide)))
         have n1_ := Aside0.mk (hb)
         have n2_ := Aside0.mk (ho)
         clear BK388
         clear HB
         clear HO399
         have BK388 := n0_
         have HB := n1_
         have HO406 := n2_
         clear n0_ n1_ n2_
         clear ho hb hg hat
         refine hK.out _ _ trivial (fun hHeld => ?_)
         clear hK K
         refine norm_ (a' := ?_) ?_ ?_
         rotate_left
         ·show Act.put _ (some 41) _ = _
          simp only [Act.put, List.setIfInBounds_toArray, List.set_cons_zero, List.set_cons_succ, i64_w, i32_w]
          rfl
         refine pure_ (i := 9) (N := some 7) (v := ?_) (a' := ?_) #[true, true, true, true, true, true, true, true, true, true] rfl rfl (any_of HT_.out (by kernel_rfl)) (fun _ _ _ h => h) (Or.inl ⟨by rfl, ?_⟩) ?_ ?_
         rotate_left
         ·intro w'
          go_simp
          with_reducible rfl
         rotate_left
         ·simp only [Act.put, List.setIfInBounds_toArray, List.set_cons_zero, List.set_cons_succ, i64_w, i32_w]
          rfl
         refine done_ (done_of HT_.out (by kernel_rfl)) ?_
         have hcz30_0 : w29.cell? ⟨gb388, 0, none⟩ = some (.string a0_0) := (blk_cell BK388.out 0).trans rfl
         have hcz30_1 : w29.cell? ⟨gb388, 1, none⟩ = some (.int .i64 a0_1) := (blk_cell BK388.out 1).trans rfl
         have hcz30_2 : w29.cell? ⟨gb388, 2, none⟩ = some (.int .i64 a0_2) := (blk_cell BK388.out 2).trans rfl
         have hcz30_3 : w29.cell? ⟨gb388, 3, none⟩ = some (.int .i64 a0_3) := (blk_cell BK388.out 3).trans rfl
         have hfz30_0 := blk_frozen BK388.out 0
         have hfz30_1 := blk_frozen BK388.out 1
         have hfz30_2 := blk_frozen BK388.out 2
         have hfz30_3 := blk_frozen BK388.out 3
         go_upto_region 10 with (first | ((with_reducible refine gate_callee (f := 14) rfl ?_); refine goesL_ (some 45) rfl rfl Tryd.func14 (by kernel_rfl) rfl #[.agg #[.string a0_0, .int .i64 a0_1, .int .i64 a0_2, .int .i64 a0_3], .slice A1 l1.length c1] rfl (by (try simp only [List.map_toArray, List.map_cons, List.map_nil]); first | done | rfl | (simp only [List.length_drop, List.length_take]; rfl)) ?_; (with_reducible refine (grade_Meets.calls kj5 a0_0 a0_1 a0_2 a0_3 _ _ l1 t407 t408 _ ?side1 ?side2 A18.out).mono ?_); (case side1 => repeat (first | exact (Kd.C_below HR1.out HB.out) | (with_reducible refine Kd.C_alloc ?_ _) | (with_reducible refine Kd.C_drewN ?_ _) | (with_reducible refine Kd.C_drew ?_))); (case side2 => exact HC1.out); rintro e w31 ⟨rfl, hb⟩; refine ⟨_, rfl, ?_⟩; have n0_ := Aside0.mk (Kd.R_below (by (with_reducible repeat (first | apply Kd.R_alloc | apply Kd.R_drewN | apply Kd.R_drew)); exact HO406.out) hb); have n1_ := Aside0.mk (blk_below (g := gb388) (o := .cells #[.string a0_0, .int .i64 a0_1, .int .i64 a0_2, .int .i64 a0_3] 32 (0, 0)) (by (with_reducible repeat (first | refine blk_drewN ?_ _ | refine blk_drew ?_ | refine blk_alloc ?_ _)); exact BK388.out) hb); have n2_ := Aside0.mk (below_step (by repeat (first | (with_reducible first | exact HB.out | apply below_alloc | apply pw_below_drewN | apply below_drew1 | refine below_set ?_ GE388.out) | exact HB.out)) hb); clear HO406; clear BK388; clear HB; have HO406 := n0_; have BK388 := n1_; have HB := n2_; clear n0_ n1_ n2_; (try clear hb); (try clear hb2); (try clear hk); (try clear hi); have hcz32_0 : w31.cell? ⟨gb388, 0, none⟩ = some (.string a0_0) := (blk_cell BK388.out 0).trans rfl; have hcz32_1 : w31.cell? ⟨gb388, 1, none⟩ = some (.int .i64 a0_1) := (blk_cell BK388.out 1).trans rfl; have hcz32_2 : w31.cell? ⟨gb388, 2, none⟩ = some (.int .i64 a0_2) := (blk_cell BK388.out 2).trans rfl; have hcz32_3 : w31.cell? ⟨gb388, 3, none⟩ = some (.int .i64 a0_3) := (blk_cell BK388.out 3).trans rfl; have hfz32_0 := blk_frozen BK388.out 0; have hfz32_1 := blk_frozen BK388.out 1; have hfz32_2 := blk_frozen BK388.out 2; have hfz32_3 := blk_frozen BK388.out 3; obtain ⟨Ao33, co33, eo33⟩ := Kd.R_slice HO406.out; subst eo33) | ((with_reducible refine gate_callee (f := 14) rfl ?_); refine goesL_ (some 51) rfl rfl Tryd.func14 (by kernel_rfl) rfl #[.agg #[.string a0_0, .int .i64 a0_1, .int .i64 a0_2, .int .i64 a0_3], .slice Ao33 y404.length co33] rfl (by (try simp only [List.map_toArray, List.map_cons, List.map_nil]); first | done | rfl | (simp only [List.length_drop, List.length_take]; rfl)) ?_; (with_reducible refine (grade_Meets.calls kj5 a0_0 a0_1 a0_2 a0_3 _ _ y404 t409 t410 _ ?side1 ?side2 A19.out).mono ?_); (case side1 => repeat (first | exact (Kd.R_reads' HO406.out).2.2 | (with_reducible refine Kd.C_alloc ?_ _) | (with_reducible refine Kd.C_drewN ?_ _) | (with_reducible refine Kd.C_drew ?_))); (case side2 => exact (Kd.R_reads' HO406.out).2.1); rintro e w34 ⟨rfl, hb⟩; refine ⟨_, rfl, ?_⟩; have n0_ := Aside0.mk (Kd.R_below (by (with_reducible repeat (first | apply Kd.R_alloc | apply Kd.R_drewN | apply Kd.R_drew)); exact HO406.out) hb); have n1_ := Aside0.mk (blk_below (g := gb388) (o := .cells #[.string a0_0, .int .i64 a0_1, .int .i64 a0_2, .int .i64 a0_3] 32 (0, 0)) (by (with_reducible repeat (first | refine blk_drewN ?_ _ | refine blk_drew ?_ | refine blk_alloc ?_ _)); exact BK388.out) hb); have n2_ := Aside0.mk (below_step (by repeat (first | (with_reducible first | exact HB.out | apply below_alloc | apply pw_below_drewN | apply below_drew1 | refine below_set ?_ GE388.out) | exact HB.out)) hb); clear HO406; clear BK388; clear HB; have HO406 := n0_; have BK388 := n1_; have HB := n2_; clear n0_ n1_ n2_; (try clear hb); (try clear hb2); (try clear hk); (try clear hi); have hcz35_0 : w34.cell? ⟨gb388, 0, none⟩ = some (.string a0_0) := (blk_cell BK388.out 0).trans rfl; have hcz35_1 : w34.cell? ⟨gb388, 1, none⟩ = some (.int .i64 a0_1) := (blk_cell BK388.out 1).trans rfl; have hcz35_2 : w34.cell? ⟨gb388, 2, none⟩ = some (.int .i64 a0_2) := (blk_cell BK388.out 2).trans rfl; have hcz35_3 : w34.cell? ⟨gb388, 3, none⟩ = some (.int .i64 a0_3) := (blk_cell BK388.out 3).trans rfl; have hfz35_0 := blk_frozen BK388.out 0; have hfz35_1 := blk_frozen BK388.out 1; have hfz35_2 := blk_frozen BK388.out 2; have hfz35_3 := blk_frozen BK388.out 3) | ((with_reducible refine gate_callee (f := 18) rfl ?_); refine goesL_ (some 57) rfl rfl Tryd.func18 (by kernel_rfl) rfl #[.agg #[.string a0_0, .int .i64 a0_1, .int .i64 a0_2, .int .i64 a0_3], .slice A1 l1.length c1] rfl (by (try simp only [List.map_toArray, List.map_cons, List.map_nil]); first | done | rfl | (simp only [List.length_drop, List.length_take]; rfl)) ?_; (with_reducible refine (grade_Margin.calls kj5 a0_0 a0_1 a0_2 a0_3 _ _ l1 t411 t412 t413 _ ?side1 ?side2 A20.out).mono ?_); (case side1 => repeat (first | exact (Kd.C_below HR1.out HB.out) | (with_reducible refine Kd.C_alloc ?_ _) | (with_reducible refine Kd.C_drewN ?_ _) | (with_reducible refine Kd.C_drew ?_))); (case side2 => exact HC1.out); rintro e w36 ⟨rfl, hb⟩; refine ⟨_, rfl, ?_⟩; have n0_ := Aside0.mk (Kd.R_below (by (with_reducible repeat (first | apply Kd.R_alloc | apply Kd.R_drewN | apply Kd.R_drew)); exact HO406.out) hb); have n1_ := Aside0.mk (blk_below (g := gb388) (o := .cells #[.string a0_0, .int .i64 a0_1, .int .i64 a0_2, .int .i64 a0_3] 32 (0, 0)) (by (with_reducible repeat (first | refine blk_drewN ?_ _ | refine blk_drew ?_ | refine blk_alloc ?_ _)); exact BK388.out) hb); have n2_ := Aside0.mk (below_step (by repeat (first | (with_reducible first | exact HB.out | apply below_alloc | apply pw_below_drewN | apply below_drew1 | refine below_set ?_ GE388.out) | exact HB.out)) hb); clear HO406; clear BK388; clear HB; have HO406 := n0_; have BK388 := n1_; have HB := n2_; clear n0_ n1_ n2_; (try clear hb); (try clear hb2); (try clear hk); (try clear hi); have hcz37_0 : w36.cell? ⟨gb388, 0, none⟩ = some (.string a0_0) := (blk_cell BK388.out 0).trans rfl; have hcz37_1 : w36.cell? ⟨gb388, 1, none⟩ = some (.int .i64 a0_1) := (blk_cell BK388.out 1).trans rfl; have hcz37_2 : w36.cell? ⟨gb388, 2, none⟩ = some (.int .i64 a0_2) := (blk_cell BK388.out 2).trans rfl; have hcz37_3 : w36.cell? ⟨gb388, 3, none⟩ = some (.int .i64 a0_3) := (blk_cell BK388.out 3).trans rfl; have hfz37_0 := blk_frozen BK388.out 0; have hfz37_1 := blk_frozen BK388.out 1; have hfz37_2 := blk_frozen BK388.out 2; have hfz37_3 := blk_frozen BK388.out 3) | ((with_reducible refine gate_callee (f := 18) rfl ?_); refine goesL_ (some 64) rfl rfl Tryd.func18 (by kernel_rfl) rfl #[.agg #[.string a0_0, .int .i64 a0_1, .int .i64 a0_2, .int .i64 a0_3], .slice Ao33 y404.length co33] rfl (by (try simp only [List.map_toArray, List.map_cons, List.map_nil]); first | done | rfl | (simp only [List.length_drop, List.length_take]; rfl)) ?_; (with_reducible refine (grade_Margin.calls kj5 a0_0 a0_1 a0_2 a0_3 _ _ y404 t414 t415 t416 _ ?side1 ?side2 A21.out).mono ?_); (case side1 => repeat (first | exact (Kd.R_reads' HO406.out).2.2 | (with_reducible refine Kd.C_alloc ?_ _) | (with_reducible refine Kd.C_drewN ?_ _) | (with_reducible refine Kd.C_drew ?_))); (case side2 => exact (Kd.R_reads' HO406.out).2.1); rintro e w38 ⟨rfl, hb⟩; refine ⟨_, rfl, ?_⟩; have n0_ := Aside0.mk (Kd.R_below (by (with_reducible repeat (first | apply Kd.R_alloc | apply Kd.R_drewN | apply Kd.R_drew)); exact HO406.out) hb); have n1_ := Aside0.mk (blk_below (g := gb388) (o := .cells #[.string a0_0, .int .i64 a0_1, .int .i64 a0_2, .int .i64 a0_3] 32 (0, 0)) (by (with_reducible repeat (first | refine blk_drewN ?_ _ | refine blk_drew ?_ | refine blk_alloc ?_ _)); exact BK388.out) hb); have n2_ := Aside0.mk (below_step (by repeat (first | (with_reducible first | exact HB.out | apply below_alloc | apply pw_below_drewN | apply below_drew1 | refine below_set ?_ GE388.out) | exact HB.out)) hb); clear HO406; clear BK388; clear HB; have HO406 := n0_; have BK388 := n1_; have HB := n2_; clear n0_ n1_ n2_; (try clear hb); (try clear hb2); (try clear hk); (try clear hi)))
         (try simp only [Act.put, List.setIfInBounds_toArray, List.set_cons_zero, List.set_cons_succ])
         go_cut [90] (fun v90 wc => ∃ (kq : Nat) (x90_21 : Bool), v90 = .bool x90_21 ∧ Aside0 (gangsawlaw34_GradeOrder.j1 kq l1 t407 t408 t411 t412 t413 x90_21 a0_0 a0_1 a0_2 a0_3 = some r) ∧ Aside0 (kq ≤ kj5) ∧ Aside0 (wc.heap[gb388]? = some (.cells #[.string a0_0, .int .i64 a0_1, .int .i64 a0_2, .int .i64 a0_3] 32 (0, 0))) ∧ Aside0 (Below w.heap.size w wc))
         case first =>
          have H := HC22.out
          clear HC22
          by_cases c39 : t408 = t410
          ·rw [if_pos c39] at H
           have c39b0 : (t408 == t410) = true := beq_iff_eq.mpr c39
           have c39b1 : (t408 != t410) = false := bne_eq_false_iff_eq.mpr c39
           clear c39
           (first | rw [c39b0] | (simp only [i64_w, i32_w]; rw [c39b0]) | skip)
           by_cases c40 : (t407 != t409) = true
           ·rw [if_pos c40] at H
            have c40b0 : (t407 != t409) = true := c40
            (try (have c40b1 : decide (t407 = t409) = false := by simpa using c40))
            (try (have c40b2 : (t407 == t409) = false := by simpa using c40))
            (try (have c40b3 : ¬ (t407 = t409) := by simpa using c40))
            clear c40
            have H' := Aside0.mk H
            clear H
            go_wp2
            go_meet
            case rel => exact ⟨_, (true), (by first | rfl | (simp; done) | (simp [*]; done)), H', ⟨by have := HJ5.out; first | omega | exact Nat.le_refl _⟩, ⟨by (with_reducible repeat (first | refine blk_drewN ?_ _ | refine blk_drew ?_ | refine blk_alloc ?_ _)); exact BK388.out⟩, ⟨by repeat (first | (with_reducible first | exact HB.out | apply below_alloc | apply pw_below_drewN | apply below_drew1 | refine below_set ?_ GE388.out) | exact HB.out)⟩⟩
           ·rw [if_neg c40] at H
            have c40b0 : (t407 != t409) = false := by simpa using c40
            (try (have c40b1 : decide (t407 = t409) = true := by simpa using c40))
            (try (have c40b2 : (t407 == t409) = true := by simpa using c40))
            clear c40
            by_cases c41 : t413 = t416
            ·rw [if_pos c41] at H
             have c41b0 : (t413 == t416) = true := beq_iff_eq.mpr c41
             have c41b1 : (t413 != t416) = false := bne_eq_false_iff_eq.mpr c41
             clear c41
             by_cases c42 : t411 = t414
             ·rw [if_pos c42] at H
              have c42b0 : (t411 == t414) = true := beq_iff_eq.mpr c42
              have c42b1 : (t411 != t414) = false := bne_eq_false_iff_eq.mpr c42
              clear c42
              have H' := Aside0.mk H
              clear H
              go_wp2
              go_meet
              case rel => exact ⟨_, ((t412 != t415)), (by first | rfl | (simp; done) | (simp [*]; done)), H', ⟨by have := HJ5.out; first | omega | exact Nat.le_refl _⟩, ⟨by (with_reducible repeat (first | refine blk_drewN ?_ _ | refine blk_drew ?_ | refine blk_alloc ?_ _)); exact BK388.out⟩, ⟨by repeat (first | (with_reducible first | exact HB.out | apply below_alloc | apply pw_below_drewN | apply below_drew1 | refine below_set ?_ GE388.out) | exact HB.out)⟩⟩
             ·rw [if_neg c42] at H
              have c42b0 : (t411 == t414) = false := beq_eq_false_iff_ne.mpr c42
              have c42b1 : (t411 != t414) = true := bne_iff_ne.mpr c42
              have H' := Aside0.mk H
              clear H
              go_wp2
              go_meet
              case rel => exact ⟨_, (true), (by first | rfl | (simp; done) | (simp [*]; done)), H', ⟨by have := HJ5.out; first | omega | exact Nat.le_refl _⟩, ⟨by (with_reducible repeat (first | refine blk_drewN ?_ _ | refine blk_drew ?_ | refine blk_alloc ?_ _)); exact BK388.out⟩, ⟨by repeat (first | (with_reducible first | exact HB.out | apply below_alloc | apply pw_below_drewN | apply below_drew1 | refine below_set ?_ GE388.out) | exact HB.out)⟩⟩
            ·rw [if_neg c41] at H
             have c41b0 : (t413 == t416) = false := beq_eq_false_iff_ne.mpr c41
             have c41b1 : (t413 != t416) = true := bne_iff_ne.mpr c41
             have H' := Aside0.mk H
             clear H
             go_wp2
             go_meet
             case rel => exact ⟨_, (true), (by first | rfl | (simp; done) | (simp [*]; done)), H', ⟨by have := HJ5.out; first | omega | exact Nat.le_refl _⟩, ⟨by (with_reducible repeat (first | refine blk_drewN ?_ _ | refine blk_drew ?_ | refine blk_alloc ?_ _)); exact BK388.out⟩, ⟨by repeat (first | (with_reducible first | exact HB.out | apply below_alloc | apply pw_below_drewN | apply below_drew1 | refine below_set ?_ GE388.out) | exact HB.out)⟩⟩
          ·rw [if_neg c39] at H
           have c39b0 : (t408 == t410) = false := beq_eq_false_iff_ne.mpr c39
           have c39b1 : (t408 != t410) = true := bne_iff_ne.mpr c39
           (first | rw [c39b0] | (simp only [i64_w, i32_w]; rw [c39b0]) | skip)
           have H' := Aside0.mk H
           clear H
           go_wp2
           go_meet
           case rel => exact ⟨_, (true), (by first | rfl | (simp; done) | (simp [*]; done)), H', ⟨by have := HJ5.out; first | omega | exact Nat.le_refl _⟩, ⟨by (with_reducible repeat (first | refine blk_drewN ?_ _ | refine blk_drew ?_ | refine blk_alloc ?_ _)); exact BK388.out⟩, ⟨by repeat (first | (with_reducible first | exact HB.out | apply below_alloc | apply pw_below_drewN | apply below_drew1 | refine below_set ?_ GE388.out) | exact HB.out)⟩⟩
         case rest =>
          clear HC22
          try clear c1
          try clear c2
          try clear p2
          try clear q2
          try clear c3
          try clear c4
          try clear c5
          try clear c8
          try clear c9
          try clear c9b0
          try clear c9b1
          try clear c10
          try clear c10b0
          try clear c11
          try clear c12
          try clear c12b0
          try clear c12b1
          try clear c13
          try clear c13b0
          try clear c13b1
          try clear c14
          try clear c15
          try clear c15b0
          try clear c16
          try clear c16b0
          try clear c17
          try clear c18
          try clear c24
          try clear q24
          try clear q25
          try clear c39
          try clear c39b0
          try clear c39b1
          try clear c40
          try clear c40b0
          try clear c40b1
          try clear c40b2
          try clear c41
          try clear c41b0
          try clear c41b1
          try clear c42
          try clear c42b0
          try clear c42b1
          try clear hcz30_0
          try clear hcz30_1
          try clear hcz30_2
          try clear hcz30_3
          try clear hcz32_0
          try clear hcz32_1
          try clear hcz32_2
          try clear hcz32_3
          try clear hcz35_0
          try clear hcz35_1
          try clear hcz35_2
          try clear hcz35_3
          try clear hcz37_0
          try clear hcz37_1
          try clear hcz37_2
          try clear hcz37_3
          try clear hfz30_0
          try clear hfz30_1
          try clear hfz30_2
          try clear hfz30_3
          try clear hfz32_0
          try clear hfz32_1
          try clear hfz32_2
          try clear hfz32_3
          try clear hfz35_0
          try clear hfz35_1
          try clear hfz35_2
          try clear hfz35_3
          try clear hfz37_0
          try clear hfz37_1
          try clear hfz37_2
          try clear hfz37_3
          try clear p2
          try clear q024
          try clear q24
          try clear q25
          obtain ⟨kq, x90_21, rfl, HA, HJ21, BK388, HB⟩ := hcut
          cases kq with
          | zero => exact absurd HA.out (by simp [gangsawlaw34_GradeOrder.j1])
          | succ kj21 =>
           have H := HA.out
           clear HA
           simp only [gangsawlaw34_GradeOrder.j1] at H
           by_cases c43 : x90_21 = true
           ·subst c43
            have H1 : (some false) = some r := by rw [if_pos rfl] at H; exact H
            clear H
            have H := H1
            clear H1
            obtain rfl := Option.some.inj H
            exact absurd hr (by decide)
           ·replace c43 := Bool.eq_false_iff.mpr c43
            subst c43
            have H1 : (if t408 = 0 then (if t413 = 0 then (if t411 ≥ 0 then (if (t407 == (decide (t412 ≥ 0))) = true then (some ((t413 == 9) == (decide ((l1.length : Int) < a0_1)))) else (some false)) else (if (t407 == false) = true then (some ((t413 == 9) == (decide ((l1.length : Int) < a0_1)))) else (some false))) else (if (t407 == false) = true then (some ((t413 == 9) == (decide ((l1.length : Int) < a0_1)))) else (some false))) else (some (t413 == t408))) = some r := by rw [if_neg (show ¬ (false = true) by decide)] at H; exact H
            clear H
            have H := H1
            clear H1
            by_cases c44 : t408 = 0
            ·rw [if_pos c44] at H
             have c44b0 : (t408 == 0) = true := beq_iff_eq.mpr c44
             have c44b1 : (t408 != 0) = false := bne_eq_false_iff_eq.mpr c44
             clear c44
             by_cases c45 : t413 = 0
             ·rw [if_pos c45] at H
              have c45b0 : (t413 == 0) = true := beq_iff_eq.mpr c45
              have c45b1 : (t413 != 0) = false := bne_eq_false_iff_eq.mpr c45
              clear c45
              by_cases c46 : t411 ≥ 0
              ·rw [if_pos c46] at H
               have c46b0 : decide (0 ≤ t411) = true := decide_eq_true c46
               clear c46
               by_cases c47 : (t407 == (decide (t412 ≥ 0))) = true
               ·rw [if_pos c47] at H
                have c47b0 : (t407 == (decide (t412 ≥ 0))) = true := c47
                (try (have c47b1 : decide (t407 = (decide (t412 ≥ 0))) = true := by simpa using c47))
                (try (have c47b2 : (t407 == (decide (t412 ≥ 0))) = true := by simpa using c47))
                clear c47
                obtain rfl := Option.some.inj H
                simp only [Option.some.injEq, Prod.mk.injEq] at H
                obtain ⟨rfl⟩ := H
                have hcz48_0 : wc.cell? ⟨gb388, 0, none⟩ = some (.string a0_0) := (blk_cell BK388.out 0).trans rfl
                have hcz48_1 : wc.cell? ⟨gb388, 1, none⟩ = some (.int .i64 a0_1) := (blk_cell BK388.out 1).trans rfl
                have hcz48_2 : wc.cell? ⟨gb388, 2, none⟩ = some (.int .i64 a0_2) := (blk_cell BK388.out 2).trans rfl
                have hcz48_3 : wc.cell? ⟨gb388, 3, none⟩ = some (.int .i64 a0_3) := (blk_cell BK388.out 3).trans rfl
                have hfz48_0 := blk_frozen BK388.out 0
                have hfz48_1 := blk_frozen BK388.out 1
                have hfz48_2 := blk_frozen BK388.out 2
                have hfz48_3 := blk_frozen BK388.out 3
                go_wp2
                go_ret
                exact ⟨by first | rfl | (simp [errW_none, errW_some] <;> rfl) | (simp [*, errW_none, errW_some] <;> rfl), by repeat (first | (with_reducible first | exact HB.out | apply below_alloc | apply pw_below_drewN | apply below_drew1 | refine below_set ?_ GE388.out) | exact HB.out)⟩
               ·rw [if_neg c47] at H
                have c47b0 : (t407 == (decide (t412 ≥ 0))) = false := by simpa using c47
                (try (have c47b1 : decide (t407 = (decide (t412 ≥ 0))) = false := by simpa using c47))
                (try (have c47b2 : (t407 == (decide (t412 ≥ 0))) = false := by simpa using c47))
                (try (have c47b3 : ¬ (t407 = (decide (t412 ≥ 0))) := by simpa using c47))
                clear c47
                obtain rfl := Option.some.inj H
                exact absurd hr (by decide)
              ·rw [if_neg c46] at H
               have c46b0 : decide (0 ≤ t411) = false := decide_eq_false c46
               clear c46
               by_cases c49 : (t407 == false) = true
               ·rw [if_pos c49] at H
                have c49b0 : (t407 == false) = true := c49
                (try (have c49b1 : decide (t407 = false) = true := by simpa using c49))
                (try (have c49b2 : (t407 == false) = true := by simpa using c49))
                clear c49
                obtain rfl := Option.some.inj H
                simp only [Option.some.injEq, Prod.mk.injEq] at H
                obtain ⟨rfl⟩ := H
                have hcz50_0 : wc.cell? ⟨gb388, 0, none⟩ = some (.string a0_0) := (blk_cell BK388.out 0).trans rfl
                have hcz50_1 : wc.cell? ⟨gb388, 1, none⟩ = some (.int .i64 a0_1) := (blk_cell BK388.out 1).trans rfl
                have hcz50_2 : wc.cell? ⟨gb388, 2, none⟩ = some (.int .i64 a0_2) := (blk_cell BK388.out 2).trans rfl
                have hcz50_3 : wc.cell? ⟨gb388, 3, none⟩ = some (.int .i64 a0_3) := (blk_cell BK388.out 3).trans rfl
                have hfz50_0 := blk_frozen BK388.out 0
                have hfz50_1 := blk_frozen BK388.out 1
                have hfz50_2 := blk_frozen BK388.out 2
                have hfz50_3 := blk_frozen BK388.out 3
                go_wp2
                go_ret
                exact ⟨by first | rfl | (simp [errW_none, errW_some] <;> rfl) | (simp [*, errW_none, errW_some] <;> rfl), by repeat (first | (with_reducible first | exact HB.out | apply below_alloc | apply pw_below_drewN | apply below_drew1 | refine below_set ?_ GE388.out) | exact HB.out)⟩
               ·rw [if_neg c49] at H
                have c49b0 : (t407 == false) = false := by simpa using c49
                (try (have c49b1 : decide (t407 = false) = false := by simpa using c49))
                (try (have c49b2 : (t407 == false) = false := by simpa using c49))
                (try (have c49b3 : ¬ (t407 = false) := by simpa using c49))
                clear c49
                obtain rfl := Option.some.inj H
                exact absurd hr (by decide)
             ·rw [if_neg c45] at H
              have c45b0 : (t413 == 0) = false := beq_eq_false_iff_ne.mpr c45
              have c45b1 : (t413 != 0) = true := bne_iff_ne.mpr c45
              by_cases c51 : (t407 == false) = true
              ·rw [if_pos c51] at H
               have c51b0 : (t407 == false) = true := c51
               (try (have c51b1 : decide (t407 = false) = true := by simpa using c51))
               (try (have c51b2 : (t407 == false) = true := by simpa using c51))
               clear c51
               obtain rfl := Option.some.inj H
               simp only [Option.some.injEq, Prod.mk.injEq] at H
               obtain ⟨rfl⟩ := H
               have hcz52_0 : wc.cell? ⟨gb388, 0, none⟩ = some (.string a0_0) := (blk_cell BK388.out 0).trans rfl
               have hcz52_1 : wc.cell? ⟨gb388, 1, none⟩ = some (.int .i64 a0_1) := (blk_cell BK388.out 1).trans rfl
               have hcz52_2 : wc.cell? ⟨gb388, 2, none⟩ = some (.int .i64 a0_2) := (blk_cell BK388.out 2).trans rfl
               have hcz52_3 : wc.cell? ⟨gb388, 3, none⟩ = some (.int .i64 a0_3) := (blk_cell BK388.out 3).trans rfl
               have hfz52_0 := blk_frozen BK388.out 0
               have hfz52_1 := blk_frozen BK388.out 1
               have hfz52_2 := blk_frozen BK388.out 2
               have hfz52_3 := blk_frozen BK388.out 3
               go_wp2
               go_ret
               exact ⟨by first | rfl | (simp [errW_none, errW_some] <;> rfl) | (simp [*, errW_none, errW_some] <;> rfl), by repeat (first | (with_reducible first | exact HB.out | apply below_alloc | apply pw_below_drewN | apply below_drew1 | refine below_set ?_ GE388.out) | exact HB.out)⟩
              ·rw [if_neg c51] at H
               have c51b0 : (t407 == false) = false := by simpa using c51
               (try (have c51b1 : decide (t407 = false) = false := by simpa using c51))
               (try (have c51b2 : (t407 == false) = false := by simpa using c51))
               (try (have c51b3 : ¬ (t407 = false) := by simpa using c51))
               clear c51
               obtain rfl := Option.some.inj H
               exact absurd hr (by decide)
            ·rw [if_neg c44] at H
             have c44b0 : (t408 == 0) = false := beq_eq_false_iff_ne.mpr c44
             have c44b1 : (t408 != 0) = true := bne_iff_ne.mpr c44
             obtain rfl := Option.some.inj H
             simp only [Option.some.injEq, Prod.mk.injEq] at H
             obtain ⟨rfl⟩ := H
             go_wp2
             go_ret
             exact ⟨by first | rfl | (simp [errW_none, errW_some] <;> rfl) | (simp [*, errW_none, errW_some] <;> rfl), by repeat (first | (with_reducible first | exact HB.out | apply below_alloc | apply pw_below_drewN | apply below_drew1 | refine below_set ?_ GE388.out) | exact HB.out)⟩
        ·rw [if_neg c17] at H
         exact absurd H (by simp)
       ·rw [if_neg c14] at H
        exact absurd H (by simp)
      ·rw [if_neg c13] at H
       exact absurd H (by simp)
     ·rw [if_neg c12] at H
      exact absurd H (by simp)
 ·replace c5 := Bool.eq_false_iff.mpr c5
  subst c5
  have H1 : (some false) = some r := by rw [if_neg (show ¬ (false = true) by decide)] at H; exact H
  clear H
  have H := H1
  clear H1
  obtain rfl := Option.some.inj H
  exact absurd hr (by decide)

end Go.Proofs.YtankffbfocaibaaDoor.P
