/- What functions of the program return: each contract says so of one function, for every input at which its pure function yields. -/
import Derived.Test.YtankffbfocaibaaDoorPx0
import Derived.Test.YtankffbfocaibaaDoorPx11
import Derived.Test.YtankffbfocaibaaDoorPx15
import Derived.Test.YtankffbfocaibaaDoorAwk
namespace Go.Proofs.YtankffbfocaibaaDoor.P
open Go.RowKit Go.Proofs.YtankffbfocaibaaDoorW.PrintWords Go.Proofs.YtankffbfocaibaaDoorW.PrintLast Go.Proofs.YtankffbfocaibaaDoorW.PrintMore
attribute [local go_sem] max2_int min2_int max_two min_two max_three min_three max_four min_four   -- for this text's walks alone
set_option linter.unusedVariables false
set_option linter.unusedSimpArgs false

open Go.Proofs.YtankffbfocaibaaDoor.Awk
mutual
def gangsawlaw34_GradeImproves.j0 : Nat → List (S46) → Int → Int → Int → Bool → ByteArray → Int → Int → Int → Option (Bool)
 | 0, _, _, _, _, _, _, _, _, _ => none
 | k + 1, x1, x2, x3, x4, x52, x367000, x367001, x367002, x367003 => if x52 = true then (some true) else ((some (([] : List (S46)) : List (S46))).bind fun y368 => (if y368.length + x1.length < 4398046511104 then ((some (y368 ++ x1 : List (S46))).bind fun y371 => (if 0 ≤ x2 then (if x2 < (y371.length : Int) then ((some (y371.set (x2 : Int).toNat (⟨(rd_T46 y371 x2).f0, wrap64 (((rd_T46 y371 x2).f1) + x3), (rd_T46 y371 x2).f2⟩ : S46) : List (S46))).bind fun y375 => ((some (y375.set (x2 : Int).toNat (⟨(rd_T46 y375 x2).f0, (rd_T46 y375 x2).f1, wrap64 (((rd_T46 y375 x2).f2) - x4)⟩ : S46) : List (S46))).bind fun y377 => ((grade_Meets.f k x367000 x367001 x367002 x367003 x1).bind fun bt378 => ((grade_Meets.f k x367000 x367001 x367002 x367003 y377).bind fun bt380 => (if bt378.2 = 0 then (gangsawlaw34_GradeImproves.j1 k x1 y377 bt378.1 bt380.1 (bt380.2 != 0) x367000 x367001 x367002 x367003) else (gangsawlaw34_GradeImproves.j1 k x1 y377 bt378.1 bt380.1 true x367000 x367001 x367002 x367003)))))) else (none)) else (none))) else (none)))
def gangsawlaw34_GradeImproves.j1 : Nat → List (S46) → List (S46) → Bool → Bool → Bool → ByteArray → Int → Int → Int → Option (Bool)
 | 0, _, _, _, _, _, _, _, _, _ => none
 | k + 1, x1, x11, x12, x14, x91, x367000, x367001, x367002, x367003 => if x91 = true then (some true) else ((grade_Margin.f k x367000 x367001 x367002 x367003 x1).bind fun bt382 => ((grade_Margin.f k x367000 x367001 x367002 x367003 x11).bind fun bt385 => (if x12 = true then (if x14 = true then (if bt382.2.2 = bt385.2.2 then (if bt382.2.2 = 0 then (if bt385.1 ≥ bt382.1 then (some (decide (bt385.2.1 ≥ bt382.2.1))) else (some false)) else (some true)) else (some false)) else (some false)) else (if bt382.2.2 = bt385.2.2 then (if bt382.2.2 = 0 then (if bt385.1 ≥ bt382.1 then (some (decide (bt385.2.1 ≥ bt382.2.1))) else (some false)) else (some true)) else (some false)))))
end
def gangsawlaw34_GradeImproves.f (k : Nat) (a0_0 : ByteArray) (a0_1 : Int) (a0_2 : Int) (a0_3 : Int) (l1 : List (S46)) (a2 : Int) (a3 : Int) (a4 : Int) : Option (Bool) := (gangsawlaw34_awake.f).bind fun t367 => (if t367 = true then (if (l1.length : Int) > 60 then (gangsawlaw34_GradeImproves.j0 k l1 a2 a3 a4 true a0_0 a0_1 a0_2 a0_3) else (if a2 < 0 then (gangsawlaw34_GradeImproves.j0 k l1 a2 a3 a4 true a0_0 a0_1 a0_2 a0_3) else (if a2 ≥ (l1.length : Int) then (gangsawlaw34_GradeImproves.j0 k l1 a2 a3 a4 true a0_0 a0_1 a0_2 a0_3) else (if a3 < 0 then (gangsawlaw34_GradeImproves.j0 k l1 a2 a3 a4 true a0_0 a0_1 a0_2 a0_3) else (if a3 > 1000000 then (gangsawlaw34_GradeImproves.j0 k l1 a2 a3 a4 true a0_0 a0_1 a0_2 a0_3) else (if a4 < 0 then (gangsawlaw34_GradeImproves.j0 k l1 a2 a3 a4 true a0_0 a0_1 a0_2 a0_3) else (gangsawlaw34_GradeImproves.j0 k l1 a2 a3 a4 (decide (a4 > 1000000)) a0_0 a0_1 a0_2 a0_3))))))) else (some false))
theorem gangsawlaw34_GradeImproves.mono_l : ∀ k, (∀ y0 y1 y2 y3 y4 y5 y6 y7 y8, LeO (gangsawlaw34_GradeImproves.j0 k y0 y1 y2 y3 y4 y5 y6 y7 y8) (gangsawlaw34_GradeImproves.j0 (k + 1) y0 y1 y2 y3 y4 y5 y6 y7 y8)) ∧ (∀ y0 y1 y2 y3 y4 y5 y6 y7 y8, LeO (gangsawlaw34_GradeImproves.j1 k y0 y1 y2 y3 y4 y5 y6 y7 y8) (gangsawlaw34_GradeImproves.j1 (k + 1) y0 y1 y2 y3 y4 y5 y6 y7 y8))
 | 0 => ⟨fun _ _ _ _ _ _ _ _ _ r h => by simp [gangsawlaw34_GradeImproves.j0] at h, fun _ _ _ _ _ _ _ _ _ r h => by simp [gangsawlaw34_GradeImproves.j1] at h⟩
 | k + 1 => by
  obtain ⟨ih0, ih1⟩ := gangsawlaw34_GradeImproves.mono_l k
  refine ⟨?_, ?_⟩
  ·intro y0 y1 y2 y3 y4 y5 y6 y7 y8
   unfold gangsawlaw34_GradeImproves.j0
   repeat' first
   | (with_reducible exact ih0 _ _ _ _ _ _ _ _ _)
   | (with_reducible exact ih1 _ _ _ _ _ _ _ _ _)
   | (with_reducible exact grade_Margin.mono _ _ _ _ _ _)
   | (with_reducible exact grade_Meets.mono _ _ _ _ _ _)
   | (with_reducible refine contains32.mono2 (fun x_ => ?_))
   | (with_reducible refine contains46.mono2 (fun x_ => ?_))
   | (with_reducible refine index32.mono2 (fun x_ => ?_))
   | (with_reducible refine index46.mono2 (fun x_ => ?_))
   | (with_reducible exact LeO.refl _)
   | (with_reducible exact LeO.none _)
   | (with_reducible refine LeO.ite ?_ ?_)
   | (with_reducible refine LeO.bind ?_ (fun _ => ?_))
   | exact ih0 _ _ _ _ _ _ _ _ _
   | exact ih1 _ _ _ _ _ _ _ _ _
   | exact grade_Margin.mono _ _ _ _ _ _
   | exact grade_Meets.mono _ _ _ _ _ _
   | exact LeO.none _
   | refine LeO.ite ?_ ?_
   | refine LeO.bind ?_ (fun _ => ?_)
  ·intro y0 y1 y2 y3 y4 y5 y6 y7 y8
   unfold gangsawlaw34_GradeImproves.j1
   repeat' first
   | (with_reducible exact ih0 _ _ _ _ _ _ _ _ _)
   | (with_reducible exact ih1 _ _ _ _ _ _ _ _ _)
   | (with_reducible exact grade_Margin.mono _ _ _ _ _ _)
   | (with_reducible exact grade_Meets.mono _ _ _ _ _ _)
   | (with_reducible refine contains32.mono2 (fun x_ => ?_))
   | (with_reducible refine contains46.mono2 (fun x_ => ?_))
   | (with_reducible refine index32.mono2 (fun x_ => ?_))
   | (with_reducible refine index46.mono2 (fun x_ => ?_))
   | (with_reducible exact LeO.refl _)
   | (with_reducible exact LeO.none _)
   | (with_reducible refine LeO.ite ?_ ?_)
   | (with_reducible refine LeO.bind ?_ (fun _ => ?_))
   | exact ih0 _ _ _ _ _ _ _ _ _
   | exact ih1 _ _ _ _ _ _ _ _ _
   | exact grade_Margin.mono _ _ _ _ _ _
   | exact grade_Meets.mono _ _ _ _ _ _
   | exact LeO.none _
   | refine LeO.ite ?_ ?_
   | refine LeO.bind ?_ (fun _ => ?_)
theorem gangsawlaw34_GradeImproves.mono : ∀ a0 a1 a2 a3 a4 a5 a6 a7 k, LeO (gangsawlaw34_GradeImproves.f k a0 a1 a2 a3 a4 a5 a6 a7) (gangsawlaw34_GradeImproves.f (k + 1) a0 a1 a2 a3 a4 a5 a6 a7) := by
 intro a0 a1 a2 a3 a4 a5 a6 a7 k
 obtain ⟨ih0, ih1⟩ := gangsawlaw34_GradeImproves.mono_l k
 unfold gangsawlaw34_GradeImproves.f
 repeat' first
   | (with_reducible exact ih0 _ _ _ _ _ _ _ _ _)
   | (with_reducible exact ih1 _ _ _ _ _ _ _ _ _)
   | (with_reducible exact grade_Margin.mono _ _ _ _ _ _)
   | (with_reducible exact grade_Meets.mono _ _ _ _ _ _)
   | (with_reducible refine contains32.mono2 (fun x_ => ?_))
   | (with_reducible refine contains46.mono2 (fun x_ => ?_))
   | (with_reducible refine index32.mono2 (fun x_ => ?_))
   | (with_reducible refine index46.mono2 (fun x_ => ?_))
   | (with_reducible exact LeO.refl _)
   | (with_reducible exact LeO.none _)
   | (with_reducible refine LeO.ite ?_ ?_)
   | (with_reducible refine LeO.bind ?_ (fun _ => ?_))
   | exact ih0 _ _ _ _ _ _ _ _ _
   | exact ih1 _ _ _ _ _ _ _ _ _
   | exact grade_Margin.mono _ _ _ _ _ _
   | exact grade_Meets.mono _ _ _ _ _ _
   | exact LeO.none _
   | refine LeO.ite ?_ ?_
   | refine LeO.bind ?_ (fun _ => ?_)
set_option maxHeartbeats 8000000 in
set_option maxRecDepth 100000 in
theorem gangsawlaw34_GradeImproves.calls (k : Nat) (a0_0 : ByteArray) (a0_1 : Int) (a0_2 : Int) (a0_3 : Int) (A1 : Option Addr) (c1 : Nat) (l1 : List (S46)) (a2 : Int) (a3 : Int) (a4 : Int) (r : Bool) (w : World) (hr1 : Kd.C k46 w A1 l1.length l1) (hc1 : l1.length ≤ c1) (h : gangsawlaw34_GradeImproves.f k a0_0 a0_1 a0_2 a0_3 l1 a2 a3 a4 = some r) (hr : r = true) (hld : FormAt w) :
  Calls Tryd.prog 7 #[.agg #[.string a0_0, .int .i64 a0_1, .int .i64 a0_2, .int .i64 a0_3], .slice A1 l1.length c1, .int .i64 a2, .int .i64 a3, .int .i64 a4] w fun e w' => e = .returned (.bool r) ∧ Below w.heap.size w w' := by
 have HLD := Aside0.mk hld
 clear hld
 have hu32 := Tryd.underlying32
 have HR1 := Aside0.mk hr1
 have HC1 := Aside0.mk hc1
 clear hr1 hc1
 have HB := Aside0.mk (Below.refl w.heap.size w)
 have H : ((gangsawlaw34_awake.f).bind fun t367 => (if t367 = true then (if (l1.length : Int) > 60 then (gangsawlaw34_GradeImproves.j0 k l1 a2 a3 a4 true a0_0 a0_1 a0_2 a0_3) else (if a2 < 0 then (gangsawlaw34_GradeImproves.j0 k l1 a2 a3 a4 true a0_0 a0_1 a0_2 a0_3) else (if a2 ≥ (l1.length : Int) then (gangsawlaw34_GradeImproves.j0 k l1 a2 a3 a4 true a0_0 a0_1 a0_2 a0_3) else (if a3 < 0 then (gangsawlaw34_GradeImproves.j0 k l1 a2 a3 a4 true a0_0 a0_1 a0_2 a0_3) else (if a3 > 1000000 then (gangsawlaw34_GradeImproves.j0 k l1 a2 a3 a4 true a0_0 a0_1 a0_2 a0_3) else (if a4 < 0 then (gangsawlaw34_GradeImproves.j0 k l1 a2 a3 a4 true a0_0 a0_1 a0_2 a0_3) else (gangsawlaw34_GradeImproves.j0 k l1 a2 a3 a4 (decide (a4 > 1000000)) a0_0 a0_1 a0_2 a0_3))))))) else (some false))) = some r := h
 clear h
 replace H := Option.bind_eq_some_iff.mp H
 obtain ⟨t367, A60, H⟩ := H
 replace H : (if t367 = true then (if (l1.length : Int) > 60 then (gangsawlaw34_GradeImproves.j0 k l1 a2 a3 a4 true a0_0 a0_1 a0_2 a0_3) else (if a2 < 0 then (gangsawlaw34_GradeImproves.j0 k l1 a2 a3 a4 true a0_0 a0_1 a0_2 a0_3) else (if a2 ≥ (l1.length : Int) then (gangsawlaw34_GradeImproves.j0 k l1 a2 a3 a4 true a0_0 a0_1 a0_2 a0_3) else (if a3 < 0 then (gangsawlaw34_GradeImproves.j0 k l1 a2 a3 a4 true a0_0 a0_1 a0_2 a0_3) else (if a3 > 1000000 then (gangsawlaw34_GradeImproves.j0 k l1 a2 a3 a4 true a0_0 a0_1 a0_2 a0_3) else (if a4 < 0 then (gangsawlaw34_GradeImproves.j0 k l1 a2 a3 a4 true a0_0 a0_1 a0_2 a0_3) else (gangsawlaw34_GradeImproves.j0 k l1 a2 a3 a4 (decide (a4 > 1000000)) a0_0 a0_1 a0_2 a0_3))))))) else (some false)) = some r := H
 have A6 := Aside0.mk A60
 clear A60
 by_cases c7 : t367 = true
 ·subst c7
  have H1 : (if (l1.length : Int) > 60 then (gangsawlaw34_GradeImproves.j0 k l1 a2 a3 a4 true a0_0 a0_1 a0_2 a0_3) else (if a2 < 0 then (gangsawlaw34_GradeImproves.j0 k l1 a2 a3 a4 true a0_0 a0_1 a0_2 a0_3) else (if a2 ≥ (l1.length : Int) then (gangsawlaw34_GradeImproves.j0 k l1 a2 a3 a4 true a0_0 a0_1 a0_2 a0_3) else (if a3 < 0 then (gangsawlaw34_GradeImproves.j0 k l1 a2 a3 a4 true a0_0 a0_1 a0_2 a0_3) else (if a3 > 1000000 then (gangsawlaw34_GradeImproves.j0 k l1 a2 a3 a4 true a0_0 a0_1 a0_2 a0_3) else (if a4 < 0 then (gangsawlaw34_GradeImproves.j0 k l1 a2 a3 a4 true a0_0 a0_1 a0_2 a0_3) else (gangsawlaw34_GradeImproves.j0 k l1 a2 a3 a4 (decide (a4 > 1000000)) a0_0 a0_1 a0_2 a0_3))))))) = some r := by rw [if_pos rfl] at H; exact H
  clear H
  have H := H1
  clear H1
  have HC8 := Aside0.mk H
  clear H
  go_enter Tryd.func7, Tryd.ntmps7
  go_upto_region 3 with (first | ((with_reducible refine gate_dst (N := 5) rfl ?_); (try (refine gate_guard (by rfl) ?_; dsimp only)); refine box_event ?hg (N := 5) ?hd (cs := #[.string a0_0, .int .i64 a0_1, .int .i64 a0_2, .int .i64 a0_3]) (t := 32) ?hr ?_; (case hd => rfl); (case hg => rfl); (case hr => first | (go_simp; done) | (go_simp; rfl)); intro gb366 hg w9 hbox hb; have n0_ := Aside0.mk (below_step (by repeat (first | (with_reducible first | exact HB.out | apply below_alloc | apply pw_below_drewN | apply below_drew1) | exact HB.out)) hb); have n1_ := Aside0.mk (hbox); have n2_ := Aside0.mk ((by rw [hg]; exact (below_size (by repeat (first | (with_reducible first | exact HB.out | apply below_alloc | apply pw_below_drewN | apply below_drew1) | exact HB.out))) : w.heap.size ≤ gb366)); have n3_ := Aside0.mk ((by rw [hg]; exact (below_size (by repeat (first | (with_reducible first | exact HB.out | apply below_alloc | apply pw_below_drewN | apply below_drew1) | exact HB.out))) : w.heap.size ≤ gb366)); clear HB; have HB := n0_; have BK366 := n1_; have GW366 := n2_; have GE366 := n3_; clear n0_ n1_ n2_ n3_; clear hb hbox hg) | ((with_reducible refine gate_callee (f := 9) rfl ?_); refine goesL_ (some 22) rfl rfl Tryd.func9 (by kernel_rfl) rfl #[] rfl (by (try simp only [List.map_toArray, List.map_cons, List.map_nil]); first | done | rfl | (simp only [List.length_drop, List.length_take]; rfl)) ?_; (with_reducible refine (gangsawlaw34_awake.callsL HLD.out true _ (by repeat (first | (with_reducible first | exact HB.out | apply below_alloc | apply pw_below_drewN | apply below_drew1) | exact HB.out)) A6.out).mono ?_); rintro e w10 ⟨rfl, hb⟩; refine ⟨_, rfl, ?_⟩; have n0_ := Aside0.mk (blk_below (g := gb366) (o := .cells #[.string a0_0, .int .i64 a0_1, .int .i64 a0_2, .int .i64 a0_3] 32 (0, 0)) (by (with_reducible repeat (first | refine blk_drewN ?_ _ | refine blk_drew ?_ | refine blk_alloc ?_ _)); exact BK366.out) hb); have n1_ := Aside0.mk (below_step (by repeat (first | (with_reducible first | exact HB.out | apply below_alloc | apply pw_below_drewN | apply below_drew1 | refine below_set ?_ GE366.out) | exact HB.out)) hb); clear BK366; clear HB; have BK366 := n0_; have HB := n1_; clear n0_ n1_; (try clear hb); (try clear hb2); (try clear hk); (try clear hi)))
  (try simp only [Act.put, List.setIfInBounds_toArray, List.set_cons_zero, List.set_cons_succ])
  go_cut [52] (fun v52 wc => ∃ (kq : Nat) (x52_7 : Bool), v52 = .bool x52_7 ∧ Aside0 (gangsawlaw34_GradeImproves.j0 kq l1 a2 a3 a4 x52_7 a0_0 a0_1 a0_2 a0_3 = some r) ∧ Aside0 (kq ≤ k) ∧ Aside0 (wc.heap[gb366]? = some (.cells #[.string a0_0, .int .i64 a0_1, .int .i64 a0_2, .int .i64 a0_3] 32 (0, 0))) ∧ Aside0 (Below w.heap.size w wc))
  case first =>
   have H := HC8.out
   clear HC8
   by_cases c11 : (l1.length : Int) > 60
   ·rw [if_pos c11] at H
    have c11b0 : decide (60 < (l1.length : Int)) = true := decide_eq_true c11
    have c11b1 : decide (60 < l1.length) = true := decide_eq_true (by omega)
    clear c11
    (first | rw [c11b0] | (simp only [i64_w, i32_w]; rw [c11b0]) | skip)
    have H' := Aside0.mk H
    clear H
    go_wp2
    go_meet
    case rel => exact ⟨_, (true), (by first | rfl | (simp; done) | (simp [*]; done)), H', ⟨by first | omega | exact Nat.le_refl _⟩, ⟨by (with_reducible repeat (first | refine blk_drewN ?_ _ | refine blk_drew ?_ | refine blk_alloc ?_ _)); exact BK366.out⟩, ⟨by repeat (first | (with_reducible first | exact HB.out | apply below_alloc | apply pw_below_drewN | apply below_drew1 | refine below_set ?_ GE366.out) | exact HB.out)⟩⟩
   ·rw [if_neg c11] at H
    have c11b0 : decide (60 < (l1.length : Int)) = false := decide_eq_false c11
    have c11b1 : decide (60 < l1.length) = false := decide_eq_false (by omega)
    clear c11
    (first | rw [c11b0] | (simp only [i64_w, i32_w]; rw [c11b0]) | skip)
    by_cases c12 : a2 < 0
    ·rw [if_pos c12] at H
     have c12b0 : decide (a2 < 0) = true := decide_eq_true c12
     clear c12
     have H' := Aside0.mk H
     clear H
     go_wp2
     go_meet
     case rel => exact ⟨_, (true), (by first | rfl | (simp; done) | (simp [*]; done)), H', ⟨by first | omega | exact Nat.le_refl _⟩, ⟨by (with_reducible repeat (first | refine blk_drewN ?_ _ | refine blk_drew ?_ | refine blk_alloc ?_ _)); exact BK366.out⟩, ⟨by repeat (first | (with_reducible first | exact HB.out | apply below_alloc | apply pw_below_drewN | apply below_drew1 | refine below_set ?_ GE366.out) | exact HB.out)⟩⟩
    ·rw [if_neg c12] at H
     have c12b0 : decide (a2 < 0) = false := decide_eq_false c12
     clear c12
     by_cases c13 : a2 ≥ (l1.length : Int)
     ·rw [if_pos c13] at H
      have c13b0 : decide ((l1.length : Int) ≤ a2) = true := decide_eq_true c13
      clear c13
      have H' := Aside0.mk H
      clear H
      go_wp2
      go_meet
      case rel => exact ⟨_, (true), (by first | rfl | (simp; done) | (simp [*]; done)), H', ⟨by first | omega | exact Nat.le_refl _⟩, ⟨by (with_reducible repeat (first | refine blk_drewN ?_ _ | refine blk_drew ?_ | refine blk_alloc ?_ _)); exact BK366.out⟩, ⟨by repeat (first | (with_reducible first | exact HB.out | apply below_alloc | apply pw_below_drewN | apply below_drew1 | refine below_set ?_ GE366.out) | exact HB.out)⟩⟩
     ·rw [if_neg c13] at H
      have c13b0 : decide ((l1.length : Int) ≤ a2) = false := decide_eq_false c13
      clear c13
      by_cases c14 : a3 < 0
      ·rw [if_pos c14] at H
       have c14b0 : decide (a3 < 0) = true := decide_eq_true c14
       clear c14
       have H' := Aside0.mk H
       clear H
       go_wp2
       go_meet
       case rel => exact ⟨_, (true), (by first | rfl | (simp; done) | (simp [*]; done)), H', ⟨by first | omega | exact Nat.le_refl _⟩, ⟨by (with_reducible repeat (first | refine blk_drewN ?_ _ | refine blk_drew ?_ | refine blk_alloc ?_ _)); exact BK366.out⟩, ⟨by repeat (first | (with_reducible first | exact HB.out | apply below_alloc | apply pw_below_drewN | apply below_drew1 | refine below_set ?_ GE366.out) | exact HB.out)⟩⟩
      ·rw [if_neg c14] at H
       have c14b0 : decide (a3 < 0) = false := decide_eq_false c14
       clear c14
       by_cases c15 : a3 > 1000000
       ·rw [if_pos c15] at H
        have c15b0 : decide (1000000 < a3) = true := decide_eq_true c15
        clear c15
        have H' := Aside0.mk H
        clear H
        go_wp2
        go_meet
        case rel => exact ⟨_, (true), (by first | rfl | (simp; done) | (simp [*]; done)), H', ⟨by first | omega | exact Nat.le_refl _⟩, ⟨by (with_reducible repeat (first | refine blk_drewN ?_ _ | refine blk_drew ?_ | refine blk_alloc ?_ _)); exact BK366.out⟩, ⟨by repeat (first | (with_reducible first | exact HB.out | apply below_alloc | apply pw_below_drewN | apply below_drew1 | refine below_set ?_ GE366.out) | exact HB.out)⟩⟩
       ·rw [if_neg c15] at H
        have c15b0 : decide (1000000 < a3) = false := decide_eq_false c15
        clear c15
        by_cases c16 : a4 < 0
        ·rw [if_pos c16] at H
         have c16b0 : decide (a4 < 0) = true := decide_eq_true c16
         clear c16
         have H' := Aside0.mk H
         clear H
         go_wp2
         go_meet
         case rel => exact ⟨_, (true), (by first | rfl | (simp; done) | (simp [*]; done)), H', ⟨by first | omega | exact Nat.le_refl _⟩, ⟨by (with_reducible repeat (first | refine blk_drewN ?_ _ | refine blk_drew ?_ | refine blk_alloc ?_ _)); exact BK366.out⟩, ⟨by repeat (first | (with_reducible first | exact HB.out | apply below_alloc | apply pw_below_drewN | apply below_drew1 | refine below_set ?_ GE366.out) | exact HB.out)⟩⟩
        ·rw [if_neg c16] at H
         have c16b0 : decide (a4 < 0) = false := decide_eq_false c16
         clear c16
         have H' := Aside0.mk H
         clear H
         go_wp2
         go_meet
         case rel => exact ⟨_, (decide (a4 > 1000000)), (by first | rfl | (simp; done) | (simp [*]; done)), H', ⟨by first | omega | exact Nat.le_refl _⟩, ⟨by (with_reducible repeat (first | refine blk_drewN ?_ _ | refine blk_drew ?_ | refine blk_alloc ?_ _)); exact BK366.out⟩, ⟨by repeat (first | (with_reducible first | exact HB.out | apply below_alloc | apply pw_below_drewN | apply below_drew1 | refine below_set ?_ GE366.out) | exact HB.out)⟩⟩
  case rest =>
   clear HC8
   try clear c1
   try clear p2
   try clear c7
   try clear c9
   try clear c11
   try clear c11b0
   try clear c11b1
   try clear c12
   try clear c12b0
   try clear c13
   try clear c13b0
   try clear c14
   try clear c14b0
   try clear c15
   try clear c15b0
   try clear c16
   try clear c16b0
   obtain ⟨kq, x52_7, rfl, HA, HJ7, BK366, HB⟩ := hcut
   cases kq with
   | zero => exact absurd HA.out (by simp [gangsawlaw34_GradeImproves.j0])
   | succ kj7 =>
    have H := HA.out
    clear HA
    simp only [gangsawlaw34_GradeImproves.j0] at H
    by_cases c17 : x52_7 = true
    ·subst c17
     have H1 : (some true) = some r := by rw [if_pos rfl] at H; exact H
     clear H
     have H := H1
     clear H1
     obtain rfl := Option.some.inj H
     simp only [Option.some.injEq, Prod.mk.injEq] at H
     obtain ⟨rfl⟩ := H
     go_wp2
     go_ret
     exact ⟨by first | rfl | (simp [errW_none, errW_some] <;> rfl) | (simp [*, errW_none, errW_some] <;> rfl), by repeat (first | (with_reducible first | exact HB.out | apply below_alloc | apply pw_below_drewN | apply below_drew1 | refine below_set ?_ GE366.out) | exact HB.out)⟩
    ·replace c17 := Bool.eq_false_iff.mpr c17
     subst c17
     have H1 : ((some (([] : List (S46)) : List (S46))).bind fun y368 => (if y368.length + l1.length < 4398046511104 then ((some (y368 ++ l1 : List (S46))).bind fun y371 => (if 0 ≤ a2 then (if a2 < (y371.length : Int) then ((some (y371.set (a2 : Int).toNat (⟨(rd_T46 y371 a2).f0, wrap64 (((rd_T46 y371 a2).f1) + a3), (rd_T46 y371 a2).f2⟩ : S46) : List (S46))).bind fun y375 => ((some (y375.set (a2 : Int).toNat (⟨(rd_T46 y375 a2).f0, (rd_T46 y375 a2).f1, wrap64 (((rd_T46 y375 a2).f2) - a4)⟩ : S46) : List (S46))).bind fun y377 => ((grade_Meets.f kj7 a0_0 a0_1 a0_2 a0_3 l1).bind fun bt378 => ((grade_Meets.f kj7 a0_0 a0_1 a0_2 a0_3 y377).bind fun bt380 => (if bt378.2 = 0 then (gangsawlaw34_GradeImproves.j1 kj7 l1 y377 bt378.1 bt380.1 (bt380.2 != 0) a0_0 a0_1 a0_2 a0_3) else (gangsawlaw34_GradeImproves.j1 kj7 l1 y377 bt378.1 bt380.1 true a0_0 a0_1 a0_2 a0_3)))))) else (none)) else (none))) else (none))) = some r := by rw [if_neg (show ¬ (false = true) by decide)] at H; exact H
     clear H
     have H := H1
     clear H1
     obtain ⟨y368, hy368⟩ : ∃ y_ : List (S46), y_ = (([] : List (S46))) := ⟨_, rfl⟩
     replace H : (if y368.length + l1.length < 4398046511104 then ((some (y368 ++ l1 : List (S46))).bind fun y371 => (if 0 ≤ a2 then (if a2 < (y371.length : Int) then ((some (y371.set (a2 : Int).toNat (⟨(rd_T46 y371 a2).f0, wrap64 (((rd_T46 y371 a2).f1) + a3), (rd_T46 y371 a2).f2⟩ : S46) : List (S46))).bind fun y375 => ((some (y375.set (a2 : Int).toNat (⟨(rd_T46 y375 a2).f0, (rd_T46 y375 a2).f1, wrap64 (((rd_T46 y375 a2).f2) - a4)⟩ : S46) : List (S46))).bind fun y377 => ((grade_Meets.f kj7 a0_0 a0_1 a0_2 a0_3 l1).bind fun bt378 => ((grade_Meets.f kj7 a0_0 a0_1 a0_2 a0_3 y377).bind fun bt380 => (if bt378.2 = 0 then (gangsawlaw34_GradeImproves.j1 kj7 l1 y377 bt378.1 bt380.1 (bt380.2 != 0) a0_0 a0_1 a0_2 a0_3) else (gangsawlaw34_GradeImproves.j1 kj7 l1 y377 bt378.1 bt380.1 true a0_0 a0_1 a0_2 a0_3)))))) else (none)) else (none))) else (none)) = some r := by first | (rw [hy368]; with_reducible exact H) | (have H2_ := (Option.bind_some _ _).symm.trans H; rw [hy368]; with_reducible exact H2_) | (have H2_ := (Option.bind_some _ _).symm.trans H; with_reducible exact H2_) | with_reducible exact H | (rw [hy368]; exact H) | exact H
     have Ny368 := Aside0.mk hy368
     clear hy368
     by_cases c18 : y368.length + l1.length < 4398046511104
     ·rw [if_pos c18] at H
      have LMc18 := Aside0.mk c18
      clear c18
      obtain ⟨y371, hy371⟩ : ∃ y_ : List (S46), y_ = (y368 ++ l1) := ⟨_, rfl⟩
      replace H : (if 0 ≤ a2 then (if a2 < (y371.length : Int) then ((some (y371.set (a2 : Int).toNat (⟨(rd_T46 y371 a2).f0, wrap64 (((rd_T46 y371 a2).f1) + a3), (rd_T46 y371 a2).f2⟩ : S46) : List (S46))).bind fun y375 => ((some (y375.set (a2 : Int).toNat (⟨(rd_T46 y375 a2).f0, (rd_T46 y375 a2).f1, wrap64 (((rd_T46 y375 a2).f2) - a4)⟩ : S46) : List (S46))).bind fun y377 => ((grade_Meets.f kj7 a0_0 a0_1 a0_2 a0_3 l1).bind fun bt378 => ((grade_Meets.f kj7 a0_0 a0_1 a0_2 a0_3 y377).bind fun bt380 => (if bt378.2 = 0 then (gangsawlaw34_GradeImproves.j1 kj7 l1 y377 bt378.1 bt380.1 (bt380.2 != 0) a0_0 a0_1 a0_2 a0_3) else (gangsawlaw34_GradeImproves.j1 kj7 l1 y377 bt378.1 bt380.1 true a0_0 a0_1 a0_2 a0_3)))))) else (none)) else (none)) = some r := by first | (rw [hy371]; with_reducible exact H) | (have H2_ := (Option.bind_some _ _).symm.trans H; rw [hy371]; with_reducible exact H2_) | (have H2_ := (Option.bind_some _ _).symm.trans H; with_reducible exact H2_) | with_reducible exact H | (rw [hy371]; exact H) | exact H
      have Ny371 := Aside0.mk hy371
      clear hy371
      by_cases c19 : 0 ≤ a2
      ·rw [if_pos c19] at H
       have c19b0 : decide (0 ≤ a2) = true := decide_eq_true c19
       clear c19
       by_cases c20 : a2 < (y371.length : Int)
       ·rw [if_pos c20] at H
        have c20b0 : decide (a2 < (y371.length : Int)) = true := decide_eq_true c20
        clear c20
        obtain ⟨y375, hy375⟩ : ∃ y_ : List (S46), y_ = (y371.set (a2 : Int).toNat (⟨(rd_T46 y371 a2).f0, wrap64 (((rd_T46 y371 a2).f1) + a3), (rd_T46 y371 a2).f2⟩ : S46)) := ⟨_, rfl⟩
        replace H : ((some (y375.set (a2 : Int).toNat (⟨(rd_T46 y375 a2).f0, (rd_T46 y375 a2).f1, wrap64 (((rd_T46 y375 a2).f2) - a4)⟩ : S46) : List (S46))).bind fun y377 => ((grade_Meets.f kj7 a0_0 a0_1 a0_2 a0_3 l1).bind fun bt378 => ((grade_Meets.f kj7 a0_0 a0_1 a0_2 a0_3 y377).bind fun bt380 => (if bt378.2 = 0 then (gangsawlaw34_GradeImproves.j1 kj7 l1 y377 bt378.1 bt380.1 (bt380.2 != 0) a0_0 a0_1 a0_2 a0_3) else (gangsawlaw34_GradeImproves.j1 kj7 l1 y377 bt378.1 bt380.1 true a0_0 a0_1 a0_2 a0_3))))) = some r := by first | (rw [hy375]; with_reducible exact H) | (have H2_ := (Option.bind_some _ _).symm.trans H; rw [hy375]; with_reducible exact H2_) | (have H2_ := (Option.bind_some _ _).symm.trans H; with_reducible exact H2_) | with_reducible exact H | (rw [hy375]; exact H) | exact H
        have Ny375 := Aside0.mk hy375
        clear hy375
        obtain ⟨y377, hy377⟩ : ∃ y_ : List (S46), y_ = (y375.set (a2 : Int).toNat (⟨(rd_T46 y375 a2).f0, (rd_T46 y375 a2).f1, wrap64 (((rd_T46 y375 a2).f2) - a4)⟩ : S46)) := ⟨_, rfl⟩
        replace H : ((grade_Meets.f kj7 a0_0 a0_1 a0_2 a0_3 l1).bind fun bt378 => ((grade_Meets.f kj7 a0_0 a0_1 a0_2 a0_3 y377).bind fun bt380 => (if bt378.2 = 0 then (gangsawlaw34_GradeImproves.j1 kj7 l1 y377 bt378.1 bt380.1 (bt380.2 != 0) a0_0 a0_1 a0_2 a0_3) else (gangsawlaw34_GradeImproves.j1 kj7 l1 y377 bt378.1 bt380.1 true a0_0 a0_1 a0_2 a0_3)))) = some r := by first | (rw [hy377]; with_reducible exact H) | (have H2_ := (Option.bind_some _ _).symm.trans H; rw [hy377]; with_reducible exact H2_) | (have H2_ := (Option.bind_some _ _).symm.trans H; with_reducible exact H2_) | with_reducible exact H | (rw [hy377]; exact H) | exact H
        have Ny377 := Aside0.mk hy377
        clear hy377
        replace H := Option.bind_eq_some_iff.mp H
        obtain ⟨⟨t378, t379⟩, A230, H⟩ := H
        replace H : ((grade_Meets.f kj7 a0_0 a0_1 a0_2 a0_3 y377).bind fun bt380 => (if t379 = 0 then (gangsawlaw34_GradeImproves.j1 kj7 l1 y377 t378 bt380.1 (bt380.2 != 0) a0_0 a0_1 a0_2 a0_3) else (gangsawlaw34_GradeImproves.j1 kj7 l1 y377 t378 bt380.1 true a0_0 a0_1 a0_2 a0_3))) = some r := H
        have A23 := Aside0.mk A230
        clear A230
        replace H := Option.bind_eq_some_iff.mp H
        obtain ⟨⟨t380, t381⟩, A240, H⟩ := H
        replace H : (if t379 = 0 then (gangsawlaw34_GradeImproves.j1 kj7 l1 y377 t378 t380 (t381 != 0) a0_0 a0_1 a0_2 a0_3) else (gangsawlaw34_GradeImproves.j1 kj7 l1 y377 t378 t380 true a0_0 a0_1 a0_2 a0_3)) = some r := H
        have A24 := Aside0.mk A240
        clear A240
        have HC25 := Aside0.mk H
        clear H
        go_upto_region 10 with (first | ((with_reducible refine gate_dst (N := 53) rfl ?_); (try (refine gate_guard (by rfl) ?_; dsimp only)); refine Kd.R_lit k46 _ 46 ?hg (N := 53) ?hd (xs := ([] : List (S46))) (inner := []) (ok := fun _ => True) (okp := fun _ => True) ?hr ?hp (fun _ hk => hk) trivial (Below.refl _ _) (Nat.le_refl _) (by simp) ?_; (case hd => rfl); (case hg => rfl); (case hr => first | (go_simp; done) | (go_simp; rfl)); (case hp => exact (Reps.none _ _)); intro v369 w26 ho27 hb hg_ hnew_; clear hg_ hnew_; (first | rw [← Ny368.out] at ho27 | (simp only [Int.reduceToNat] at ho27; rw [← Ny368.out] at ho27)); have n0_ := Aside0.mk (Kd.R_lower ho27 (below_size (by repeat (first | (with_reducible first | exact HB.out | apply below_alloc | apply pw_below_drewN | apply below_drew1 | refine below_set ?_ GE366.out) | exact HB.out)))); have n1_ := Aside0.mk (blk_below (g := gb366) (o := .cells #[.string a0_0, .int .i64 a0_1, .int .i64 a0_2, .int .i64 a0_3] 32 (0, 0)) (by (with_reducible repeat (first | refine blk_drewN ?_ _ | refine blk_drew ?_ | refine blk_alloc ?_ _)); exact BK366.out) hb); have n2_ := Aside0.mk (below_step (by repeat (first | (with_reducible first | exact HB.out | apply below_alloc | apply pw_below_drewN | apply below_drew1 | refine below_set ?_ GE366.out) | exact HB.out)) hb); clear BK366; clear HB; have HO370 := n0_; have BK366 := n1_; have HB := n2_; clear n0_ n1_ n2_; clear hb ho27) | ((with_reducible refine gate_builtin (b := .append) (xs := #[.tmp 53, .tmp 54]) rfl ?_); (try (refine gate_guard (by rfl) ?_; dsimp only)); at_builtin; refine Kd.R_append_rows k46 (w0 := w) w.heap.size rfl (.tmp 53) (.tmp 54) 23 46 (.agg #[(.string ⟨#[]⟩), (.int .i64 0), (.int .i64 0)]) 32 rfl Tryd.underlying23 info46 rfl (by decide) (by omega) v369 y368 l1 _ _ _ (fun _ => True) (fun _ => False) rfl rfl ?aO ?aR (fun _ _ h => h) (fun _ h => h.elim) ?aF ?aB ?aS ?aL ?_; (case aR => repeat (first | exact (Kd.C_below HR1.out HB.out) | (with_reducible refine Kd.C_alloc ?_ _) | (with_reducible refine Kd.C_drewN ?_ _) | (with_reducible refine Kd.C_drew ?_))); (case aB => exact (by repeat (first | (with_reducible first | exact HB.out | apply below_alloc | apply pw_below_drewN | apply below_drew1 | refine below_set ?_ GE366.out) | exact HB.out))); (case aF => exact (fun _ _ => trivial)); (case aO => exact (by (with_reducible repeat (first | apply Kd.R_alloc | apply Kd.R_drewN | apply Kd.R_drew)); exact HO370.out)); (case aS => exact (below_size (by repeat (first | (with_reducible first | exact HB.out | apply below_alloc | apply pw_below_drewN | apply below_drew1 | refine below_set ?_ GE366.out) | exact HB.out)))); (case aL => have := LMc18.out; omega); intro v372 w28 ho hb hg hat; rw [← Ny371.out] at ho; have n0_ := Aside0.mk (blk_grown (g := gb366) (o := .cells #[.string a0_0, .int .i64 a0_1, .int .i64 a0_2, .int .i64 a0_3] 32 (0, 0)) (by (with_reducible repeat (first | refine blk_drewN ?_ _ | refine blk_drew ?_ | refine blk_alloc ?_ _)); exact BK366.out) hg (Kd.R_ne HO370.out BK366.out (by decide))); have n1_ := Aside0.mk (hb); have n2_ := Aside0.mk (ho); clear BK366; clear HB; clear HO370; have BK366 := n0_; have HB := n1_; have HO373 := n2_; clear n0_ n1_ n2_; clear ho hb hg hat; obtain ⟨Ao29, co29, eo29⟩ := Kd.R_slice HO373.out; subst eo29; have p374 : 0 ≤ (a2 : Int) := of_decide_eq_true (by first | (with_reducible assumption) | assumption); have q374 : a2 < (y371.length : Int) := of_decide_eq_true (by first | (with_reducible assumption) | assumption); obtain ⟨ad374, e374, hx374_0, hx374_1, hx374_2⟩ := at_T46 (Kd.R_reads' HO373.out).2.2 a2 p374 q374; cases e374; replace p374 := eq_true p374; replace q374 := eq_true q374; have p21 : 0 ≤ (a2 : Int) := of_decide_eq_true (by first | (with_reducible assumption) | assumption); have q21 : (a2 : Int) < ((y371.length : Int) : Int) := of_decide_eq_true (by first | (with_reducible assumption) | assumption); obtain ⟨go21, co21, eo21, gb21, gl21, cl21, HG21⟩ := Kd.R_form HO373.out (by omega); (first | cases eo21 | (injection eo21 with ea_ en_ ec_; (first | subst ea_ | (injection ea_ with ea_; subst ea_)); subst ec_; clear en_)); have GB21 := Aside0.mk gb21; have GG21 := Aside0.mk HG21; clear gb21 gl21 HG21; (first | simp only [add_plain] at hx374_0 | skip); (first | simp only [add_plain] at hx374_1 | skip); (first | simp only [add_plain] at hx374_2 | skip); obtain ⟨ce21, hcl21, hM21, hcc21, hfr21⟩ := Kd.R_elem HO373.out z46 (a2 : Int) p21 q21; obtain rfl := k46_openM hM21; have hx21_0 : w28.cell? ⟨go21, (a2 : Int).toNat * 3, none⟩ = some (.string ((rd_T46 y371 a2).f0)) := hcc21 0 _ rfl; have hx21_1 : w28.cell? ⟨go21, (a2 : Int).toNat * 3 + 1, none⟩ = some (.int .i64 ((rd_T46 y371 a2).f1)) := hcc21 1 _ rfl; have hx21_2 : w28.cell? ⟨go21, (a2 : Int).toNat * 3 + 2, none⟩ = some (.int .i64 ((rd_T46 y371 a2).f2)) := hcc21 2 _ rfl; have hf21_0 : w28.frozen? ⟨go21, (a2 : Int).toNat * 3, none⟩ = false := hfr21 0; have hf21_1 : w28.frozen? ⟨go21, (a2 : Int).toNat * 3 + 1, none⟩ = false := hfr21 1; have hf21_2 : w28.frozen? ⟨go21, (a2 : Int).toNat * 3 + 2, none⟩ = false := hfr21 2; clear hcl21 hcc21 hfr21 hM21; replace p21 := eq_true p21; replace q21 := eq_true q21; have HX30 := Aside0.mk (show Kd.R k46 46 w28 w.heap.size (fun _ => True) (.slice (some ⟨go21, 0, none⟩) y371.length co29) y371 from (by (with_reducible repeat (first | apply Kd.R_alloc | apply Kd.R_drewN | apply Kd.R_drew)); exact HO373.out)); obtain ⟨ce30, hcl30, hM30, hcc30, hfr30⟩ := Kd.R_elem HX30.out z46 (a2 : Int) (of_decide_eq_true (by first | (with_reducible assumption) | assumption)) (by have h_ : (a2 : Int) < ((y371.length : Int) : Int) := of_decide_eq_true (by first | (with_reducible assumption) | assumption); first | exact h_ | (have e_ := (Kd.R_reads' HO373.out).1; omega) | simpa using h_); obtain rfl := k46_openM hM30; have HP30 := Kd.R_seg HX30.out (a2 : Int) (of_decide_eq_true (by first | (with_reducible assumption) | assumption)) (by have h_ : (a2 : Int) < ((y371.length : Int) : Int) := of_decide_eq_true (by first | (with_reducible assumption) | assumption); first | exact h_ | (have e_ := (Kd.R_reads' HO373.out).1; omega) | simpa using h_) (seg := [.int .i64 (wrap64 (((rd_T46 y371 a2).f1) + a3))]) (j := 1) hcl30 hcc30 (show 2 ≤ 3 from by decide) (x' := (⟨(rd_T46 y371 a2).f0, wrap64 (((rd_T46 y371 a2).f1) + a3), (rd_T46 y371 a2).f2⟩ : S46)) (k46_mkM _ _ _ (⟨(rd_T46 y371 a2).f0, wrap64 (((rd_T46 y371 a2).f1) + a3), (rd_T46 y371 a2).f2⟩ : S46) ) (fun _ hk => hk); have hx30_1 := hcc30 1 _ rfl; (try simp only [show (k46).sz = 3 from rfl, Nat.mul_one, Nat.add_zero] at hx30_1); have hf30_1 := hfr30 1; (try simp only [show (k46).sz = 3 from rfl, Nat.mul_one, Nat.add_zero] at hf30_1); clear hcl30 hcc30 hfr30 hM30) | ((with_reducible refine gate_store (t := 3) (p := 64) rfl ?_); refine store_event (t := 3) (p := 64) (v := ?vo_w31) (w1 := (w28.setCell ⟨go21, (a2 : Int).toNat * 3 + 1, none⟩ (.int .i64 (wrap64 (((rd_T46 y371 a2).f1) + a3))))) ?hg ?ho ?hn ?hr ?_; (case ho => rfl); (case hg => rfl); (case hn => rfl); (case hr => first | (go_simp; done) | (go_simp; rfl)); intro w31 hw; have hg : w28.grownBy w31 (some go21) := (by rw [hw]; exact HP30.2); have hp_ : Kd.R k46 46 w31 w.heap.size (fun _ => True) (.slice (some ⟨go21, 0, none⟩) y371.length co29) y375 := (by rw [hw, Ny375.out]; exact HP30.1); clear HP30; have n0_ := Aside0.mk (blk_grown (g := gb366) (o := .cells #[.string a0_0, .int .i64 a0_1, .int .i64 a0_2, .int .i64 a0_3] 32 (0, 0)) (by (with_reducible repeat (first | refine blk_drewN ?_ _ | refine blk_drew ?_ | refine blk_alloc ?_ _)); exact BK366.out) hg (Kd.R_ne HO373.out BK366.out (by decide))); have n1_ := Aside0.mk (hp_); have n2_ := Aside0.mk ((by rw [hw]; exact below_set (HB.out) GB21.out : Below w.heap.size w w31)); clear BK366; clear HO373; clear HB; have BK366 := n0_; have HO373 := n1_; have HB := n2_; clear n0_ n1_ n2_; clear hg hw hp_; have p376 : 0 ≤ (a2 : Int) := of_decide_eq_true (by first | (with_reducible assumption) | assumption); have q376 : a2 < (y375.length : Int) := (by have h_ : (a2 : Int) < ((y371.length : Int) : Int) := of_decide_eq_true (by first | (with_reducible assumption) | assumption); first | (have e_ := (Kd.R_reads' HO373.out).1; omega) | simpa only [Ny375.out, List.length_set] using h_); have ql376 : ((a2 : Int) < ((y371.length : Int) : Int)) = True := eq_true (of_decide_eq_true (by first | (with_reducible assumption) | assumption)); obtain ⟨ad376, e376, hx376_0, hx376_1, hx376_2⟩ := at_T46 (Kd.R_reads' HO373.out).2.2 a2 p376 q376; obtain rfl : (⟨go21, 0, none⟩ : Addr) = ad376 := (by injection e376); (first | simp only [add_plain] at hx376_0 | simp only [add_at] at hx376_0 | simp only [Addr.add, Nat.zero_add] at hx376_0 | skip); (first | simp only [add_plain] at hx376_1 | simp only [add_at] at hx376_1 | simp only [Addr.add, Nat.zero_add] at hx376_1 | skip); (first | simp only [add_plain] at hx376_2 | simp only [add_at] at hx376_2 | simp only [Addr.add, Nat.zero_add] at hx376_2 | skip); replace p376 := eq_true p376; replace q376 := eq_true q376; have p22 : 0 ≤ (a2 : Int) := of_decide_eq_true (by first | (with_reducible assumption) | assumption); have q22 : (a2 : Int) < ((y371.length : Int) : Int) := of_decide_eq_true (by first | (with_reducible assumption) | assumption); obtain ⟨ce22, hcl22, hM22, hcc22, hfr22⟩ := Kd.R_elem HO373.out z46 (a2 : Int) p22 q22; obtain rfl := k46_openM hM22; have hx22_0 : w31.cell? ⟨go21, (a2 : Int).toNat * 3, none⟩ = some (.string ((rd_T46 y375 a2).f0)) := hcc22 0 _ rfl; have hx22_1 : w31.cell? ⟨go21, (a2 : Int).toNat * 3 + 1, none⟩ = some (.int .i64 ((rd_T46 y375 a2).f1)) := hcc22 1 _ rfl; have hx22_2 : w31.cell? ⟨go21, (a2 : Int).toNat * 3 + 2, none⟩ = some (.int .i64 ((rd_T46 y375 a2).f2)) := hcc22 2 _ rfl; have hf22_0 : w31.frozen? ⟨go21, (a2 : Int).toNat * 3, none⟩ = false := hfr22 0; have hf22_1 : w31.frozen? ⟨go21, (a2 : Int).toNat * 3 + 1, none⟩ = false := hfr22 1; have hf22_2 : w31.frozen? ⟨go21, (a2 : Int).toNat * 3 + 2, none⟩ = false := hfr22 2; clear hcl22 hcc22 hfr22 hM22; replace p22 := eq_true p22; replace q22 := eq_true q22; have HX32 := Aside0.mk (show Kd.R k46 46 w31 w.heap.size (fun _ => True) (.slice (some ⟨go21, 0, none⟩) y371.length co29) y375 from (by (with_reducible repeat (first | apply Kd.R_alloc | apply Kd.R_drewN | apply Kd.R_drew)); exact HO373.out)); obtain ⟨ce32, hcl32, hM32, hcc32, hfr32⟩ := Kd.R_elem HX32.out z46 (a2 : Int) (of_decide_eq_true (by first | (with_reducible assumption) | assumption)) (by have h_ : (a2 : Int) < ((y371.length : Int) : Int) := of_decide_eq_true (by first | (with_reducible assumption) | assumption); first | exact h_ | (have e_ := (Kd.R_reads' HO373.out).1; omega) | simpa using h_); obtain rfl := k46_openM hM32; have HP32 := Kd.R_seg HX32.out (a2 : Int) (of_decide_eq_true (by first | (with_reducible assumption) | assumption)) (by have h_ : (a2 : Int) < ((y371.length : Int) : Int) := of_decide_eq_true (by first | (with_reducible assumption) | assumption); first | exact h_ | (have e_ := (Kd.R_reads' HO373.out).1; omega) | simpa using h_) (seg := [.int .i64 (wrap64 (((rd_T46 y375 a2).f2) - a4))]) (j := 2) hcl32 hcc32 (show 3 ≤ 3 from by decide) (x' := (⟨(rd_T46 y375 a2).f0, (rd_T46 y375 a2).f1, wrap64 (((rd_T46 y375 a2).f2) - a4)⟩ : S46)) (k46_mkM _ _ _ (⟨(rd_T46 y375 a2).f0, (rd_T46 y375 a2).f1, wrap64 (((rd_T46 y375 a2).f2) - a4)⟩ : S46) ) (fun _ hk => hk); have hx32_2 := hcc32 2 _ rfl; (try simp only [show (k46).sz = 3 from rfl, Nat.mul_one, Nat.add_zero] at hx32_2); have hf32_2 := hfr32 2; (try simp only [show (k46).sz = 3 from rfl, Nat.mul_one, Nat.add_zero] at hf32_2); clear hcl32 hcc32 hfr32 hM32) | ((with_reducible refine gate_store (t := 3) (p := 73) rfl ?_); refine store_event (t := 3) (p := 73) (v := ?vo_w33) (w1 := (w31.setCell ⟨go21, (a2 : Int).toNat * 3 + 2, none⟩ (.int .i64 (wrap64 (((rd_T46 y375 a2).f2) - a4))))) ?hg ?ho ?hn ?hr ?_; (case ho => rfl); (case hg => rfl); (case hn => rfl); (case hr => first | (go_simp; done) | (go_simp; rfl)); intro w33 hw; have hg : w31.grownBy w33 (some go21) := (by rw [hw]; exact HP32.2); have hp_ : Kd.R k46 46 w33 w.heap.size (fun _ => True) (.slice (some ⟨go21, 0, none⟩) y371.length co29) y377 := (by rw [hw, Ny377.out]; exact HP32.1); clear HP32; have n0_ := Aside0.mk (blk_grown (g := gb366) (o := .cells #[.string a0_0, .int .i64 a0_1, .int .i64 a0_2, .int .i64 a0_3] 32 (0, 0)) (by (with_reducible repeat (first | refine blk_drewN ?_ _ | refine blk_drew ?_ | refine blk_alloc ?_ _)); exact BK366.out) hg (Kd.R_ne HO373.out BK366.out (by decide))); have n1_ := Aside0.mk (hp_); have n2_ := Aside0.mk ((by rw [hw]; exact below_set (HB.out) GB21.out : Below w.heap.size w w33)); clear BK366; clear HO373; clear HB; have BK366 := n0_; have HO373 := n1_; have HB := n2_; clear n0_ n1_ n2_; clear hg hw hp_; have hcz34_0 : w33.cell? ⟨gb366, 0, none⟩ = some (.string a0_0) := (blk_cell BK366.out 0).trans rfl; have hcz34_1 : w33.cell? ⟨gb366, 1, none⟩ = some (.int .i64 a0_1) := (blk_cell BK366.out 1).trans rfl; have hcz34_2 : w33.cell? ⟨gb366, 2, none⟩ = some (.int .i64 a0_2) := (blk_cell BK366.out 2).trans rfl; have hcz34_3 : w33.cell? ⟨gb366, 3, none⟩ = some (.int .i64 a0_3) := (blk_cell BK366.out 3).trans rfl; have hfz34_0 := blk_frozen BK366.out 0; have hfz34_1 := blk_frozen BK366.out 1; have hfz34_2 := blk_frozen BK366.out 2; have hfz34_3 := blk_frozen BK366.out 3) | ((with_reducible refine gate_callee (f := 14) rfl ?_); refine goesL_ (some 77) rfl rfl Tryd.func14 (by kernel_rfl) rfl #[.agg #[.string a0_0, .int .i64 a0_1, .int .i64 a0_2, .int .i64 a0_3], .slice A1 l1.length c1] rfl (by (try simp only [List.map_toArray, List.map_cons, List.map_nil]); first | done | rfl | (simp only [List.length_drop, List.length_take]; rfl)) ?_; (with_reducible refine (grade_Meets.calls kj7 a0_0 a0_1 a0_2 a0_3 _ _ l1 t378 t379 _ ?side1 ?side2 A23.out).mono ?_); (case side1 => repeat (first | exact (Kd.C_below HR1.out HB.out) | (with_reducible refine Kd.C_alloc ?_ _) | (with_reducible refine Kd.C_drewN ?_ _) | (with_reducible refine Kd.C_drew ?_))); (case side2 => exact HC1.out); rintro e w35 ⟨rfl, hb⟩; refine ⟨_, rfl, ?_⟩; have n0_ := Aside0.mk (Kd.R_below (by (with_reducible repeat (first | apply Kd.R_alloc | apply Kd.R_drewN | apply Kd.R_drew)); exact HO373.out) hb); have n1_ := Aside0.mk (blk_below (g := gb366) (o := .cells #[.string a0_0, .int .i64 a0_1, .int .i64 a0_2, .int .i64 a0_3] 32 (0, 0)) (by (with_reducible repeat (first | refine blk_drewN ?_ _ | refine blk_drew ?_ | refine blk_alloc ?_ _)); exact BK366.out) hb); have n2_ := Aside0.mk (below_step (by repeat (first | (with_reducible first | exact HB.out | apply below_alloc | apply pw_below_drewN | apply below_drew1 | refine below_set ?_ GE366.out) | exact HB.out)) hb); clear HO373; clear BK366; clear HB; have HO373 := n0_; have BK366 := n1_; have HB := n2_; clear n0_ n1_ n2_; (try clear hb); (try clear hb2); (try clear hk); (try clear hi); have hcz36_0 : w35.cell? ⟨gb366, 0, none⟩ = some (.string a0_0) := (blk_cell BK366.out 0).trans rfl; have hcz36_1 : w35.cell? ⟨gb366, 1, none⟩ = some (.int .i64 a0_1) := (blk_cell BK366.out 1).trans rfl; have hcz36_2 : w35.cell? ⟨gb366, 2, none⟩ = some (.int .i64 a0_2) := (blk_cell BK366.out 2).trans rfl; have hcz36_3 : w35.cell? ⟨gb366, 3, none⟩ = some (.int .i64 a0_3) := (blk_cell BK366.out 3).trans rfl; have hfz36_0 := blk_frozen BK366.out 0; have hfz36_1 := blk_frozen BK366.out 1; have hfz36_2 := blk_frozen BK366.out 2; have hfz36_3 := blk_frozen BK366.out 3) | ((with_reducible refine gate_callee (f := 14) rfl ?_); refine goesL_ (some 83) rfl rfl Tryd.func14 (by kernel_rfl) rfl #[.agg #[.string a0_0, .int .i64 a0_1, .int .i64 a0_2, .int .i64 a0_3], .slice (some ⟨go21, 0, none⟩) y377.length co29] rfl (by (try simp only [List.map_toArray, List.map_cons, List.map_nil]); first | done | (rw [show y377.length = y371.length from (Kd.R_reads' HO373.out).1.symm] <;> rfl) | rfl | (simp only [List.length_drop, List.length_take]; rfl)) ?_; (with_reducible refine (grade_Meets.calls kj7 a0_0 a0_1 a0_2 a0_3 _ _ y377 t380 t381 _ ?side1 ?side2 A24.out).mono ?_); (case side1 => repeat (first | exact (Kd.R_reads' HO373.out).2.2 | (with_reducible refine Kd.C_alloc ?_ _) | (with_reducible refine Kd.C_drewN ?_ _) | (with_reducible refine Kd.C_drew ?_))); (case side2 => rw [show y377.length = y371.length from (Kd.R_reads' HO373.out).1.symm]; exact (Kd.R_reads' HO373.out).2.1); rintro e w37 ⟨rfl, hb⟩; refine ⟨_, rfl, ?_⟩; have n0_ := Aside0.mk (Kd.R_below (by (with_reducible repeat (first | apply Kd.R_alloc | apply Kd.R_drewN | apply Kd.R_drew)); exact HO373.out) hb); have n1_ := Aside0.mk (blk_below (g := gb366) (o := .cells #[.string a0_0, .int .i64 a0_1, .int .i64 a0_2, .int .i64 a0_3] 32 (0, 0)) (by (with_reducible repeat (first | refine blk_drewN ?_ _ | refine blk_drew ?_ | refine blk_alloc ?_ _)); exact BK366.out) hb); have n2_ := Aside0.mk (below_step (by repeat (first | (with_reducible first | exact HB.out | apply below_alloc | apply pw_below_drewN | apply below_drew1 | refine below_set ?_ GE366.out) | exact HB.out)) hb); clear HO373; clear BK366; clear HB; have HO373 := n0_; have BK366 := n1_; have HB := n2_; clear n0_ n1_ n2_; (try clear hb); (try clear hb2); (try clear hk); (try clear hi)))
        (try simp only [Act.put, List.setIfInBounds_toArray, List.set_cons_zero, List.set_cons_succ])
        go_cut [91] (fun v91 wc => ∃ (kq : Nat) (x91_24 : Bool), v91 = .bool x91_24 ∧ Aside0 (gangsawlaw34_GradeImproves.j1 kq l1 y377 t378 t380 x91_24 a0_0 a0_1 a0_2 a0_3 = some r) ∧ Aside0 (kq ≤ kj7) ∧ Aside0 (Kd.R k46 46 wc w.heap.size (fun _ => True) (.slice (some ⟨go21, 0, none⟩) y371.length co29) y377) ∧ Aside0 (wc.heap[gb366]? = some (.cells #[.string a0_0, .int .i64 a0_1, .int .i64 a0_2, .int .i64 a0_3] 32 (0, 0))) ∧ Aside0 (Below w.heap.size w wc))
        case first =>
         have H := HC25.out
         clear HC25
         by_cases c38 : t379 = 0
         ·rw [if_pos c38] at H
          have c38b0 : (t379 == 0) = true := beq_iff_eq.mpr c38
          have c38b1 : (t379 != 0) = false := bne_eq_false_iff_eq.mpr c38
          clear c38
          (first | rw [c38b0] | (simp only [i64_w, i32_w]; rw [c38b0]) | skip)
          have H' := Aside0.mk H
          clear H
          go_wp2
          go_meet
          case rel => exact ⟨_, ((t381 != 0)), (by first | rfl | (simp; done) | (simp [*]; done)), H', ⟨by have := HJ7.out; first | omega | exact Nat.le_refl _⟩, ⟨by (with_reducible repeat (first | apply Kd.R_alloc | apply Kd.R_drewN | apply Kd.R_drew)); exact HO373.out⟩, ⟨by (with_reducible repeat (first | refine blk_drewN ?_ _ | refine blk_drew ?_ | refine blk_alloc ?_ _)); exact BK366.out⟩, ⟨by repeat (first | (with_reducible first | exact HB.out | apply below_alloc | apply pw_below_drewN | apply below_drew1 | refine below_set ?_ GE366.out) | exact HB.out)⟩⟩
         ·rw [if_neg c38] at H
          have c38b0 : (t379 == 0) = false := beq_eq_false_iff_ne.mpr c38
          have c38b1 : (t379 != 0) = true := bne_iff_ne.mpr c38
          (first | rw [c38b0] | (simp only [i64_w, i32_w]; rw [c38b0]) | skip)
          have H' := Aside0.mk H
          clear H
          go_wp2
          go_meet
          case rel => exact ⟨_, (true), (by first | rfl | (simp; done) | (simp [*]; done)), H', ⟨by have := HJ7.out; first | omega | exact Nat.le_refl _⟩, ⟨by (with_reducible repeat (first | apply Kd.R_alloc | apply Kd.R_drewN | apply Kd.R_drew)); exact HO373.out⟩, ⟨by (with_reducible repeat (first | refine blk_drewN ?_ _ | refine blk_drew ?_ | refine blk_alloc ?_ _)); exact BK366.out⟩, ⟨by repeat (first | (with_reducible first | exact HB.out | apply below_alloc | apply pw_below_drewN | apply below_drew1 | refine below_set ?_ GE366.out) | exact HB.out)⟩⟩
        case rest =>
         clear HC25
         try clear c1
         try clear c2
         try clear p2
         try clear q2
         try clear hx2
         try clear c3
         try clear p3
         try clear q3
         try clear hx3
         try clear p6
         try clear c7
         try clear c9
         try clear c11
         try clear c11b0
         try clear c11b1
         try clear c12
         try clear c12b0
         try clear c13
         try clear c13b0
         try clear c14
         try clear c14b0
         try clear c15
         try clear c15b0
         try clear c16
         try clear c16b0
         try clear c17
         try clear c18
         try clear c19
         try clear c19b0
         try clear c20
         try clear c20b0
         try clear c21
         try clear p21
         try clear q21
         try clear hx21
         try clear hf21
         try clear c22
         try clear p22
         try clear q22
         try clear hx22
         try clear hf22
         try clear c30
         try clear hx30
         try clear hf30
         try clear c32
         try clear hx32
         try clear hf32
         try clear p37
         try clear q37
         try clear hx37
         try clear c38
         try clear c38b0
         try clear c38b1
         try clear hcz34_0
         try clear hcz34_1
         try clear hcz34_2
         try clear hcz34_3
         try clear hcz36_0
         try clear hcz36_1
         try clear hcz36_2
         try clear hcz36_3
         try clear hfz34_0
         try clear hfz34_1
         try clear hfz34_2
         try clear hfz34_3
         try clear hfz36_0
         try clear hfz36_1
         try clear hfz36_2
         try clear hfz36_3
         try clear hx21_0
         try clear hx21_1
         try clear hx21_2
         try clear hx22_0
         try clear hx22_1
         try clear hx22_2
         try clear hx30_1
         try clear hx32_2
         try clear hx374_0
         try clear hx374_1
         try clear hx374_2
         try clear hx376_0
         try clear hx376_1
         try clear hx376_2
         try clear p2
         try clear p21
         try clear p22
         try clear p374
         try clear p376
         try clear q21
         try clear q22
         try clear q374
         try clear q376
         obtain ⟨kq, x91_24, rfl, HA, HJ24, HO_11, BK366, HB⟩ := hcut
         have hl11_24 := (Kd.R_reads' HO_11.out).1
         rw [hl11_24] at HO_11
         (try simp only [hl11_24])
         (try simp only [hl11_24] at BK366)
         cases kq with
         | zero => exact absurd HA.out (by simp [gangsawlaw34_GradeImproves.j1])
         | succ kj24 =>
          have H := HA.out
          clear HA
          simp only [gangsawlaw34_GradeImproves.j1] at H
          by_cases c39 : x91_24 = true
          ·subst c39
           have H1 : (some true) = some r := by rw [if_pos rfl] at H; exact H
           clear H
           have H := H1
           clear H1
           obtain rfl := Option.some.inj H
           simp only [Option.some.injEq, Prod.mk.injEq] at H
           obtain ⟨rfl⟩ := H
           go_wp2
           go_ret
           exact ⟨by first | rfl | (simp [errW_none, errW_some] <;> rfl) | (simp [*, errW_none, errW_some] <;> rfl), by repeat (first | (with_reducible first | exact HB.out | apply below_alloc | apply pw_below_drewN | apply below_drew1 | refine below_set ?_ GE366.out) | exact HB.out)⟩
          ·replace c39 := Bool.eq_false_iff.mpr c39
           subst c39
           have H1 : ((grade_Margin.f kj24 a0_0 a0_1 a0_2 a0_3 l1).bind fun bt382 => ((grade_Margin.f kj24 a0_0 a0_1 a0_2 a0_3 y377).bind fun bt385 => (if t378 = true then (if t380 = true then (if bt382.2.2 = bt385.2.2 then (if bt382.2.2 = 0 then (if bt385.1 ≥ bt382.1 then (some (decide (bt385.2.1 ≥ bt382.2.1))) else (some false)) else (some true)) else (some false)) else (some false)) else (if bt382.2.2 = bt385.2.2 then (if bt382.2.2 = 0 then (if bt385.1 ≥ bt382.1 then (some (decide (bt385.2.1 ≥ bt382.2.1))) else (some false)) else (some true)) else (some false))))) = some r := by rw [if_neg (show ¬ (false = true) by decide)] at H; exact H
           clear H
           have H := H1
           clear H1
           replace H := Option.bind_eq_some_iff.mp H
           obtain ⟨⟨t382, t383, t384⟩, A400, H⟩ := H
           replace H : ((grade_Margin.f kj24 a0_0 a0_1 a0_2 a0_3 y377).bind fun bt385 => (if t378 = true then (if t380 = true then (if t384 = bt385.2.2 then (if t384 = 0 then (if bt385.1 ≥ t382 then (some (decide (bt385.2.1 ≥ t383))) else (some false)) else (some true)) else (some false)) else (some false)) else (if t384 = bt385.2.2 then (if t384 = 0 then (if bt385.1 ≥ t382 then (some (decide (bt385.2.1 ≥ t383))) else (some false)) else (some true)) else (some false)))) = some r := H
           have A40 := Aside0.mk A400
           clear A400
           replace H := Option.bind_eq_some_iff.mp H
           obtain ⟨⟨t385, t386, t387⟩, A410, H⟩ := H
           replace H : (if t378 = true then (if t380 = true then (if t384 = t387 then (if t384 = 0 then (if t385 ≥ t382 then (some (decide (t386 ≥ t383))) else (some false)) else (some true)) else (some false)) else (some false)) else (if t384 = t387 then (if t384 = 0 then (if t385 ≥ t382 then (some (decide (t386 ≥ t383))) else (some false)) else (some true)) else (some false))) = some r := H
           have A41 := Aside0.mk A410
           clear A410
           by_cases c42 : t378 = true
           ·subst c42
            have H1 : (if t380 = true then (if t384 = t387 then (if t384 = 0 then (if t385 ≥ t382 then (some (decide (t386 ≥ t383))) else (some false)) else (some true)) else (some false)) else (some false)) = some r := by rw [if_pos rfl] at H; exact H
            clear H
            have H := H1
            clear H1
            by_cases c43 : t380 = true
            ·subst c43
             have H1 : (if t384 = t387 then (if t384 = 0 then (if t385 ≥ t382 then (some (decide (t386 ≥ t383))) else (some false)) else (some true)) else (some false)) = some r := by rw [if_pos rfl] at H; exact H
             clear H
             have H := H1
             clear H1
             by_cases c44 : t384 = t387
             ·rw [if_pos c44] at H
              have c44b0 : (t384 == t387) = true := beq_iff_eq.mpr c44
              have c44b1 : (t384 != t387) = false := bne_eq_false_iff_eq.mpr c44
              clear c44
              by_cases c45 : t384 = 0
              ·rw [if_pos c45] at H
               have c45b0 : (t384 == 0) = true := beq_iff_eq.mpr c45
               have c45b1 : (t384 != 0) = false := bne_eq_false_iff_eq.mpr c45
               clear c45
               by_cases c46 : t385 ≥ t382
               ·rw [if_pos c46] at H
                have c46b0 : decide (t382 ≤ t385) = true := decide_eq_true c46
                clear c46
                obtain rfl := Option.some.inj H
                simp only [Option.some.injEq, Prod.mk.injEq] at H
                obtain ⟨rfl⟩ := H
                have hcz47_0 : wc.cell? ⟨gb366, 0, none⟩ = some (.string a0_0) := (blk_cell BK366.out 0).trans rfl
                have hcz47_1 : wc.cell? ⟨gb366, 1, none⟩ = some (.int .i64 a0_1) := (blk_cell BK366.out 1).trans rfl
                have hcz47_2 : wc.cell? ⟨gb366, 2, none⟩ = some (.int .i64 a0_2) := (blk_cell BK366.out 2).trans rfl
                have hcz47_3 : wc.cell? ⟨gb366, 3, none⟩ = some (.int .i64 a0_3) := (blk_cell BK366.out 3).trans rfl
                have hfz47_0 := blk_frozen BK366.out 0
                have hfz47_1 := blk_frozen BK366.out 1
                have hfz47_2 := blk_frozen BK366.out 2
                have hfz47_3 := blk_frozen BK366.out 3
                go_wp2_with (first | ((with_reducible refine gate_callee (f := 18) rfl ?_); refine goesL_ (some 95) rfl rfl Tryd.func18 (by kernel_rfl) rfl #[.agg #[.string a0_0, .int .i64 a0_1, .int .i64 a0_2, .int .i64 a0_3], .slice A1 l1.length c1] rfl (by (try simp only [List.map_toArray, List.map_cons, List.map_nil]); first | done | rfl | (simp only [List.length_drop, List.length_take]; rfl)) ?_; (with_reducible refine (grade_Margin.calls kj24 a0_0 a0_1 a0_2 a0_3 _ _ l1 t382 t383 t384 _ ?side1 ?side2 A40.out).mono ?_); (case side1 => repeat (first | exact (Kd.C_below HR1.out HB.out) | (with_reducible refine Kd.C_alloc ?_ _) | (with_reducible refine Kd.C_drewN ?_ _) | (with_reducible refine Kd.C_drew ?_))); (case side2 => exact HC1.out); rintro e w48 ⟨rfl, hb⟩; refine ⟨_, rfl, ?_⟩; have n0_ := Aside0.mk (Kd.R_below (by (with_reducible repeat (first | apply Kd.R_alloc | apply Kd.R_drewN | apply Kd.R_drew)); exact HO_11.out) hb); have n1_ := Aside0.mk (blk_below (g := gb366) (o := .cells #[.string a0_0, .int .i64 a0_1, .int .i64 a0_2, .int .i64 a0_3] 32 (0, 0)) (by (with_reducible repeat (first | refine blk_drewN ?_ _ | refine blk_drew ?_ | refine blk_alloc ?_ _)); exact BK366.out) hb); have n2_ := Aside0.mk (below_step (by repeat (first | (with_reducible first | exact HB.out | apply below_alloc | apply pw_below_drewN | apply below_drew1 | refine below_set ?_ GE366.out) | exact HB.out)) hb); clear HO_11; clear BK366; clear HB; have HO_11 := n0_; have BK366 := n1_; have HB := n2_; clear n0_ n1_ n2_; (try clear hb); (try clear hb2); (try clear hk); (try clear hi); have hcz49_0 : w48.cell? ⟨gb366, 0, none⟩ = some (.string a0_0) := (blk_cell BK366.out 0).trans rfl; have hcz49_1 : w48.cell? ⟨gb366, 1, none⟩ = some (.int .i64 a0_1) := (blk_cell BK366.out 1).trans rfl; have hcz49_2 : w48.cell? ⟨gb366, 2, none⟩ = some (.int .i64 a0_2) := (blk_cell BK366.out 2).trans rfl; have hcz49_3 : w48.cell? ⟨gb366, 3, none⟩ = some (.int .i64 a0_3) := (blk_cell BK366.out 3).trans rfl; have hfz49_0 := blk_frozen BK366.out 0; have hfz49_1 := blk_frozen BK366.out 1; have hfz49_2 := blk_frozen BK366.out 2; have hfz49_3 := blk_frozen BK366.out 3) | ((with_reducible refine gate_callee (f := 18) rfl ?_); refine goesL_ (some 102) rfl rfl Tryd.func18 (by kernel_rfl) rfl #[.agg #[.string a0_0, .int .i64 a0_1, .int .i64 a0_2, .int .i64 a0_3], .slice (some ⟨go21, 0, none⟩) y377.length co29] rfl (by (try simp only [List.map_toArray, List.map_cons, List.map_nil]); first | done | rfl | (simp only [List.length_drop, List.length_take]; rfl)) ?_; (with_reducible refine (grade_Margin.calls kj24 a0_0 a0_1 a0_2 a0_3 _ _ y377 t385 t386 t387 _ ?side1 ?side2 A41.out).mono ?_); (case side1 => repeat (first | exact (Kd.R_reads' HO_11.out).2.2 | (with_reducible refine Kd.C_alloc ?_ _) | (with_reducible refine Kd.C_drewN ?_ _) | (with_reducible refine Kd.C_drew ?_))); (case side2 => exact (Kd.R_reads' HO_11.out).2.1); rintro e w50 ⟨rfl, hb⟩; refine ⟨_, rfl, ?_⟩; have n0_ := Aside0.mk (Kd.R_below (by (with_reducible repeat (first | apply Kd.R_alloc | apply Kd.R_drewN | apply Kd.R_drew)); exact HO_11.out) hb); have n1_ := Aside0.mk (blk_below (g := gb366) (o := .cells #[.string a0_0, .int .i64 a0_1, .int .i64 a0_2, .int .i64 a0_3] 32 (0, 0)) (by (with_reducible repeat (first | refine blk_drewN ?_ _ | refine blk_drew ?_ | refine blk_alloc ?_ _)); exact BK366.out) hb); have n2_ := Aside0.mk (below_step (by repeat (first | (with_reducible first | exact HB.out | apply below_alloc | apply pw_below_drewN | apply below_drew1 | refine below_set ?_ GE366.out) | exact HB.out)) hb); clear HO_11; clear BK366; clear HB; have HO_11 := n0_; have BK366 := n1_; have HB := n2_; clear n0_ n1_ n2_; (try clear hb); (try clear hb2); (try clear hk); (try clear hi)))
                go_ret
                exact ⟨by first | rfl | (simp [errW_none, errW_some] <;> rfl) | (simp [*, errW_none, errW_some] <;> rfl), by repeat (first | (with_reducible first | exact HB.out | apply below_alloc | apply pw_below_drewN | apply below_drew1 | refine below_set ?_ GE366.out) | exact HB.out)⟩
               ·rw [if_neg c46] at H
                have c46b0 : decide (t382 ≤ t385) = false := decide_eq_false c46
                clear c46
                obtain rfl := Option.some.inj H
                exact absurd hr (by decide)
              ·rw [if_neg c45] at H
               have c45b0 : (t384 == 0) = false := beq_eq_false_iff_ne.mpr c45
               have c45b1 : (t384 != 0) = true := bne_iff_ne.mpr c45
               obtain rfl := Option.some.inj H
               simp only [Option.some.injEq, Prod.mk.injEq] at H
               obtain ⟨rfl⟩ := H
               have hcz51_0 : wc.cell? ⟨gb366, 0, none⟩ = some (.string a0_0) := (blk_cell BK366.out 0).trans rfl
               have hcz51_1 : wc.cell? ⟨gb366, 1, none⟩ = some (.int .i64 a0_1) := (blk_cell BK366.out 1).trans rfl
               have hcz51_2 : wc.cell? ⟨gb366, 2, none⟩ = some (.int .i64 a0_2) := (blk_cell BK366.out 2).trans rfl
               have hcz51_3 : wc.cell? ⟨gb366, 3, none⟩ = some (.int .i64 a0_3) := (blk_cell BK366.out 3).trans rfl
               have hfz51_0 := blk_frozen BK366.out 0
               have hfz51_1 := blk_frozen BK366.out 1
               have hfz51_2 := blk_frozen BK366.out 2
               have hfz51_3 := blk_frozen BK366.out 3
               go_wp2_with (first | ((with_reducible refine gate_callee (f := 18) rfl ?_); refine goesL_ (some 95) rfl rfl Tryd.func18 (by kernel_rfl) rfl #[.agg #[.string a0_0, .int .i64 a0_1, .int .i64 a0_2, .int .i64 a0_3], .slice A1 l1.length c1] rfl (by (try simp only [List.map_toArray, List.map_cons, List.map_nil]); first | done | rfl | (simp only [List.length_drop, List.length_take]; rfl)) ?_; (with_reducible refine (grade_Margin.calls kj24 a0_0 a0_1 a0_2 a0_3 _ _ l1 t382 t383 t384 _ ?side1 ?side2 A40.out).mono ?_); (case side1 => repeat (first | exact (Kd.C_below HR1.out HB.out) | (with_reducible refine Kd.C_alloc ?_ _) | (with_reducible refine Kd.C_drewN ?_ _) | (with_reducible refine Kd.C_drew ?_))); (case side2 => exact HC1.out); rintro e w52 ⟨rfl, hb⟩; refine ⟨_, rfl, ?_⟩; have n0_ := Aside0.mk (Kd.R_below (by (with_reducible repeat (first | apply Kd.R_alloc | apply Kd.R_drewN | apply Kd.R_drew)); exact HO_11.out) hb); have n1_ := Aside0.mk (blk_below (g := gb366) (o := .cells #[.string a0_0, .int .i64 a0_1, .int .i64 a0_2, .int .i64 a0_3] 32 (0, 0)) (by (with_reducible repeat (first | refine blk_drewN ?_ _ | refine blk_drew ?_ | refine blk_alloc ?_ _)); exact BK366.out) hb); have n2_ := Aside0.mk (below_step (by repeat (first | (with_reducible first | exact HB.out | apply below_alloc | apply pw_below_drewN | apply below_drew1 | refine below_set ?_ GE366.out) | exact HB.out)) hb); clear HO_11; clear BK366; clear HB; have HO_11 := n0_; have BK366 := n1_; have HB := n2_; clear n0_ n1_ n2_; (try clear hb); (try clear hb2); (try clear hk); (try clear hi); have hcz53_0 : w52.cell? ⟨gb366, 0, none⟩ = some (.string a0_0) := (blk_cell BK366.out 0).trans rfl; have hcz53_1 : w52.cell? ⟨gb366, 1, none⟩ = some (.int .i64 a0_1) := (blk_cell BK366.out 1).trans rfl; have hcz53_2 : w52.cell? ⟨gb366, 2, none⟩ = some (.int .i64 a0_2) := (blk_cell BK366.out 2).trans rfl; have hcz53_3 : w52.cell? ⟨gb366, 3, none⟩ = some (.int .i64 a0_3) := (blk_cell BK366.out 3).trans rfl; have hfz53_0 := blk_frozen BK366.out 0; have hfz53_1 := blk_frozen BK366.out 1; have hfz53_2 := blk_frozen BK366.out 2; have hfz53_3 := blk_frozen BK366.out 3) | ((with_reducible refine gate_callee (f := 18) rfl ?_); refine goesL_ (some 102) rfl rfl Tryd.func18 (by kernel_rfl) rfl #[.agg #[.string a0_0, .int .i64 a0_1, .int .i64 a0_2, .int .i64 a0_3], .slice (some ⟨go21, 0, none⟩) y377.length co29] rfl (by (try simp only [List.map_toArray, List.map_cons, List.map_nil]); first | done | rfl | (simp only [List.length_drop, List.length_take]; rfl)) ?_; (with_reducible refine (grade_Margin.calls kj24 a0_0 a0_1 a0_2 a0_3 _ _ y377 t385 t386 t387 _ ?side1 ?side2 A41.out).mono ?_); (case side1 => repeat (first | exact (Kd.R_reads' HO_11.out).2.2 | (with_reducible refine Kd.C_alloc ?_ _) | (with_reducible refine Kd.C_drewN ?_ _) | (with_reducible refine Kd.C_drew ?_))); (case side2 => exact (Kd.R_reads' HO_11.out).2.1); rintro e w54 ⟨rfl, hb⟩; refine ⟨_, rfl, ?_⟩; have n0_ := Aside0.mk (Kd.R_below (by (with_reducible repeat (first | apply Kd.R_alloc | apply Kd.R_drewN | apply Kd.R_drew)); exact HO_11.out) hb); have n1_ := Aside0.mk (blk_below (g := gb366) (o := .cells #[.string a0_0, .int .i64 a0_1, .int .i64 a0_2, .int .i64 a0_3] 32 (0, 0)) (by (with_reducible repeat (first | refine blk_drewN ?_ _ | refine blk_drew ?_ | refine blk_alloc ?_ _)); exact BK366.out) hb); have n2_ := Aside0.mk (below_step (by repeat (first | (with_reducible first | exact HB.out | apply below_alloc | apply pw_below_drewN | apply below_drew1 | refine below_set ?_ GE366.out) | exact HB.out)) hb); clear HO_11; clear BK366; clear HB; have HO_11 := n0_; have BK366 := n1_; have HB := n2_; clear n0_ n1_ n2_; (try clear hb); (try clear hb2); (try clear hk); (try clear hi)))
               go_ret
               exact ⟨by first | rfl | (simp [errW_none, errW_some] <;> rfl) | (simp [*, errW_none, errW_some] <;> rfl), by repeat (first | (with_reducible first | exact HB.out | apply below_alloc | apply pw_below_drewN | apply below_drew1 | refine below_set ?_ GE366.out) | exact HB.out)⟩
             ·rw [if_neg c44] at H
              have c44b0 : (t384 == t387) = false := beq_eq_false_iff_ne.mpr c44
              have c44b1 : (t384 != t387) = true := bne_iff_ne.mpr c44
              obtain rfl := Option.some.inj H
              exact absurd hr (by decide)
            ·replace c43 := Bool.eq_false_iff.mpr c43
             subst c43
             have H1 : (some false) = some r := by rw [if_neg (show ¬ (false = true) by decide)] at H; exact H
             clear H
             have H := H1
             clear H1
             obtain rfl := Option.some.inj H
             exact absurd hr (by decide)
           ·replace c42 := Bool.eq_false_iff.mpr c42
            subst c42
            have H1 : (if t384 = t387 then (if t384 = 0 then (if t385 ≥ t382 then (some (decide (t386 ≥ t383))) else (some false)) else (some true)) else (some false)) = some r := by rw [if_neg (show ¬ (false = true) by decide)] at H; exact H
            clear H
            have H := H1
            clear H1
            by_cases c55 : t384 = t387
            ·rw [if_pos c55] at H
             have c55b0 : (t384 == t387) = true := beq_iff_eq.mpr c55
             have c55b1 : (t384 != t387) = false := bne_eq_false_iff_eq.mpr c55
             clear c55
             by_cases c56 : t384 = 0
             ·rw [if_pos c56] at H
              have c56b0 : (t384 == 0) = true := beq_iff_eq.mpr c56
              have c56b1 : (t384 != 0) = false := bne_eq_false_iff_eq.mpr c56
              clear c56
              by_cases c57 : t385 ≥ t382
              ·rw [if_pos c57] at H
               have c57b0 : decide (t382 ≤ t385) = true := decide_eq_true c57
               clear c57
               obtain rfl := Option.some.inj H
               simp only [Option.some.injEq, Prod.mk.injEq] at H
               obtain ⟨rfl⟩ := H
               have hcz58_0 : wc.cell? ⟨gb366, 0, none⟩ = some (.string a0_0) := (blk_cell BK366.out 0).trans rfl
               have hcz58_1 : wc.cell? ⟨gb366, 1, none⟩ = some (.int .i64 a0_1) := (blk_cell BK366.out 1).trans rfl
               have hcz58_2 : wc.cell? ⟨gb366, 2, none⟩ = some (.int .i64 a0_2) := (blk_cell BK366.out 2).trans rfl
               have hcz58_3 : wc.cell? ⟨gb366, 3, none⟩ = some (.int .i64 a0_3) := (blk_cell BK366.out 3).trans rfl
               have hfz58_0 := blk_frozen BK366.out 0
               have hfz58_1 := blk_frozen BK366.out 1
               have hfz58_2 := blk_frozen BK366.out 2
               have hfz58_3 := blk_frozen BK366.out 3
               go_wp2_with (first | ((with_reducible refine gate_callee (f := 18) rfl ?_); refine goesL_ (some 95) rfl rfl Tryd.func18 (by kernel_rfl) rfl #[.agg #[.string a0_0, .int .i64 a0_1, .int .i64 a0_2, .int .i64 a0_3], .slice A1 l1.length c1] rfl (by (try simp only [List.map_toArray, List.map_cons, List.map_nil]); first | done | rfl | (simp only [List.length_drop, List.length_take]; rfl)) ?_; (with_reducible refine (grade_Margin.calls kj24 a0_0 a0_1 a0_2 a0_3 _ _ l1 t382 t383 t384 _ ?side1 ?side2 A40.out).mono ?_); (case side1 => repeat (first | exact (Kd.C_below HR1.out HB.out) | (with_reducible refine Kd.C_alloc ?_ _) | (with_reducible refine Kd.C_drewN ?_ _) | (with_reducible refine Kd.C_drew ?_))); (case side2 => exact HC1.out); rintro e w59 ⟨rfl, hb⟩; refine ⟨_, rfl, ?_⟩; have n0_ := Aside0.mk (Kd.R_below (by (with_reducible repeat (first | apply Kd.R_alloc | apply Kd.R_drewN | apply Kd.R_drew)); exact HO_11.out) hb); have n1_ := Aside0.mk (blk_below (g := gb366) (o := .cells #[.string a0_0, .int .i64 a0_1, .int .i64 a0_2, .int .i64 a0_3] 32 (0, 0)) (by (with_reducible repeat (first | refine blk_drewN ?_ _ | refine blk_drew ?_ | refine blk_alloc ?_ _)); exact BK366.out) hb); have n2_ := Aside0.mk (below_step (by repeat (first | (with_reducible first | exact HB.out | apply below_alloc | apply pw_below_drewN | apply below_drew1 | refine below_set ?_ GE366.out) | exact HB.out)) hb); clear HO_11; clear BK366; clear HB; have HO_11 := n0_; have BK366 := n1_; have HB := n2_; clear n0_ n1_ n2_; (try clear hb); (try clear hb2); (try clear hk); (try clear hi); have hcz60_0 : w59.cell? ⟨gb366, 0, none⟩ = some (.string a0_0) := (blk_cell BK366.out 0).trans rfl; have hcz60_1 : w59.cell? ⟨gb366, 1, none⟩ = some (.int .i64 a0_1) := (blk_cell BK366.out 1).trans rfl; have hcz60_2 : w59.cell? ⟨gb366, 2, none⟩ = some (.int .i64 a0_2) := (blk_cell BK366.out 2).trans rfl; have hcz60_3 : w59.cell? ⟨gb366, 3, none⟩ = some (.int .i64 a0_3) := (blk_cell BK366.out 3).trans rfl; have hfz60_0 := blk_frozen BK366.out 0; have hfz60_1 := blk_frozen BK366.out 1; have hfz60_2 := blk_frozen BK366.out 2; have hfz60_3 := blk_frozen BK366.out 3) | ((with_reducible refine gate_callee (f := 18) rfl ?_); refine goesL_ (some 102) rfl rfl Tryd.func18 (by kernel_rfl) rfl #[.agg #[.string a0_0, .int .i64 a0_1, .int .i64 a0_2, .int .i64 a0_3], .slice (some ⟨go21, 0, none⟩) y377.length co29] rfl (by (try simp only [List.map_toArray, List.map_cons, List.map_nil]); first | done | rfl | (simp only [List.length_drop, List.length_take]; rfl)) ?_; (with_reducible refine (grade_Margin.calls kj24 a0_0 a0_1 a0_2 a0_3 _ _ y377 t385 t386 t387 _ ?side1 ?side2 A41.out).mono ?_); (case side1 => repeat (first | exact (Kd.R_reads' HO_11.out).2.2 | (with_reducible refine Kd.C_alloc ?_ _) | (with_reducible refine Kd.C_drewN ?_ _) | (with_reducible refine Kd.C_drew ?_))); (case side2 => exact (Kd.R_reads' HO_11.out).2.1); rintro e w61 ⟨rfl, hb⟩; refine ⟨_, rfl, ?_⟩; have n0_ := Aside0.mk (Kd.R_below (by (with_reducible repeat (first | apply Kd.R_alloc | apply Kd.R_drewN | apply Kd.R_drew)); exact HO_11.out) hb); have n1_ := Aside0.mk (blk_below (g := gb366) (o := .cells #[.string a0_0, .int .i64 a0_1, .int .i64 a0_2, .int .i64 a0_3] 32 (0, 0)) (by (with_reducible repeat (first | refine blk_drewN ?_ _ | refine blk_drew ?_ | refine blk_alloc ?_ _)); exact BK366.out) hb); have n2_ := Aside0.mk (below_step (by repeat (first | (with_reducible first | exact HB.out | apply below_alloc | apply pw_below_drewN | apply below_drew1 | refine below_set ?_ GE366.out) | exact HB.out)) hb); clear HO_11; clear BK366; clear HB; have HO_11 := n0_; have BK366 := n1_; have HB := n2_; clear n0_ n1_ n2_; (try clear hb); (try clear hb2); (try clear hk); (try clear hi)))
               go_ret
               exact ⟨by first | rfl | (simp [errW_none, errW_some] <;> rfl) | (simp [*, errW_none, errW_some] <;> rfl), by repeat (first | (with_reducible first | exact HB.out | apply below_alloc | apply pw_below_drewN | apply below_drew1 | refine below_set ?_ GE366.out) | exact HB.out)⟩
              ·rw [if_neg c57] at H
               have c57b0 : decide (t382 ≤ t385) = false := decide_eq_false c57
               clear c57
               obtain rfl := Option.some.inj H
               exact absurd hr (by decide)
             ·rw [if_neg c56] at H
              have c56b0 : (t384 == 0) = false := beq_eq_false_iff_ne.mpr c56
              have c56b1 : (t384 != 0) = true := bne_iff_ne.mpr c56
              obtain rfl := Option.some.inj H
              simp only [Option.some.injEq, Prod.mk.injEq] at H
              obtain ⟨rfl⟩ := H
              have hcz62_0 : wc.cell? ⟨gb366, 0, none⟩ = some (.string a0_0) := (blk_cell BK366.out 0).trans rfl
              have hcz62_1 : wc.cell? ⟨gb366, 1, none⟩ = some (.int .i64 a0_1) := (blk_cell BK366.out 1).trans rfl
              have hcz62_2 : wc.cell? ⟨gb366, 2, none⟩ = some (.int .i64 a0_2) := (blk_cell BK366.out 2).trans rfl
              have hcz62_3 : wc.cell? ⟨gb366, 3, none⟩ = some (.int .i64 a0_3) := (blk_cell BK366.out 3).trans rfl
              have hfz62_0 := blk_frozen BK366.out 0
              have hfz62_1 := blk_frozen BK366.out 1
              have hfz62_2 := blk_frozen BK366.out 2
              have hfz62_3 := blk_frozen BK366.out 3
              go_wp2_with (first | ((with_reducible refine gate_callee (f := 18) rfl ?_); refine goesL_ (some 95) rfl rfl Tryd.func18 (by kernel_rfl) rfl #[.agg #[.string a0_0, .int .i64 a0_1, .int .i64 a0_2, .int .i64 a0_3], .slice A1 l1.length c1] rfl (by (try simp only [List.map_toArray, List.map_cons, List.map_nil]); first | done | rfl | (simp only [List.length_drop, List.length_take]; rfl)) ?_; (with_reducible refine (grade_Margin.calls kj24 a0_0 a0_1 a0_2 a0_3 _ _ l1 t382 t383 t384 _ ?side1 ?side2 A40.out).mono ?_); (case side1 => repeat (first | exact (Kd.C_below HR1.out HB.out) | (with_reducible refine Kd.C_alloc ?_ _) | (with_reducible refine Kd.C_drewN ?_ _) | (with_reducible refine Kd.C_drew ?_))); (case side2 => exact HC1.out); rintro e w63 ⟨rfl, hb⟩; refine ⟨_, rfl, ?_⟩; have n0_ := Aside0.mk (Kd.R_below (by (with_reducible repeat (first | apply Kd.R_alloc | apply Kd.R_drewN | apply Kd.R_drew)); exact HO_11.out) hb); have n1_ := Aside0.mk (blk_below (g := gb366) (o := .cells #[.string a0_0, .int .i64 a0_1, .int .i64 a0_2, .int .i64 a0_3] 32 (0, 0)) (by (with_reducible repeat (first | refine blk_drewN ?_ _ | refine blk_drew ?_ | refine blk_alloc ?_ _)); exact BK366.out) hb); have n2_ := Aside0.mk (below_step (by repeat (first | (with_reducible first | exact HB.out | apply below_alloc | apply pw_below_drewN | apply below_drew1 | refine below_set ?_ GE366.out) | exact HB.out)) hb); clear HO_11; clear BK366; clear HB; have HO_11 := n0_; have BK366 := n1_; have HB := n2_; clear n0_ n1_ n2_; (try clear hb); (try clear hb2); (try clear hk); (try clear hi); have hcz64_0 : w63.cell? ⟨gb366, 0, none⟩ = some (.string a0_0) := (blk_cell BK366.out 0).trans rfl; have hcz64_1 : w63.cell? ⟨gb366, 1, none⟩ = some (.int .i64 a0_1) := (blk_cell BK366.out 1).trans rfl; have hcz64_2 : w63.cell? ⟨gb366, 2, none⟩ = some (.int .i64 a0_2) := (blk_cell BK366.out 2).trans rfl; have hcz64_3 : w63.cell? ⟨gb366, 3, none⟩ = some (.int .i64 a0_3) := (blk_cell BK366.out 3).trans rfl; have hfz64_0 := blk_frozen BK366.out 0; have hfz64_1 := blk_frozen BK366.out 1; have hfz64_2 := blk_frozen BK366.out 2; have hfz64_3 := blk_frozen BK366.out 3) | ((with_reducible refine gate_callee (f := 18) rfl ?_); refine goesL_ (some 102) rfl rfl Tryd.func18 (by kernel_rfl) rfl #[.agg #[.string a0_0, .int .i64 a0_1, .int .i64 a0_2, .int .i64 a0_3], .slice (some ⟨go21, 0, none⟩) y377.length co29] rfl (by (try simp only [List.map_toArray, List.map_cons, List.map_nil]); first | done | rfl | (simp only [List.length_drop, List.length_take]; rfl)) ?_; (with_reducible refine (grade_Margin.calls kj24 a0_0 a0_1 a0_2 a0_3 _ _ y377 t385 t386 t387 _ ?side1 ?side2 A41.out).mono ?_); (case side1 => repeat (first | exact (Kd.R_reads' HO_11.out).2.2 | (with_reducible refine Kd.C_alloc ?_ _) | (with_reducible refine Kd.C_drewN ?_ _) | (with_reducible refine Kd.C_drew ?_))); (case side2 => exact (Kd.R_reads' HO_11.out).2.1); rintro e w65 ⟨rfl, hb⟩; refine ⟨_, rfl, ?_⟩; have n0_ := Aside0.mk (Kd.R_below (by (with_reducible repeat (first | apply Kd.R_alloc | apply Kd.R_drewN | apply Kd.R_drew)); exact HO_11.out) hb); have n1_ := Aside0.mk (blk_below (g := gb366) (o := .cells #[.string a0_0, .int .i64 a0_1, .int .i64 a0_2, .int .i64 a0_3] 32 (0, 0)) (by (with_reducible repeat (first | refine blk_drewN ?_ _ | refine blk_drew ?_ | refine blk_alloc ?_ _)); exact BK366.out) hb); have n2_ := Aside0.mk (below_step (by repeat (first | (with_reducible first | exact HB.out | apply below_alloc | apply pw_below_drewN | apply below_drew1 | refine below_set ?_ GE366.out) | exact HB.out)) hb); clear HO_11; clear BK366; clear HB; have HO_11 := n0_; have BK366 := n1_; have HB := n2_; clear n0_ n1_ n2_; (try clear hb); (try clear hb2); (try clear hk); (try clear hi)))
              go_ret
              exact ⟨by first | rfl | (simp [errW_none, errW_some] <;> rfl) | (simp [*, errW_none, errW_some] <;> rfl), by repeat (first | (with_reducible first | exact HB.out | apply below_alloc | apply pw_below_drewN | apply below_drew1 | refine below_set ?_ GE366.out) | exact HB.out)⟩
            ·rw [if_neg c55] at H
             have c55b0 : (t384 == t387) = false := beq_eq_false_iff_ne.mpr c55
             have c55b1 : (t384 != t387) = true := bne_iff_ne.mpr c55
             obtain rfl := Option.some.inj H
             exact absurd hr (by decide)
       ·rw [if_neg c20] at H
        exact absurd H (by simp)
      ·rw [if_neg c19] at H
       exact absurd H (by simp)
     ·rw [if_neg c18] at H
      exact absurd H (by simp)
 ·replace c7 := Bool.eq_false_iff.mpr c7
  subst c7
  have H1 : (some false) = some r := by rw [if_neg (show ¬ (false = true) by decide)] at H; exact H
  clear H
  have H := H1
  clear H1
  obtain rfl := Option.some.inj H
  exact absurd hr (by decide)

end Go.Proofs.YtankffbfocaibaaDoor.P
