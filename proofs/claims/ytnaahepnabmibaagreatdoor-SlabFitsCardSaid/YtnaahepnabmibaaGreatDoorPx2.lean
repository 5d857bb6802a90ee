/- What functions of the program return: each contract says so of one function, for every input at which its pure function yields. -/
import Derived.Test.YtnaahepnabmibaaGreatDoorPx0
import Derived.Test.YtnaahepnabmibaaGreatDoorPx1
import Derived.Test.YtnaahepnabmibaaGreatDoorAwk
namespace Go.Proofs.YtnaahepnabmibaaGreatDoor.P
open Go.RowKit Go.Proofs.YtnaahepnabmibaaGreatDoorW.PrintWords Go.Proofs.YtnaahepnabmibaaGreatDoorW.PrintLast Go.Proofs.YtnaahepnabmibaaGreatDoorW.PrintMore
attribute [local go_sem] max2_int min2_int max_two min_two max_three min_three max_four min_four   -- for this text's walks alone
set_option linter.unusedVariables false
set_option linter.unusedSimpArgs false

open Go.Proofs.YtnaahepnabmibaaGreatDoor.Awk
def gangsawlaw30_SlabFits.j0 : Nat → Int → Int → Int → Bool → Int → Int → Int → Int → Option (Bool)
 | 0, _, _, _, _, _, _, _, _ => none
 | k + 1, x1, x2, x7, x61, x105000, x105001, x105002, x105003 => if x61 = true then (some false) else (if x2 < 0 then (some true) else (if x2 > 1000000 then (some true) else ((slab_Count.f x105000 x105001 x105002 x105003 (wrap64 (x1 + x2))).bind fun bt108 => (if bt108.2 = 0 then (some (decide (bt108.1 ≥ x7))) else (some true)))))
def gangsawlaw30_SlabFits.f (k : Nat) (a0_0 : Int) (a0_1 : Int) (a0_2 : Int) (a0_3 : Int) (a1 : Int) (a2 : Int) : Option (Bool) := (gangsawlaw30_awake.f).bind fun t105 => (if t105 = true then ((slab_Count.f a0_0 a0_1 a0_2 a0_3 a1).bind fun bt106 => (if bt106.2 = 0 then (if bt106.1 < 0 then (gangsawlaw30_SlabFits.j0 k a1 a2 bt106.1 true a0_0 a0_1 a0_2 a0_3) else (if bt106.1 > a1 then (gangsawlaw30_SlabFits.j0 k a1 a2 bt106.1 true a0_0 a0_1 a0_2 a0_3) else (if bt106.1 > 0 then (if (wrap64 ((wrap64 (bt106.1 * a0_1)) + (wrap64 ((wrap64 (bt106.1 - 1)) * a0_2)))) > a1 then (gangsawlaw30_SlabFits.j0 k a1 a2 bt106.1 true a0_0 a0_1 a0_2 a0_3) else (gangsawlaw30_SlabFits.j0 k a1 a2 bt106.1 (decide ((wrap64 ((wrap64 ((wrap64 (bt106.1 + 1)) * a0_1)) + (wrap64 (bt106.1 * a0_2)))) ≤ a1)) a0_0 a0_1 a0_2 a0_3)) else (gangsawlaw30_SlabFits.j0 k a1 a2 bt106.1 (decide ((wrap64 ((wrap64 ((wrap64 (bt106.1 + 1)) * a0_1)) + (wrap64 (bt106.1 * a0_2)))) ≤ a1)) a0_0 a0_1 a0_2 a0_3)))) else (some (bt106.1 == 0)))) else (some false))
theorem gangsawlaw30_SlabFits.mono_l : ∀ k, (∀ y0 y1 y2 y3 y4 y5 y6 y7, LeO (gangsawlaw30_SlabFits.j0 k y0 y1 y2 y3 y4 y5 y6 y7) (gangsawlaw30_SlabFits.j0 (k + 1) y0 y1 y2 y3 y4 y5 y6 y7))
 | 0 => fun _ _ _ _ _ _ _ _ r h => by simp [gangsawlaw30_SlabFits.j0] at h
 | k + 1 => by
  have ih0 := gangsawlaw30_SlabFits.mono_l k
  ·intro y0 y1 y2 y3 y4 y5 y6 y7
   unfold gangsawlaw30_SlabFits.j0
   repeat' first
   | (with_reducible exact ih0 _ _ _ _ _ _ _ _)
   | (with_reducible exact LeO.refl _)
   | (with_reducible exact LeO.none _)
   | (with_reducible refine LeO.ite ?_ ?_)
   | (with_reducible refine LeO.bind ?_ (fun _ => ?_))
   | exact ih0 _ _ _ _ _ _ _ _
   | exact LeO.none _
   | refine LeO.ite ?_ ?_
   | refine LeO.bind ?_ (fun _ => ?_)
theorem gangsawlaw30_SlabFits.mono : ∀ a0 a1 a2 a3 a4 a5 k, LeO (gangsawlaw30_SlabFits.f k a0 a1 a2 a3 a4 a5) (gangsawlaw30_SlabFits.f (k + 1) a0 a1 a2 a3 a4 a5) := by
 intro a0 a1 a2 a3 a4 a5 k
 have ih0 := gangsawlaw30_SlabFits.mono_l k
 unfold gangsawlaw30_SlabFits.f
 repeat' first
   | (with_reducible exact ih0 _ _ _ _ _ _ _ _)
   | (with_reducible exact LeO.refl _)
   | (with_reducible exact LeO.none _)
   | (with_reducible refine LeO.ite ?_ ?_)
   | (with_reducible refine LeO.bind ?_ (fun _ => ?_))
   | exact ih0 _ _ _ _ _ _ _ _
   | exact LeO.none _
   | refine LeO.ite ?_ ?_
   | refine LeO.bind ?_ (fun _ => ?_)
set_option maxHeartbeats 8000000 in
set_option maxRecDepth 100000 in
theorem gangsawlaw30_SlabFits.calls (k : Nat) (a0_0 : Int) (a0_1 : Int) (a0_2 : Int) (a0_3 : Int) (a1 : Int) (a2 : Int) (r : Bool) (w : World) {w0 : World} (hf0 : LaidAt w0) (hb0 : Below w0.heap.size w0 w) (h : gangsawlaw30_SlabFits.f k a0_0 a0_1 a0_2 a0_3 a1 a2 = some r) (hr : r = true) :
  Calls Tryz.prog 10 #[.agg #[.int .i64 a0_0, .int .i64 a0_1, .int .i64 a0_2, .int .i64 a0_3], .int .i64 a1, .int .i64 a2] w fun e w' => e = .returned (.bool r) ∧ Below w.heap.size w w' := by
 have HLD := Aside0.mk (hf0.below hb0)
 clear hf0 hb0
 have hu47 := Tryz.underlying47
 have HB := Aside0.mk (Below.refl w.heap.size w)
 have H : ((gangsawlaw30_awake.f).bind fun t105 => (if t105 = true then ((slab_Count.f a0_0 a0_1 a0_2 a0_3 a1).bind fun bt106 => (if bt106.2 = 0 then (if bt106.1 < 0 then (gangsawlaw30_SlabFits.j0 k a1 a2 bt106.1 true a0_0 a0_1 a0_2 a0_3) else (if bt106.1 > a1 then (gangsawlaw30_SlabFits.j0 k a1 a2 bt106.1 true a0_0 a0_1 a0_2 a0_3) else (if bt106.1 > 0 then (if (wrap64 ((wrap64 (bt106.1 * a0_1)) + (wrap64 ((wrap64 (bt106.1 - 1)) * a0_2)))) > a1 then (gangsawlaw30_SlabFits.j0 k a1 a2 bt106.1 true a0_0 a0_1 a0_2 a0_3) else (gangsawlaw30_SlabFits.j0 k a1 a2 bt106.1 (decide ((wrap64 ((wrap64 ((wrap64 (bt106.1 + 1)) * a0_1)) + (wrap64 (bt106.1 * a0_2)))) ≤ a1)) a0_0 a0_1 a0_2 a0_3)) else (gangsawlaw30_SlabFits.j0 k a1 a2 bt106.1 (decide ((wrap64 ((wrap64 ((wrap64 (bt106.1 + 1)) * a0_1)) + (wrap64 (bt106.1 * a0_2)))) ≤ a1)) a0_0 a0_1 a0_2 a0_3)))) else (some (bt106.1 == 0)))) else (some false))) = some r := h
 clear h
 replace H := Option.bind_eq_some_iff.mp H
 obtain ⟨t105, A40, H⟩ := H
 replace H : (if t105 = true then ((slab_Count.f a0_0 a0_1 a0_2 a0_3 a1).bind fun bt106 => (if bt106.2 = 0 then (if bt106.1 < 0 then (gangsawlaw30_SlabFits.j0 k a1 a2 bt106.1 true a0_0 a0_1 a0_2 a0_3) else (if bt106.1 > a1 then (gangsawlaw30_SlabFits.j0 k a1 a2 bt106.1 true a0_0 a0_1 a0_2 a0_3) else (if bt106.1 > 0 then (if (wrap64 ((wrap64 (bt106.1 * a0_1)) + (wrap64 ((wrap64 (bt106.1 - 1)) * a0_2)))) > a1 then (gangsawlaw30_SlabFits.j0 k a1 a2 bt106.1 true a0_0 a0_1 a0_2 a0_3) else (gangsawlaw30_SlabFits.j0 k a1 a2 bt106.1 (decide ((wrap64 ((wrap64 ((wrap64 (bt106.1 + 1)) * a0_1)) + (wrap64 (bt106.1 * a0_2)))) ≤ a1)) a0_0 a0_1 a0_2 a0_3)) else (gangsawlaw30_SlabFits.j0 k a1 a2 bt106.1 (decide ((wrap64 ((wrap64 ((wrap64 (bt106.1 + 1)) * a0_1)) + (wrap64 (bt106.1 * a0_2)))) ≤ a1)) a0_0 a0_1 a0_2 a0_3)))) else (some (bt106.1 == 0)))) else (some false)) = some r := H
 have A4 := Aside0.mk A40
 clear A40
 by_cases c5 : t105 = true
 ·subst c5
  have H1 : ((slab_Count.f a0_0 a0_1 a0_2 a0_3 a1).bind fun bt106 => (if bt106.2 = 0 then (if bt106.1 < 0 then (gangsawlaw30_SlabFits.j0 k a1 a2 bt106.1 true a0_0 a0_1 a0_2 a0_3) else (if bt106.1 > a1 then (gangsawlaw30_SlabFits.j0 k a1 a2 bt106.1 true a0_0 a0_1 a0_2 a0_3) else (if bt106.1 > 0 then (if (wrap64 ((wrap64 (bt106.1 * a0_1)) + (wrap64 ((wrap64 (bt106.1 - 1)) * a0_2)))) > a1 then (gangsawlaw30_SlabFits.j0 k a1 a2 bt106.1 true a0_0 a0_1 a0_2 a0_3) else (gangsawlaw30_SlabFits.j0 k a1 a2 bt106.1 (decide ((wrap64 ((wrap64 ((wrap64 (bt106.1 + 1)) * a0_1)) + (wrap64 (bt106.1 * a0_2)))) ≤ a1)) a0_0 a0_1 a0_2 a0_3)) else (gangsawlaw30_SlabFits.j0 k a1 a2 bt106.1 (decide ((wrap64 ((wrap64 ((wrap64 (bt106.1 + 1)) * a0_1)) + (wrap64 (bt106.1 * a0_2)))) ≤ a1)) a0_0 a0_1 a0_2 a0_3)))) else (some (bt106.1 == 0)))) = some r := by rw [if_pos rfl] at H; exact H
  clear H
  have H := H1
  clear H1
  replace H := Option.bind_eq_some_iff.mp H
  obtain ⟨⟨t106, t107⟩, A60, H⟩ := H
  replace H : (if t107 = 0 then (if t106 < 0 then (gangsawlaw30_SlabFits.j0 k a1 a2 t106 true a0_0 a0_1 a0_2 a0_3) else (if t106 > a1 then (gangsawlaw30_SlabFits.j0 k a1 a2 t106 true a0_0 a0_1 a0_2 a0_3) else (if t106 > 0 then (if (wrap64 ((wrap64 (t106 * a0_1)) + (wrap64 ((wrap64 (t106 - 1)) * a0_2)))) > a1 then (gangsawlaw30_SlabFits.j0 k a1 a2 t106 true a0_0 a0_1 a0_2 a0_3) else (gangsawlaw30_SlabFits.j0 k a1 a2 t106 (decide ((wrap64 ((wrap64 ((wrap64 (t106 + 1)) * a0_1)) + (wrap64 (t106 * a0_2)))) ≤ a1)) a0_0 a0_1 a0_2 a0_3)) else (gangsawlaw30_SlabFits.j0 k a1 a2 t106 (decide ((wrap64 ((wrap64 ((wrap64 (t106 + 1)) * a0_1)) + (wrap64 (t106 * a0_2)))) ≤ a1)) a0_0 a0_1 a0_2 a0_3)))) else (some (t106 == 0))) = some r := H
  have A6 := Aside0.mk A60
  clear A60
  by_cases c7 : t107 = 0
  ·rw [if_pos c7] at H
   have c7b0 : (t107 == 0) = true := beq_iff_eq.mpr c7
   have c7b1 : (t107 != 0) = false := bne_eq_false_iff_eq.mpr c7
   clear c7
   have HC8 := Aside0.mk H
   clear H
   go_enter Tryz.func10, Tryz.ntmps10
   go_upto_region 6 with (first | ((with_reducible refine gate_dst (N := 3) rfl ?_); refine box_event ?hg (N := 3) ?hd (cs := #[.int .i64 a0_0, .int .i64 a0_1, .int .i64 a0_2, .int .i64 a0_3]) (t := 47) ?hr ?_; (case hd => rfl); (case hg => rfl); (case hr => first | (go_simp; done) | (go_simp; rfl)); intro gb104 hg w9 hbox hb; have n0_ := Aside0.mk (below_step (by repeat (first | (with_reducible first | exact HB.out | apply below_alloc | apply pw_below_drewN | apply below_drew1) | exact HB.out)) hb); have n1_ := Aside0.mk (hbox); have n2_ := Aside0.mk ((by rw [hg]; exact (below_size (by repeat (first | (with_reducible first | exact HB.out | apply below_alloc | apply pw_below_drewN | apply below_drew1) | exact HB.out))) : w.heap.size ≤ gb104)); have n3_ := Aside0.mk ((by rw [hg]; exact (below_size (by repeat (first | (with_reducible first | exact HB.out | apply below_alloc | apply pw_below_drewN | apply below_drew1) | exact HB.out))) : w.heap.size ≤ gb104)); clear HB; have HB := n0_; have BK104 := n1_; have GW104 := n2_; have GE104 := n3_; clear n0_ n1_ n2_ n3_; clear hb hbox hg) | ((with_reducible refine gate_callee (f := 11) rfl ?_); refine goesL_ (some 11) rfl rfl Tryz.func11 (by kernel_rfl) rfl #[] rfl (by (try simp only [List.map_toArray, List.map_cons, List.map_nil]); first | done | rfl | (simp only [List.length_drop, List.length_take]; rfl)) ?_; (with_reducible refine (gangsawlaw30_awake.calls  true _ HLD.out (by repeat (first | (with_reducible first | exact HB.out | apply below_alloc | apply pw_below_drewN | apply below_drew1 | refine below_set ?_ GE104.out) | exact HB.out)) A4.out).mono ?_); rintro e w10 ⟨rfl, hb⟩; refine ⟨_, rfl, ?_⟩; have n0_ := Aside0.mk (blk_below (g := gb104) (o := .cells #[.int .i64 a0_0, .int .i64 a0_1, .int .i64 a0_2, .int .i64 a0_3] 47 (0, 0)) (by (with_reducible repeat (first | refine blk_drewN ?_ _ | refine blk_drew ?_ | refine blk_alloc ?_ _)); exact BK104.out) hb); have n1_ := Aside0.mk (below_step (by repeat (first | (with_reducible first | exact HB.out | apply below_alloc | apply pw_below_drewN | apply below_drew1 | refine below_set ?_ GE104.out) | exact HB.out)) hb); clear BK104; clear HB; have BK104 := n0_; have HB := n1_; clear n0_ n1_; (try clear hb); (try clear hb2); (try clear hk); (try clear hi); have hcz11_0 : w10.cell? ⟨gb104, 0, none⟩ = some (.int .i64 a0_0) := (blk_cell BK104.out 0).trans rfl; have hcz11_1 : w10.cell? ⟨gb104, 1, none⟩ = some (.int .i64 a0_1) := (blk_cell BK104.out 1).trans rfl; have hcz11_2 : w10.cell? ⟨gb104, 2, none⟩ = some (.int .i64 a0_2) := (blk_cell BK104.out 2).trans rfl; have hcz11_3 : w10.cell? ⟨gb104, 3, none⟩ = some (.int .i64 a0_3) := (blk_cell BK104.out 3).trans rfl; have hfz11_0 := blk_frozen BK104.out 0; have hfz11_1 := blk_frozen BK104.out 1; have hfz11_2 := blk_frozen BK104.out 2; have hfz11_3 := blk_frozen BK104.out 3) | ((with_reducible refine gate_callee (f := 19) rfl ?_); refine goesL_ (some 16) rfl rfl Tryz.func19 (by kernel_rfl) rfl #[.agg #[.int .i64 a0_0, .int .i64 a0_1, .int .i64 a0_2, .int .i64 a0_3], .int .i64 a1] rfl (by (try simp only [List.map_toArray, List.map_cons, List.map_nil]); first | done | rfl | (simp only [List.length_drop, List.length_take]; rfl)) ?_; (with_reducible refine (slab_Count.calls a0_0 a0_1 a0_2 a0_3 a1 t106 t107 _ A6.out).mono ?_); rintro e w12 ⟨rfl, hb⟩; refine ⟨_, rfl, ?_⟩; have n0_ := Aside0.mk (blk_below (g := gb104) (o := .cells #[.int .i64 a0_0, .int .i64 a0_1, .int .i64 a0_2, .int .i64 a0_3] 47 (0, 0)) (by (with_reducible repeat (first | refine blk_drewN ?_ _ | refine blk_drew ?_ | refine blk_alloc ?_ _)); exact BK104.out) hb); have n1_ := Aside0.mk (below_step (by repeat (first | (with_reducible first | exact HB.out | apply below_alloc | apply pw_below_drewN | apply below_drew1 | refine below_set ?_ GE104.out) | exact HB.out)) hb); clear BK104; clear HB; have BK104 := n0_; have HB := n1_; clear n0_ n1_; (try clear hb); (try clear hb2); (try clear hk); (try clear hi)))
   (try simp only [Act.put, List.setIfInBounds_toArray, List.set_cons_zero, List.set_cons_succ])
   go_cut [61] (fun v61 wc => ∃ (kq : Nat) (x61_7 : Bool), v61 = .bool x61_7 ∧ Aside0 (gangsawlaw30_SlabFits.j0 kq a1 a2 t106 x61_7 a0_0 a0_1 a0_2 a0_3 = some r) ∧ Aside0 (kq ≤ k) ∧ Aside0 (wc.heap[gb104]? = some (.cells #[.int .i64 a0_0, .int .i64 a0_1, .int .i64 a0_2, .int .i64 a0_3] 47 (0, 0))) ∧ Aside0 (Below w.heap.size w wc))
   case first =>
    have H := HC8.out
    clear HC8
    by_cases c13 : t106 < 0
    ·rw [if_pos c13] at H
     have c13b0 : decide (t106 < 0) = true := decide_eq_true c13
     clear c13
     (first | rw [c13b0] | (simp only [i64_w, i32_w]; rw [c13b0]) | skip)
     have H' := Aside0.mk H
     clear H
     go_wp2
     go_meet
     case rel => exact ⟨_, (true), (by first | rfl | (simp; done) | (simp [*]; done)), H', ⟨by first | omega | exact Nat.le_refl _⟩, ⟨by (with_reducible repeat (first | refine blk_drewN ?_ _ | refine blk_drew ?_ | refine blk_alloc ?_ _)); exact BK104.out⟩, ⟨by repeat (first | (with_reducible first | exact HB.out | apply below_alloc | apply pw_below_drewN | apply below_drew1 | refine below_set ?_ GE104.out) | exact HB.out)⟩⟩
    ·rw [if_neg c13] at H
     have c13b0 : decide (t106 < 0) = false := decide_eq_false c13
     clear c13
     (first | rw [c13b0] | (simp only [i64_w, i32_w]; rw [c13b0]) | skip)
     by_cases c14 : t106 > a1
     ·rw [if_pos c14] at H
      have c14b0 : decide (a1 < t106) = true := decide_eq_true c14
      clear c14
      have H' := Aside0.mk H
      clear H
      go_wp2
      go_meet
      case rel => exact ⟨_, (true), (by first | rfl | (simp; done) | (simp [*]; done)), H', ⟨by first | omega | exact Nat.le_refl _⟩, ⟨by (with_reducible repeat (first | refine blk_drewN ?_ _ | refine blk_drew ?_ | refine blk_alloc ?_ _)); exact BK104.out⟩, ⟨by repeat (first | (with_reducible first | exact HB.out | apply below_alloc | apply pw_below_drewN | apply below_drew1 | refine below_set ?_ GE104.out) | exact HB.out)⟩⟩
     ·rw [if_neg c14] at H
      have c14b0 : decide (a1 < t106) = false := decide_eq_false c14
      clear c14
      by_cases c15 : t106 > 0
      ·rw [if_pos c15] at H
       have c15b0 : decide (0 < t106) = true := decide_eq_true c15
       clear c15
       by_cases c16 : (wrap64 ((wrap64 (t106 * a0_1)) + (wrap64 ((wrap64 (t106 - 1)) * a0_2)))) > a1
       ·rw [if_pos c16] at H
        have c16b0 : decide (a1 < (wrap64 ((wrap64 (t106 * a0_1)) + (wrap64 ((wrap64 (t106 - 1)) * a0_2))))) = true := decide_eq_true c16
        clear c16
        have H' := Aside0.mk H
        clear H
        have hcz17_0 : w12.cell? ⟨gb104, 0, none⟩ = some (.int .i64 a0_0) := (blk_cell BK104.out 0).trans rfl
        have hcz17_1 : w12.cell? ⟨gb104, 1, none⟩ = some (.int .i64 a0_1) := (blk_cell BK104.out 1).trans rfl
        have hcz17_2 : w12.cell? ⟨gb104, 2, none⟩ = some (.int .i64 a0_2) := (blk_cell BK104.out 2).trans rfl
        have hcz17_3 : w12.cell? ⟨gb104, 3, none⟩ = some (.int .i64 a0_3) := (blk_cell BK104.out 3).trans rfl
        have hfz17_0 := blk_frozen BK104.out 0
        have hfz17_1 := blk_frozen BK104.out 1
        have hfz17_2 := blk_frozen BK104.out 2
        have hfz17_3 := blk_frozen BK104.out 3
        go_wp2
        go_meet
        case rel => exact ⟨_, (true), (by first | rfl | (simp; done) | (simp [*]; done)), H', ⟨by first | omega | exact Nat.le_refl _⟩, ⟨by (with_reducible repeat (first | refine blk_drewN ?_ _ | refine blk_drew ?_ | refine blk_alloc ?_ _)); exact BK104.out⟩, ⟨by repeat (first | (with_reducible first | exact HB.out | apply below_alloc | apply pw_below_drewN | apply below_drew1 | refine below_set ?_ GE104.out) | exact HB.out)⟩⟩
       ·rw [if_neg c16] at H
        have c16b0 : decide (a1 < (wrap64 ((wrap64 (t106 * a0_1)) + (wrap64 ((wrap64 (t106 - 1)) * a0_2))))) = false := decide_eq_false c16
        clear c16
        have H' := Aside0.mk H
        clear H
        have hcz18_0 : w12.cell? ⟨gb104, 0, none⟩ = some (.int .i64 a0_0) := (blk_cell BK104.out 0).trans rfl
        have hcz18_1 : w12.cell? ⟨gb104, 1, none⟩ = some (.int .i64 a0_1) := (blk_cell BK104.out 1).trans rfl
        have hcz18_2 : w12.cell? ⟨gb104, 2, none⟩ = some (.int .i64 a0_2) := (blk_cell BK104.out 2).trans rfl
        have hcz18_3 : w12.cell? ⟨gb104, 3, none⟩ = some (.int .i64 a0_3) := (blk_cell BK104.out 3).trans rfl
        have hfz18_0 := blk_frozen BK104.out 0
        have hfz18_1 := blk_frozen BK104.out 1
        have hfz18_2 := blk_frozen BK104.out 2
        have hfz18_3 := blk_frozen BK104.out 3
        go_wp2
        go_meet
        case rel => exact ⟨_, (decide ((wrap64 ((wrap64 ((wrap64 (t106 + 1)) * a0_1)) + (wrap64 (t106 * a0_2)))) ≤ a1)), (by first | rfl | (simp; done) | (simp [*]; done)), H', ⟨by first | omega | exact Nat.le_refl _⟩, ⟨by (with_reducible repeat (first | refine blk_drewN ?_ _ | refine blk_drew ?_ | refine blk_alloc ?_ _)); exact BK104.out⟩, ⟨by repeat (first | (with_reducible first | exact HB.out | apply below_alloc | apply pw_below_drewN | apply below_drew1 | refine below_set ?_ GE104.out) | exact HB.out)⟩⟩
      ·rw [if_neg c15] at H
       have c15b0 : decide (0 < t106) = false := decide_eq_false c15
       clear c15
       have H' := Aside0.mk H
       clear H
       have hcz19_0 : w12.cell? ⟨gb104, 0, none⟩ = some (.int .i64 a0_0) := (blk_cell BK104.out 0).trans rfl
       have hcz19_1 : w12.cell? ⟨gb104, 1, none⟩ = some (.int .i64 a0_1) := (blk_cell BK104.out 1).trans rfl
       have hcz19_2 : w12.cell? ⟨gb104, 2, none⟩ = some (.int .i64 a0_2) := (blk_cell BK104.out 2).trans rfl
       have hcz19_3 : w12.cell? ⟨gb104, 3, none⟩ = some (.int .i64 a0_3) := (blk_cell BK104.out 3).trans rfl
       have hfz19_0 := blk_frozen BK104.out 0
       have hfz19_1 := blk_frozen BK104.out 1
       have hfz19_2 := blk_frozen BK104.out 2
       have hfz19_3 := blk_frozen BK104.out 3
       go_wp2
       go_meet
       case rel => exact ⟨_, (decide ((wrap64 ((wrap64 ((wrap64 (t106 + 1)) * a0_1)) + (wrap64 (t106 * a0_2)))) ≤ a1)), (by first | rfl | (simp; done) | (simp [*]; done)), H', ⟨by first | omega | exact Nat.le_refl _⟩, ⟨by (with_reducible repeat (first | refine blk_drewN ?_ _ | refine blk_drew ?_ | refine blk_alloc ?_ _)); exact BK104.out⟩, ⟨by repeat (first | (with_reducible first | exact HB.out | apply below_alloc | apply pw_below_drewN | apply below_drew1 | refine below_set ?_ GE104.out) | exact HB.out)⟩⟩
   case rest =>
    clear HC8
    try clear c1
    try clear p2
    try clear c5
    try clear p6
    try clear c7
    try clear c7b0
    try clear c7b1
    try clear c10
    try clear c11
    try clear c13
    try clear c13b0
    try clear c14
    try clear c14b0
    try clear c15
    try clear c15b0
    try clear c16
    try clear c16b0
    try clear c19
    try clear hcz11_0
    try clear hcz11_1
    try clear hcz11_2
    try clear hcz11_3
    try clear hcz17_0
    try clear hcz17_1
    try clear hcz17_2
    try clear hcz17_3
    try clear hcz18_0
    try clear hcz18_1
    try clear hcz18_2
    try clear hcz18_3
    try clear hcz19_0
    try clear hcz19_1
    try clear hcz19_2
    try clear hcz19_3
    try clear hfz11_0
    try clear hfz11_1
    try clear hfz11_2
    try clear hfz11_3
    try clear hfz17_0
    try clear hfz17_1
    try clear hfz17_2
    try clear hfz17_3
    try clear hfz18_0
    try clear hfz18_1
    try clear hfz18_2
    try clear hfz18_3
    try clear hfz19_0
    try clear hfz19_1
    try clear hfz19_2
    try clear hfz19_3
    obtain ⟨kq, x61_7, rfl, HA, HJ7, BK104, HB⟩ := hcut
    cases kq with
    | zero => exact absurd HA.out (by simp [gangsawlaw30_SlabFits.j0])
    | succ kj7 =>
     have H := HA.out
     clear HA
     simp only [gangsawlaw30_SlabFits.j0] at H
     by_cases c20 : x61_7 = true
     ·subst c20
      have H1 : (some false) = some r := by rw [if_pos rfl] at H; exact H
      clear H
      have H := H1
      clear H1
      obtain rfl := Option.some.inj H
      exact absurd hr (by decide)
     ·replace c20 := Bool.eq_false_iff.mpr c20
      subst c20
      have H1 : (if a2 < 0 then (some true) else (if a2 > 1000000 then (some true) else ((slab_Count.f a0_0 a0_1 a0_2 a0_3 (wrap64 (a1 + a2))).bind fun bt108 => (if bt108.2 = 0 then (some (decide (bt108.1 ≥ t106))) else (some true))))) = some r := by rw [if_neg (show ¬ (false = true) by decide)] at H; exact H
      clear H
      have H := H1
      clear H1
      by_cases c21 : a2 < 0
      ·rw [if_pos c21] at H
       have c21b0 : decide (a2 < 0) = true := decide_eq_true c21
       clear c21
       obtain rfl := Option.some.inj H
       simp only [Option.some.injEq, Prod.mk.injEq] at H
       obtain ⟨rfl⟩ := H
       go_wp2
       go_ret
       exact ⟨by first | rfl | (simp [errW_none, errW_some] <;> rfl) | (simp [*, errW_none, errW_some] <;> rfl), by repeat (first | (with_reducible first | exact HB.out | apply below_alloc | apply pw_below_drewN | apply below_drew1 | refine below_set ?_ GE104.out) | exact HB.out)⟩
      ·rw [if_neg c21] at H
       have c21b0 : decide (a2 < 0) = false := decide_eq_false c21
       clear c21
       by_cases c22 : a2 > 1000000
       ·rw [if_pos c22] at H
        have c22b0 : decide (1000000 < a2) = true := decide_eq_true c22
        clear c22
        obtain rfl := Option.some.inj H
        simp only [Option.some.injEq, Prod.mk.injEq] at H
        obtain ⟨rfl⟩ := H
        go_wp2
        go_ret
        exact ⟨by first | rfl | (simp [errW_none, errW_some] <;> rfl) | (simp [*, errW_none, errW_some] <;> rfl), by repeat (first | (with_reducible first | exact HB.out | apply below_alloc | apply pw_below_drewN | apply below_drew1 | refine below_set ?_ GE104.out) | exact HB.out)⟩
       ·rw [if_neg c22] at H
        have c22b0 : decide (1000000 < a2) = false := decide_eq_false c22
        clear c22
        replace H := Option.bind_eq_some_iff.mp H
        obtain ⟨⟨t108, t109⟩, A230, H⟩ := H
        replace H : (if t109 = 0 then (some (decide (t108 ≥ t106))) else (some true)) = some r := H
        have A23 := Aside0.mk A230
        clear A230
        by_cases c24 : t109 = 0
        ·rw [if_pos c24] at H
         have c24b0 : (t109 == 0) = true := beq_iff_eq.mpr c24
         have c24b1 : (t109 != 0) = false := bne_eq_false_iff_eq.mpr c24
         clear c24
         obtain rfl := Option.some.inj H
         simp only [Option.some.injEq, Prod.mk.injEq] at H
         obtain ⟨rfl⟩ := H
         have hcz25_0 : wc.cell? ⟨gb104, 0, none⟩ = some (.int .i64 a0_0) := (blk_cell BK104.out 0).trans rfl
         have hcz25_1 : wc.cell? ⟨gb104, 1, none⟩ = some (.int .i64 a0_1) := (blk_cell BK104.out 1).trans rfl
         have hcz25_2 : wc.cell? ⟨gb104, 2, none⟩ = some (.int .i64 a0_2) := (blk_cell BK104.out 2).trans rfl
         have hcz25_3 : wc.cell? ⟨gb104, 3, none⟩ = some (.int .i64 a0_3) := (blk_cell BK104.out 3).trans rfl
         have hfz25_0 := blk_frozen BK104.out 0
         have hfz25_1 := blk_frozen BK104.out 1
         have hfz25_2 := blk_frozen BK104.out 2
         have hfz25_3 := blk_frozen BK104.out 3
         go_wp2_with (first | ((with_reducible refine gate_callee (f := 19) rfl ?_); refine goesL_ (some 73) rfl rfl Tryz.func19 (by kernel_rfl) rfl #[.agg #[.int .i64 a0_0, .int .i64 a0_1, .int .i64 a0_2, .int .i64 a0_3], .int .i64 (wrap64 (a1 + a2))] rfl (by (try simp only [List.map_toArray, List.map_cons, List.map_nil]); first | done | rfl | (simp only [List.length_drop, List.length_take]; rfl)) ?_; (with_reducible refine (slab_Count.calls a0_0 a0_1 a0_2 a0_3 (wrap64 (a1 + a2)) t108 t109 _ A23.out).mono ?_); rintro e w26 ⟨rfl, hb⟩; refine ⟨_, rfl, ?_⟩; have n0_ := Aside0.mk (blk_below (g := gb104) (o := .cells #[.int .i64 a0_0, .int .i64 a0_1, .int .i64 a0_2, .int .i64 a0_3] 47 (0, 0)) (by (with_reducible repeat (first | refine blk_drewN ?_ _ | refine blk_drew ?_ | refine blk_alloc ?_ _)); exact BK104.out) hb); have n1_ := Aside0.mk (below_step (by repeat (first | (with_reducible first | exact HB.out | apply below_alloc | apply pw_below_drewN | apply below_drew1 | refine below_set ?_ GE104.out) | exact HB.out)) hb); clear BK104; clear HB; have BK104 := n0_; have HB := n1_; clear n0_ n1_; (try clear hb); (try clear hb2); (try clear hk); (try clear hi)))
         go_ret
         exact ⟨by first | rfl | (simp [errW_none, errW_some] <;> rfl) | (simp [*, errW_none, errW_some] <;> rfl), by repeat (first | (with_reducible first | exact HB.out | apply below_alloc | apply pw_below_drewN | apply below_drew1 | refine below_set ?_ GE104.out) | exact HB.out)⟩
        ·rw [if_neg c24] at H
         have c24b0 : (t109 == 0) = false := beq_eq_false_iff_ne.mpr c24
         have c24b1 : (t109 != 0) = true := bne_iff_ne.mpr c24
         obtain rfl := Option.some.inj H
         simp only [Option.some.injEq, Prod.mk.injEq] at H
         obtain ⟨rfl⟩ := H
         have hcz27_0 : wc.cell? ⟨gb104, 0, none⟩ = some (.int .i64 a0_0) := (blk_cell BK104.out 0).trans rfl
         have hcz27_1 : wc.cell? ⟨gb104, 1, none⟩ = some (.int .i64 a0_1) := (blk_cell BK104.out 1).trans rfl
         have hcz27_2 : wc.cell? ⟨gb104, 2, none⟩ = some (.int .i64 a0_2) := (blk_cell BK104.out 2).trans rfl
         have hcz27_3 : wc.cell? ⟨gb104, 3, none⟩ = some (.int .i64 a0_3) := (blk_cell BK104.out 3).trans rfl
         have hfz27_0 := blk_frozen BK104.out 0
         have hfz27_1 := blk_frozen BK104.out 1
         have hfz27_2 := blk_frozen BK104.out 2
         have hfz27_3 := blk_frozen BK104.out 3
         go_wp2_with (first | ((with_reducible refine gate_callee (f := 19) rfl ?_); refine goesL_ (some 73) rfl rfl Tryz.func19 (by kernel_rfl) rfl #[.agg #[.int .i64 a0_0, .int .i64 a0_1, .int .i64 a0_2, .int .i64 a0_3], .int .i64 (wrap64 (a1 + a2))] rfl (by (try simp only [List.map_toArray, List.map_cons, List.map_nil]); first | done | rfl | (simp only [List.length_drop, List.length_take]; rfl)) ?_; (with_reducible refine (slab_Count.calls a0_0 a0_1 a0_2 a0_3 (wrap64 (a1 + a2)) t108 t109 _ A23.out).mono ?_); rintro e w28 ⟨rfl, hb⟩; refine ⟨_, rfl, ?_⟩; have n0_ := Aside0.mk (blk_below (g := gb104) (o := .cells #[.int .i64 a0_0, .int .i64 a0_1, .int .i64 a0_2, .int .i64 a0_3] 47 (0, 0)) (by (with_reducible repeat (first | refine blk_drewN ?_ _ | refine blk_drew ?_ | refine blk_alloc ?_ _)); exact BK104.out) hb); have n1_ := Aside0.mk (below_step (by repeat (first | (with_reducible first | exact HB.out | apply below_alloc | apply pw_below_drewN | apply below_drew1 | refine below_set ?_ GE104.out) | exact HB.out)) hb); clear BK104; clear HB; have BK104 := n0_; have HB := n1_; clear n0_ n1_; (try clear hb); (try clear hb2); (try clear hk); (try clear hi)))
         go_ret
         exact ⟨by first | rfl | (simp [errW_none, errW_some] <;> rfl) | (simp [*, errW_none, errW_some] <;> rfl), by repeat (first | (with_reducible first | exact HB.out | apply below_alloc | apply pw_below_drewN | apply below_drew1 | refine below_set ?_ GE104.out) | exact HB.out)⟩
  ·rw [if_neg c7] at H
   have c7b0 : (t107 == 0) = false := beq_eq_false_iff_ne.mpr c7
   have c7b1 : (t107 != 0) = true := bne_iff_ne.mpr c7
   obtain rfl := Option.some.inj H
   simp only [Option.some.injEq, Prod.mk.injEq] at H
   obtain ⟨rfl⟩ := H
   go_enter Tryz.func10, Tryz.ntmps10
   go_wp2_with (first | ((with_reducible refine gate_dst (N := 3) rfl ?_); refine box_event ?hg (N := 3) ?hd (cs := #[.int .i64 a0_0, .int .i64 a0_1, .int .i64 a0_2, .int .i64 a0_3]) (t := 47) ?hr ?_; (case hd => rfl); (case hg => rfl); (case hr => first | (go_simp; done) | (go_simp; rfl)); intro gb104 hg w29 hbox hb; have n0_ := Aside0.mk (below_step (by repeat (first | (with_reducible first | exact HB.out | apply below_alloc | apply pw_below_drewN | apply below_drew1) | exact HB.out)) hb); have n1_ := Aside0.mk (hbox); have n2_ := Aside0.mk ((by rw [hg]; exact (below_size (by repeat (first | (with_reducible first | exact HB.out | apply below_alloc | apply pw_below_drewN | apply below_drew1) | exact HB.out))) : w.heap.size ≤ gb104)); have n3_ := Aside0.mk ((by rw [hg]; exact (below_size (by repeat (first | (with_reducible first | exact HB.out | apply below_alloc | apply pw_below_drewN | apply below_drew1) | exact HB.out))) : w.heap.size ≤ gb104)); clear HB; have HB := n0_; have BK104 := n1_; have GW104 := n2_; have GE104 := n3_; clear n0_ n1_ n2_ n3_; clear hb hbox hg) | ((with_reducible refine gate_callee (f := 11) rfl ?_); refine goesL_ (some 11) rfl rfl Tryz.func11 (by kernel_rfl) rfl #[] rfl (by (try simp only [List.map_toArray, List.map_cons, List.map_nil]); first | done | rfl | (simp only [List.length_drop, List.length_take]; rfl)) ?_; (with_reducible refine (gangsawlaw30_awake.calls  true _ HLD.out (by repeat (first | (with_reducible first | exact HB.out | apply below_alloc | apply pw_below_drewN | apply below_drew1 | refine below_set ?_ GE104.out) | exact HB.out)) A4.out).mono ?_); rintro e w30 ⟨rfl, hb⟩; refine ⟨_, rfl, ?_⟩; have n0_ := Aside0.mk (blk_below (g := gb104) (o := .cells #[.int .i64 a0_0, .int .i64 a0_1, .int .i64 a0_2, .int .i64 a0_3] 47 (0, 0)) (by (with_reducible repeat (first | refine blk_drewN ?_ _ | refine blk_drew ?_ | refine blk_alloc ?_ _)); exact BK104.out) hb); have n1_ := Aside0.mk (below_step (by repeat (first | (with_reducible first | exact HB.out | apply below_alloc | apply pw_below_drewN | apply below_drew1 | refine below_set ?_ GE104.out) | exact HB.out)) hb); clear BK104; clear HB; have BK104 := n0_; have HB := n1_; clear n0_ n1_; (try clear hb); (try clear hb2); (try clear hk); (try clear hi); have hcz31_0 : w30.cell? ⟨gb104, 0, none⟩ = some (.int .i64 a0_0) := (blk_cell BK104.out 0).trans rfl; have hcz31_1 : w30.cell? ⟨gb104, 1, none⟩ = some (.int .i64 a0_1) := (blk_cell BK104.out 1).trans rfl; have hcz31_2 : w30.cell? ⟨gb104, 2, none⟩ = some (.int .i64 a0_2) := (blk_cell BK104.out 2).trans rfl; have hcz31_3 : w30.cell? ⟨gb104, 3, none⟩ = some (.int .i64 a0_3) := (blk_cell BK104.out 3).trans rfl; have hfz31_0 := blk_frozen BK104.out 0; have hfz31_1 := blk_frozen BK104.out 1; have hfz31_2 := blk_frozen BK104.out 2; have hfz31_3 := blk_frozen BK104.out 3) | ((with_reducible refine gate_callee (f := 19) rfl ?_); refine goesL_ (some 16) rfl rfl Tryz.func19 (by kernel_rfl) rfl #[.agg #[.int .i64 a0_0, .int .i64 a0_1, .int .i64 a0_2, .int .i64 a0_3], .int .i64 a1] rfl (by (try simp only [List.map_toArray, List.map_cons, List.map_nil]); first | done | rfl | (simp only [List.length_drop, List.length_take]; rfl)) ?_; (with_reducible refine (slab_Count.calls a0_0 a0_1 a0_2 a0_3 a1 t106 t107 _ A6.out).mono ?_); rintro e w32 ⟨rfl, hb⟩; refine ⟨_, rfl, ?_⟩; have n0_ := Aside0.mk (blk_below (g := gb104) (o := .cells #[.int .i64 a0_0, .int .i64 a0_1, .int .i64 a0_2, .int .i64 a0_3] 47 (0, 0)) (by (with_reducible repeat (first | refine blk_drewN ?_ _ | refine blk_drew ?_ | refine blk_alloc ?_ _)); exact BK104.out) hb); have n1_ := Aside0.mk (below_step (by repeat (first | (with_reducible first | exact HB.out | apply below_alloc | apply pw_below_drewN | apply below_drew1 | refine below_set ?_ GE104.out) | exact HB.out)) hb); clear BK104; clear HB; have BK104 := n0_; have HB := n1_; clear n0_ n1_; (try clear hb); (try clear hb2); (try clear hk); (try clear hi)))
   go_ret
   exact ⟨by first | rfl | (simp [errW_none, errW_some] <;> rfl) | (simp [*, errW_none, errW_some] <;> rfl), by repeat (first | (with_reducible first | exact HB.out | apply below_alloc | apply pw_below_drewN | apply below_drew1 | refine below_set ?_ GE104.out) | exact HB.out)⟩
 ·replace c5 := Bool.eq_false_iff.mpr c5
  subst c5
  have H1 : (some false) = some r := by rw [if_neg (show ¬ (false = true) by decide)] at H; exact H
  clear H
  have H := H1
  clear H1
  obtain rfl := Option.some.inj H
  exact absurd hr (by decide)

end Go.Proofs.YtnaahepnabmibaaGreatDoor.P
