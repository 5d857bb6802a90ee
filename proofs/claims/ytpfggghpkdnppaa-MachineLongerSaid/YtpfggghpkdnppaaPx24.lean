/- What functions of the program return: each contract says so of one function, for every input at which its pure function yields. -/
import Derived.Test.YtpfggghpkdnppaaPx0
import Derived.Test.YtpfggghpkdnppaaPx1
import Derived.Test.YtpfggghpkdnppaaSort
namespace Go.Proofs.Ytpfggghpkdnppaa.P
open Go.RowKit Go.Proofs.YtpfggghpkdnppaaW.PrintWords Go.Proofs.YtpfggghpkdnppaaW.PrintLast Go.Proofs.YtpfggghpkdnppaaW.PrintMore
attribute [local go_sem] max2_int min2_int max_two min_two max_three min_three max_four min_four   -- for this text's walks alone
set_option linter.unusedVariables false
set_option linter.unusedSimpArgs false

open Go.Proofs.Ytpfggghpkdnppaa.Sort
mutual
def machine_Works.l0 : Nat → List (S34) → List ByteArray → List (S47) → Int → Int → Option (List ByteArray)
 | 0, _, _, _, _, _ => none
 | k + 1, x0, x5, x10, x11, x12 => if x12 < x11 then (if 0 ≤ x12 then (if x12 < (x10.length : Int) then (machine_Works.l1 k x0 x5 x10 x11 x12 ((rd_T47 x10 x12).f1) (((rd_T47 x10 x12).f1).length : Int) 0) else (none)) else (none)) else ((slices_Sort_string.f x5).bind fun t466 => ((slices_Compact_string.f t466).bind fun t467 => (some t467)))
def machine_Works.l1 : Nat → List (S34) → List ByteArray → List (S47) → Int → Int → List (S36) → Int → Int → Option (List ByteArray)
 | 0, _, _, _, _, _, _, _, _ => none
 | k + 1, x0, x5, x10, x11, x12, x17, x18, x19 => if x19 < x18 then (if 0 ≤ x19 then (if x19 < (x17.length : Int) then ((machine_can_N.f x0 ((rd_T36 x17 x19).f0)).bind fun t474 => (if (t474.length : Int) = 0 then (if x5.length < 8796093022208 then (machine_Works.l1 k x0 (x5 ++ [(rd_T36 x17 x19).f0]) x10 x11 x12 x17 x18 (wrap64 (x19 + 1))) else (none)) else (machine_Works.l1 k x0 x5 x10 x11 x12 x17 x18 (wrap64 (x19 + 1))))) else (none)) else (none)) else (machine_Works.l0 k x0 x5 x10 x11 (wrap64 (x12 + 1)))
end
def machine_Works.f (k : Nat) (l0 : List (S34)) (l1 : List (S47)) : Option (List ByteArray) := machine_Works.l0 k l0 ([] : List ByteArray) l1 (l1.length : Int) 0
set_option maxHeartbeats 8000000 in
set_option maxRecDepth 100000 in
theorem machine_Works.calls (k : Nat) (A0 : Option Addr) (c0 : Nat) (l0 : List (S34)) (A1 : Option Addr) (c1 : Nat) (l1 : List (S47)) (r : List ByteArray) (w : World) (hr0 : Kd.C k34 w A0 l0.length l0) (hc0 : l0.length ≤ c0) (hr1 : Kd.C k47 w A1 l1.length l1) (hc1 : l1.length ≤ c1) (h : machine_Works.f k l0 l1 = some r) :
  Calls Try.prog 26 #[.slice A0 l0.length c0, .slice A1 l1.length c1] w fun e w' => ∃ v0_ : Value, e = .returned (v0_) ∧ Kd.R Kd.string 9 w' w.heap.size (fun _ => True) v0_ r ∧ Below w.heap.size w w' := by
 have hu47 := Try.underlying47
 have hu36 := Try.underlying36
 have HR0 := Aside0.mk hr0
 have HC0 := Aside0.mk hc0
 clear hr0 hc0
 have HR1 := Aside0.mk hr1
 have HC1 := Aside0.mk hc1
 clear hr1 hc1
 have HB := Aside0.mk (Below.refl w.heap.size w)
 have H : (machine_Works.l0 k l0 ([] : List ByteArray) l1 (l1.length : Int) 0) = some r := h
 clear h
 have H' := Aside0.mk H
 clear H
 go_enter Try.func26, Try.ntmps26
 go_wp2
 go_loopg [5, 12] k (fun kq v5 v12 w' => ∃ (x5_1 : List ByteArray) (x12_1 : Int), v12 = .int .i64 x12_1 ∧ Aside0 (machine_Works.l0 kq l0 x5_1 l1 (l1.length : Int) x12_1 = some r) ∧ Aside0 (kq ≤ k) ∧ Aside0 (Kd.R Kd.string 9 w' w.heap.size (fun _ => True) v5 x5_1) ∧ Aside0 (Below w.heap.size w w'))
 case atStart => exact ⟨(([] : List ByteArray)), (0), (by first | rfl | (simp; done) | (simp [*]; done)), H', ⟨Nat.le_refl _⟩, ⟨by first | exact Kd.R_nil _ _ _ _ _ | exact Kd.N_nil _ _ _ _ _ | exact Kd.V_nil _ _ _ _ _ | exact Kd.Q_nil _ _ _ _ _ | exact Kd.S_nil _ _ _ _ _⟩, ⟨by repeat (first | (with_reducible first | exact HB.out | apply below_alloc | apply pw_below_drewN | apply below_drew1) | exact HB.out)⟩⟩
 case round =>
  clear H'
  try clear c1
  try clear c2
  try clear p2
  obtain ⟨x5_1, x12_1, rfl, HA, HK1, HO_5, HB⟩ := hrel
  cases gk with
  | zero => exact absurd HA.out (by simp [machine_Works.l0])
  | succ k1 =>
   have H := HA.out
   clear HA
   simp only [machine_Works.l0] at H
   by_cases c3 : x12_1 < (l1.length : Int)
   ·rw [if_pos c3] at H
    have c3b0 : decide (x12_1 < (l1.length : Int)) = true := decide_eq_true c3
    clear c3
    by_cases c4 : 0 ≤ x12_1
    ·rw [if_pos c4] at H
     have c4b0 : decide (0 ≤ x12_1) = true := decide_eq_true c4
     clear c4
     by_cases c5 : x12_1 < (l1.length : Int)
     ·rw [if_pos c5] at H
      have c5b0 : decide (x12_1 < (l1.length : Int)) = true := decide_eq_true c5
      clear c5
      have H' := Aside0.mk H
      clear H
      have p470 : 0 ≤ (x12_1 : Int) := of_decide_eq_true (by first | (with_reducible assumption) | assumption)
      have q470 : x12_1 < (l1.length : Int) := of_decide_eq_true (by first | (with_reducible assumption) | assumption)
      obtain ⟨ad470, A470_1, c470_1, e470, hx470_0, hx470_1, hx470_2, hx470_3, hx470_4, hl470_1, hi470_1⟩ := at_T47 HR1.out x12_1 p470 q470
      cases e470
      replace hx470_0 := (HB.out.cell (World.block_lt_of_cell? w _ hx470_0)).trans hx470_0
      replace hx470_1 := (HB.out.cell (World.block_lt_of_cell? w _ hx470_1)).trans hx470_1
      replace hx470_2 := (HB.out.cell (World.block_lt_of_cell? w _ hx470_2)).trans hx470_2
      replace hx470_3 := (HB.out.cell (World.block_lt_of_cell? w _ hx470_3)).trans hx470_3
      replace hx470_4 := (HB.out.cell (World.block_lt_of_cell? w _ hx470_4)).trans hx470_4
      have HR470_1 := Aside0.mk hi470_1
      have HC470_1 := Aside0.mk hl470_1
      clear hi470_1 hl470_1
      replace p470 := eq_true p470
      replace q470 := eq_true q470
      go_wp2_with (first | ((with_reducible refine gate_dst (N := 7) rfl ?_); refine box_event ?hg (N := 7) ?hd (cs := #[.string (⟨#[]⟩ : ByteArray), .slice none 0 0, .int .i64 0, .int .i64 0, .int .i64 0]) (t := 47) ?hr ?_; (case hd => rfl); (case hg => rfl); (case hr => first | (go_simp; done) | (go_simp; rfl)); intro gb471 hg w6 hbox hb; have n0_ := Aside0.mk (Kd.R_below (by (with_reducible repeat (first | apply Kd.R_alloc | apply Kd.R_drewN | apply Kd.R_drew)); exact HO_5.out) hb); have n1_ := Aside0.mk (below_step (by repeat (first | (with_reducible first | exact HB.out | apply below_alloc | apply pw_below_drewN | apply below_drew1) | exact HB.out)) hb); have n2_ := Aside0.mk (hbox); have n3_ := Aside0.mk ((by rw [hg]; exact (below_size (by repeat (first | (with_reducible first | exact HB.out | apply below_alloc | apply pw_below_drewN | apply below_drew1) | exact HB.out))) : w.heap.size ≤ gb471)); have n4_ := Aside0.mk ((by rw [hg]; exact (below_size (by repeat (first | (with_reducible first | exact HB.out | apply below_alloc | apply pw_below_drewN | apply below_drew1) | exact HB.out))) : w.heap.size ≤ gb471)); clear HO_5; clear HB; have HO_5 := n0_; have HB := n1_; have BK471 := n2_; have GW471 := n3_; have GE471 := n4_; clear n0_ n1_ n2_ n3_ n4_; clear hb hbox hg; have hcz7_0 : w6.cell? ⟨gb471, 0, none⟩ = some (.string (⟨#[]⟩ : ByteArray)) := (blk_cell BK471.out 0).trans rfl; have hcz7_1 : w6.cell? ⟨gb471, 1, none⟩ = some (.slice none 0 0) := (blk_cell BK471.out 1).trans rfl; have hcz7_2 : w6.cell? ⟨gb471, 2, none⟩ = some (.int .i64 0) := (blk_cell BK471.out 2).trans rfl; have hcz7_3 : w6.cell? ⟨gb471, 3, none⟩ = some (.int .i64 0) := (blk_cell BK471.out 3).trans rfl; have hcz7_4 : w6.cell? ⟨gb471, 4, none⟩ = some (.int .i64 0) := (blk_cell BK471.out 4).trans rfl; have hfz7_0 := blk_frozen BK471.out 0; have hfz7_1 := blk_frozen BK471.out 1; have hfz7_2 := blk_frozen BK471.out 2; have hfz7_3 := blk_frozen BK471.out 3; have hfz7_4 := blk_frozen BK471.out 4))
      go_loopg [5, 19] k1 (fun kq v5 v19 w' => ∃ (x5_2 : List ByteArray) (x19_2 : Int), v19 = .int .i64 x19_2 ∧ Aside0 (machine_Works.l1 kq l0 x5_2 l1 (l1.length : Int) x12_1 ((rd_T47 l1 x12_1).f1) (((rd_T47 l1 x12_1).f1).length : Int) x19_2 = some r) ∧ Aside0 (kq ≤ k1) ∧ Aside0 (Kd.R Kd.string 9 w' w.heap.size (fun _ => True) v5 x5_2) ∧ Aside0 (w'.heap[gb471]? = some (.cells #[.string ((rd_T47 l1 x12_1).f0), (.slice A470_1 ((rd_T47 l1 x12_1).f1).length c470_1), .int .i64 ((rd_T47 l1 x12_1).f2), .int .i64 ((rd_T47 l1 x12_1).f3), .int .i64 ((rd_T47 l1 x12_1).f4)] 47 (0, 0))) ∧ Aside0 (Below w.heap.size w w'))
      case atStart => exact ⟨(x5_1), (0), (by first | rfl | (simp; done) | (simp [*]; done)), H', ⟨Nat.le_refl _⟩, ⟨by (with_reducible repeat (first | apply Kd.R_alloc | apply Kd.R_drewN | apply Kd.R_drew)); exact Kd.R_mono (Kd.R_far (p := ⟨gb471, 4, none⟩) (Kd.R_far (p := ⟨gb471, 3, none⟩) (Kd.R_far (p := ⟨gb471, 2, none⟩) (Kd.R_far (p := ⟨gb471, 1, none⟩) (Kd.R_far (p := ⟨gb471, 0, none⟩) (Kd.R_types HO_5.out BK471.out (by decide)) (fun _ hk => hk.2) (.string ((rd_T47 l1 x12_1).f0))) (fun _ hk => hk.2) (.slice A470_1 ((rd_T47 l1 x12_1).f1).length c470_1)) (fun _ hk => hk.2) (.int .i64 ((rd_T47 l1 x12_1).f2))) (fun _ hk => hk.2) (.int .i64 ((rd_T47 l1 x12_1).f3))) (fun _ hk => hk.2) (.int .i64 ((rd_T47 l1 x12_1).f4))) (fun _ hk => trivial)⟩, ⟨by (with_reducible repeat (first | refine blk_drewN ?_ _ | refine blk_drew ?_ | refine blk_alloc ?_ _)); refine blk_put (cs := #[.string ((rd_T47 l1 x12_1).f0), .slice A470_1 ((rd_T47 l1 x12_1).f1).length c470_1, .int .i64 ((rd_T47 l1 x12_1).f2), .int .i64 ((rd_T47 l1 x12_1).f3), .int .i64 0]) ?_ 4 _ rfl; (with_reducible repeat (first | refine blk_drewN ?_ _ | refine blk_drew ?_ | refine blk_alloc ?_ _)); refine blk_put (cs := #[.string ((rd_T47 l1 x12_1).f0), .slice A470_1 ((rd_T47 l1 x12_1).f1).length c470_1, .int .i64 ((rd_T47 l1 x12_1).f2), .int .i64 0, .int .i64 0]) ?_ 3 _ rfl; (with_reducible repeat (first | refine blk_drewN ?_ _ | refine blk_drew ?_ | refine blk_alloc ?_ _)); refine blk_put (cs := #[.string ((rd_T47 l1 x12_1).f0), .slice A470_1 ((rd_T47 l1 x12_1).f1).length c470_1, .int .i64 0, .int .i64 0, .int .i64 0]) ?_ 2 _ rfl; (with_reducible repeat (first | refine blk_drewN ?_ _ | refine blk_drew ?_ | refine blk_alloc ?_ _)); refine blk_put (cs := #[.string ((rd_T47 l1 x12_1).f0), .slice none 0 0, .int .i64 0, .int .i64 0, .int .i64 0]) ?_ 1 _ rfl; (with_reducible repeat (first | refine blk_drewN ?_ _ | refine blk_drew ?_ | refine blk_alloc ?_ _)); refine blk_put (cs := #[.string (⟨#[]⟩ : ByteArray), .slice none 0 0, .int .i64 0, .int .i64 0, .int .i64 0]) ?_ 0 _ rfl; (with_reducible repeat (first | refine blk_drewN ?_ _ | refine blk_drew ?_ | refine blk_alloc ?_ _)); exact BK471.out⟩, ⟨by repeat (first | (with_reducible first | exact HB.out | apply below_alloc | apply pw_below_drewN | apply below_drew1 | refine below_set ?_ GE471.out) | exact HB.out)⟩⟩
      case round =>
       clear H'
       try clear c1
       try clear c2
       try clear p2
       try clear c3
       try clear c3b0
       try clear c4
       try clear c4b0
       try clear p4
       try clear q4
       try clear hx4
       try clear c5
       try clear c5b0
       try clear hcz7_0
       try clear hcz7_1
       try clear hcz7_2
       try clear hcz7_3
       try clear hcz7_4
       try clear hfz7_0
       try clear hfz7_1
       try clear hfz7_2
       try clear hfz7_3
       try clear hfz7_4
       try clear hx470_0
       try clear hx470_1
       try clear hx470_2
       try clear hx470_3
       try clear hx470_4
       try clear p2
       try clear p470
       try clear q470
       obtain ⟨x5_2, x19_2, rfl, HA, HK2, HO_5, BK471, HB⟩ := hrel
       cases gk with
       | zero => exact absurd HA.out (by simp [machine_Works.l1])
       | succ k2 =>
        have H := HA.out
        clear HA
        simp only [machine_Works.l1] at H
        by_cases c8 : x19_2 < (((rd_T47 l1 x12_1).f1).length : Int)
        ·rw [if_pos c8] at H
         have c8b0 : decide (x19_2 < (((rd_T47 l1 x12_1).f1).length : Int)) = true := decide_eq_true c8
         clear c8
         by_cases c9 : 0 ≤ x19_2
         ·rw [if_pos c9] at H
          have c9b0 : decide (0 ≤ x19_2) = true := decide_eq_true c9
          clear c9
          by_cases c10 : x19_2 < (((rd_T47 l1 x12_1).f1).length : Int)
          ·rw [if_pos c10] at H
           have c10b0 : decide (x19_2 < (((rd_T47 l1 x12_1).f1).length : Int)) = true := decide_eq_true c10
           clear c10
           replace H := Option.bind_eq_some_iff.mp H
           obtain ⟨t474, A110, H⟩ := H
           replace H : (if (t474.length : Int) = 0 then (if x5_2.length < 8796093022208 then (machine_Works.l1 k2 l0 (x5_2 ++ [(rd_T36 ((rd_T47 l1 x12_1).f1) x19_2).f0]) l1 (l1.length : Int) x12_1 ((rd_T47 l1 x12_1).f1) (((rd_T47 l1 x12_1).f1).length : Int) (wrap64 (x19_2 + 1))) else (none)) else (machine_Works.l1 k2 l0 x5_2 l1 (l1.length : Int) x12_1 ((rd_T47 l1 x12_1).f1) (((rd_T47 l1 x12_1).f1).length : Int) (wrap64 (x19_2 + 1)))) = some r := H
           have A11 := Aside0.mk A110
           clear A110
           by_cases c12 : (t474.length : Int) = 0
           ·rw [if_pos c12] at H
            have c12b0 : ((t474.length : Int) == 0) = true := beq_iff_eq.mpr c12
            have c12b1 : ((t474.length : Int) != 0) = false := bne_eq_false_iff_eq.mpr c12
            clear c12
            by_cases c13 : x5_2.length < 8796093022208
            ·rw [if_pos c13] at H
             have LMc13 := Aside0.mk c13
             clear c13
             obtain ⟨y477, hy477⟩ : ∃ y_ : List ByteArray, y_ = (x5_2 ++ [(rd_T36 ((rd_T47 l1 x12_1).f1) x19_2).f0]) := ⟨_, rfl⟩
             replace H : (machine_Works.l1 k2 l0 y477 l1 (l1.length : Int) x12_1 ((rd_T47 l1 x12_1).f1) (((rd_T47 l1 x12_1).f1).length : Int) (wrap64 (x19_2 + 1))) = some r := by first | (rw [hy477]; with_reducible exact H) | (have H2_ := (Option.bind_some _ _).symm.trans H; rw [hy477]; with_reducible exact H2_) | (have H2_ := (Option.bind_some _ _).symm.trans H; with_reducible exact H2_) | with_reducible exact H | (rw [hy477]; exact H) | exact H
             have Ny477 := Aside0.mk hy477
             clear hy477
             have H' := Aside0.mk H
             clear H
             have p472 : 0 ≤ (x19_2 : Int) := of_decide_eq_true (by first | (with_reducible assumption) | assumption)
             have q472 : x19_2 < (((rd_T47 l1 x12_1).f1).length : Int) := of_decide_eq_true (by first | (with_reducible assumption) | assumption)
             obtain ⟨ad472, e472, hx472_0, hx472_1, hx472_2⟩ := at_T36 HR470_1.out x19_2 p472 q472
             cases e472
             replace hx472_0 := (HB.out.cell (World.block_lt_of_cell? w _ hx472_0)).trans hx472_0
             replace hx472_1 := (HB.out.cell (World.block_lt_of_cell? w _ hx472_1)).trans hx472_1
             replace hx472_2 := (HB.out.cell (World.block_lt_of_cell? w _ hx472_2)).trans hx472_2
             replace p472 := eq_true p472
             replace q472 := eq_true q472
             go_wp2_with (first | ((with_reducible refine gate_dst (N := 9) rfl ?_); refine box_event ?hg (N := 9) ?hd (cs := #[.string (⟨#[]⟩ : ByteArray), .int .i64 0, .int .i64 0]) (t := 36) ?hr ?_; (case hd => rfl); (case hg => rfl); (case hr => first | (go_simp; done) | (go_simp; rfl)); intro gb473 hg w14 hbox hb; have n0_ := Aside0.mk (Kd.R_below (by (with_reducible repeat (first | apply Kd.R_alloc | apply Kd.R_drewN | apply Kd.R_drew)); exact HO_5.out) hb); have n1_ := Aside0.mk (blk_below (g := gb471) (o := .cells #[.string ((rd_T47 l1 x12_1).f0), .slice (some ad472) ((rd_T47 l1 x12_1).f1).length c470_1, .int .i64 ((rd_T47 l1 x12_1).f2), .int .i64 ((rd_T47 l1 x12_1).f3), .int .i64 ((rd_T47 l1 x12_1).f4)] 47 (0, 0)) (by (with_reducible repeat (first | refine blk_drewN ?_ _ | refine blk_drew ?_ | refine blk_alloc ?_ _)); exact BK471.out) hb); have n2_ := Aside0.mk (below_step (by repeat (first | (with_reducible first | exact HB.out | apply below_alloc | apply pw_below_drewN | apply below_drew1 | refine below_set ?_ GE471.out) | exact HB.out)) hb); have n3_ := Aside0.mk (hbox); have n4_ := Aside0.mk ((by rw [hg]; exact (below_size (by repeat (first | (with_reducible first | exact HB.out | apply below_alloc | apply pw_below_drewN | apply below_drew1 | refine below_set ?_ GE471.out) | exact HB.out))) : w.heap.size ≤ gb473)); have n5_ := Aside0.mk ((by rw [hg]; exact (below_size (by repeat (first | (with_reducible first | exact HB.out | apply below_alloc | apply pw_below_drewN | apply below_drew1 | refine below_set ?_ GE471.out) | exact HB.out))) : w.heap.size ≤ gb473)); have n6_ := Aside0.mk ((by rw [hg]; exact Nat.ne_of_lt (blk_lt (g := gb471) (o := .cells #[.string ((rd_T47 l1 x12_1).f0), .slice (some ad472) ((rd_T47 l1 x12_1).f1).length c470_1, .int .i64 ((rd_T47 l1 x12_1).f2), .int .i64 ((rd_T47 l1 x12_1).f3), .int .i64 ((rd_T47 l1 x12_1).f4)] 47 (0, 0)) (by (with_reducible repeat (first | refine blk_drewN ?_ _ | refine blk_drew ?_ | refine blk_alloc ?_ _)); exact BK471.out)) : gb471 ≠ gb473)); have n7_ := Aside0.mk ((by rw [hg]; exact Nat.ne_of_gt (blk_lt (g := gb471) (o := .cells #[.string ((rd_T47 l1 x12_1).f0), .slice (some ad472) ((rd_T47 l1 x12_1).f1).length c470_1, .int .i64 ((rd_T47 l1 x12_1).f2), .int .i64 ((rd_T47 l1 x12_1).f3), .int .i64 ((rd_T47 l1 x12_1).f4)] 47 (0, 0)) (by (with_reducible repeat (first | refine blk_drewN ?_ _ | refine blk_drew ?_ | refine blk_alloc ?_ _)); exact BK471.out)) : gb473 ≠ gb471)); clear HO_5; clear BK471; clear HB; have HO_5 := n0_; have BK471 := n1_; have HB := n2_; have BK473 := n3_; have GW473 := n4_; have GE473 := n5_; have NB471_473 := n6_; have NB473_471 := n7_; clear n0_ n1_ n2_ n3_ n4_ n5_ n6_ n7_; clear hb hbox hg; have hnb15 := NB473_471.out; have hnc15 := NB471_473.out; have hcz16_0 : w14.cell? ⟨gb473, 0, none⟩ = some (.string (⟨#[]⟩ : ByteArray)) := (blk_cell BK473.out 0).trans rfl; have hcz16_1 : w14.cell? ⟨gb473, 1, none⟩ = some (.int .i64 0) := (blk_cell BK473.out 1).trans rfl; have hcz16_2 : w14.cell? ⟨gb473, 2, none⟩ = some (.int .i64 0) := (blk_cell BK473.out 2).trans rfl; have hfz16_0 := blk_frozen BK473.out 0; have hfz16_1 := blk_frozen BK473.out 1; have hfz16_2 := blk_frozen BK473.out 2) | ((with_reducible refine gate_callee (f := 29) rfl ?_); refine goesL_ (some 26) rfl rfl Try.func29 (by kernel_rfl) rfl #[.slice A0 l0.length c0, .string ((rd_T36 ((rd_T47 l1 x12_1).f1) x19_2).f0)] rfl (by (try simp only [List.map_toArray, List.map_cons, List.map_nil]); first | done | rfl | (simp only [List.length_drop, List.length_take]; rfl)) ?_; (with_reducible refine (machine_can_N.calls _ _ l0 ((rd_T36 ((rd_T47 l1 x12_1).f1) x19_2).f0) t474 _ ?side1 ?side2 A11.out).mono ?_); (case side1 => exact Kd.C_below HR0.out (by repeat (first | (with_reducible first | exact HB.out | apply below_alloc | apply pw_below_drewN | apply below_drew1 | refine below_set ?_ GE471.out | refine below_set ?_ GE473.out) | exact HB.out))); (case side2 => exact HC0.out); rintro e w17 ⟨v475, rfl, ho0, hb⟩; refine ⟨_, rfl, ?_⟩; have n0_ := Aside0.mk (Kd.R_below (by (with_reducible repeat (first | apply Kd.R_alloc | apply Kd.R_drewN | apply Kd.R_drew)); exact (Kd.R_mono (Kd.R_far (p := ⟨gb473, 2, none⟩) (Kd.R_far (p := ⟨gb473, 1, none⟩) (Kd.R_far (p := ⟨gb473, 0, none⟩) (Kd.R_types HO_5.out BK473.out (by decide)) (fun _ hk => hk.2) (.string ((rd_T36 ((rd_T47 l1 x12_1).f1) x19_2).f0))) (fun _ hk => hk.2) (.int .i64 ((rd_T36 ((rd_T47 l1 x12_1).f1) x19_2).f1))) (fun _ hk => hk.2) (.int .i64 ((rd_T36 ((rd_T47 l1 x12_1).f1) x19_2).f2))) (fun _ h_ => h_.1))) hb); have n1_ := Aside0.mk (Kd.R_lower ho0 (below_size (by repeat (first | (with_reducible first | exact HB.out | apply below_alloc | apply pw_below_drewN | apply below_drew1 | refine below_set ?_ GE471.out | refine below_set ?_ GE473.out) | exact HB.out)))); have n2_ := Aside0.mk (blk_below (g := gb471) (o := .cells #[.string ((rd_T47 l1 x12_1).f0), .slice (some ad472) ((rd_T47 l1 x12_1).f1).length c470_1, .int .i64 ((rd_T47 l1 x12_1).f2), .int .i64 ((rd_T47 l1 x12_1).f3), .int .i64 ((rd_T47 l1 x12_1).f4)] 47 (0, 0)) (by (with_reducible repeat (first | refine blk_drewN ?_ _ | refine blk_drew ?_ | refine blk_alloc ?_ _)); refine blk_far ?_ NB471_473.out _; (with_reducible repeat (first | refine blk_drewN ?_ _ | refine blk_drew ?_ | refine blk_alloc ?_ _)); refine blk_far ?_ NB471_473.out _; (with_reducible repeat (first | refine blk_drewN ?_ _ | refine blk_drew ?_ | refine blk_alloc ?_ _)); refine blk_far ?_ NB471_473.out _; (with_reducible repeat (first | refine blk_drewN ?_ _ | refine blk_drew ?_ | refine blk_alloc ?_ _)); exact BK471.out) hb); have n3_ := Aside0.mk (blk_below (g := gb473) (o := .cells #[.string ((rd_T36 ((rd_T47 l1 x12_1).f1) x19_2).f0), .int .i64 ((rd_T36 ((rd_T47 l1 x12_1).f1) x19_2).f1), .int .i64 ((rd_T36 ((rd_T47 l1 x12_1).f1) x19_2).f2)] 36 (0, 0)) (by (with_reducible repeat (first | refine blk_drewN ?_ _ | refine blk_drew ?_ | refine blk_alloc ?_ _)); refine blk_put (cs := #[.string ((rd_T36 ((rd_T47 l1 x12_1).f1) x19_2).f0), .int .i64 ((rd_T36 ((rd_T47 l1 x12_1).f1) x19_2).f1), .int .i64 0]) ?_ 2 _ rfl; (with_reducible repeat (first | refine blk_drewN ?_ _ | refine blk_drew ?_ | refine blk_alloc ?_ _)); refine blk_put (cs := #[.string ((rd_T36 ((rd_T47 l1 x12_1).f1) x19_2).f0), .int .i64 0, .int .i64 0]) ?_ 1 _ rfl; (with_reducible repeat (first | refine blk_drewN ?_ _ | refine blk_drew ?_ | refine blk_alloc ?_ _)); refine blk_put (cs := #[.string (⟨#[]⟩ : ByteArray), .int .i64 0, .int .i64 0]) ?_ 0 _ rfl; (with_reducible repeat (first | refine blk_drewN ?_ _ | refine blk_drew ?_ | refine blk_alloc ?_ _)); exact BK473.out) hb); have n4_ := Aside0.mk (below_step (by repeat (first | (with_reducible first | exact HB.out | apply below_alloc | apply pw_below_drewN | apply below_drew1 | refine below_set ?_ GE471.out | refine below_set ?_ GE473.out) | exact HB.out)) hb); clear HO_5; clear BK471; clear BK473; clear HB; have HO_5 := n0_; have HO476 := n1_; have BK471 := n2_; have BK473 := n3_; have HB := n4_; clear n0_ n1_ n2_ n3_ n4_; (try clear hb); (try clear hb2); (try clear hk); (try clear hi); (try clear ho0); obtain ⟨Ao18, co18, eo18⟩ := Kd.R_slice HO476.out; subst eo18; have hcz19_0 : w17.cell? ⟨gb473, 0, none⟩ = some (.string ((rd_T36 ((rd_T47 l1 x12_1).f1) x19_2).f0)) := (blk_cell BK473.out 0).trans rfl; have hcz19_1 : w17.cell? ⟨gb473, 1, none⟩ = some (.int .i64 ((rd_T36 ((rd_T47 l1 x12_1).f1) x19_2).f1)) := (blk_cell BK473.out 1).trans rfl; have hcz19_2 : w17.cell? ⟨gb473, 2, none⟩ = some (.int .i64 ((rd_T36 ((rd_T47 l1 x12_1).f1) x19_2).f2)) := (blk_cell BK473.out 2).trans rfl; have hfz19_0 := blk_frozen BK473.out 0; have hfz19_1 := blk_frozen BK473.out 1; have hfz19_2 := blk_frozen BK473.out 2) | ((with_reducible refine gate_builtin (b := .append) (xs := #[.tmp 29, .tmp 32]) rfl ?_); at_builtin; refine Kd.R_append Kd.string (w0 := w) w.heap.size rfl (.tmp 29) (.tmp 32) 52 9 (.string ⟨#[]⟩) 16 rfl Try.underlying52 info9 rfl (by decide) (by omega) u5 x5_2 ((rd_T36 ((rd_T47 l1 x12_1).f1) x19_2).f0) [.string ((rd_T36 ((rd_T47 l1 x12_1).f1) x19_2).f0)] (fun _ => True) (fun _ => False) rfl rfl ?aP (fun _ hk => hk.elim) ?aF ?aO ?aB ?aS ?aL ?_; (case aP => exact rfl); (case aB => exact (by repeat (first | (with_reducible first | exact HB.out | apply below_alloc | apply pw_below_drewN | apply below_drew1 | refine below_set ?_ GE471.out | refine below_set ?_ GE473.out) | exact HB.out))); (case aF => exact (fun _ _ => trivial)); (case aO => exact (by (with_reducible repeat (first | apply Kd.R_alloc | apply Kd.R_drewN | apply Kd.R_drew)); exact HO_5.out)); (case aS => exact (below_size (by repeat (first | (with_reducible first | exact HB.out | apply below_alloc | apply pw_below_drewN | apply below_drew1 | refine below_set ?_ GE471.out | refine below_set ?_ GE473.out) | exact HB.out)))); (case aL => have := LMc13.out; omega); intro v478 w20 ho hb hg hat; rw [← Ny477.out] at ho; have n0_ := Aside0.mk (blk_grown (g := gb471) (o := .cells #[.string ((rd_T47 l1 x12_1).f0), .slice (some ad472) ((rd_T47 l1 x12_1).f1).length c470_1, .int .i64 ((rd_T47 l1 x12_1).f2), .int .i64 ((rd_T47 l1 x12_1).f3), .int .i64 ((rd_T47 l1 x12_1).f4)] 47 (0, 0)) (by (with_reducible repeat (first | refine blk_drewN ?_ _ | refine blk_drew ?_ | refine blk_alloc ?_ _)); exact BK471.out) hg (Kd.R_ne HO_5.out BK471.out (by decide))); have n1_ := Aside0.mk (blk_grown (g := gb473) (o := .cells #[.string ((rd_T36 ((rd_T47 l1 x12_1).f1) x19_2).f0), .int .i64 ((rd_T36 ((rd_T47 l1 x12_1).f1) x19_2).f1), .int .i64 ((rd_T36 ((rd_T47 l1 x12_1).f1) x19_2).f2)] 36 (0, 0)) (by (with_reducible repeat (first | refine blk_drewN ?_ _ | refine blk_drew ?_ | refine blk_alloc ?_ _)); exact BK473.out) hg (Kd.R_ne HO_5.out BK473.out (by decide))); have n2_ := Aside0.mk (Kd.R_over' (by (with_reducible repeat (first | apply Kd.R_alloc | apply Kd.R_drewN | apply Kd.R_drew)); exact HO476.out) (Kd.R_typed (by (with_reducible repeat (first | apply Kd.R_alloc | apply Kd.R_drewN | apply Kd.R_drew)); exact HO_5.out)) (by decide) hg); have n3_ := Aside0.mk (hb); have n4_ := Aside0.mk (ho); clear BK471; clear BK473; clear HO476; clear HB; clear HO_5; have BK471 := n0_; have BK473 := n1_; have HO476 := n2_; have HB := n3_; have HO479 := n4_; clear n0_ n1_ n2_ n3_ n4_; clear ho hb hg hat))
             go_roundg k2
             case measure => have := HK1.out; have := HK2.out; omega
             case rel => exact ⟨(y477), (wrap64 (x19_2 + 1)), (by first | rfl | (simp; done) | (simp [*]; done)), H', ⟨by have := HK1.out; have := HK2.out; omega⟩, ⟨by (with_reducible repeat (first | apply Kd.R_alloc | apply Kd.R_drewN | apply Kd.R_drew)); exact HO479.out⟩, ⟨by (with_reducible repeat (first | refine blk_drewN ?_ _ | refine blk_drew ?_ | refine blk_alloc ?_ _)); exact BK471.out⟩, ⟨by repeat (first | (with_reducible first | exact HB.out | apply below_alloc | apply pw_below_drewN | apply below_drew1 | refine below_set ?_ GE471.out | refine below_set ?_ GE473.out) | exact HB.out)⟩⟩
            ·rw [if_neg c13] at H
             exact absurd H (by simp)
           ·rw [if_neg c12] at H
            have c12b0 : ((t474.length : Int) == 0) = false := beq_eq_false_iff_ne.mpr c12
            have c12b1 : ((t474.length : Int) != 0) = true := bne_iff_ne.mpr c12
            have c12b2 : ¬ (t474 = []) := fun h_ => c12 (by rw [h_]; rfl)
            have H' := Aside0.mk H
            clear H
            have p472 : 0 ≤ (x19_2 : Int) := of_decide_eq_true (by first | (with_reducible assumption) | assumption)
            have q472 : x19_2 < (((rd_T47 l1 x12_1).f1).length : Int) := of_decide_eq_true (by first | (with_reducible assumption) | assumption)
            obtain ⟨ad472, e472, hx472_0, hx472_1, hx472_2⟩ := at_T36 HR470_1.out x19_2 p472 q472
            cases e472
            replace hx472_0 := (HB.out.cell (World.block_lt_of_cell? w _ hx472_0)).trans hx472_0
            replace hx472_1 := (HB.out.cell (World.block_lt_of_cell? w _ hx472_1)).trans hx472_1
            replace hx472_2 := (HB.out.cell (World.block_lt_of_cell? w _ hx472_2)).trans hx472_2
            replace p472 := eq_true p472
            replace q472 := eq_true q472
            go_wp2_with (first | ((with_reducible refine gate_dst (N := 9) rfl ?_); refine box_event ?hg (N := 9) ?hd (cs := #[.string (⟨#[]⟩ : ByteArray), .int .i64 0, .int .i64 0]) (t := 36) ?hr ?_; (case hd => rfl); (case hg => rfl); (case hr => first | (go_simp; done) | (go_simp; rfl)); intro gb473 hg w21 hbox hb; have n0_ := Aside0.mk (Kd.R_below (by (with_reducible repeat (first | apply Kd.R_alloc | apply Kd.R_drewN | apply Kd.R_drew)); exact HO_5.out) hb); have n1_ := Aside0.mk (blk_below (g := gb471) (o := .cells #[.string ((rd_T47 l1 x12_1).f0), .slice (some ad472) ((rd_T47 l1 x12_1).f1).length c470_1, .int .i64 ((rd_T47 l1 x12_1).f2), .int .i64 ((rd_T47 l1 x12_1).f3), .int .i64 ((rd_T47 l1 x12_1).f4)] 47 (0, 0)) (by (with_reducible repeat (first | refine blk_drewN ?_ _ | refine blk_drew ?_ | refine blk_alloc ?_ _)); exact BK471.out) hb); have n2_ := Aside0.mk (below_step (by repeat (first | (with_reducible first | exact HB.out | apply below_alloc | apply pw_below_drewN | apply below_drew1 | refine below_set ?_ GE471.out) | exact HB.out)) hb); have n3_ := Aside0.mk (hbox); have n4_ := Aside0.mk ((by rw [hg]; exact (below_size (by repeat (first | (with_reducible first | exact HB.out | apply below_alloc | apply pw_below_drewN | apply below_drew1 | refine below_set ?_ GE471.out) | exact HB.out))) : w.heap.size ≤ gb473)); have n5_ := Aside0.mk ((by rw [hg]; exact (below_size (by repeat (first | (with_reducible first | exact HB.out | apply below_alloc | apply pw_below_drewN | apply below_drew1 | refine below_set ?_ GE471.out) | exact HB.out))) : w.heap.size ≤ gb473)); have n6_ := Aside0.mk ((by rw [hg]; exact Nat.ne_of_lt (blk_lt (g := gb471) (o := .cells #[.string ((rd_T47 l1 x12_1).f0), .slice (some ad472) ((rd_T47 l1 x12_1).f1).length c470_1, .int .i64 ((rd_T47 l1 x12_1).f2), .int .i64 ((rd_T47 l1 x12_1).f3), .int .i64 ((rd_T47 l1 x12_1).f4)] 47 (0, 0)) (by (with_reducible repeat (first | refine blk_drewN ?_ _ | refine blk_drew ?_ | refine blk_alloc ?_ _)); exact BK471.out)) : gb471 ≠ gb473)); have n7_ := Aside0.mk ((by rw [hg]; exact Nat.ne_of_gt (blk_lt (g := gb471) (o := .cells #[.string ((rd_T47 l1 x12_1).f0), .slice (some ad472) ((rd_T47 l1 x12_1).f1).length c470_1, .int .i64 ((rd_T47 l1 x12_1).f2), .int .i64 ((rd_T47 l1 x12_1).f3), .int .i64 ((rd_T47 l1 x12_1).f4)] 47 (0, 0)) (by (with_reducible repeat (first | refine blk_drewN ?_ _ | refine blk_drew ?_ | refine blk_alloc ?_ _)); exact BK471.out)) : gb473 ≠ gb471)); clear HO_5; clear BK471; clear HB; have HO_5 := n0_; have BK471 := n1_; have HB := n2_; have BK473 := n3_; have GW473 := n4_; have GE473 := n5_; have NB471_473 := n6_; have NB473_471 := n7_; clear n0_ n1_ n2_ n3_ n4_ n5_ n6_ n7_; clear hb hbox hg; have hnb22 := NB473_471.out; have hnc22 := NB471_473.out; have hcz23_0 : w21.cell? ⟨gb473, 0, none⟩ = some (.string (⟨#[]⟩ : ByteArray)) := (blk_cell BK473.out 0).trans rfl; have hcz23_1 : w21.cell? ⟨gb473, 1, none⟩ = some (.int .i64 0) := (blk_cell BK473.out 1).trans rfl; have hcz23_2 : w21.cell? ⟨gb473, 2, none⟩ = some (.int .i64 0) := (blk_cell BK473.out 2).trans rfl; have hfz23_0 := blk_frozen BK473.out 0; have hfz23_1 := blk_frozen BK473.out 1; have hfz23_2 := blk_frozen BK473.out 2) | ((with_reducible refine gate_callee (f := 29) rfl ?_); refine goesL_ (some 26) rfl rfl Try.func29 (by kernel_rfl) rfl #[.slice A0 l0.length c0, .string ((rd_T36 ((rd_T47 l1 x12_1).f1) x19_2).f0)] rfl (by (try simp only [List.map_toArray, List.map_cons, List.map_nil]); first | done | rfl | (simp only [List.length_drop, List.length_take]; rfl)) ?_; (with_reducible refine (machine_can_N.calls _ _ l0 ((rd_T36 ((rd_T47 l1 x12_1).f1) x19_2).f0) t474 _ ?side1 ?side2 A11.out).mono ?_); (case side1 => exact Kd.C_below HR0.out (by repeat (first | (with_reducible first | exact HB.out | apply below_alloc | apply pw_below_drewN | apply below_drew1 | refine below_set ?_ GE471.out | refine below_set ?_ GE473.out) | exact HB.out))); (case side2 => exact HC0.out); rintro e w24 ⟨v475, rfl, ho0, hb⟩; refine ⟨_, rfl, ?_⟩; have n0_ := Aside0.mk (Kd.R_below (by (with_reducible repeat (first | apply Kd.R_alloc | apply Kd.R_drewN | apply Kd.R_drew)); exact (Kd.R_mono (Kd.R_far (p := ⟨gb473, 2, none⟩) (Kd.R_far (p := ⟨gb473, 1, none⟩) (Kd.R_far (p := ⟨gb473, 0, none⟩) (Kd.R_types HO_5.out BK473.out (by decide)) (fun _ hk => hk.2) (.string ((rd_T36 ((rd_T47 l1 x12_1).f1) x19_2).f0))) (fun _ hk => hk.2) (.int .i64 ((rd_T36 ((rd_T47 l1 x12_1).f1) x19_2).f1))) (fun _ hk => hk.2) (.int .i64 ((rd_T36 ((rd_T47 l1 x12_1).f1) x19_2).f2))) (fun _ h_ => h_.1))) hb); have n1_ := Aside0.mk (Kd.R_lower ho0 (below_size (by repeat (first | (with_reducible first | exact HB.out | apply below_alloc | apply pw_below_drewN | apply below_drew1 | refine below_set ?_ GE471.out | refine below_set ?_ GE473.out) | exact HB.out)))); have n2_ := Aside0.mk (blk_below (g := gb471) (o := .cells #[.string ((rd_T47 l1 x12_1).f0), .slice (some ad472) ((rd_T47 l1 x12_1).f1).length c470_1, .int .i64 ((rd_T47 l1 x12_1).f2), .int .i64 ((rd_T47 l1 x12_1).f3), .int .i64 ((rd_T47 l1 x12_1).f4)] 47 (0, 0)) (by (with_reducible repeat (first | refine blk_drewN ?_ _ | refine blk_drew ?_ | refine blk_alloc ?_ _)); refine blk_far ?_ NB471_473.out _; (with_reducible repeat (first | refine blk_drewN ?_ _ | refine blk_drew ?_ | refine blk_alloc ?_ _)); refine blk_far ?_ NB471_473.out _; (with_reducible repeat (first | refine blk_drewN ?_ _ | refine blk_drew ?_ | refine blk_alloc ?_ _)); refine blk_far ?_ NB471_473.out _; (with_reducible repeat (first | refine blk_drewN ?_ _ | refine blk_drew ?_ | refine blk_alloc ?_ _)); exact BK471.out) hb); have n3_ := Aside0.mk (blk_below (g := gb473) (o := .cells #[.string ((rd_T36 ((rd_T47 l1 x12_1).f1) x19_2).f0), .int .i64 ((rd_T36 ((rd_T47 l1 x12_1).f1) x19_2).f1), .int .i64 ((rd_T36 ((rd_T47 l1 x12_1).f1) x19_2).f2)] 36 (0, 0)) (by (with_reducible repeat (first | refine blk_drewN ?_ _ | refine blk_drew ?_ | refine blk_alloc ?_ _)); refine blk_put (cs := #[.string ((rd_T36 ((rd_T47 l1 x12_1).f1) x19_2).f0), .int .i64 ((rd_T36 ((rd_T47 l1 x12_1).f1) x19_2).f1), .int .i64 0]) ?_ 2 _ rfl; (with_reducible repeat (first | refine blk_drewN ?_ _ | refine blk_drew ?_ | refine blk_alloc ?_ _)); refine blk_put (cs := #[.string ((rd_T36 ((rd_T47 l1 x12_1).f1) x19_2).f0), .int .i64 0, .int .i64 0]) ?_ 1 _ rfl; (with_reducible repeat (first | refine blk_drewN ?_ _ | refine blk_drew ?_ | refine blk_alloc ?_ _)); refine blk_put (cs := #[.string (⟨#[]⟩ : ByteArray), .int .i64 0, .int .i64 0]) ?_ 0 _ rfl; (with_reducible repeat (first | refine blk_drewN ?_ _ | refine blk_drew ?_ | refine blk_alloc ?_ _)); exact BK473.out) hb); have n4_ := Aside0.mk (below_step (by repeat (first | (with_reducible first | exact HB.out | apply below_alloc | apply pw_below_drewN | apply below_drew1 | refine below_set ?_ GE471.out | refine below_set ?_ GE473.out) | exact HB.out)) hb); clear HO_5; clear BK471; clear BK473; clear HB; have HO_5 := n0_; have HO476 := n1_; have BK471 := n2_; have BK473 := n3_; have HB := n4_; clear n0_ n1_ n2_ n3_ n4_; (try clear hb); (try clear hb2); (try clear hk); (try clear hi); (try clear ho0); obtain ⟨Ao25, co25, eo25⟩ := Kd.R_slice HO476.out; subst eo25))
            go_roundg k2
            case measure => have := HK1.out; have := HK2.out; omega
            case rel => exact ⟨(x5_2), (wrap64 (x19_2 + 1)), (by first | rfl | (simp; done) | (simp [*]; done)), H', ⟨by have := HK1.out; have := HK2.out; omega⟩, ⟨by (with_reducible repeat (first | apply Kd.R_alloc | apply Kd.R_drewN | apply Kd.R_drew)); exact HO_5.out⟩, ⟨by (with_reducible repeat (first | refine blk_drewN ?_ _ | refine blk_drew ?_ | refine blk_alloc ?_ _)); exact BK471.out⟩, ⟨by repeat (first | (with_reducible first | exact HB.out | apply below_alloc | apply pw_below_drewN | apply below_drew1 | refine below_set ?_ GE471.out | refine below_set ?_ GE473.out) | exact HB.out)⟩⟩
          ·rw [if_neg c10] at H
           exact absurd H (by simp)
         ·rw [if_neg c9] at H
          exact absurd H (by simp)
        ·rw [if_neg c8] at H
         have c8b0 : decide (x19_2 < (((rd_T47 l1 x12_1).f1).length : Int)) = false := decide_eq_false c8
         clear c8
         have H' := Aside0.mk H
         clear H
         go_wp2
         go_roundg k2
         case measure => have := HK1.out; have := HK2.out; omega
         case rel => exact ⟨(x5_2), (wrap64 (x12_1 + 1)), (by first | rfl | (simp; done) | (simp [*]; done)), H', ⟨by have := HK1.out; have := HK2.out; omega⟩, ⟨by (with_reducible repeat (first | apply Kd.R_alloc | apply Kd.R_drewN | apply Kd.R_drew)); exact HO_5.out⟩, ⟨by repeat (first | (with_reducible first | exact HB.out | apply below_alloc | apply pw_below_drewN | apply below_drew1 | refine below_set ?_ GE471.out) | exact HB.out)⟩⟩
     ·rw [if_neg c5] at H
      exact absurd H (by simp)
    ·rw [if_neg c4] at H
     exact absurd H (by simp)
   ·rw [if_neg c3] at H
    have c3b0 : decide (x12_1 < (l1.length : Int)) = false := decide_eq_false c3
    clear c3
    replace H := Option.bind_eq_some_iff.mp H
    obtain ⟨t466, A260, H⟩ := H
    replace H : ((slices_Compact_string.f t466).bind fun t467 => (some t467)) = some r := H
    have A26 := Aside0.mk A260
    clear A260
    replace H := Option.bind_eq_some_iff.mp H
    obtain ⟨t467, A270, H⟩ := H
    replace H : (some t467) = some r := H
    have A27 := Aside0.mk A270
    clear A270
    obtain rfl := Option.some.inj H
    simp only [Option.some.injEq, Prod.mk.injEq] at H
    obtain ⟨rfl⟩ := H
    obtain ⟨Ao28, co28, eo28⟩ := Kd.R_slice HO_5.out
    subst eo28
    go_wp2_with (first | ((with_reducible refine gate_callee (f := 41) rfl ?_); refine goesL_ (some 37) rfl rfl Try.func41 (by kernel_rfl) rfl #[.slice Ao28 x5_1.length co28] rfl (by (try simp only [List.map_toArray, List.map_cons, List.map_nil]); first | done | rfl | (simp only [List.length_drop, List.length_take]; rfl)) ?_; (with_reducible refine (slices_Sort_string.calls (fun k_ => some k_ = (.slice Ao28 x5_1.length co28 : Value).ownBlock) (.slice Ao28 x5_1.length co28) x5_1 t466 w _ ?side1 ?side2 A26.out).mono ?_); (case side1 => repeat (first | (with_reducible first | exact HB.out | apply below_alloc | apply pw_below_drewN | apply below_drew1) | exact HB.out)); (case side2 => exact Kd.R_tight rfl HO_5.out); rintro e w29 ⟨rfl, hy0, hb, hkp⟩; refine ⟨_, rfl, ?_⟩; have n0_ := Aside0.mk (Kd.R_reok rfl hy0 (fun k_ e_ => HO_5.out.1 k_ e_)); have n1_ := Aside0.mk (hb); clear HO_5; clear HB; have HO_5 := n0_; have HB := n1_; clear n0_ n1_; (try clear hb); (try clear hkp); (try clear hy0)) | ((with_reducible refine gate_callee (f := 42) rfl ?_); refine goesL_ (some 39) rfl rfl Try.func42 (by kernel_rfl) rfl #[.slice Ao28 x5_1.length co28] rfl (by (try simp only [List.map_toArray, List.map_cons, List.map_nil]); first | done | rfl | (simp only [List.length_drop, List.length_take]; rfl)) ?_; (with_reducible refine (slices_Compact_string.calls (fun k_ => some k_ = (.slice Ao28 x5_1.length co28 : Value).ownBlock) (.slice Ao28 x5_1.length co28) t466 t467 w _ ?side1 ?side2 A27.out).mono ?_); (case side1 => repeat (first | (with_reducible first | exact HB.out | apply below_alloc | apply pw_below_drewN | apply below_drew1) | exact HB.out)); (case side2 => exact Kd.R_tight rfl HO_5.out); rintro e w30 ⟨v468, rfl, ho0, hb, hkp⟩; refine ⟨_, rfl, ?_⟩; have n0_ := Aside0.mk (Kd.R_mono (ok' := fun k_ => True) ho0 (fun k_ hk_ => trivial)); have n1_ := Aside0.mk (hb); clear HB; clear HO_5; have HO469 := n0_; have HB := n1_; clear n0_ n1_; (try clear hb); (try clear hkp); (try clear ho0)))
    go_ret
    exact ⟨_, by first | rfl | (simp [errW_none, errW_some] <;> rfl) | (simp [*, errW_none, errW_some] <;> rfl), by (with_reducible repeat (first | apply Kd.R_alloc | apply Kd.R_drewN | apply Kd.R_drew)); exact HO469.out, by repeat (first | (with_reducible first | exact HB.out | apply below_alloc | apply pw_below_drewN | apply below_drew1) | exact HB.out)⟩

end Go.Proofs.Ytpfggghpkdnppaa.P
