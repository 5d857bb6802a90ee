/- What functions of the program return: each contract says so of one function, for every input at which its pure function yields. -/
import Derived.Test.YtankffbfocaibaaDoorPx0
import Derived.Test.YtankffbfocaibaaDoorPx2
import Derived.Test.YtankffbfocaibaaDoorPx11
namespace Go.Proofs.YtankffbfocaibaaDoor.P
open Go.RowKit Go.Proofs.YtankffbfocaibaaDoorW.PrintWords Go.Proofs.YtankffbfocaibaaDoorW.PrintLast Go.Proofs.YtankffbfocaibaaDoorW.PrintMore
attribute [local go_sem] max2_int min2_int max_two min_two max_three min_three max_four min_four   -- for this text's walks alone
set_option linter.unusedVariables false
set_option linter.unusedSimpArgs false

def grade_Fails.l0 : Nat → List Int → List (S46) → Int → Int → ByteArray → Int → Int → Int → Option (List Int × Int)
 | 0, _, _, _, _, _, _, _, _ => none
 | k + 1, x7, x16, x17, x18, x209000, x209001, x209002, x209003 => if x18 < x17 then (if 0 ≤ x18 then (if x18 < (x16.length : Int) then ((grade_weak.f x209000 x209001 x209002 x209003 ((rd_T46 x16 x18).f0) ((rd_T46 x16 x18).f1) ((rd_T46 x16 x18).f2)).bind fun t212 => (if t212 = true then (if x7.length < 17592186044416 then (grade_Fails.l0 k (x7 ++ [x18]) x16 x17 (wrap64 (x18 + 1)) x209000 x209001 x209002 x209003) else (none)) else ((grade_wet.f x209000 x209001 x209002 x209003 ((rd_T46 x16 x18).f0) ((rd_T46 x16 x18).f1) ((rd_T46 x16 x18).f2)).bind fun t216 => (if t216 = true then (if x7.length < 17592186044416 then (grade_Fails.l0 k (x7 ++ [x18]) x16 x17 (wrap64 (x18 + 1)) x209000 x209001 x209002 x209003) else (none)) else (grade_Fails.l0 k x7 x16 x17 (wrap64 (x18 + 1)) x209000 x209001 x209002 x209003))))) else (none)) else (none)) else (some (x7, 0))
def grade_Fails.f (k : Nat) (a0_0 : ByteArray) (a0_1 : Int) (a0_2 : Int) (a0_3 : Int) (l1 : List (S46)) : Option (List Int × Int) := (grade_both.f k a0_0 a0_1 a0_2 a0_3 l1).bind fun t209 => (if t209 = 0 then (grade_Fails.l0 k ([] : List Int) l1 (l1.length : Int) 0 a0_0 a0_1 a0_2 a0_3) else (some (([] : List Int), t209)))
theorem grade_Fails.mono_l : ∀ k, (∀ y0 y1 y2 y3 y4 y5 y6 y7, LeO (grade_Fails.l0 k y0 y1 y2 y3 y4 y5 y6 y7) (grade_Fails.l0 (k + 1) y0 y1 y2 y3 y4 y5 y6 y7))
 | 0 => fun _ _ _ _ _ _ _ _ r h => by simp [grade_Fails.l0] at h
 | k + 1 => by
  have ih0 := grade_Fails.mono_l k
  ·intro y0 y1 y2 y3 y4 y5 y6 y7
   unfold grade_Fails.l0
   repeat' first
   | (with_reducible exact ih0 _ _ _ _ _ _ _ _)
   | (with_reducible exact grade_both.mono _ _ _ _ _ _)
   | (with_reducible refine contains32.mono2 (fun x_ => ?_))
   | (with_reducible refine contains46.mono2 (fun x_ => ?_))
   | (with_reducible refine index32.mono2 (fun x_ => ?_))
   | (with_reducible refine index46.mono2 (fun x_ => ?_))
   | (with_reducible exact LeO.refl _)
   | (with_reducible exact LeO.none _)
   | (with_reducible refine LeO.ite ?_ ?_)
   | (with_reducible refine LeO.bind ?_ (fun _ => ?_))
   | exact ih0 _ _ _ _ _ _ _ _
   | exact grade_both.mono _ _ _ _ _ _
   | exact LeO.none _
   | refine LeO.ite ?_ ?_
   | refine LeO.bind ?_ (fun _ => ?_)
theorem grade_Fails.mono : ∀ a0 a1 a2 a3 a4 k, LeO (grade_Fails.f k a0 a1 a2 a3 a4) (grade_Fails.f (k + 1) a0 a1 a2 a3 a4) := by
 intro a0 a1 a2 a3 a4 k
 have ih0 := grade_Fails.mono_l k
 unfold grade_Fails.f
 repeat' first
   | (with_reducible exact ih0 _ _ _ _ _ _ _ _)
   | (with_reducible exact grade_both.mono _ _ _ _ _ _)
   | (with_reducible refine contains32.mono2 (fun x_ => ?_))
   | (with_reducible refine contains46.mono2 (fun x_ => ?_))
   | (with_reducible refine index32.mono2 (fun x_ => ?_))
   | (with_reducible refine index46.mono2 (fun x_ => ?_))
   | (with_reducible exact LeO.refl _)
   | (with_reducible exact LeO.none _)
   | (with_reducible refine LeO.ite ?_ ?_)
   | (with_reducible refine LeO.bind ?_ (fun _ => ?_))
   | exact ih0 _ _ _ _ _ _ _ _
   | exact grade_both.mono _ _ _ _ _ _
   | exact LeO.none _
   | refine LeO.ite ?_ ?_
   | refine LeO.bind ?_ (fun _ => ?_)
set_option maxHeartbeats 8000000 in
set_option maxRecDepth 100000 in
theorem grade_Fails.calls (k : Nat) (a0_0 : ByteArray) (a0_1 : Int) (a0_2 : Int) (a0_3 : Int) (A1 : Option Addr) (c1 : Nat) (l1 : List (S46)) (r1 : List Int) (r2 : Int) (w : World) (hr1 : Kd.C k46 w A1 l1.length l1) (hc1 : l1.length ≤ c1) (h : grade_Fails.f k a0_0 a0_1 a0_2 a0_3 l1 = some (r1, r2)) :
  Calls Tryd.prog 16 #[.agg #[.string a0_0, .int .i64 a0_1, .int .i64 a0_2, .int .i64 a0_3], .slice A1 l1.length c1] w fun e w' => ∃ v0_ : Value, e = .returned (.tuple #[v0_, .int .i64 r2]) ∧ Kd.R (Kd.int .i64) 3 w' w.heap.size (fun _ => True) v0_ r1 ∧ Below w.heap.size w w' := by
 have hu32 := Tryd.underlying32
 have hu46 := Tryd.underlying46
 have HR1 := Aside0.mk hr1
 have HC1 := Aside0.mk hc1
 clear hr1 hc1
 have HB := Aside0.mk (Below.refl w.heap.size w)
 have H : ((grade_both.f k a0_0 a0_1 a0_2 a0_3 l1).bind fun t209 => (if t209 = 0 then (grade_Fails.l0 k ([] : List Int) l1 (l1.length : Int) 0 a0_0 a0_1 a0_2 a0_3) else (some (([] : List Int), t209)))) = some (r1, r2) := h
 clear h
 replace H := Option.bind_eq_some_iff.mp H
 obtain ⟨t209, A30, H⟩ := H
 replace H : (if t209 = 0 then (grade_Fails.l0 k ([] : List Int) l1 (l1.length : Int) 0 a0_0 a0_1 a0_2 a0_3) else (some (([] : List Int), t209))) = some (r1, r2) := H
 have A3 := Aside0.mk A30
 clear A30
 by_cases c4 : t209 = 0
 ·rw [if_pos c4] at H
  have c4b0 : (t209 == 0) = true := beq_iff_eq.mpr c4
  have c4b1 : (t209 != 0) = false := bne_eq_false_iff_eq.mpr c4
  clear c4
  have H' := Aside0.mk H
  clear H
  go_enter Tryd.func16, Tryd.ntmps16
  go_wp2_with (first | ((with_reducible refine gate_dst (N := 2) rfl ?_); refine box_event ?hg (N := 2) ?hd (cs := #[.string a0_0, .int .i64 a0_1, .int .i64 a0_2, .int .i64 a0_3]) (t := 32) ?hr ?_; (case hd => rfl); (case hg => rfl); (case hr => first | (go_simp; done) | (go_simp; rfl)); intro gb208 hg w5 hbox hb; have n0_ := Aside0.mk (below_step (by repeat (first | (with_reducible first | exact HB.out | apply below_alloc | apply pw_below_drewN | apply below_drew1) | exact HB.out)) hb); have n1_ := Aside0.mk (hbox); have n2_ := Aside0.mk ((by rw [hg]; exact (below_size (by repeat (first | (with_reducible first | exact HB.out | apply below_alloc | apply pw_below_drewN | apply below_drew1) | exact HB.out))) : w.heap.size ≤ gb208)); have n3_ := Aside0.mk ((by rw [hg]; exact (below_size (by repeat (first | (with_reducible first | exact HB.out | apply below_alloc | apply pw_below_drewN | apply below_drew1) | exact HB.out))) : w.heap.size ≤ gb208)); clear HB; have HB := n0_; have BK208 := n1_; have GW208 := n2_; have GE208 := n3_; clear n0_ n1_ n2_ n3_; clear hb hbox hg; have hcz6_0 : w5.cell? ⟨gb208, 0, none⟩ = some (.string a0_0) := (blk_cell BK208.out 0).trans rfl; have hcz6_1 : w5.cell? ⟨gb208, 1, none⟩ = some (.int .i64 a0_1) := (blk_cell BK208.out 1).trans rfl; have hcz6_2 : w5.cell? ⟨gb208, 2, none⟩ = some (.int .i64 a0_2) := (blk_cell BK208.out 2).trans rfl; have hcz6_3 : w5.cell? ⟨gb208, 3, none⟩ = some (.int .i64 a0_3) := (blk_cell BK208.out 3).trans rfl; have hfz6_0 := blk_frozen BK208.out 0; have hfz6_1 := blk_frozen BK208.out 1; have hfz6_2 := blk_frozen BK208.out 2; have hfz6_3 := blk_frozen BK208.out 3) | ((with_reducible refine gate_callee (f := 35) rfl ?_); refine goesL_ (some 12) rfl rfl Tryd.func35 (by kernel_rfl) rfl #[.agg #[.string a0_0, .int .i64 a0_1, .int .i64 a0_2, .int .i64 a0_3], .slice A1 l1.length c1] rfl (by (try simp only [List.map_toArray, List.map_cons, List.map_nil]); first | done | rfl | (simp only [List.length_drop, List.length_take]; rfl)) ?_; (with_reducible refine (grade_both.calls k a0_0 a0_1 a0_2 a0_3 _ _ l1 t209 _ ?side1 ?side2 A3.out).mono ?_); (case side1 => repeat (first | exact (Kd.C_below HR1.out HB.out) | (with_reducible refine Kd.C_alloc ?_ _) | (with_reducible refine Kd.C_drewN ?_ _) | (with_reducible refine Kd.C_drew ?_))); (case side2 => exact HC1.out); rintro e w7 ⟨rfl, hb⟩; refine ⟨_, rfl, ?_⟩; have n0_ := Aside0.mk (blk_below (g := gb208) (o := .cells #[.string a0_0, .int .i64 a0_1, .int .i64 a0_2, .int .i64 a0_3] 32 (0, 0)) (by (with_reducible repeat (first | refine blk_drewN ?_ _ | refine blk_drew ?_ | refine blk_alloc ?_ _)); exact BK208.out) hb); have n1_ := Aside0.mk (below_step (by repeat (first | (with_reducible first | exact HB.out | apply below_alloc | apply pw_below_drewN | apply below_drew1 | refine below_set ?_ GE208.out) | exact HB.out)) hb); clear BK208; clear HB; have BK208 := n0_; have HB := n1_; clear n0_ n1_; (try clear hb); (try clear hb2); (try clear hk); (try clear hi)))
  go_loopg [7, 18] k (fun kq v7 v18 w' => ∃ (x7_1 : List Int) (x18_1 : Int), v18 = .int .i64 x18_1 ∧ Aside0 (grade_Fails.l0 kq x7_1 l1 (l1.length : Int) x18_1 a0_0 a0_1 a0_2 a0_3 = some (r1, r2)) ∧ Aside0 (kq ≤ k) ∧ Aside0 (Kd.R (Kd.int .i64) 3 w' w.heap.size (fun _ => True) v7 x7_1) ∧ Aside0 (w'.heap[gb208]? = some (.cells #[.string a0_0, .int .i64 a0_1, .int .i64 a0_2, .int .i64 a0_3] 32 (0, 0))) ∧ Aside0 (Below w.heap.size w w'))
  case atStart => exact ⟨(([] : List Int)), (0), (by first | rfl | (simp; done) | (simp [*]; done)), H', ⟨Nat.le_refl _⟩, ⟨by first | exact Kd.R_nil _ _ _ _ _ | exact Kd.N_nil _ _ _ _ _ | exact Kd.V_nil _ _ _ _ _ | exact Kd.Q_nil _ _ _ _ _ | exact Kd.S_nil _ _ _ _ _⟩, ⟨by (with_reducible repeat (first | refine blk_drewN ?_ _ | refine blk_drew ?_ | refine blk_alloc ?_ _)); exact BK208.out⟩, ⟨by repeat (first | (with_reducible first | exact HB.out | apply below_alloc | apply pw_below_drewN | apply below_drew1 | refine below_set ?_ GE208.out) | exact HB.out)⟩⟩
  case round =>
   clear H'
   try clear c1
   try clear p2
   try clear c3
   try clear c4
   try clear c4b0
   try clear c4b1
   try clear hcz6_0
   try clear hcz6_1
   try clear hcz6_2
   try clear hcz6_3
   try clear hfz6_0
   try clear hfz6_1
   try clear hfz6_2
   try clear hfz6_3
   obtain ⟨x7_1, x18_1, rfl, HA, HK1, HO_7, BK208, HB⟩ := hrel
   cases gk with
   | zero => exact absurd HA.out (by simp [grade_Fails.l0])
   | succ k1 =>
    have H := HA.out
    clear HA
    simp only [grade_Fails.l0] at H
    by_cases c8 : x18_1 < (l1.length : Int)
    ·rw [if_pos c8] at H
     have c8b0 : decide (x18_1 < (l1.length : Int)) = true := decide_eq_true c8
     clear c8
     by_cases c9 : 0 ≤ x18_1
     ·rw [if_pos c9] at H
      have c9b0 : decide (0 ≤ x18_1) = true := decide_eq_true c9
      clear c9
      by_cases c10 : x18_1 < (l1.length : Int)
      ·rw [if_pos c10] at H
       have c10b0 : decide (x18_1 < (l1.length : Int)) = true := decide_eq_true c10
       clear c10
       replace H := Option.bind_eq_some_iff.mp H
       obtain ⟨t212, A110, H⟩ := H
       replace H : (if t212 = true then (if x7_1.length < 17592186044416 then (grade_Fails.l0 k1 (x7_1 ++ [x18_1]) l1 (l1.length : Int) (wrap64 (x18_1 + 1)) a0_0 a0_1 a0_2 a0_3) else (none)) else ((grade_wet.f a0_0 a0_1 a0_2 a0_3 ((rd_T46 l1 x18_1).f0) ((rd_T46 l1 x18_1).f1) ((rd_T46 l1 x18_1).f2)).bind fun t216 => (if t216 = true then (if x7_1.length < 17592186044416 then (grade_Fails.l0 k1 (x7_1 ++ [x18_1]) l1 (l1.length : Int) (wrap64 (x18_1 + 1)) a0_0 a0_1 a0_2 a0_3) else (none)) else (grade_Fails.l0 k1 x7_1 l1 (l1.length : Int) (wrap64 (x18_1 + 1)) a0_0 a0_1 a0_2 a0_3)))) = some (r1, r2) := H
       have A11 := Aside0.mk A110
       clear A110
       by_cases c12 : t212 = true
       ·subst c12
        have H1 : (if x7_1.length < 17592186044416 then (grade_Fails.l0 k1 (x7_1 ++ [x18_1]) l1 (l1.length : Int) (wrap64 (x18_1 + 1)) a0_0 a0_1 a0_2 a0_3) else (none)) = some (r1, r2) := by rw [if_pos rfl] at H; exact H
        clear H
        have H := H1
        clear H1
        by_cases c13 : x7_1.length < 17592186044416
        ·rw [if_pos c13] at H
         have LMc13 := Aside0.mk c13
         clear c13
         obtain ⟨y213, hy213⟩ : ∃ y_ : List Int, y_ = (x7_1 ++ [x18_1]) := ⟨_, rfl⟩
         replace H : (grade_Fails.l0 k1 y213 l1 (l1.length : Int) (wrap64 (x18_1 + 1)) a0_0 a0_1 a0_2 a0_3) = some (r1, r2) := by first | (rw [hy213]; with_reducible exact H) | (have H2_ := (Option.bind_some _ _).symm.trans H; rw [hy213]; with_reducible exact H2_) | (have H2_ := (Option.bind_some _ _).symm.trans H; with_reducible exact H2_) | with_reducible exact H | (rw [hy213]; exact H) | exact H
         have Ny213 := Aside0.mk hy213
         clear hy213
         have H' := Aside0.mk H
         clear H
         have p210 : 0 ≤ (x18_1 : Int) := of_decide_eq_true (by first | (with_reducible assumption) | assumption)
         have q210 : x18_1 < (l1.length : Int) := of_decide_eq_true (by first | (with_reducible assumption) | assumption)
         obtain ⟨ad210, e210, hx210_0, hx210_1, hx210_2⟩ := at_T46 HR1.out x18_1 p210 q210
         cases e210
         replace hx210_0 := (HB.out.cell (World.block_lt_of_cell? w _ hx210_0)).trans hx210_0
         replace hx210_1 := (HB.out.cell (World.block_lt_of_cell? w _ hx210_1)).trans hx210_1
         replace hx210_2 := (HB.out.cell (World.block_lt_of_cell? w _ hx210_2)).trans hx210_2
         replace p210 := eq_true p210
         replace q210 := eq_true q210
         go_wp2_with (first | ((with_reducible refine gate_dst (N := 9) rfl ?_); refine box_event ?hg (N := 9) ?hd (cs := #[.string (⟨#[]⟩ : ByteArray), .int .i64 0, .int .i64 0]) (t := 46) ?hr ?_; (case hd => rfl); (case hg => rfl); (case hr => first | (go_simp; done) | (go_simp; rfl)); intro gb211 hg w14 hbox hb; have n0_ := Aside0.mk (Kd.R_below (by (with_reducible repeat (first | apply Kd.R_alloc | apply Kd.R_drewN | apply Kd.R_drew)); exact HO_7.out) hb); have n1_ := Aside0.mk (blk_below (g := gb208) (o := .cells #[.string a0_0, .int .i64 a0_1, .int .i64 a0_2, .int .i64 a0_3] 32 (0, 0)) (by (with_reducible repeat (first | refine blk_drewN ?_ _ | refine blk_drew ?_ | refine blk_alloc ?_ _)); exact BK208.out) hb); have n2_ := Aside0.mk (below_step (by repeat (first | (with_reducible first | exact HB.out | apply below_alloc | apply pw_below_drewN | apply below_drew1 | refine below_set ?_ GE208.out) | exact HB.out)) hb); have n3_ := Aside0.mk (hbox); have n4_ := Aside0.mk ((by rw [hg]; exact (below_size (by repeat (first | (with_reducible first | exact HB.out | apply below_alloc | apply pw_below_drewN | apply below_drew1 | refine below_set ?_ GE208.out) | exact HB.out))) : w.heap.size ≤ gb211)); have n5_ := Aside0.mk ((by rw [hg]; exact (below_size (by repeat (first | (with_reducible first | exact HB.out | apply below_alloc | apply pw_below_drewN | apply below_drew1 | refine below_set ?_ GE208.out) | exact HB.out))) : w.heap.size ≤ gb211)); have n6_ := Aside0.mk ((by rw [hg]; exact Nat.ne_of_lt (blk_lt (g := gb208) (o := .cells #[.string a0_0, .int .i64 a0_1, .int .i64 a0_2, .int .i64 a0_3] 32 (0, 0)) (by (with_reducible repeat (first | refine blk_drewN ?_ _ | refine blk_drew ?_ | refine blk_alloc ?_ _)); exact BK208.out)) : gb208 ≠ gb211)); have n7_ := Aside0.mk ((by rw [hg]; exact Nat.ne_of_gt (blk_lt (g := gb208) (o := .cells #[.string a0_0, .int .i64 a0_1, .int .i64 a0_2, .int .i64 a0_3] 32 (0, 0)) (by (with_reducible repeat (first | refine blk_drewN ?_ _ | refine blk_drew ?_ | refine blk_alloc ?_ _)); exact BK208.out)) : gb211 ≠ gb208)); clear HO_7; clear BK208; clear HB; have HO_7 := n0_; have BK208 := n1_; have HB := n2_; have BK211 := n3_; have GW211 := n4_; have GE211 := n5_; have NB208_211 := n6_; have NB211_208 := n7_; clear n0_ n1_ n2_ n3_ n4_ n5_ n6_ n7_; clear hb hbox hg; have hnb15 := NB211_208.out; have hnc15 := NB208_211.out; have hcz16_0 : w14.cell? ⟨gb211, 0, none⟩ = some (.string (⟨#[]⟩ : ByteArray)) := (blk_cell BK211.out 0).trans rfl; have hcz16_1 : w14.cell? ⟨gb211, 1, none⟩ = some (.int .i64 0) := (blk_cell BK211.out 1).trans rfl; have hcz16_2 : w14.cell? ⟨gb211, 2, none⟩ = some (.int .i64 0) := (blk_cell BK211.out 2).trans rfl; have hfz16_0 := blk_frozen BK211.out 0; have hfz16_1 := blk_frozen BK211.out 1; have hfz16_2 := blk_frozen BK211.out 2; have hcz17_0 : w14.cell? ⟨gb208, 0, none⟩ = some (.string a0_0) := (blk_cell BK208.out 0).trans rfl; have hcz17_1 : w14.cell? ⟨gb208, 1, none⟩ = some (.int .i64 a0_1) := (blk_cell BK208.out 1).trans rfl; have hcz17_2 : w14.cell? ⟨gb208, 2, none⟩ = some (.int .i64 a0_2) := (blk_cell BK208.out 2).trans rfl; have hcz17_3 : w14.cell? ⟨gb208, 3, none⟩ = some (.int .i64 a0_3) := (blk_cell BK208.out 3).trans rfl; have hfz17_0 := blk_frozen BK208.out 0; have hfz17_1 := blk_frozen BK208.out 1; have hfz17_2 := blk_frozen BK208.out 2; have hfz17_3 := blk_frozen BK208.out 3) | ((with_reducible refine gate_callee (f := 36) rfl ?_); refine goesL_ (some 25) rfl rfl Tryd.func36 (by kernel_rfl) rfl #[.agg #[.string a0_0, .int .i64 a0_1, .int .i64 a0_2, .int .i64 a0_3], .agg #[.string ((rd_T46 l1 x18_1).f0), .int .i64 ((rd_T46 l1 x18_1).f1), .int .i64 ((rd_T46 l1 x18_1).f2)]] rfl (by (try simp only [List.map_toArray, List.map_cons, List.map_nil]); first | done | rfl | (simp only [List.length_drop, List.length_take]; rfl)) ?_; (with_reducible refine (grade_weak.calls a0_0 a0_1 a0_2 a0_3 ((rd_T46 l1 x18_1).f0) ((rd_T46 l1 x18_1).f1) ((rd_T46 l1 x18_1).f2) true _ A11.out).mono ?_); rintro e w18 ⟨rfl, hb⟩; refine ⟨_, rfl, ?_⟩; have n0_ := Aside0.mk (Kd.R_below (by (with_reducible repeat (first | apply Kd.R_alloc | apply Kd.R_drewN | apply Kd.R_drew)); exact (Kd.R_mono (Kd.R_far (p := ⟨gb211, 2, none⟩) (Kd.R_far (p := ⟨gb211, 1, none⟩) (Kd.R_far (p := ⟨gb211, 0, none⟩) (Kd.R_types HO_7.out BK211.out (by decide)) (fun _ hk => hk.2) (.string ((rd_T46 l1 x18_1).f0))) (fun _ hk => hk.2) (.int .i64 ((rd_T46 l1 x18_1).f1))) (fun _ hk => hk.2) (.int .i64 ((rd_T46 l1 x18_1).f2))) (fun _ h_ => h_.1))) hb); have n1_ := Aside0.mk (blk_below (g := gb208) (o := .cells #[.string a0_0, .int .i64 a0_1, .int .i64 a0_2, .int .i64 a0_3] 32 (0, 0)) (by (with_reducible repeat (first | refine blk_drewN ?_ _ | refine blk_drew ?_ | refine blk_alloc ?_ _)); refine blk_far ?_ NB208_211.out _; (with_reducible repeat (first | refine blk_drewN ?_ _ | refine blk_drew ?_ | refine blk_alloc ?_ _)); refine blk_far ?_ NB208_211.out _; (with_reducible repeat (first | refine blk_drewN ?_ _ | refine blk_drew ?_ | refine blk_alloc ?_ _)); refine blk_far ?_ NB208_211.out _; (with_reducible repeat (first | refine blk_drewN ?_ _ | refine blk_drew ?_ | refine blk_alloc ?_ _)); exact BK208.out) hb); have n2_ := Aside0.mk (blk_below (g := gb211) (o := .cells #[.string ((rd_T46 l1 x18_1).f0), .int .i64 ((rd_T46 l1 x18_1).f1), .int .i64 ((rd_T46 l1 x18_1).f2)] 46 (0, 0)) (by (with_reducible repeat (first | refine blk_drewN ?_ _ | refine blk_drew ?_ | refine blk_alloc ?_ _)); refine blk_put (cs := #[.string ((rd_T46 l1 x18_1).f0), .int .i64 ((rd_T46 l1 x18_1).f1), .int .i64 0]) ?_ 2 _ rfl; (with_reducible repeat (first | refine blk_drewN ?_ _ | refine blk_drew ?_ | refine blk_alloc ?_ _)); refine blk_put (cs := #[.string ((rd_T46 l1 x18_1).f0), .int .i64 0, .int .i64 0]) ?_ 1 _ rfl; (with_reducible repeat (first | refine blk_drewN ?_ _ | refine blk_drew ?_ | refine blk_alloc ?_ _)); refine blk_put (cs := #[.string (⟨#[]⟩ : ByteArray), .int .i64 0, .int .i64 0]) ?_ 0 _ rfl; (with_reducible repeat (first | refine blk_drewN ?_ _ | refine blk_drew ?_ | refine blk_alloc ?_ _)); exact BK211.out) hb); have n3_ := Aside0.mk (below_step (by repeat (first | (with_reducible first | exact HB.out | apply below_alloc | apply pw_below_drewN | apply below_drew1 | refine below_set ?_ GE208.out | refine below_set ?_ GE211.out) | exact HB.out)) hb); clear HO_7; clear BK208; clear BK211; clear HB; have HO_7 := n0_; have BK208 := n1_; have BK211 := n2_; have HB := n3_; clear n0_ n1_ n2_ n3_; (try clear hb); (try clear hb2); (try clear hk); (try clear hi)) | ((with_reducible refine gate_builtin (b := .append) (xs := #[.tmp 31, .tmp 33]) rfl ?_); at_builtin; refine Kd.R_append (Kd.int .i64) (w0 := w) w.heap.size rfl (.tmp 31) (.tmp 33) 34 3 (.int .i64 0) 8 rfl Tryd.underlying34 info3 rfl (by decide) (by omega) u7 x7_1 x18_1 [.int .i64 x18_1] (fun _ => True) (fun _ => False) rfl rfl ?aP (fun _ hk => hk.elim) ?aF ?aO ?aB ?aS ?aL ?_; (case aP => exact rfl); (case aB => exact (by repeat (first | (with_reducible first | exact HB.out | apply below_alloc | apply pw_below_drewN | apply below_drew1 | refine below_set ?_ GE208.out | refine below_set ?_ GE211.out) | exact HB.out))); (case aF => exact (fun _ _ => trivial)); (case aO => exact (by (with_reducible repeat (first | apply Kd.R_alloc | apply Kd.R_drewN | apply Kd.R_drew)); exact HO_7.out)); (case aS => exact (below_size (by repeat (first | (with_reducible first | exact HB.out | apply below_alloc | apply pw_below_drewN | apply below_drew1 | refine below_set ?_ GE208.out | refine below_set ?_ GE211.out) | exact HB.out)))); (case aL => have := LMc13.out; omega); intro v214 w19 ho hb hg hat; rw [← Ny213.out] at ho; have n0_ := Aside0.mk (blk_grown (g := gb208) (o := .cells #[.string a0_0, .int .i64 a0_1, .int .i64 a0_2, .int .i64 a0_3] 32 (0, 0)) (by (with_reducible repeat (first | refine blk_drewN ?_ _ | refine blk_drew ?_ | refine blk_alloc ?_ _)); exact BK208.out) hg (Kd.R_ne HO_7.out BK208.out (by decide))); have n1_ := Aside0.mk (blk_grown (g := gb211) (o := .cells #[.string ((rd_T46 l1 x18_1).f0), .int .i64 ((rd_T46 l1 x18_1).f1), .int .i64 ((rd_T46 l1 x18_1).f2)] 46 (0, 0)) (by (with_reducible repeat (first | refine blk_drewN ?_ _ | refine blk_drew ?_ | refine blk_alloc ?_ _)); exact BK211.out) hg (Kd.R_ne HO_7.out BK211.out (by decide))); have n2_ := Aside0.mk (hb); have n3_ := Aside0.mk (ho); clear BK208; clear BK211; clear HB; clear HO_7; have BK208 := n0_; have BK211 := n1_; have HB := n2_; have HO215 := n3_; clear n0_ n1_ n2_ n3_; clear ho hb hg hat))
         go_roundg k1
         case measure => have := HK1.out; omega
         case rel => exact ⟨(y213), (wrap64 (x18_1 + 1)), (by first | rfl | (simp; done) | (simp [*]; done)), H', ⟨by have := HK1.out; omega⟩, ⟨by (with_reducible repeat (first | apply Kd.R_alloc | apply Kd.R_drewN | apply Kd.R_drew)); exact HO215.out⟩, ⟨by (with_reducible repeat (first | refine blk_drewN ?_ _ | refine blk_drew ?_ | refine blk_alloc ?_ _)); exact BK208.out⟩, ⟨by repeat (first | (with_reducible first | exact HB.out | apply below_alloc | apply pw_below_drewN | apply below_drew1 | refine below_set ?_ GE208.out | refine below_set ?_ GE211.out) | exact HB.out)⟩⟩
        ·rw [if_neg c13] at H
         exact absurd H (by simp)
       ·replace c12 := Bool.eq_false_iff.mpr c12
        subst c12
        have H1 : ((grade_wet.f a0_0 a0_1 a0_2 a0_3 ((rd_T46 l1 x18_1).f0) ((rd_T46 l1 x18_1).f1) ((rd_T46 l1 x18_1).f2)).bind fun t216 => (if t216 = true then (if x7_1.length < 17592186044416 then (grade_Fails.l0 k1 (x7_1 ++ [x18_1]) l1 (l1.length : Int) (wrap64 (x18_1 + 1)) a0_0 a0_1 a0_2 a0_3) else (none)) else (grade_Fails.l0 k1 x7_1 l1 (l1.length : Int) (wrap64 (x18_1 + 1)) a0_0 a0_1 a0_2 a0_3))) = some (r1, r2) := by rw [if_neg (show ¬ (false = true) by decide)] at H; exact H
        clear H
        have H := H1
        clear H1
        replace H := Option.bind_eq_some_iff.mp H
        obtain ⟨t216, A200, H⟩ := H
        replace H : (if t216 = true then (if x7_1.length < 17592186044416 then (grade_Fails.l0 k1 (x7_1 ++ [x18_1]) l1 (l1.length : Int) (wrap64 (x18_1 + 1)) a0_0 a0_1 a0_2 a0_3) else (none)) else (grade_Fails.l0 k1 x7_1 l1 (l1.length : Int) (wrap64 (x18_1 + 1)) a0_0 a0_1 a0_2 a0_3)) = some (r1, r2) := H
        have A20 := Aside0.mk A200
        clear A200
        by_cases c21 : t216 = true
        ·subst c21
         have H1 : (if x7_1.length < 17592186044416 then (grade_Fails.l0 k1 (x7_1 ++ [x18_1]) l1 (l1.length : Int) (wrap64 (x18_1 + 1)) a0_0 a0_1 a0_2 a0_3) else (none)) = some (r1, r2) := by rw [if_pos rfl] at H; exact H
         clear H
         have H := H1
         clear H1
         by_cases c22 : x7_1.length < 17592186044416
         ·rw [if_pos c22] at H
          have LMc22 := Aside0.mk c22
          clear c22
          obtain ⟨y217, hy217⟩ : ∃ y_ : List Int, y_ = (x7_1 ++ [x18_1]) := ⟨_, rfl⟩
          replace H : (grade_Fails.l0 k1 y217 l1 (l1.length : Int) (wrap64 (x18_1 + 1)) a0_0 a0_1 a0_2 a0_3) = some (r1, r2) := by first | (rw [hy217]; with_reducible exact H) | (have H2_ := (Option.bind_some _ _).symm.trans H; rw [hy217]; with_reducible exact H2_) | (have H2_ := (Option.bind_some _ _).symm.trans H; with_reducible exact H2_) | with_reducible exact H | (rw [hy217]; exact H) | exact H
          have Ny217 := Aside0.mk hy217
          clear hy217
          have H' := Aside0.mk H
          clear H
          have p210 : 0 ≤ (x18_1 : Int) := of_decide_eq_true (by first | (with_reducible assumption) | assumption)
          have q210 : x18_1 < (l1.length : Int) := of_decide_eq_true (by first | (with_reducible assumption) | assumption)
          obtain ⟨ad210, e210, hx210_0, hx210_1, hx210_2⟩ := at_T46 HR1.out x18_1 p210 q210
          cases e210
          replace hx210_0 := (HB.out.cell (World.block_lt_of_cell? w _ hx210_0)).trans hx210_0
          replace hx210_1 := (HB.out.cell (World.block_lt_of_cell? w _ hx210_1)).trans hx210_1
          replace hx210_2 := (HB.out.cell (World.block_lt_of_cell? w _ hx210_2)).trans hx210_2
          replace p210 := eq_true p210
          replace q210 := eq_true q210
          go_wp2_with (first | ((with_reducible refine gate_dst (N := 9) rfl ?_); refine box_event ?hg (N := 9) ?hd (cs := #[.string (⟨#[]⟩ : ByteArray), .int .i64 0, .int .i64 0]) (t := 46) ?hr ?_; (case hd => rfl); (case hg => rfl); (case hr => first | (go_simp; done) | (go_simp; rfl)); intro gb211 hg w23 hbox hb; have n0_ := Aside0.mk (Kd.R_below (by (with_reducible repeat (first | apply Kd.R_alloc | apply Kd.R_drewN | apply Kd.R_drew)); exact HO_7.out) hb); have n1_ := Aside0.mk (blk_below (g := gb208) (o := .cells #[.string a0_0, .int .i64 a0_1, .int .i64 a0_2, .int .i64 a0_3] 32 (0, 0)) (by (with_reducible repeat (first | refine blk_drewN ?_ _ | refine blk_drew ?_ | refine blk_alloc ?_ _)); exact BK208.out) hb); have n2_ := Aside0.mk (below_step (by repeat (first | (with_reducible first | exact HB.out | apply below_alloc | apply pw_below_drewN | apply below_drew1 | refine below_set ?_ GE208.out) | exact HB.out)) hb); have n3_ := Aside0.mk (hbox); have n4_ := Aside0.mk ((by rw [hg]; exact (below_size (by repeat (first | (with_reducible first | exact HB.out | apply below_alloc | apply pw_below_drewN | apply below_drew1 | refine below_set ?_ GE208.out) | exact HB.out))) : w.heap.size ≤ gb211)); have n5_ := Aside0.mk ((by rw [hg]; exact (below_size (by repeat (first | (with_reducible first | exact HB.out | apply below_alloc | apply pw_below_drewN | apply below_drew1 | refine below_set ?_ GE208.out) | exact HB.out))) : w.heap.size ≤ gb211)); have n6_ := Aside0.mk ((by rw [hg]; exact Nat.ne_of_lt (blk_lt (g := gb208) (o := .cells #[.string a0_0, .int .i64 a0_1, .int .i64 a0_2, .int .i64 a0_3] 32 (0, 0)) (by (with_reducible repeat (first | refine blk_drewN ?_ _ | refine blk_drew ?_ | refine blk_alloc ?_ _)); exact BK208.out)) : gb208 ≠ gb211)); have n7_ := Aside0.mk ((by rw [hg]; exact Nat.ne_of_gt (blk_lt (g := gb208) (o := .cells #[.string a0_0, .int .i64 a0_1, .int .i64 a0_2, .int .i64 a0_3] 32 (0, 0)) (by (with_reducible repeat (first | refine blk_drewN ?_ _ | refine blk_drew ?_ | refine blk_alloc ?_ _)); exact BK208.out)) : gb211 ≠ gb208)); clear HO_7; clear BK208; clear HB; have HO_7 := n0_; have BK208 := n1_; have HB := n2_; have BK211 := n3_; have GW211 := n4_; have GE211 := n5_; have NB208_211 := n6_; have NB211_208 := n7_; clear n0_ n1_ n2_ n3_ n4_ n5_ n6_ n7_; clear hb hbox hg; have hnb24 := NB211_208.out; have hnc24 := NB208_211.out; have hcz25_0 : w23.cell? ⟨gb211, 0, none⟩ = some (.string (⟨#[]⟩ : ByteArray)) := (blk_cell BK211.out 0).trans rfl; have hcz25_1 : w23.cell? ⟨gb211, 1, none⟩ = some (.int .i64 0) := (blk_cell BK211.out 1).trans rfl; have hcz25_2 : w23.cell? ⟨gb211, 2, none⟩ = some (.int .i64 0) := (blk_cell BK211.out 2).trans rfl; have hfz25_0 := blk_frozen BK211.out 0; have hfz25_1 := blk_frozen BK211.out 1; have hfz25_2 := blk_frozen BK211.out 2; have hcz26_0 : w23.cell? ⟨gb208, 0, none⟩ = some (.string a0_0) := (blk_cell BK208.out 0).trans rfl; have hcz26_1 : w23.cell? ⟨gb208, 1, none⟩ = some (.int .i64 a0_1) := (blk_cell BK208.out 1).trans rfl; have hcz26_2 : w23.cell? ⟨gb208, 2, none⟩ = some (.int .i64 a0_2) := (blk_cell BK208.out 2).trans rfl; have hcz26_3 : w23.cell? ⟨gb208, 3, none⟩ = some (.int .i64 a0_3) := (blk_cell BK208.out 3).trans rfl; have hfz26_0 := blk_frozen BK208.out 0; have hfz26_1 := blk_frozen BK208.out 1; have hfz26_2 := blk_frozen BK208.out 2; have hfz26_3 := blk_frozen BK208.out 3) | ((with_reducible refine gate_callee (f := 36) rfl ?_); refine goesL_ (some 25) rfl rfl Tryd.func36 (by kernel_rfl) rfl #[.agg #[.string a0_0, .int .i64 a0_1, .int .i64 a0_2, .int .i64 a0_3], .agg #[.string ((rd_T46 l1 x18_1).f0), .int .i64 ((rd_T46 l1 x18_1).f1), .int .i64 ((rd_T46 l1 x18_1).f2)]] rfl (by (try simp only [List.map_toArray, List.map_cons, List.map_nil]); first | done | rfl | (simp only [List.length_drop, List.length_take]; rfl)) ?_; (with_reducible refine (grade_weak.calls a0_0 a0_1 a0_2 a0_3 ((rd_T46 l1 x18_1).f0) ((rd_T46 l1 x18_1).f1) ((rd_T46 l1 x18_1).f2) false _ A11.out).mono ?_); rintro e w27 ⟨rfl, hb⟩; refine ⟨_, rfl, ?_⟩; have n0_ := Aside0.mk (Kd.R_below (by (with_reducible repeat (first | apply Kd.R_alloc | apply Kd.R_drewN | apply Kd.R_drew)); exact (Kd.R_mono (Kd.R_far (p := ⟨gb211, 2, none⟩) (Kd.R_far (p := ⟨gb211, 1, none⟩) (Kd.R_far (p := ⟨gb211, 0, none⟩) (Kd.R_types HO_7.out BK211.out (by decide)) (fun _ hk => hk.2) (.string ((rd_T46 l1 x18_1).f0))) (fun _ hk => hk.2) (.int .i64 ((rd_T46 l1 x18_1).f1))) (fun _ hk => hk.2) (.int .i64 ((rd_T46 l1 x18_1).f2))) (fun _ h_ => h_.1))) hb); have n1_ := Aside0.mk (blk_below (g := gb208) (o := .cells #[.string a0_0, .int .i64 a0_1, .int .i64 a0_2, .int .i64 a0_3] 32 (0, 0)) (by (with_reducible repeat (first | refine blk_drewN ?_ _ | refine blk_drew ?_ | refine blk_alloc ?_ _)); refine blk_far ?_ NB208_211.out _; (with_reducible repeat (first | refine blk_drewN ?_ _ | refine blk_drew ?_ | refine blk_alloc ?_ _)); refine blk_far ?_ NB208_211.out _; (with_reducible repeat (first | refine blk_drewN ?_ _ | refine blk_drew ?_ | refine blk_alloc ?_ _)); refine blk_far ?_ NB208_211.out _; (with_reducible repeat (first | refine blk_drewN ?_ _ | refine blk_drew ?_ | refine blk_alloc ?_ _)); exact BK208.out) hb); have n2_ := Aside0.mk (blk_below (g := gb211) (o := .cells #[.string ((rd_T46 l1 x18_1).f0), .int .i64 ((rd_T46 l1 x18_1).f1), .int .i64 ((rd_T46 l1 x18_1).f2)] 46 (0, 0)) (by (with_reducible repeat (first | refine blk_drewN ?_ _ | refine blk_drew ?_ | refine blk_alloc ?_ _)); refine blk_put (cs := #[.string ((rd_T46 l1 x18_1).f0), .int .i64 ((rd_T46 l1 x18_1).f1), .int .i64 0]) ?_ 2 _ rfl; (with_reducible repeat (first | refine blk_drewN ?_ _ | refine blk_drew ?_ | refine blk_alloc ?_ _)); refine blk_put (cs := #[.string ((rd_T46 l1 x18_1).f0), .int .i64 0, .int .i64 0]) ?_ 1 _ rfl; (with_reducible repeat (first | refine blk_drewN ?_ _ | refine blk_drew ?_ | refine blk_alloc ?_ _)); refine blk_put (cs := #[.string (⟨#[]⟩ : ByteArray), .int .i64 0, .int .i64 0]) ?_ 0 _ rfl; (with_reducible repeat (first | refine blk_drewN ?_ _ | refine blk_drew ?_ | refine blk_alloc ?_ _)); exact BK211.out) hb); have n3_ := Aside0.mk (below_step (by repeat (first | (with_reducible first | exact HB.out | apply below_alloc | apply pw_below_drewN | apply below_drew1 | refine below_set ?_ GE208.out | refine below_set ?_ GE211.out) | exact HB.out)) hb); clear HO_7; clear BK208; clear BK211; clear HB; have HO_7 := n0_; have BK208 := n1_; have BK211 := n2_; have HB := n3_; clear n0_ n1_ n2_ n3_; (try clear hb); (try clear hb2); (try clear hk); (try clear hi); have hcz28_0 : w27.cell? ⟨gb208, 0, none⟩ = some (.string a0_0) := (blk_cell BK208.out 0).trans rfl; have hcz28_1 : w27.cell? ⟨gb208, 1, none⟩ = some (.int .i64 a0_1) := (blk_cell BK208.out 1).trans rfl; have hcz28_2 : w27.cell? ⟨gb208, 2, none⟩ = some (.int .i64 a0_2) := (blk_cell BK208.out 2).trans rfl; have hcz28_3 : w27.cell? ⟨gb208, 3, none⟩ = some (.int .i64 a0_3) := (blk_cell BK208.out 3).trans rfl; have hfz28_0 := blk_frozen BK208.out 0; have hfz28_1 := blk_frozen BK208.out 1; have hfz28_2 := blk_frozen BK208.out 2; have hfz28_3 := blk_frozen BK208.out 3; have hcz29_0 : w27.cell? ⟨gb211, 0, none⟩ = some (.string ((rd_T46 l1 x18_1).f0)) := (blk_cell BK211.out 0).trans rfl; have hcz29_1 : w27.cell? ⟨gb211, 1, none⟩ = some (.int .i64 ((rd_T46 l1 x18_1).f1)) := (blk_cell BK211.out 1).trans rfl; have hcz29_2 : w27.cell? ⟨gb211, 2, none⟩ = some (.int .i64 ((rd_T46 l1 x18_1).f2)) := (blk_cell BK211.out 2).trans rfl; have hfz29_0 := blk_frozen BK211.out 0; have hfz29_1 := blk_frozen BK211.out 1; have hfz29_2 := blk_frozen BK211.out 2) | (go_at_call 37; (with_reducible refine (grade_wet.calls a0_0 a0_1 a0_2 a0_3 ((rd_T46 l1 x18_1).f0) ((rd_T46 l1 x18_1).f1) ((rd_T46 l1 x18_1).f2) true _ A20.out).mono ?_); rintro e w30 ⟨rfl, hb⟩; have n0_ := Aside0.mk (Kd.R_below (by (with_reducible repeat (first | apply Kd.R_alloc | apply Kd.R_drewN | apply Kd.R_drew)); exact HO_7.out) hb); have n1_ := Aside0.mk (blk_below (g := gb208) (o := .cells #[.string a0_0, .int .i64 a0_1, .int .i64 a0_2, .int .i64 a0_3] 32 (0, 0)) (by (with_reducible repeat (first | refine blk_drewN ?_ _ | refine blk_drew ?_ | refine blk_alloc ?_ _)); exact BK208.out) hb); have n2_ := Aside0.mk (blk_below (g := gb211) (o := .cells #[.string ((rd_T46 l1 x18_1).f0), .int .i64 ((rd_T46 l1 x18_1).f1), .int .i64 ((rd_T46 l1 x18_1).f2)] 46 (0, 0)) (by (with_reducible repeat (first | refine blk_drewN ?_ _ | refine blk_drew ?_ | refine blk_alloc ?_ _)); exact BK211.out) hb); have n3_ := Aside0.mk (below_step (by repeat (first | (with_reducible first | exact HB.out | apply below_alloc | apply pw_below_drewN | apply below_drew1 | refine below_set ?_ GE208.out | refine below_set ?_ GE211.out) | exact HB.out)) hb); clear HO_7; clear BK208; clear BK211; clear HB; have HO_7 := n0_; have BK208 := n1_; have BK211 := n2_; have HB := n3_; clear n0_ n1_ n2_ n3_; (try clear hb); (try clear hb2); (try clear hk); (try clear hi)) | ((with_reducible refine gate_builtin (b := .append) (xs := #[.tmp 31, .tmp 33]) rfl ?_); at_builtin; refine Kd.R_append (Kd.int .i64) (w0 := w) w.heap.size rfl (.tmp 31) (.tmp 33) 34 3 (.int .i64 0) 8 rfl Tryd.underlying34 info3 rfl (by decide) (by omega) u7 x7_1 x18_1 [.int .i64 x18_1] (fun _ => True) (fun _ => False) rfl rfl ?aP (fun _ hk => hk.elim) ?aF ?aO ?aB ?aS ?aL ?_; (case aP => exact rfl); (case aB => exact (by repeat (first | (with_reducible first | exact HB.out | apply below_alloc | apply pw_below_drewN | apply below_drew1 | refine below_set ?_ GE208.out | refine below_set ?_ GE211.out) | exact HB.out))); (case aF => exact (fun _ _ => trivial)); (case aO => exact (by (with_reducible repeat (first | apply Kd.R_alloc | apply Kd.R_drewN | apply Kd.R_drew)); exact HO_7.out)); (case aS => exact (below_size (by repeat (first | (with_reducible first | exact HB.out | apply below_alloc | apply pw_below_drewN | apply below_drew1 | refine below_set ?_ GE208.out | refine below_set ?_ GE211.out) | exact HB.out)))); (case aL => have := LMc22.out; omega); intro v218 w31 ho hb hg hat; rw [← Ny217.out] at ho; have n0_ := Aside0.mk (blk_grown (g := gb208) (o := .cells #[.string a0_0, .int .i64 a0_1, .int .i64 a0_2, .int .i64 a0_3] 32 (0, 0)) (by (with_reducible repeat (first | refine blk_drewN ?_ _ | refine blk_drew ?_ | refine blk_alloc ?_ _)); exact BK208.out) hg (Kd.R_ne HO_7.out BK208.out (by decide))); have n1_ := Aside0.mk (blk_grown (g := gb211) (o := .cells #[.string ((rd_T46 l1 x18_1).f0), .int .i64 ((rd_T46 l1 x18_1).f1), .int .i64 ((rd_T46 l1 x18_1).f2)] 46 (0, 0)) (by (with_reducible repeat (first | refine blk_drewN ?_ _ | refine blk_drew ?_ | refine blk_alloc ?_ _)); exact BK211.out) hg (Kd.R_ne HO_7.out BK211.out (by decide))); have n2_ := Aside0.mk (hb); have n3_ := Aside0.mk (ho); clear BK208; clear BK211; clear HB; clear HO_7; have BK208 := n0_; have BK211 := n1_; have HB := n2_; have HO219 := n3_; clear n0_ n1_ n2_ n3_; clear ho hb hg hat))
          go_roundg k1
          case measure => have := HK1.out; omega
          case rel => exact ⟨(y217), (wrap64 (x18_1 + 1)), (by first | rfl | (simp; done) | (simp [*]; done)), H', ⟨by have := HK1.out; omega⟩, ⟨by (with_reducible repeat (first | apply Kd.R_alloc | apply Kd.R_drewN | apply Kd.R_drew)); exact HO219.out⟩, ⟨by (with_reducible repeat (first | refine blk_drewN ?_ _ | refine blk_drew ?_ | refine blk_alloc ?_ _)); exact BK208.out⟩, ⟨by repeat (first | (with_reducible first | exact HB.out | apply below_alloc | apply pw_below_drewN | apply below_drew1 | refine below_set ?_ GE208.out | refine below_set ?_ GE211.out) | exact HB.out)⟩⟩
         ·rw [if_neg c22] at H
          exact absurd H (by simp)
        ·replace c21 := Bool.eq_false_iff.mpr c21
         subst c21
         have H1 : (grade_Fails.l0 k1 x7_1 l1 (l1.length : Int) (wrap64 (x18_1 + 1)) a0_0 a0_1 a0_2 a0_3) = some (r1, r2) := by rw [if_neg (show ¬ (false = true) by decide)] at H; exact H
         clear H
         have H := H1
         clear H1
         have H' := Aside0.mk H
         clear H
         have p210 : 0 ≤ (x18_1 : Int) := of_decide_eq_true (by first | (with_reducible assumption) | assumption)
         have q210 : x18_1 < (l1.length : Int) := of_decide_eq_true (by first | (with_reducible assumption) | assumption)
         obtain ⟨ad210, e210, hx210_0, hx210_1, hx210_2⟩ := at_T46 HR1.out x18_1 p210 q210
         cases e210
         replace hx210_0 := (HB.out.cell (World.block_lt_of_cell? w _ hx210_0)).trans hx210_0
         replace hx210_1 := (HB.out.cell (World.block_lt_of_cell? w _ hx210_1)).trans hx210_1
         replace hx210_2 := (HB.out.cell (World.block_lt_of_cell? w _ hx210_2)).trans hx210_2
         replace p210 := eq_true p210
         replace q210 := eq_true q210
         go_wp2_with (first | ((with_reducible refine gate_dst (N := 9) rfl ?_); refine box_event ?hg (N := 9) ?hd (cs := #[.string (⟨#[]⟩ : ByteArray), .int .i64 0, .int .i64 0]) (t := 46) ?hr ?_; (case hd => rfl); (case hg => rfl); (case hr => first | (go_simp; done) | (go_simp; rfl)); intro gb211 hg w32 hbox hb; have n0_ := Aside0.mk (Kd.R_below (by (with_reducible repeat (first | apply Kd.R_alloc | apply Kd.R_drewN | apply Kd.R_drew)); exact HO_7.out) hb); have n1_ := Aside0.mk (blk_below (g := gb208) (o := .cells #[.string a0_0, .int .i64 a0_1, .int .i64 a0_2, .int .i64 a0_3] 32 (0, 0)) (by (with_reducible repeat (first | refine blk_drewN ?_ _ | refine blk_drew ?_ | refine blk_alloc ?_ _)); exact BK208.out) hb); have n2_ := Aside0.mk (below_step (by repeat (first | (with_reducible first | exact HB.out | apply below_alloc | apply pw_below_drewN | apply below_drew1 | refine below_set ?_ GE208.out) | exact HB.out)) hb); have n3_ := Aside0.mk (hbox); have n4_ := Aside0.mk ((by rw [hg]; exact (below_size (by repeat (first | (with_reducible first | exact HB.out | apply below_alloc | apply pw_below_drewN | apply below_drew1 | refine below_set ?_ GE208.out) | exact HB.out))) : w.heap.size ≤ gb211)); have n5_ := Aside0.mk ((by rw [hg]; exact (below_size (by repeat (first | (with_reducible first | exact HB.out | apply below_alloc | apply pw_below_drewN | apply below_drew1 | refine below_set ?_ GE208.out) | exact HB.out))) : w.heap.size ≤ gb211)); have n6_ := Aside0.mk ((by rw [hg]; exact Nat.ne_of_lt (blk_lt (g := gb208) (o := .cells #[.string a0_0, .int .i64 a0_1, .int .i64 a0_2, .int .i64 a0_3] 32 (0, 0)) (by (with_reducible repeat (first | refine blk_drewN ?_ _ | refine blk_drew ?_ | refine blk_alloc ?_ _)); exact BK208.out)) : gb208 ≠ gb211)); have n7_ := Aside0.mk ((by rw [hg]; exact Nat.ne_of_gt (blk_lt (g := gb208) (o := .cells #[.string a0_0, .int .i64 a0_1, .int .i64 a0_2, .int .i64 a0_3] 32 (0, 0)) (by (with_reducible repeat (first | refine blk_drewN ?_ _ | refine blk_drew ?_ | refine blk_alloc ?_ _)); exact BK208.out)) : gb211 ≠ gb208)); clear HO_7; clear BK208; clear HB; have HO_7 := n0_; have BK208 := n1_; have HB := n2_; have BK211 := n3_; have GW211 := n4_; have GE211 := n5_; have NB208_211 := n6_; have NB211_208 := n7_; clear n0_ n1_ n2_ n3_ n4_ n5_ n6_ n7_; clear hb hbox hg; have hnb33 := NB211_208.out; have hnc33 := NB208_211.out; have hcz34_0 : w32.cell? ⟨gb211, 0, none⟩ = some (.string (⟨#[]⟩ : ByteArray)) := (blk_cell BK211.out 0).trans rfl; have hcz34_1 : w32.cell? ⟨gb211, 1, none⟩ = some (.int .i64 0) := (blk_cell BK211.out 1).trans rfl; have hcz34_2 : w32.cell? ⟨gb211, 2, none⟩ = some (.int .i64 0) := (blk_cell BK211.out 2).trans rfl; have hfz34_0 := blk_frozen BK211.out 0; have hfz34_1 := blk_frozen BK211.out 1; have hfz34_2 := blk_frozen BK211.out 2; have hcz35_0 : w32.cell? ⟨gb208, 0, none⟩ = some (.string a0_0) := (blk_cell BK208.out 0).trans rfl; have hcz35_1 : w32.cell? ⟨gb208, 1, none⟩ = some (.int .i64 a0_1) := (blk_cell BK208.out 1).trans rfl; have hcz35_2 : w32.cell? ⟨gb208, 2, none⟩ = some (.int .i64 a0_2) := (blk_cell BK208.out 2).trans rfl; have hcz35_3 : w32.cell? ⟨gb208, 3, none⟩ = some (.int .i64 a0_3) := (blk_cell BK208.out 3).trans rfl; have hfz35_0 := blk_frozen BK208.out 0; have hfz35_1 := blk_frozen BK208.out 1; have hfz35_2 := blk_frozen BK208.out 2; have hfz35_3 := blk_frozen BK208.out 3) | ((with_reducible refine gate_callee (f := 36) rfl ?_); refine goesL_ (some 25) rfl rfl Tryd.func36 (by kernel_rfl) rfl #[.agg #[.string a0_0, .int .i64 a0_1, .int .i64 a0_2, .int .i64 a0_3], .agg #[.string ((rd_T46 l1 x18_1).f0), .int .i64 ((rd_T46 l1 x18_1).f1), .int .i64 ((rd_T46 l1 x18_1).f2)]] rfl (by (try simp only [List.map_toArray, List.map_cons, List.map_nil]); first | done | rfl | (simp only [List.length_drop, List.length_take]; rfl)) ?_; (with_reducible refine (grade_weak.calls a0_0 a0_1 a0_2 a0_3 ((rd_T46 l1 x18_1).f0) ((rd_T46 l1 x18_1).f1) ((rd_T46 l1 x18_1).f2) false _ A11.out).mono ?_); rintro e w36 ⟨rfl, hb⟩; refine ⟨_, rfl, ?_⟩; have n0_ := Aside0.mk (Kd.R_below (by (with_reducible repeat (first | apply Kd.R_alloc | apply Kd.R_drewN | apply Kd.R_drew)); exact (Kd.R_mono (Kd.R_far (p := ⟨gb211, 2, none⟩) (Kd.R_far (p := ⟨gb211, 1, none⟩) (Kd.R_far (p := ⟨gb211, 0, none⟩) (Kd.R_types HO_7.out BK211.out (by decide)) (fun _ hk => hk.2) (.string ((rd_T46 l1 x18_1).f0))) (fun _ hk => hk.2) (.int .i64 ((rd_T46 l1 x18_1).f1))) (fun _ hk => hk.2) (.int .i64 ((rd_T46 l1 x18_1).f2))) (fun _ h_ => h_.1))) hb); have n1_ := Aside0.mk (blk_below (g := gb208) (o := .cells #[.string a0_0, .int .i64 a0_1, .int .i64 a0_2, .int .i64 a0_3] 32 (0, 0)) (by (with_reducible repeat (first | refine blk_drewN ?_ _ | refine blk_drew ?_ | refine blk_alloc ?_ _)); refine blk_far ?_ NB208_211.out _; (with_reducible repeat (first | refine blk_drewN ?_ _ | refine blk_drew ?_ | refine blk_alloc ?_ _)); refine blk_far ?_ NB208_211.out _; (with_reducible repeat (first | refine blk_drewN ?_ _ | refine blk_drew ?_ | refine blk_alloc ?_ _)); refine blk_far ?_ NB208_211.out _; (with_reducible repeat (first | refine blk_drewN ?_ _ | refine blk_drew ?_ | refine blk_alloc ?_ _)); exact BK208.out) hb); have n2_ := Aside0.mk (blk_below (g := gb211) (o := .cells #[.string ((rd_T46 l1 x18_1).f0), .int .i64 ((rd_T46 l1 x18_1).f1), .int .i64 ((rd_T46 l1 x18_1).f2)] 46 (0, 0)) (by (with_reducible repeat (first | refine blk_drewN ?_ _ | refine blk_drew ?_ | refine blk_alloc ?_ _)); refine blk_put (cs := #[.string ((rd_T46 l1 x18_1).f0), .int .i64 ((rd_T46 l1 x18_1).f1), .int .i64 0]) ?_ 2 _ rfl; (with_reducible repeat (first | refine blk_drewN ?_ _ | refine blk_drew ?_ | refine blk_alloc ?_ _)); refine blk_put (cs := #[.string ((rd_T46 l1 x18_1).f0), .int .i64 0, .int .i64 0]) ?_ 1 _ rfl; (with_reducible repeat (first | refine blk_drewN ?_ _ | refine blk_drew ?_ | refine blk_alloc ?_ _)); refine blk_put (cs := #[.string (⟨#[]⟩ : ByteArray), .int .i64 0, .int .i64 0]) ?_ 0 _ rfl; (with_reducible repeat (first | refine blk_drewN ?_ _ | refine blk_drew ?_ | refine blk_alloc ?_ _)); exact BK211.out) hb); have n3_ := Aside0.mk (below_step (by repeat (first | (with_reducible first | exact HB.out | apply below_alloc | apply pw_below_drewN | apply below_drew1 | refine below_set ?_ GE208.out | refine below_set ?_ GE211.out) | exact HB.out)) hb); clear HO_7; clear BK208; clear BK211; clear HB; have HO_7 := n0_; have BK208 := n1_; have BK211 := n2_; have HB := n3_; clear n0_ n1_ n2_ n3_; (try clear hb); (try clear hb2); (try clear hk); (try clear hi); have hcz37_0 : w36.cell? ⟨gb208, 0, none⟩ = some (.string a0_0) := (blk_cell BK208.out 0).trans rfl; have hcz37_1 : w36.cell? ⟨gb208, 1, none⟩ = some (.int .i64 a0_1) := (blk_cell BK208.out 1).trans rfl; have hcz37_2 : w36.cell? ⟨gb208, 2, none⟩ = some (.int .i64 a0_2) := (blk_cell BK208.out 2).trans rfl; have hcz37_3 : w36.cell? ⟨gb208, 3, none⟩ = some (.int .i64 a0_3) := (blk_cell BK208.out 3).trans rfl; have hfz37_0 := blk_frozen BK208.out 0; have hfz37_1 := blk_frozen BK208.out 1; have hfz37_2 := blk_frozen BK208.out 2; have hfz37_3 := blk_frozen BK208.out 3; have hcz38_0 : w36.cell? ⟨gb211, 0, none⟩ = some (.string ((rd_T46 l1 x18_1).f0)) := (blk_cell BK211.out 0).trans rfl; have hcz38_1 : w36.cell? ⟨gb211, 1, none⟩ = some (.int .i64 ((rd_T46 l1 x18_1).f1)) := (blk_cell BK211.out 1).trans rfl; have hcz38_2 : w36.cell? ⟨gb211, 2, none⟩ = some (.int .i64 ((rd_T46 l1 x18_1).f2)) := (blk_cell BK211.out 2).trans rfl; have hfz38_0 := blk_frozen BK211.out 0; have hfz38_1 := blk_frozen BK211.out 1; have hfz38_2 := blk_frozen BK211.out 2) | (go_at_call 37; (with_reducible refine (grade_wet.calls a0_0 a0_1 a0_2 a0_3 ((rd_T46 l1 x18_1).f0) ((rd_T46 l1 x18_1).f1) ((rd_T46 l1 x18_1).f2) false _ A20.out).mono ?_); rintro e w39 ⟨rfl, hb⟩; have n0_ := Aside0.mk (Kd.R_below (by (with_reducible repeat (first | apply Kd.R_alloc | apply Kd.R_drewN | apply Kd.R_drew)); exact HO_7.out) hb); have n1_ := Aside0.mk (blk_below (g := gb208) (o := .cells #[.string a0_0, .int .i64 a0_1, .int .i64 a0_2, .int .i64 a0_3] 32 (0, 0)) (by (with_reducible repeat (first | refine blk_drewN ?_ _ | refine blk_drew ?_ | refine blk_alloc ?_ _)); exact BK208.out) hb); have n2_ := Aside0.mk (blk_below (g := gb211) (o := .cells #[.string ((rd_T46 l1 x18_1).f0), .int .i64 ((rd_T46 l1 x18_1).f1), .int .i64 ((rd_T46 l1 x18_1).f2)] 46 (0, 0)) (by (with_reducible repeat (first | refine blk_drewN ?_ _ | refine blk_drew ?_ | refine blk_alloc ?_ _)); exact BK211.out) hb); have n3_ := Aside0.mk (below_step (by repeat (first | (with_reducible first | exact HB.out | apply below_alloc | apply pw_below_drewN | apply below_drew1 | refine below_set ?_ GE208.out | refine below_set ?_ GE211.out) | exact HB.out)) hb); clear HO_7; clear BK208; clear BK211; clear HB; have HO_7 := n0_; have BK208 := n1_; have BK211 := n2_; have HB := n3_; clear n0_ n1_ n2_ n3_; (try clear hb); (try clear hb2); (try clear hk); (try clear hi)))
         go_roundg k1
         case measure => have := HK1.out; omega
         case rel => exact ⟨(x7_1), (wrap64 (x18_1 + 1)), (by first | rfl | (simp; done) | (simp [*]; done)), H', ⟨by have := HK1.out; omega⟩, ⟨by (with_reducible repeat (first | apply Kd.R_alloc | apply Kd.R_drewN | apply Kd.R_drew)); exact HO_7.out⟩, ⟨by (with_reducible repeat (first | refine blk_drewN ?_ _ | refine blk_drew ?_ | refine blk_alloc ?_ _)); exact BK208.out⟩, ⟨by repeat (first | (with_reducible first | exact HB.out | apply below_alloc | apply pw_below_drewN | apply below_drew1 | refine below_set ?_ GE208.out | refine below_set ?_ GE211.out) | exact HB.out)⟩⟩
      ·rw [if_neg c10] at H
       exact absurd H (by simp)
     ·rw [if_neg c9] at H
      exact absurd H (by simp)
    ·rw [if_neg c8] at H
     have c8b0 : decide (x18_1 < (l1.length : Int)) = false := decide_eq_false c8
     clear c8
     simp only [Option.some.injEq, Prod.mk.injEq] at H
     obtain ⟨rfl, rfl⟩ := H
     go_wp2
     go_ret2
     exact ⟨_, by first | rfl | (simp [errW_none, errW_some] <;> rfl) | (simp [*, errW_none, errW_some] <;> rfl), by (with_reducible repeat (first | apply Kd.R_alloc | apply Kd.R_drewN | apply Kd.R_drew)); exact HO_7.out, by repeat (first | (with_reducible first | exact HB.out | apply below_alloc | apply pw_below_drewN | apply below_drew1 | refine below_set ?_ GE208.out) | exact HB.out)⟩
 ·rw [if_neg c4] at H
  have c4b0 : (t209 == 0) = false := beq_eq_false_iff_ne.mpr c4
  have c4b1 : (t209 != 0) = true := bne_iff_ne.mpr c4
  simp only [Option.some.injEq, Prod.mk.injEq] at H
  obtain ⟨rfl, rfl⟩ := H
  go_enter Tryd.func16, Tryd.ntmps16
  go_wp2_with (first | ((with_reducible refine gate_dst (N := 2) rfl ?_); refine box_event ?hg (N := 2) ?hd (cs := #[.string a0_0, .int .i64 a0_1, .int .i64 a0_2, .int .i64 a0_3]) (t := 32) ?hr ?_; (case hd => rfl); (case hg => rfl); (case hr => first | (go_simp; done) | (go_simp; rfl)); intro gb208 hg w40 hbox hb; have n0_ := Aside0.mk (below_step (by repeat (first | (with_reducible first | exact HB.out | apply below_alloc | apply pw_below_drewN | apply below_drew1) | exact HB.out)) hb); have n1_ := Aside0.mk (hbox); have n2_ := Aside0.mk ((by rw [hg]; exact (below_size (by repeat (first | (with_reducible first | exact HB.out | apply below_alloc | apply pw_below_drewN | apply below_drew1) | exact HB.out))) : w.heap.size ≤ gb208)); have n3_ := Aside0.mk ((by rw [hg]; exact (below_size (by repeat (first | (with_reducible first | exact HB.out | apply below_alloc | apply pw_below_drewN | apply below_drew1) | exact HB.out))) : w.heap.size ≤ gb208)); clear HB; have HB := n0_; have BK208 := n1_; have GW208 := n2_; have GE208 := n3_; clear n0_ n1_ n2_ n3_; clear hb hbox hg; have hcz41_0 : w40.cell? ⟨gb208, 0, none⟩ = some (.string a0_0) := (blk_cell BK208.out 0).trans rfl; have hcz41_1 : w40.cell? ⟨gb208, 1, none⟩ = some (.int .i64 a0_1) := (blk_cell BK208.out 1).trans rfl; have hcz41_2 : w40.cell? ⟨gb208, 2, none⟩ = some (.int .i64 a0_2) := (blk_cell BK208.out 2).trans rfl; have hcz41_3 : w40.cell? ⟨gb208, 3, none⟩ = some (.int .i64 a0_3) := (blk_cell BK208.out 3).trans rfl; have hfz41_0 := blk_frozen BK208.out 0; have hfz41_1 := blk_frozen BK208.out 1; have hfz41_2 := blk_frozen BK208.out 2; have hfz41_3 := blk_frozen BK208.out 3) | ((with_reducible refine gate_callee (f := 35) rfl ?_); refine goesL_ (some 12) rfl rfl Tryd.func35 (by kernel_rfl) rfl #[.agg #[.string a0_0, .int .i64 a0_1, .int .i64 a0_2, .int .i64 a0_3], .slice A1 l1.length c1] rfl (by (try simp only [List.map_toArray, List.map_cons, List.map_nil]); first | done | rfl | (simp only [List.length_drop, List.length_take]; rfl)) ?_; (with_reducible refine (grade_both.calls k a0_0 a0_1 a0_2 a0_3 _ _ l1 t209 _ ?side1 ?side2 A3.out).mono ?_); (case side1 => repeat (first | exact (Kd.C_below HR1.out HB.out) | (with_reducible refine Kd.C_alloc ?_ _) | (with_reducible refine Kd.C_drewN ?_ _) | (with_reducible refine Kd.C_drew ?_))); (case side2 => exact HC1.out); rintro e w42 ⟨rfl, hb⟩; refine ⟨_, rfl, ?_⟩; have n0_ := Aside0.mk (blk_below (g := gb208) (o := .cells #[.string a0_0, .int .i64 a0_1, .int .i64 a0_2, .int .i64 a0_3] 32 (0, 0)) (by (with_reducible repeat (first | refine blk_drewN ?_ _ | refine blk_drew ?_ | refine blk_alloc ?_ _)); exact BK208.out) hb); have n1_ := Aside0.mk (below_step (by repeat (first | (with_reducible first | exact HB.out | apply below_alloc | apply pw_below_drewN | apply below_drew1 | refine below_set ?_ GE208.out) | exact HB.out)) hb); clear BK208; clear HB; have BK208 := n0_; have HB := n1_; clear n0_ n1_; (try clear hb); (try clear hb2); (try clear hk); (try clear hi)))
  go_ret2
  exact ⟨_, by first | rfl | (simp [errW_none, errW_some] <;> rfl) | (simp [*, errW_none, errW_some] <;> rfl), by first | exact Kd.R_nil _ _ _ _ _ | exact Kd.N_nil _ _ _ _ _ | exact Kd.V_nil _ _ _ _ _ | exact Kd.Q_nil _ _ _ _ _ | exact Kd.S_nil _ _ _ _ _, by repeat (first | (with_reducible first | exact HB.out | apply below_alloc | apply pw_below_drewN | apply below_drew1 | refine below_set ?_ GE208.out) | exact HB.out)⟩

def gangsawref34_Fails.l0 : Nat → List (S46) → List Int → Int → ByteArray → Int → Int → Int → Option (List Int × Int)
 | 0, _, _, _, _, _, _, _ => none
 | k + 1, x1, x8, x9, x221000, x221001, x221002, x221003 => if x9 < (x1.length : Int) then (if 0 ≤ x9 then (if ((rd_T46 x1 x9).f1) < x221002 then (if x8.length < 17592186044416 then (gangsawref34_Fails.l0 k x1 (x8 ++ [x9]) (wrap64 (x9 + 1)) x221000 x221001 x221002 x221003) else (none)) else (if ((rd_T46 x1 x9).f2) > x221003 then (if x8.length < 17592186044416 then (gangsawref34_Fails.l0 k x1 (x8 ++ [x9]) (wrap64 (x9 + 1)) x221000 x221001 x221002 x221003) else (none)) else (gangsawref34_Fails.l0 k x1 x8 (wrap64 (x9 + 1)) x221000 x221001 x221002 x221003))) else (none)) else (some (x8, 0))
def gangsawref34_Fails.f (k : Nat) (a0_0 : ByteArray) (a0_1 : Int) (a0_2 : Int) (a0_3 : Int) (l1 : List (S46)) : Option (List Int × Int) := (gangsawref34_Meets.f k a0_0 a0_1 a0_2 a0_3 l1).bind fun bt221 => (if bt221.2 = 0 then (gangsawref34_Fails.l0 k l1 ([] : List Int) 0 a0_0 a0_1 a0_2 a0_3) else (some (([] : List Int), bt221.2)))
theorem gangsawref34_Fails.mono_l : ∀ k, (∀ y0 y1 y2 y3 y4 y5 y6, LeO (gangsawref34_Fails.l0 k y0 y1 y2 y3 y4 y5 y6) (gangsawref34_Fails.l0 (k + 1) y0 y1 y2 y3 y4 y5 y6))
 | 0 => fun _ _ _ _ _ _ _ r h => by simp [gangsawref34_Fails.l0] at h
 | k + 1 => by
  have ih0 := gangsawref34_Fails.mono_l k
  ·intro y0 y1 y2 y3 y4 y5 y6
   unfold gangsawref34_Fails.l0
   repeat' first
   | (with_reducible exact ih0 _ _ _ _ _ _ _)
   | (with_reducible exact gangsawref34_Meets.mono _ _ _ _ _ _)
   | (with_reducible refine contains32.mono2 (fun x_ => ?_))
   | (with_reducible refine contains46.mono2 (fun x_ => ?_))
   | (with_reducible refine index32.mono2 (fun x_ => ?_))
   | (with_reducible refine index46.mono2 (fun x_ => ?_))
   | (with_reducible exact LeO.refl _)
   | (with_reducible exact LeO.none _)
   | (with_reducible refine LeO.ite ?_ ?_)
   | (with_reducible refine LeO.bind ?_ (fun _ => ?_))
   | exact ih0 _ _ _ _ _ _ _
   | exact gangsawref34_Meets.mono _ _ _ _ _ _
   | exact LeO.none _
   | refine LeO.ite ?_ ?_
   | refine LeO.bind ?_ (fun _ => ?_)
theorem gangsawref34_Fails.mono : ∀ a0 a1 a2 a3 a4 k, LeO (gangsawref34_Fails.f k a0 a1 a2 a3 a4) (gangsawref34_Fails.f (k + 1) a0 a1 a2 a3 a4) := by
 intro a0 a1 a2 a3 a4 k
 have ih0 := gangsawref34_Fails.mono_l k
 unfold gangsawref34_Fails.f
 repeat' first
   | (with_reducible exact ih0 _ _ _ _ _ _ _)
   | (with_reducible exact gangsawref34_Meets.mono _ _ _ _ _ _)
   | (with_reducible refine contains32.mono2 (fun x_ => ?_))
   | (with_reducible refine contains46.mono2 (fun x_ => ?_))
   | (with_reducible refine index32.mono2 (fun x_ => ?_))
   | (with_reducible refine index46.mono2 (fun x_ => ?_))
   | (with_reducible exact LeO.refl _)
   | (with_reducible exact LeO.none _)
   | (with_reducible refine LeO.ite ?_ ?_)
   | (with_reducible refine LeO.bind ?_ (fun _ => ?_))
   | exact ih0 _ _ _ _ _ _ _
   | exact gangsawref34_Meets.mono _ _ _ _ _ _
   | exact LeO.none _
   | refine LeO.ite ?_ ?_
   | refine LeO.bind ?_ (fun _ => ?_)
set_option maxHeartbeats 8000000 in
set_option maxRecDepth 100000 in
theorem gangsawref34_Fails.calls (k : Nat) (a0_0 : ByteArray) (a0_1 : Int) (a0_2 : Int) (a0_3 : Int) (A1 : Option Addr) (c1 : Nat) (l1 : List (S46)) (r1 : List Int) (r2 : Int) (w : World) (hr1 : Kd.C k46 w A1 l1.length l1) (hc1 : l1.length ≤ c1) (h : gangsawref34_Fails.f k a0_0 a0_1 a0_2 a0_3 l1 = some (r1, r2)) :
  Calls Tryd.prog 17 #[.agg #[.string a0_0, .int .i64 a0_1, .int .i64 a0_2, .int .i64 a0_3], .slice A1 l1.length c1] w fun e w' => ∃ v0_ : Value, e = .returned (.tuple #[v0_, .int .i64 r2]) ∧ Kd.R (Kd.int .i64) 3 w' w.heap.size (fun _ => True) v0_ r1 ∧ Below w.heap.size w w' := by
 have hu32 := Tryd.underlying32
 have HR1 := Aside0.mk hr1
 have HC1 := Aside0.mk hc1
 clear hr1 hc1
 have HB := Aside0.mk (Below.refl w.heap.size w)
 have H : ((gangsawref34_Meets.f k a0_0 a0_1 a0_2 a0_3 l1).bind fun bt221 => (if bt221.2 = 0 then (gangsawref34_Fails.l0 k l1 ([] : List Int) 0 a0_0 a0_1 a0_2 a0_3) else (some (([] : List Int), bt221.2)))) = some (r1, r2) := h
 clear h
 replace H := Option.bind_eq_some_iff.mp H
 obtain ⟨⟨t221, t222⟩, A30, H⟩ := H
 replace H : (if t222 = 0 then (gangsawref34_Fails.l0 k l1 ([] : List Int) 0 a0_0 a0_1 a0_2 a0_3) else (some (([] : List Int), t222))) = some (r1, r2) := H
 have A3 := Aside0.mk A30
 clear A30
 by_cases c4 : t222 = 0
 ·rw [if_pos c4] at H
  have c4b0 : (t222 == 0) = true := beq_iff_eq.mpr c4
  have c4b1 : (t222 != 0) = false := bne_eq_false_iff_eq.mpr c4
  clear c4
  have H' := Aside0.mk H
  clear H
  go_enter Tryd.func17, Tryd.ntmps17
  go_wp2_with (first | ((with_reducible refine gate_dst (N := 2) rfl ?_); refine box_event ?hg (N := 2) ?hd (cs := #[.string a0_0, .int .i64 a0_1, .int .i64 a0_2, .int .i64 a0_3]) (t := 32) ?hr ?_; (case hd => rfl); (case hg => rfl); (case hr => first | (go_simp; done) | (go_simp; rfl)); intro gb220 hg w5 hbox hb; have n0_ := Aside0.mk (below_step (by repeat (first | (with_reducible first | exact HB.out | apply below_alloc | apply pw_below_drewN | apply below_drew1) | exact HB.out)) hb); have n1_ := Aside0.mk (hbox); have n2_ := Aside0.mk ((by rw [hg]; exact (below_size (by repeat (first | (with_reducible first | exact HB.out | apply below_alloc | apply pw_below_drewN | apply below_drew1) | exact HB.out))) : w.heap.size ≤ gb220)); have n3_ := Aside0.mk ((by rw [hg]; exact (below_size (by repeat (first | (with_reducible first | exact HB.out | apply below_alloc | apply pw_below_drewN | apply below_drew1) | exact HB.out))) : w.heap.size ≤ gb220)); clear HB; have HB := n0_; have BK220 := n1_; have GW220 := n2_; have GE220 := n3_; clear n0_ n1_ n2_ n3_; clear hb hbox hg; have hcz6_0 : w5.cell? ⟨gb220, 0, none⟩ = some (.string a0_0) := (blk_cell BK220.out 0).trans rfl; have hcz6_1 : w5.cell? ⟨gb220, 1, none⟩ = some (.int .i64 a0_1) := (blk_cell BK220.out 1).trans rfl; have hcz6_2 : w5.cell? ⟨gb220, 2, none⟩ = some (.int .i64 a0_2) := (blk_cell BK220.out 2).trans rfl; have hcz6_3 : w5.cell? ⟨gb220, 3, none⟩ = some (.int .i64 a0_3) := (blk_cell BK220.out 3).trans rfl; have hfz6_0 := blk_frozen BK220.out 0; have hfz6_1 := blk_frozen BK220.out 1; have hfz6_2 := blk_frozen BK220.out 2; have hfz6_3 := blk_frozen BK220.out 3) | (go_at_call 15; (with_reducible refine (gangsawref34_Meets.calls k a0_0 a0_1 a0_2 a0_3 _ _ l1 t221 t222 _ ?side1 ?side2 A3.out).mono ?_); (case side1 => repeat (first | exact (Kd.C_below HR1.out HB.out) | (with_reducible refine Kd.C_alloc ?_ _) | (with_reducible refine Kd.C_drewN ?_ _) | (with_reducible refine Kd.C_drew ?_))); (case side2 => exact HC1.out); rintro e w7 ⟨rfl, hb⟩; have n0_ := Aside0.mk (blk_below (g := gb220) (o := .cells #[.string a0_0, .int .i64 a0_1, .int .i64 a0_2, .int .i64 a0_3] 32 (0, 0)) (by (with_reducible repeat (first | refine blk_drewN ?_ _ | refine blk_drew ?_ | refine blk_alloc ?_ _)); exact BK220.out) hb); have n1_ := Aside0.mk (below_step (by repeat (first | (with_reducible first | exact HB.out | apply below_alloc | apply pw_below_drewN | apply below_drew1 | refine below_set ?_ GE220.out) | exact HB.out)) hb); clear BK220; clear HB; have BK220 := n0_; have HB := n1_; clear n0_ n1_; (try clear hb); (try clear hb2); (try clear hk); (try clear hi)))
  go_loopg [8, 9] k (fun kq v8 v9 w' => ∃ (x8_1 : List Int) (x9_1 : Int), v9 = .int .i64 x9_1 ∧ Aside0 (gangsawref34_Fails.l0 kq l1 x8_1 x9_1 a0_0 a0_1 a0_2 a0_3 = some (r1, r2)) ∧ Aside0 (kq ≤ k) ∧ Aside0 (Kd.R (Kd.int .i64) 3 w' w.heap.size (fun _ => True) v8 x8_1) ∧ Aside0 (w'.heap[gb220]? = some (.cells #[.string a0_0, .int .i64 a0_1, .int .i64 a0_2, .int .i64 a0_3] 32 (0, 0))) ∧ Aside0 (Below w.heap.size w w'))
  case atStart => exact ⟨(([] : List Int)), (0), (by first | rfl | (simp; done) | (simp [*]; done)), H', ⟨Nat.le_refl _⟩, ⟨by first | exact Kd.R_nil _ _ _ _ _ | exact Kd.N_nil _ _ _ _ _ | exact Kd.V_nil _ _ _ _ _ | exact Kd.Q_nil _ _ _ _ _ | exact Kd.S_nil _ _ _ _ _⟩, ⟨by (with_reducible repeat (first | refine blk_drewN ?_ _ | refine blk_drew ?_ | refine blk_alloc ?_ _)); exact BK220.out⟩, ⟨by repeat (first | (with_reducible first | exact HB.out | apply below_alloc | apply pw_below_drewN | apply below_drew1 | refine below_set ?_ GE220.out) | exact HB.out)⟩⟩
  case round =>
   clear H'
   try clear c1
   try clear p2
   try clear c4
   try clear c4b0
   try clear c4b1
   try clear hcz6_0
   try clear hcz6_1
   try clear hcz6_2
   try clear hcz6_3
   try clear hfz6_0
   try clear hfz6_1
   try clear hfz6_2
   try clear hfz6_3
   obtain ⟨x8_1, x9_1, rfl, HA, HK1, HO_8, BK220, HB⟩ := hrel
   cases gk with
   | zero => exact absurd HA.out (by simp [gangsawref34_Fails.l0])
   | succ k1 =>
    have H := HA.out
    clear HA
    simp only [gangsawref34_Fails.l0] at H
    by_cases c8 : x9_1 < (l1.length : Int)
    ·rw [if_pos c8] at H
     have c8b0 : decide (x9_1 < (l1.length : Int)) = true := decide_eq_true c8
     clear c8
     by_cases c9 : 0 ≤ x9_1
     ·rw [if_pos c9] at H
      have c9b0 : decide (0 ≤ x9_1) = true := decide_eq_true c9
      clear c9
      by_cases c10 : ((rd_T46 l1 x9_1).f1) < a0_2
      ·rw [if_pos c10] at H
       have c10b0 : decide (((rd_T46 l1 x9_1).f1) < a0_2) = true := decide_eq_true c10
       clear c10
       by_cases c11 : x8_1.length < 17592186044416
       ·rw [if_pos c11] at H
        have LMc11 := Aside0.mk c11
        clear c11
        obtain ⟨y224, hy224⟩ : ∃ y_ : List Int, y_ = (x8_1 ++ [x9_1]) := ⟨_, rfl⟩
        replace H : (gangsawref34_Fails.l0 k1 l1 y224 (wrap64 (x9_1 + 1)) a0_0 a0_1 a0_2 a0_3) = some (r1, r2) := by first | (rw [hy224]; with_reducible exact H) | (have H2_ := (Option.bind_some _ _).symm.trans H; rw [hy224]; with_reducible exact H2_) | (have H2_ := (Option.bind_some _ _).symm.trans H; with_reducible exact H2_) | with_reducible exact H | (rw [hy224]; exact H) | exact H
        have Ny224 := Aside0.mk hy224
        clear hy224
        have H' := Aside0.mk H
        clear H
        have p223 : 0 ≤ (x9_1 : Int) := of_decide_eq_true (by first | (with_reducible assumption) | assumption)
        have q223 : x9_1 < (l1.length : Int) := of_decide_eq_true (by first | (with_reducible assumption) | assumption)
        obtain ⟨ad223, e223, hx223_0, hx223_1, hx223_2⟩ := at_T46 HR1.out x9_1 p223 q223
        cases e223
        replace hx223_0 := (HB.out.cell (World.block_lt_of_cell? w _ hx223_0)).trans hx223_0
        replace hx223_1 := (HB.out.cell (World.block_lt_of_cell? w _ hx223_1)).trans hx223_1
        replace hx223_2 := (HB.out.cell (World.block_lt_of_cell? w _ hx223_2)).trans hx223_2
        replace p223 := eq_true p223
        replace q223 := eq_true q223
        have hcz12_0 : wr.cell? ⟨gb220, 0, none⟩ = some (.string a0_0) := (blk_cell BK220.out 0).trans rfl
        have hcz12_1 : wr.cell? ⟨gb220, 1, none⟩ = some (.int .i64 a0_1) := (blk_cell BK220.out 1).trans rfl
        have hcz12_2 : wr.cell? ⟨gb220, 2, none⟩ = some (.int .i64 a0_2) := (blk_cell BK220.out 2).trans rfl
        have hcz12_3 : wr.cell? ⟨gb220, 3, none⟩ = some (.int .i64 a0_3) := (blk_cell BK220.out 3).trans rfl
        have hfz12_0 := blk_frozen BK220.out 0
        have hfz12_1 := blk_frozen BK220.out 1
        have hfz12_2 := blk_frozen BK220.out 2
        have hfz12_3 := blk_frozen BK220.out 3
        go_wp2_with (first | ((with_reducible refine gate_builtin (b := .append) (xs := #[.tmp 43, .tmp 45]) rfl ?_); at_builtin; refine Kd.R_append (Kd.int .i64) (w0 := w) w.heap.size rfl (.tmp 43) (.tmp 45) 34 3 (.int .i64 0) 8 rfl Tryd.underlying34 info3 rfl (by decide) (by omega) u8 x8_1 x9_1 [.int .i64 x9_1] (fun _ => True) (fun _ => False) rfl rfl ?aP (fun _ hk => hk.elim) ?aF ?aO ?aB ?aS ?aL ?_; (case aP => exact rfl); (case aB => exact (by repeat (first | (with_reducible first | exact HB.out | apply below_alloc | apply pw_below_drewN | apply below_drew1 | refine below_set ?_ GE220.out) | exact HB.out))); (case aF => exact (fun _ _ => trivial)); (case aO => exact (by (with_reducible repeat (first | apply Kd.R_alloc | apply Kd.R_drewN | apply Kd.R_drew)); exact HO_8.out)); (case aS => exact (below_size (by repeat (first | (with_reducible first | exact HB.out | apply below_alloc | apply pw_below_drewN | apply below_drew1 | refine below_set ?_ GE220.out) | exact HB.out)))); (case aL => have := LMc11.out; omega); intro v225 w13 ho hb hg hat; rw [← Ny224.out] at ho; have n0_ := Aside0.mk (blk_grown (g := gb220) (o := .cells #[.string a0_0, .int .i64 a0_1, .int .i64 a0_2, .int .i64 a0_3] 32 (0, 0)) (by (with_reducible repeat (first | refine blk_drewN ?_ _ | refine blk_drew ?_ | refine blk_alloc ?_ _)); exact BK220.out) hg (Kd.R_ne HO_8.out BK220.out (by decide))); have n1_ := Aside0.mk (hb); have n2_ := Aside0.mk (ho); clear BK220; clear HB; clear HO_8; have BK220 := n0_; have HB := n1_; have HO226 := n2_; clear n0_ n1_ n2_; clear ho hb hg hat))
        repeat (go_quiet (first | ((with_reducible refine gate_builtin (b := .append) (xs := #[.tmp 43, .tmp 45]) rfl ?_); at_builtin; refine Kd.R_append (Kd.int .i64) (w0 := w) w.heap.size rfl (.tmp 43) (.tmp 45) 34 3 (.int .i64 0) 8 rfl Tryd.underlying34 info3 rfl (by decide) (by omega) u8 x8_1 x9_1 [.int .i64 x9_1] (fun _ => True) (fun _ => False) rfl rfl ?aP (fun _ hk => hk.elim) ?aF ?aO ?aB ?aS ?aL ?_; (case aP => exact rfl); (case aB => exact (by repeat (first | (with_reducible first | exact HB.out | apply below_alloc | apply pw_below_drewN | apply below_drew1 | refine below_set ?_ GE220.out) | exact HB.out))); (case aF => exact (fun _ _ => trivial)); (case aO => exact (by (with_reducible repeat (first | apply Kd.R_alloc | apply Kd.R_drewN | apply Kd.R_drew)); exact HO_8.out)); (case aS => exact (below_size (by repeat (first | (with_reducible first | exact HB.out | apply below_alloc | apply pw_below_drewN | apply below_drew1 | refine below_set ?_ GE220.out) | exact HB.out)))); (case aL => have := LMc11.out; omega); intro v225 w13 ho hb hg hat; rw [← Ny224.out] at ho; have n0_ := Aside0.mk (blk_grown (g := gb220) (o := .cells #[.string a0_0, .int .i64 a0_1, .int .i64 a0_2, .int .i64 a0_3] 32 (0, 0)) (by (with_reducible repeat (first | refine blk_drewN ?_ _ | refine blk_drew ?_ | refine blk_alloc ?_ _)); exact BK220.out) hg (Kd.R_ne HO_8.out BK220.out (by decide))); have n1_ := Aside0.mk (hb); have n2_ := Aside0.mk (ho); clear BK220; clear HB; clear HO_8; have BK220 := n0_; have HB := n1_; have HO226 := n2_; clear n0_ n1_ n2_; clear ho hb hg hat)); try go_wp2_with (first | ((with_reducible refine gate_builtin (b := .append) (xs := #[.tmp 43, .tmp 45]) rfl ?_); at_builtin; refine Kd.R_append (Kd.int .i64) (w0 := w) w.heap.size rfl (.tmp 43) (.tmp 45) 34 3 (.int .i64 0) 8 rfl Tryd.underlying34 info3 rfl (by decide) (by omega) u8 x8_1 x9_1 [.int .i64 x9_1] (fun _ => True) (fun _ => False) rfl rfl ?aP (fun _ hk => hk.elim) ?aF ?aO ?aB ?aS ?aL ?_; (case aP => exact rfl); (case aB => exact (by repeat (first | (with_reducible first | exact HB.out | apply below_alloc | apply pw_below_drewN | apply below_drew1 | refine below_set ?_ GE220.out) | exact HB.out))); (case aF => exact (fun _ _ => trivial)); (case aO => exact (by (with_reducible repeat (first | apply Kd.R_alloc | apply Kd.R_drewN | apply Kd.R_drew)); exact HO_8.out)); (case aS => exact (below_size (by repeat (first | (with_reducible first | exact HB.out | apply below_alloc | apply pw_below_drewN | apply below_drew1 | refine below_set ?_ GE220.out) | exact HB.out)))); (case aL => have := LMc11.out; omega); intro v225 w13 ho hb hg hat; rw [← Ny224.out] at ho; have n0_ := Aside0.mk (blk_grown (g := gb220) (o := .cells #[.string a0_0, .int .i64 a0_1, .int .i64 a0_2, .int .i64 a0_3] 32 (0, 0)) (by (with_reducible repeat (first | refine blk_drewN ?_ _ | refine blk_drew ?_ | refine blk_alloc ?_ _)); exact BK220.out) hg (Kd.R_ne HO_8.out BK220.out (by decide))); have n1_ := Aside0.mk (hb); have n2_ := Aside0.mk (ho); clear BK220; clear HB; clear HO_8; have BK220 := n0_; have HB := n1_; have HO226 := n2_; clear n0_ n1_ n2_; clear ho hb hg hat)))
        go_roundg k1
        case measure => have := HK1.out; omega
        case rel => exact ⟨(y224), (wrap64 (x9_1 + 1)), (by first | rfl | (simp; done) | (simp [*]; done)), H', ⟨by have := HK1.out; omega⟩, ⟨by (with_reducible repeat (first | apply Kd.R_alloc | apply Kd.R_drewN | apply Kd.R_drew)); exact HO226.out⟩, ⟨by (with_reducible repeat (first | refine blk_drewN ?_ _ | refine blk_drew ?_ | refine blk_alloc ?_ _)); exact BK220.out⟩, ⟨by repeat (first | (with_reducible first | exact HB.out | apply below_alloc | apply pw_below_drewN | apply below_drew1 | refine below_set ?_ GE220.out) | exact HB.out)⟩⟩
       ·rw [if_neg c11] at H
        exact absurd H (by simp)
      ·rw [if_neg c10] at H
       have c10b0 : decide (((rd_T46 l1 x9_1).f1) < a0_2) = false := decide_eq_false c10
       clear c10
       by_cases c14 : ((rd_T46 l1 x9_1).f2) > a0_3
       ·rw [if_pos c14] at H
        have c14b0 : decide (a0_3 < ((rd_T46 l1 x9_1).f2)) = true := decide_eq_true c14
        clear c14
        by_cases c15 : x8_1.length < 17592186044416
        ·rw [if_pos c15] at H
         have LMc15 := Aside0.mk c15
         clear c15
         obtain ⟨y228, hy228⟩ : ∃ y_ : List Int, y_ = (x8_1 ++ [x9_1]) := ⟨_, rfl⟩
         replace H : (gangsawref34_Fails.l0 k1 l1 y228 (wrap64 (x9_1 + 1)) a0_0 a0_1 a0_2 a0_3) = some (r1, r2) := by first | (rw [hy228]; with_reducible exact H) | (have H2_ := (Option.bind_some _ _).symm.trans H; rw [hy228]; with_reducible exact H2_) | (have H2_ := (Option.bind_some _ _).symm.trans H; with_reducible exact H2_) | with_reducible exact H | (rw [hy228]; exact H) | exact H
         have Ny228 := Aside0.mk hy228
         clear hy228
         have H' := Aside0.mk H
         clear H
         have p223 : 0 ≤ (x9_1 : Int) := of_decide_eq_true (by first | (with_reducible assumption) | assumption)
         have q223 : x9_1 < (l1.length : Int) := of_decide_eq_true (by first | (with_reducible assumption) | assumption)
         obtain ⟨ad223, e223, hx223_0, hx223_1, hx223_2⟩ := at_T46 HR1.out x9_1 p223 q223
         cases e223
         replace hx223_0 := (HB.out.cell (World.block_lt_of_cell? w _ hx223_0)).trans hx223_0
         replace hx223_1 := (HB.out.cell (World.block_lt_of_cell? w _ hx223_1)).trans hx223_1
         replace hx223_2 := (HB.out.cell (World.block_lt_of_cell? w _ hx223_2)).trans hx223_2
         replace p223 := eq_true p223
         replace q223 := eq_true q223
         have hcz16_0 : wr.cell? ⟨gb220, 0, none⟩ = some (.string a0_0) := (blk_cell BK220.out 0).trans rfl
         have hcz16_1 : wr.cell? ⟨gb220, 1, none⟩ = some (.int .i64 a0_1) := (blk_cell BK220.out 1).trans rfl
         have hcz16_2 : wr.cell? ⟨gb220, 2, none⟩ = some (.int .i64 a0_2) := (blk_cell BK220.out 2).trans rfl
         have hcz16_3 : wr.cell? ⟨gb220, 3, none⟩ = some (.int .i64 a0_3) := (blk_cell BK220.out 3).trans rfl
         have hfz16_0 := blk_frozen BK220.out 0
         have hfz16_1 := blk_frozen BK220.out 1
         have hfz16_2 := blk_frozen BK220.out 2
         have hfz16_3 := blk_frozen BK220.out 3
         have p227 : 0 ≤ (x9_1 : Int) := of_decide_eq_true (by first | (with_reducible assumption) | assumption)
         have q227 : x9_1 < (l1.length : Int) := of_decide_eq_true (by first | (with_reducible assumption) | assumption)
         obtain ⟨ad227, e227, hx227_0, hx227_1, hx227_2⟩ := at_T46 HR1.out x9_1 p227 q227
         obtain rfl : ad223 = ad227 := (by injection e227)
         replace hx227_0 := (HB.out.cell (World.block_lt_of_cell? w _ hx227_0)).trans hx227_0
         replace hx227_1 := (HB.out.cell (World.block_lt_of_cell? w _ hx227_1)).trans hx227_1
         replace hx227_2 := (HB.out.cell (World.block_lt_of_cell? w _ hx227_2)).trans hx227_2
         replace p227 := eq_true p227
         replace q227 := eq_true q227
         go_wp2_with (first | ((with_reducible refine gate_builtin (b := .append) (xs := #[.tmp 43, .tmp 45]) rfl ?_); at_builtin; refine Kd.R_append (Kd.int .i64) (w0 := w) w.heap.size rfl (.tmp 43) (.tmp 45) 34 3 (.int .i64 0) 8 rfl Tryd.underlying34 info3 rfl (by decide) (by omega) u8 x8_1 x9_1 [.int .i64 x9_1] (fun _ => True) (fun _ => False) rfl rfl ?aP (fun _ hk => hk.elim) ?aF ?aO ?aB ?aS ?aL ?_; (case aP => exact rfl); (case aB => exact (by repeat (first | (with_reducible first | exact HB.out | apply below_alloc | apply pw_below_drewN | apply below_drew1 | refine below_set ?_ GE220.out) | exact HB.out))); (case aF => exact (fun _ _ => trivial)); (case aO => exact (by (with_reducible repeat (first | apply Kd.R_alloc | apply Kd.R_drewN | apply Kd.R_drew)); exact HO_8.out)); (case aS => exact (below_size (by repeat (first | (with_reducible first | exact HB.out | apply below_alloc | apply pw_below_drewN | apply below_drew1 | refine below_set ?_ GE220.out) | exact HB.out)))); (case aL => have := LMc15.out; omega); intro v229 w17 ho hb hg hat; rw [← Ny228.out] at ho; have n0_ := Aside0.mk (blk_grown (g := gb220) (o := .cells #[.string a0_0, .int .i64 a0_1, .int .i64 a0_2, .int .i64 a0_3] 32 (0, 0)) (by (with_reducible repeat (first | refine blk_drewN ?_ _ | refine blk_drew ?_ | refine blk_alloc ?_ _)); exact BK220.out) hg (Kd.R_ne HO_8.out BK220.out (by decide))); have n1_ := Aside0.mk (hb); have n2_ := Aside0.mk (ho); clear BK220; clear HB; clear HO_8; have BK220 := n0_; have HB := n1_; have HO230 := n2_; clear n0_ n1_ n2_; clear ho hb hg hat))
         repeat (go_quiet (first | ((with_reducible refine gate_builtin (b := .append) (xs := #[.tmp 43, .tmp 45]) rfl ?_); at_builtin; refine Kd.R_append (Kd.int .i64) (w0 := w) w.heap.size rfl (.tmp 43) (.tmp 45) 34 3 (.int .i64 0) 8 rfl Tryd.underlying34 info3 rfl (by decide) (by omega) u8 x8_1 x9_1 [.int .i64 x9_1] (fun _ => True) (fun _ => False) rfl rfl ?aP (fun _ hk => hk.elim) ?aF ?aO ?aB ?aS ?aL ?_; (case aP => exact rfl); (case aB => exact (by repeat (first | (with_reducible first | exact HB.out | apply below_alloc | apply pw_below_drewN | apply below_drew1 | refine below_set ?_ GE220.out) | exact HB.out))); (case aF => exact (fun _ _ => trivial)); (case aO => exact (by (with_reducible repeat (first | apply Kd.R_alloc | apply Kd.R_drewN | apply Kd.R_drew)); exact HO_8.out)); (case aS => exact (below_size (by repeat (first | (with_reducible first | exact HB.out | apply below_alloc | apply pw_below_drewN | apply below_drew1 | refine below_set ?_ GE220.out) | exact HB.out)))); (case aL => have := LMc15.out; omega); intro v229 w17 ho hb hg hat; rw [← Ny228.out] at ho; have n0_ := Aside0.mk (blk_grown (g := gb220) (o := .cells #[.string a0_0, .int .i64 a0_1, .int .i64 a0_2, .int .i64 a0_3] 32 (0, 0)) (by (with_reducible repeat (first | refine blk_drewN ?_ _ | refine blk_drew ?_ | refine blk_alloc ?_ _)); exact BK220.out) hg (Kd.R_ne HO_8.out BK220.out (by decide))); have n1_ := Aside0.mk (hb); have n2_ := Aside0.mk (ho); clear BK220; clear HB; clear HO_8; have BK220 := n0_; have HB := n1_; have HO230 := n2_; clear n0_ n1_ n2_; clear ho hb hg hat)); try go_wp2_with (first | ((with_reducible refine gate_builtin (b := .append) (xs := #[.tmp 43, .tmp 45]) rfl ?_); at_builtin; refine Kd.R_append (Kd.int .i64) (w0 := w) w.heap.size rfl (.tmp 43) (.tmp 45) 34 3 (.int .i64 0) 8 rfl Tryd.underlying34 info3 rfl (by decide) (by omega) u8 x8_1 x9_1 [.int .i64 x9_1] (fun _ => True) (fun _ => False) rfl rfl ?aP (fun _ hk => hk.elim) ?aF ?aO ?aB ?aS ?aL ?_; (case aP => exact rfl); (case aB => exact (by repeat (first | (with_reducible first | exact HB.out | apply below_alloc | apply pw_below_drewN | apply below_drew1 | refine below_set ?_ GE220.out) | exact HB.out))); (case aF => exact (fun _ _ => trivial)); (case aO => exact (by (with_reducible repeat (first | apply Kd.R_alloc | apply Kd.R_drewN | apply Kd.R_drew)); exact HO_8.out)); (case aS => exact (below_size (by repeat (first | (with_reducible first | exact HB.out | apply below_alloc | apply pw_below_drewN | apply below_drew1 | refine below_set ?_ GE220.out) | exact HB.out)))); (case aL => have := LMc15.out; omega); intro v229 w17 ho hb hg hat; rw [← Ny228.out] at ho; have n0_ := Aside0.mk (blk_grown (g := gb220) (o := .cells #[.string a0_0, .int .i64 a0_1, .int .i64 a0_2, .int .i64 a0_3] 32 (0, 0)) (by (with_reducible repeat (first | refine blk_drewN ?_ _ | refine blk_drew ?_ | refine blk_alloc ?_ _)); exact BK220.out) hg (Kd.R_ne HO_8.out BK220.out (by decide))); have n1_ := Aside0.mk (hb); have n2_ := Aside0.mk (ho); clear BK220; clear HB; clear HO_8; have BK220 := n0_; have HB := n1_; have HO230 := n2_; clear n0_ n1_ n2_; clear ho hb hg hat)))
         go_roundg k1
         case measure => have := HK1.out; omega
         case rel => exact ⟨(y228), (wrap64 (x9_1 + 1)), (by first | rfl | (simp; done) | (simp [*]; done)), H', ⟨by have := HK1.out; omega⟩, ⟨by (with_reducible repeat (first | apply Kd.R_alloc | apply Kd.R_drewN | apply Kd.R_drew)); exact HO230.out⟩, ⟨by (with_reducible repeat (first | refine blk_drewN ?_ _ | refine blk_drew ?_ | refine blk_alloc ?_ _)); exact BK220.out⟩, ⟨by repeat (first | (with_reducible first | exact HB.out | apply below_alloc | apply pw_below_drewN | apply below_drew1 | refine below_set ?_ GE220.out) | exact HB.out)⟩⟩
        ·rw [if_neg c15] at H
         exact absurd H (by simp)
       ·rw [if_neg c14] at H
        have c14b0 : decide (a0_3 < ((rd_T46 l1 x9_1).f2)) = false := decide_eq_false c14
        clear c14
        have H' := Aside0.mk H
        clear H
        have p223 : 0 ≤ (x9_1 : Int) := of_decide_eq_true (by first | (with_reducible assumption) | assumption)
        have q223 : x9_1 < (l1.length : Int) := of_decide_eq_true (by first | (with_reducible assumption) | assumption)
        obtain ⟨ad223, e223, hx223_0, hx223_1, hx223_2⟩ := at_T46 HR1.out x9_1 p223 q223
        cases e223
        replace hx223_0 := (HB.out.cell (World.block_lt_of_cell? w _ hx223_0)).trans hx223_0
        replace hx223_1 := (HB.out.cell (World.block_lt_of_cell? w _ hx223_1)).trans hx223_1
        replace hx223_2 := (HB.out.cell (World.block_lt_of_cell? w _ hx223_2)).trans hx223_2
        replace p223 := eq_true p223
        replace q223 := eq_true q223
        have hcz18_0 : wr.cell? ⟨gb220, 0, none⟩ = some (.string a0_0) := (blk_cell BK220.out 0).trans rfl
        have hcz18_1 : wr.cell? ⟨gb220, 1, none⟩ = some (.int .i64 a0_1) := (blk_cell BK220.out 1).trans rfl
        have hcz18_2 : wr.cell? ⟨gb220, 2, none⟩ = some (.int .i64 a0_2) := (blk_cell BK220.out 2).trans rfl
        have hcz18_3 : wr.cell? ⟨gb220, 3, none⟩ = some (.int .i64 a0_3) := (blk_cell BK220.out 3).trans rfl
        have hfz18_0 := blk_frozen BK220.out 0
        have hfz18_1 := blk_frozen BK220.out 1
        have hfz18_2 := blk_frozen BK220.out 2
        have hfz18_3 := blk_frozen BK220.out 3
        have p227 : 0 ≤ (x9_1 : Int) := of_decide_eq_true (by first | (with_reducible assumption) | assumption)
        have q227 : x9_1 < (l1.length : Int) := of_decide_eq_true (by first | (with_reducible assumption) | assumption)
        obtain ⟨ad227, e227, hx227_0, hx227_1, hx227_2⟩ := at_T46 HR1.out x9_1 p227 q227
        obtain rfl : ad223 = ad227 := (by injection e227)
        replace hx227_0 := (HB.out.cell (World.block_lt_of_cell? w _ hx227_0)).trans hx227_0
        replace hx227_1 := (HB.out.cell (World.block_lt_of_cell? w _ hx227_1)).trans hx227_1
        replace hx227_2 := (HB.out.cell (World.block_lt_of_cell? w _ hx227_2)).trans hx227_2
        replace p227 := eq_true p227
        replace q227 := eq_true q227
        go_wp2
        repeat (go_quiet (fail); try go_wp2)
        go_roundg k1
        case measure => have := HK1.out; omega
        case rel => exact ⟨(x8_1), (wrap64 (x9_1 + 1)), (by first | rfl | (simp; done) | (simp [*]; done)), H', ⟨by have := HK1.out; omega⟩, ⟨by (with_reducible repeat (first | apply Kd.R_alloc | apply Kd.R_drewN | apply Kd.R_drew)); exact HO_8.out⟩, ⟨by (with_reducible repeat (first | refine blk_drewN ?_ _ | refine blk_drew ?_ | refine blk_alloc ?_ _)); exact BK220.out⟩, ⟨by repeat (first | (with_reducible first | exact HB.out | apply below_alloc | apply pw_below_drewN | apply below_drew1 | refine below_set ?_ GE220.out) | exact HB.out)⟩⟩
     ·rw [if_neg c9] at H
      exact absurd H (by simp)
    ·rw [if_neg c8] at H
     have c8b0 : decide (x9_1 < (l1.length : Int)) = false := decide_eq_false c8
     clear c8
     simp only [Option.some.injEq, Prod.mk.injEq] at H
     obtain ⟨rfl, rfl⟩ := H
     go_wp2
     go_ret2
     exact ⟨_, by first | rfl | (simp [errW_none, errW_some] <;> rfl) | (simp [*, errW_none, errW_some] <;> rfl), by (with_reducible repeat (first | apply Kd.R_alloc | apply Kd.R_drewN | apply Kd.R_drew)); exact HO_8.out, by repeat (first | (with_reducible first | exact HB.out | apply below_alloc | apply pw_below_drewN | apply below_drew1 | refine below_set ?_ GE220.out) | exact HB.out)⟩
 ·rw [if_neg c4] at H
  have c4b0 : (t222 == 0) = false := beq_eq_false_iff_ne.mpr c4
  have c4b1 : (t222 != 0) = true := bne_iff_ne.mpr c4
  simp only [Option.some.injEq, Prod.mk.injEq] at H
  obtain ⟨rfl, rfl⟩ := H
  go_enter Tryd.func17, Tryd.ntmps17
  go_wp2_with (first | ((with_reducible refine gate_dst (N := 2) rfl ?_); refine box_event ?hg (N := 2) ?hd (cs := #[.string a0_0, .int .i64 a0_1, .int .i64 a0_2, .int .i64 a0_3]) (t := 32) ?hr ?_; (case hd => rfl); (case hg => rfl); (case hr => first | (go_simp; done) | (go_simp; rfl)); intro gb220 hg w19 hbox hb; have n0_ := Aside0.mk (below_step (by repeat (first | (with_reducible first | exact HB.out | apply below_alloc | apply pw_below_drewN | apply below_drew1) | exact HB.out)) hb); have n1_ := Aside0.mk (hbox); have n2_ := Aside0.mk ((by rw [hg]; exact (below_size (by repeat (first | (with_reducible first | exact HB.out | apply below_alloc | apply pw_below_drewN | apply below_drew1) | exact HB.out))) : w.heap.size ≤ gb220)); have n3_ := Aside0.mk ((by rw [hg]; exact (below_size (by repeat (first | (with_reducible first | exact HB.out | apply below_alloc | apply pw_below_drewN | apply below_drew1) | exact HB.out))) : w.heap.size ≤ gb220)); clear HB; have HB := n0_; have BK220 := n1_; have GW220 := n2_; have GE220 := n3_; clear n0_ n1_ n2_ n3_; clear hb hbox hg; have hcz20_0 : w19.cell? ⟨gb220, 0, none⟩ = some (.string a0_0) := (blk_cell BK220.out 0).trans rfl; have hcz20_1 : w19.cell? ⟨gb220, 1, none⟩ = some (.int .i64 a0_1) := (blk_cell BK220.out 1).trans rfl; have hcz20_2 : w19.cell? ⟨gb220, 2, none⟩ = some (.int .i64 a0_2) := (blk_cell BK220.out 2).trans rfl; have hcz20_3 : w19.cell? ⟨gb220, 3, none⟩ = some (.int .i64 a0_3) := (blk_cell BK220.out 3).trans rfl; have hfz20_0 := blk_frozen BK220.out 0; have hfz20_1 := blk_frozen BK220.out 1; have hfz20_2 := blk_frozen BK220.out 2; have hfz20_3 := blk_frozen BK220.out 3) | (go_at_call 15; (with_reducible refine (gangsawref34_Meets.calls k a0_0 a0_1 a0_2 a0_3 _ _ l1 t221 t222 _ ?side1 ?side2 A3.out).mono ?_); (case side1 => repeat (first | exact (Kd.C_below HR1.out HB.out) | (with_reducible refine Kd.C_alloc ?_ _) | (with_reducible refine Kd.C_drewN ?_ _) | (with_reducible refine Kd.C_drew ?_))); (case side2 => exact HC1.out); rintro e w21 ⟨rfl, hb⟩; have n0_ := Aside0.mk (blk_below (g := gb220) (o := .cells #[.string a0_0, .int .i64 a0_1, .int .i64 a0_2, .int .i64 a0_3] 32 (0, 0)) (by (with_reducible repeat (first | refine blk_drewN ?_ _ | refine blk_drew ?_ | refine blk_alloc ?_ _)); exact BK220.out) hb); have n1_ := Aside0.mk (below_step (by repeat (first | (with_reducible first | exact HB.out | apply below_alloc | apply pw_below_drewN | apply below_drew1 | refine below_set ?_ GE220.out) | exact HB.out)) hb); clear BK220; clear HB; have BK220 := n0_; have HB := n1_; clear n0_ n1_; (try clear hb); (try clear hb2); (try clear hk); (try clear hi)))
  go_ret2
  exact ⟨_, by first | rfl | (simp [errW_none, errW_some] <;> rfl) | (simp [*, errW_none, errW_some] <;> rfl), by first | exact Kd.R_nil _ _ _ _ _ | exact Kd.N_nil _ _ _ _ _ | exact Kd.V_nil _ _ _ _ _ | exact Kd.Q_nil _ _ _ _ _ | exact Kd.S_nil _ _ _ _ _, by repeat (first | (with_reducible first | exact HB.out | apply below_alloc | apply pw_below_drewN | apply below_drew1 | refine below_set ?_ GE220.out) | exact HB.out)⟩

end Go.Proofs.YtankffbfocaibaaDoor.P
