/- What functions of the program return: each contract says so of one function, for every input at which its pure function yields. -/
import Derived.Test.YtlbpdhjdlnhciaaPx0
import Derived.Test.YtlbpdhjdlnhciaaPx5
import Derived.Test.YtlbpdhjdlnhciaaSym
namespace Go.Proofs.Ytlbpdhjdlnhciaa.P
open Go.RowKit Go.Proofs.YtlbpdhjdlnhciaaW.PrintWords Go.Proofs.YtlbpdhjdlnhciaaW.PrintLast Go.Proofs.YtlbpdhjdlnhciaaW.PrintMore
attribute [local go_sem] max2_int min2_int max_two min_two max_three min_three max_four min_four   -- for this text's walks alone
set_option linter.unusedVariables false
set_option linter.unusedSimpArgs false

open Go.Proofs.Ytlbpdhjdlnhciaa.Sym
def saw_choose.l0 : Nat → List (S37) → Int → Int → Int → List (S37) → Int → Int → Int → Int → Int → Int → Int → Int → Option (Int)
 | 0, _, _, _, _, _, _, _, _, _, _, _, _, _ => none
 | k + 1, x0, x2, x3, x9, x12, x13, x14, x196000, x196001, x196002, x196003, x196004, x196005 => if x14 < x13 then (if 0 ≤ x14 then (if x14 < (x12.length : Int) then ((saw_can.f ((rd_T37 x12 x14).f0) ((rd_T37 x12 x14).f1) ((rd_T37 x12 x14).f2.f0) ((rd_T37 x12 x14).f2.f1) ((rd_T37 x12 x14).f2.f2) ((rd_T37 x12 x14).f3) ((rd_T37 x12 x14).f4) ((rd_T37 x12 x14).f5) x196000 x196001 x196002 x196003 x196004 x196005 x2 x3).bind fun t198 => (if t198 = 0 then (if x9 < 0 then (saw_choose.l0 k x0 x2 x3 x14 x12 x13 (wrap64 (x14 + 1)) x196000 x196001 x196002 x196003 x196004 x196005) else ((saw_area.f x196000 x196001 x196002 x196003 x196004 x196005 x2).bind fun t199 => ((saw_minutes.f ((rd_T37 x12 x14).f0) ((rd_T37 x12 x14).f1) ((rd_T37 x12 x14).f2.f0) ((rd_T37 x12 x14).f2.f1) ((rd_T37 x12 x14).f2.f2) ((rd_T37 x12 x14).f3) ((rd_T37 x12 x14).f4) ((rd_T37 x12 x14).f5) t199).bind fun t200 => (if 0 ≤ x9 then (if x9 < (x0.length : Int) then ((saw_area.f x196000 x196001 x196002 x196003 x196004 x196005 x2).bind fun t202 => ((saw_minutes.f ((rd_T37 x0 x9).f0) ((rd_T37 x0 x9).f1) ((rd_T37 x0 x9).f2.f0) ((rd_T37 x0 x9).f2.f1) ((rd_T37 x0 x9).f2.f2) ((rd_T37 x0 x9).f3) ((rd_T37 x0 x9).f4) ((rd_T37 x0 x9).f5) t202).bind fun t203 => (if t200 < t203 then (saw_choose.l0 k x0 x2 x3 x14 x12 x13 (wrap64 (x14 + 1)) x196000 x196001 x196002 x196003 x196004 x196005) else (saw_choose.l0 k x0 x2 x3 x9 x12 x13 (wrap64 (x14 + 1)) x196000 x196001 x196002 x196003 x196004 x196005)))) else (none)) else (none))))) else (saw_choose.l0 k x0 x2 x3 x9 x12 x13 (wrap64 (x14 + 1)) x196000 x196001 x196002 x196003 x196004 x196005))) else (none)) else (none)) else (some x9)
def saw_choose.f (k : Nat) (l0 : List (S37)) (a1_0 : Int) (a1_1 : Int) (a1_2 : Int) (a1_3 : Int) (a1_4 : Int) (a1_5 : Int) (a2 : Int) (a3 : Int) : Option (Int) := saw_choose.l0 k l0 a2 a3 (-1) l0 (l0.length : Int) 0 a1_0 a1_1 a1_2 a1_3 a1_4 a1_5
theorem saw_choose.mono_l : ∀ k, (∀ y0 y1 y2 y3 y4 y5 y6 y7 y8 y9 y10 y11 y12, LeO (saw_choose.l0 k y0 y1 y2 y3 y4 y5 y6 y7 y8 y9 y10 y11 y12) (saw_choose.l0 (k + 1) y0 y1 y2 y3 y4 y5 y6 y7 y8 y9 y10 y11 y12))
 | 0 => fun _ _ _ _ _ _ _ _ _ _ _ _ _ r h => by simp [saw_choose.l0] at h
 | k + 1 => by
  have ih0 := saw_choose.mono_l k
  ·intro y0 y1 y2 y3 y4 y5 y6 y7 y8 y9 y10 y11 y12
   unfold saw_choose.l0
   repeat' first
   | (with_reducible exact ih0 _ _ _ _ _ _ _ _ _ _ _ _ _)
   | (with_reducible refine contains3.mono2 (fun x_ => ?_))
   | (with_reducible refine contains37.mono2 (fun x_ => ?_))
   | (with_reducible refine index3.mono2 (fun x_ => ?_))
   | (with_reducible refine index37.mono2 (fun x_ => ?_))
   | (with_reducible exact LeO.refl _)
   | (with_reducible exact LeO.none _)
   | (with_reducible refine LeO.ite ?_ ?_)
   | (with_reducible refine LeO.bind ?_ (fun _ => ?_))
   | exact ih0 _ _ _ _ _ _ _ _ _ _ _ _ _
   | exact LeO.none _
   | refine LeO.ite ?_ ?_
   | refine LeO.bind ?_ (fun _ => ?_)
theorem saw_choose.mono : ∀ a0 a1 a2 a3 a4 a5 a6 a7 a8 k, LeO (saw_choose.f k a0 a1 a2 a3 a4 a5 a6 a7 a8) (saw_choose.f (k + 1) a0 a1 a2 a3 a4 a5 a6 a7 a8) := by
 intro a0 a1 a2 a3 a4 a5 a6 a7 a8 k
 have ih0 := saw_choose.mono_l k
 unfold saw_choose.f
 repeat' first
   | (with_reducible exact ih0 _ _ _ _ _ _ _ _ _ _ _ _ _)
   | (with_reducible refine contains3.mono2 (fun x_ => ?_))
   | (with_reducible refine contains37.mono2 (fun x_ => ?_))
   | (with_reducible refine index3.mono2 (fun x_ => ?_))
   | (with_reducible refine index37.mono2 (fun x_ => ?_))
   | (with_reducible exact LeO.refl _)
   | (with_reducible exact LeO.none _)
   | (with_reducible refine LeO.ite ?_ ?_)
   | (with_reducible refine LeO.bind ?_ (fun _ => ?_))
   | exact ih0 _ _ _ _ _ _ _ _ _ _ _ _ _
   | exact LeO.none _
   | refine LeO.ite ?_ ?_
   | refine LeO.bind ?_ (fun _ => ?_)
def saw_choose.T5 : Bool × List (List Nat × List Nat) := (true, [([], []), ([], []), ([], []), ([], []), ([0, 1, 2, 3], [0, 1, 2, 3]), ([4], [4]), ([5, 4], [5]), ([6], [6]), ([7, 6], [6, 7]), ([8, 6, 6], [6, 8]), ([9], [9]), ([9], [9]), ([9], [9]), ([11, 12, 9, 9], [9, 11, 12]), ([10, 13, 13, 9], [9, 10, 13]), ([9], [9]), ([9], [9]), ([15, 16, 9], [9, 15, 16]), ([17, 9], [9, 17]), ([9], [9]), ([9], [9]), ([19, 20, 14, 9], [9, 19, 20]), ([18, 21, 21, 9], [9, 18, 21]), ([14, 22, 9], [9, 14, 22]), ([9, 23, 6], [6, 9, 23]), ([6, 24], [6, 24])])
def saw_choose.B5 : List Nat := [0, 0, 0, 0, 15, 31, 63, 127, 255, 511, 1023, 1023, 1023, 7167, 16383, 1023, 1023, 99327, 230399, 1023, 1023, 1605631, 4194303, 8388607, 16777215, 33554431]
theorem saw_choose.tab5 : rtab .any (opsOf Try.f29 5) = saw_choose.T5 := by kernel_rfl
theorem saw_choose.bits5 : waitsOk saw_choose.T5.2 saw_choose.B5 = true := by kernel_rfl
set_option maxHeartbeats 8000000 in
set_option maxRecDepth 100000 in
theorem saw_choose.calls (k : Nat) (A0 : Option Addr) (c0 : Nat) (l0 : List (S37)) (a1_0 : Int) (a1_1 : Int) (a1_2 : Int) (a1_3 : Int) (a1_4 : Int) (a1_5 : Int) (a2 : Int) (a3 : Int) (r : Int) (w : World) (hr0 : Kd.C k37 w A0 l0.length l0) (hc0 : l0.length ≤ c0) (h : saw_choose.f k l0 a1_0 a1_1 a1_2 a1_3 a1_4 a1_5 a2 a3 = some r) :
  Calls Try.prog 29 #[.slice A0 l0.length c0, .agg #[.int .i64 a1_0, .int .i64 a1_1, .int .i64 a1_2, .int .i64 a1_3, .int .i64 a1_4, .int .i64 a1_5], .int .i64 a2, .int .i64 a3] w fun e w' => e = .returned (.int .i64 r) ∧ Below w.heap.size w w' := by
 have hu30 := Try.underlying30
 have hu37 := Try.underlying37
 have HR0 := Aside0.mk hr0
 have HC0 := Aside0.mk hc0
 clear hr0 hc0
 have HB := Aside0.mk (Below.refl w.heap.size w)
 have H : (saw_choose.l0 k l0 a2 a3 (-1) l0 (l0.length : Int) 0 a1_0 a1_1 a1_2 a1_3 a1_4 a1_5) = some r := h
 clear h
 have H' := Aside0.mk H
 clear H
 go_enter Try.func29, Try.ntmps29
 go_wp2_with (first | ((with_reducible refine gate_dst (N := 5) rfl ?_); refine box_event ?hg (N := 5) ?hd (cs := #[.int .i64 a1_0, .int .i64 a1_1, .int .i64 a1_2, .int .i64 a1_3, .int .i64 a1_4, .int .i64 a1_5]) (t := 30) ?hr ?_; (case hd => rfl); (case hg => rfl); (case hr => first | (go_simp; done) | (go_simp; rfl)); intro gb195 hg w5 hbox hb; have n0_ := Aside0.mk (below_step (by repeat (first | (with_reducible first | exact HB.out | apply below_alloc | apply pw_below_drewN | apply below_drew1) | exact HB.out)) hb); have n1_ := Aside0.mk (hbox); have n2_ := Aside0.mk ((by rw [hg]; exact (below_size (by repeat (first | (with_reducible first | exact HB.out | apply below_alloc | apply pw_below_drewN | apply below_drew1) | exact HB.out))) : w.heap.size ≤ gb195)); have n3_ := Aside0.mk ((by rw [hg]; exact (below_size (by repeat (first | (with_reducible first | exact HB.out | apply below_alloc | apply pw_below_drewN | apply below_drew1) | exact HB.out))) : w.heap.size ≤ gb195)); clear HB; have HB := n0_; have BK195 := n1_; have GW195 := n2_; have GE195 := n3_; clear n0_ n1_ n2_ n3_; clear hb hbox hg))
 go_loopg [9, 14] k (fun kq v9 v14 w' => ∃ (x9_1 : Int) (x14_1 : Int), v9 = .int .i64 x9_1 ∧ v14 = .int .i64 x14_1 ∧ Aside0 (saw_choose.l0 kq l0 a2 a3 x9_1 l0 (l0.length : Int) x14_1 a1_0 a1_1 a1_2 a1_3 a1_4 a1_5 = some r) ∧ Aside0 (kq ≤ k) ∧ Aside0 (w'.heap[gb195]? = some (.cells #[.int .i64 a1_0, .int .i64 a1_1, .int .i64 a1_2, .int .i64 a1_3, .int .i64 a1_4, .int .i64 a1_5] 30 (0, 0))) ∧ Aside0 (Below w.heap.size w w'))
 case atStart => exact ⟨((-1)), (0), (by first | rfl | (simp; done) | (simp [*]; done)), (by first | rfl | (simp; done) | (simp [*]; done)), H', ⟨Nat.le_refl _⟩, ⟨by (with_reducible repeat (first | refine blk_drewN ?_ _ | refine blk_drew ?_ | refine blk_alloc ?_ _)); exact BK195.out⟩, ⟨by repeat (first | (with_reducible first | exact HB.out | apply below_alloc | apply pw_below_drewN | apply below_drew1 | refine below_set ?_ GE195.out) | exact HB.out)⟩⟩
 case round =>
  clear H'
  try clear c2
  try clear p2
  obtain ⟨x9_1, x14_1, rfl, rfl, HA, HK1, BK195, HB⟩ := hrel
  cases gk with
  | zero => exact absurd HA.out (by simp [saw_choose.l0])
  | succ k1 =>
   have H := HA.out
   clear HA
   simp only [saw_choose.l0] at H
   by_cases c6 : x14_1 < (l0.length : Int)
   ·rw [if_pos c6] at H
    have c6b0 : decide (x14_1 < (l0.length : Int)) = true := decide_eq_true c6
    clear c6
    by_cases c7 : 0 ≤ x14_1
    ·rw [if_pos c7] at H
     have c7b0 : decide (0 ≤ x14_1) = true := decide_eq_true c7
     clear c7
     by_cases c8 : x14_1 < (l0.length : Int)
     ·rw [if_pos c8] at H
      have c8b0 : decide (x14_1 < (l0.length : Int)) = true := decide_eq_true c8
      clear c8
      replace H := Option.bind_eq_some_iff.mp H
      obtain ⟨t198, A90, H⟩ := H
      replace H : (if t198 = 0 then (if x9_1 < 0 then (saw_choose.l0 k1 l0 a2 a3 x14_1 l0 (l0.length : Int) (wrap64 (x14_1 + 1)) a1_0 a1_1 a1_2 a1_3 a1_4 a1_5) else ((saw_area.f a1_0 a1_1 a1_2 a1_3 a1_4 a1_5 a2).bind fun t199 => ((saw_minutes.f ((rd_T37 l0 x14_1).f0) ((rd_T37 l0 x14_1).f1) ((rd_T37 l0 x14_1).f2.f0) ((rd_T37 l0 x14_1).f2.f1) ((rd_T37 l0 x14_1).f2.f2) ((rd_T37 l0 x14_1).f3) ((rd_T37 l0 x14_1).f4) ((rd_T37 l0 x14_1).f5) t199).bind fun t200 => (if 0 ≤ x9_1 then (if x9_1 < (l0.length : Int) then ((saw_area.f a1_0 a1_1 a1_2 a1_3 a1_4 a1_5 a2).bind fun t202 => ((saw_minutes.f ((rd_T37 l0 x9_1).f0) ((rd_T37 l0 x9_1).f1) ((rd_T37 l0 x9_1).f2.f0) ((rd_T37 l0 x9_1).f2.f1) ((rd_T37 l0 x9_1).f2.f2) ((rd_T37 l0 x9_1).f3) ((rd_T37 l0 x9_1).f4) ((rd_T37 l0 x9_1).f5) t202).bind fun t203 => (if t200 < t203 then (saw_choose.l0 k1 l0 a2 a3 x14_1 l0 (l0.length : Int) (wrap64 (x14_1 + 1)) a1_0 a1_1 a1_2 a1_3 a1_4 a1_5) else (saw_choose.l0 k1 l0 a2 a3 x9_1 l0 (l0.length : Int) (wrap64 (x14_1 + 1)) a1_0 a1_1 a1_2 a1_3 a1_4 a1_5)))) else (none)) else (none))))) else (saw_choose.l0 k1 l0 a2 a3 x9_1 l0 (l0.length : Int) (wrap64 (x14_1 + 1)) a1_0 a1_1 a1_2 a1_3 a1_4 a1_5)) = some r := H
      have A9 := Aside0.mk A90
      clear A90
      by_cases c10 : t198 = 0
      ·rw [if_pos c10] at H
       have c10b0 : (t198 == 0) = true := beq_iff_eq.mpr c10
       have c10b1 : (t198 != 0) = false := bne_eq_false_iff_eq.mpr c10
       clear c10
       by_cases c11 : x9_1 < 0
       ·rw [if_pos c11] at H
        have c11b0 : decide (x9_1 < 0) = true := decide_eq_true c11
        clear c11
        have H' := Aside0.mk H
        clear H
        have p196 : 0 ≤ (x14_1 : Int) := of_decide_eq_true (by first | (with_reducible assumption) | assumption)
        have q196 : x14_1 < (l0.length : Int) := of_decide_eq_true (by first | (with_reducible assumption) | assumption)
        obtain ⟨ad196, e196, hx196_0, hx196_1, hx196_2, hx196_3, hx196_4, hx196_5, hx196_6, hx196_7⟩ := at_T37 HR0.out x14_1 p196 q196
        cases e196
        replace hx196_0 := (HB.out.cell (World.block_lt_of_cell? w _ hx196_0)).trans hx196_0
        replace hx196_1 := (HB.out.cell (World.block_lt_of_cell? w _ hx196_1)).trans hx196_1
        replace hx196_2 := (HB.out.cell (World.block_lt_of_cell? w _ hx196_2)).trans hx196_2
        replace hx196_3 := (HB.out.cell (World.block_lt_of_cell? w _ hx196_3)).trans hx196_3
        replace hx196_4 := (HB.out.cell (World.block_lt_of_cell? w _ hx196_4)).trans hx196_4
        replace hx196_5 := (HB.out.cell (World.block_lt_of_cell? w _ hx196_5)).trans hx196_5
        replace hx196_6 := (HB.out.cell (World.block_lt_of_cell? w _ hx196_6)).trans hx196_6
        replace hx196_7 := (HB.out.cell (World.block_lt_of_cell? w _ hx196_7)).trans hx196_7
        replace p196 := eq_true p196
        replace q196 := eq_true q196
        try go_wp2_with (first | ((with_reducible refine gate_dst (N := 11) rfl ?_); refine box_event ?hg (N := 11) ?hd (cs := #[.string (⟨#[]⟩ : ByteArray), .int .i64 0, .int .i64 0, .int .i64 0, .int .i64 0, .int .i64 0, .int .i64 0, .int .i64 0]) (t := 37) ?hr ?_; (case hd => rfl); (case hg => rfl); (case hr => first | (go_simp; done) | (go_simp; rfl)); intro gb197 hg w12 hbox hb; have n0_ := Aside0.mk (blk_below (g := gb195) (o := .cells #[.int .i64 a1_0, .int .i64 a1_1, .int .i64 a1_2, .int .i64 a1_3, .int .i64 a1_4, .int .i64 a1_5] 30 (0, 0)) (by (with_reducible repeat (first | refine blk_drewN ?_ _ | refine blk_drew ?_ | refine blk_alloc ?_ _)); exact BK195.out) hb); have n1_ := Aside0.mk (below_step (by repeat (first | (with_reducible first | exact HB.out | apply below_alloc | apply pw_below_drewN | apply below_drew1 | refine below_set ?_ GE195.out) | exact HB.out)) hb); have n2_ := Aside0.mk (hbox); have n3_ := Aside0.mk ((by rw [hg]; exact (below_size (by repeat (first | (with_reducible first | exact HB.out | apply below_alloc | apply pw_below_drewN | apply below_drew1 | refine below_set ?_ GE195.out) | exact HB.out))) : w.heap.size ≤ gb197)); have n4_ := Aside0.mk ((by rw [hg]; exact (below_size (by repeat (first | (with_reducible first | exact HB.out | apply below_alloc | apply pw_below_drewN | apply below_drew1 | refine below_set ?_ GE195.out) | exact HB.out))) : w.heap.size ≤ gb197)); have n5_ := Aside0.mk ((by rw [hg]; exact Nat.ne_of_lt (blk_lt (g := gb195) (o := .cells #[.int .i64 a1_0, .int .i64 a1_1, .int .i64 a1_2, .int .i64 a1_3, .int .i64 a1_4, .int .i64 a1_5] 30 (0, 0)) (by (with_reducible repeat (first | refine blk_drewN ?_ _ | refine blk_drew ?_ | refine blk_alloc ?_ _)); exact BK195.out)) : gb195 ≠ gb197)); have n6_ := Aside0.mk ((by rw [hg]; exact Nat.ne_of_gt (blk_lt (g := gb195) (o := .cells #[.int .i64 a1_0, .int .i64 a1_1, .int .i64 a1_2, .int .i64 a1_3, .int .i64 a1_4, .int .i64 a1_5] 30 (0, 0)) (by (with_reducible repeat (first | refine blk_drewN ?_ _ | refine blk_drew ?_ | refine blk_alloc ?_ _)); exact BK195.out)) : gb197 ≠ gb195)); clear BK195; clear HB; have BK195 := n0_; have HB := n1_; have BK197 := n2_; have GW197 := n3_; have GE197 := n4_; have NB195_197 := n5_; have NB197_195 := n6_; clear n0_ n1_ n2_ n3_ n4_ n5_ n6_; clear hb hbox hg; have hnb13 := NB197_195.out; have hnc13 := NB195_197.out; have hcz14_0 : w12.cell? ⟨gb197, 0, none⟩ = some (.string (⟨#[]⟩ : ByteArray)) := (blk_cell BK197.out 0).trans rfl; have hcz14_1 : w12.cell? ⟨gb197, 1, none⟩ = some (.int .i64 0) := (blk_cell BK197.out 1).trans rfl; have hcz14_2 : w12.cell? ⟨gb197, 2, none⟩ = some (.int .i64 0) := (blk_cell BK197.out 2).trans rfl; have hcz14_3 : w12.cell? ⟨gb197, 3, none⟩ = some (.int .i64 0) := (blk_cell BK197.out 3).trans rfl; have hcz14_4 : w12.cell? ⟨gb197, 4, none⟩ = some (.int .i64 0) := (blk_cell BK197.out 4).trans rfl; have hcz14_5 : w12.cell? ⟨gb197, 5, none⟩ = some (.int .i64 0) := (blk_cell BK197.out 5).trans rfl; have hcz14_6 : w12.cell? ⟨gb197, 6, none⟩ = some (.int .i64 0) := (blk_cell BK197.out 6).trans rfl; have hcz14_7 : w12.cell? ⟨gb197, 7, none⟩ = some (.int .i64 0) := (blk_cell BK197.out 7).trans rfl; have hfz14_0 := blk_frozen BK197.out 0; have hfz14_1 := blk_frozen BK197.out 1; have hfz14_2 := blk_frozen BK197.out 2; have hfz14_3 := blk_frozen BK197.out 3; have hfz14_4 := blk_frozen BK197.out 4; have hfz14_5 := blk_frozen BK197.out 5; have hfz14_6 := blk_frozen BK197.out 6; have hfz14_7 := blk_frozen BK197.out 7))
        have n0_ : Aside0 (((((((((w12.setCell ⟨gb197, 0, none⟩ (.string ((rd_T37 l0 x14_1).f0))).setCell ⟨gb197, 1, none⟩ (.int .i64 ((rd_T37 l0 x14_1).f1))).setCell ⟨gb197, 2, none⟩ (.int .i64 ((rd_T37 l0 x14_1).f2.f0))).setCell ⟨gb197, 3, none⟩ (.int .i64 ((rd_T37 l0 x14_1).f2.f1))).setCell ⟨gb197, 4, none⟩ (.int .i64 ((rd_T37 l0 x14_1).f2.f2))).setCell ⟨gb197, 5, none⟩ (.int .i64 ((rd_T37 l0 x14_1).f3))).setCell ⟨gb197, 6, none⟩ (.int .i64 ((rd_T37 l0 x14_1).f4))).setCell ⟨gb197, 7, none⟩ (.int .i64 ((rd_T37 l0 x14_1).f5))).heap[gb195]? = some (.cells #[.int .i64 a1_0, .int .i64 a1_1, .int .i64 a1_2, .int .i64 a1_3, .int .i64 a1_4, .int .i64 a1_5] 30 (0, 0))) := ⟨by (with_reducible repeat (first | refine blk_drewN ?_ _ | refine blk_drew ?_ | refine blk_alloc ?_ _)); refine blk_far ?_ NB195_197.out _; (with_reducible repeat (first | refine blk_drewN ?_ _ | refine blk_drew ?_ | refine blk_alloc ?_ _)); refine blk_far ?_ NB195_197.out _; (with_reducible repeat (first | refine blk_drewN ?_ _ | refine blk_drew ?_ | refine blk_alloc ?_ _)); refine blk_far ?_ NB195_197.out _; (with_reducible repeat (first | refine blk_drewN ?_ _ | refine blk_drew ?_ | refine blk_alloc ?_ _)); refine blk_far ?_ NB195_197.out _; (with_reducible repeat (first | refine blk_drewN ?_ _ | refine blk_drew ?_ | refine blk_alloc ?_ _)); refine blk_far ?_ NB195_197.out _; (with_reducible repeat (first | refine blk_drewN ?_ _ | refine blk_drew ?_ | refine blk_alloc ?_ _)); refine blk_far ?_ NB195_197.out _; (with_reducible repeat (first | refine blk_drewN ?_ _ | refine blk_drew ?_ | refine blk_alloc ?_ _)); refine blk_far ?_ NB195_197.out _; (with_reducible repeat (first | refine blk_drewN ?_ _ | refine blk_drew ?_ | refine blk_alloc ?_ _)); refine blk_far ?_ NB195_197.out _; (with_reducible repeat (first | refine blk_drewN ?_ _ | refine blk_drew ?_ | refine blk_alloc ?_ _)); exact BK195.out⟩
        have n1_ : Aside0 (((((((((w12.setCell ⟨gb197, 0, none⟩ (.string ((rd_T37 l0 x14_1).f0))).setCell ⟨gb197, 1, none⟩ (.int .i64 ((rd_T37 l0 x14_1).f1))).setCell ⟨gb197, 2, none⟩ (.int .i64 ((rd_T37 l0 x14_1).f2.f0))).setCell ⟨gb197, 3, none⟩ (.int .i64 ((rd_T37 l0 x14_1).f2.f1))).setCell ⟨gb197, 4, none⟩ (.int .i64 ((rd_T37 l0 x14_1).f2.f2))).setCell ⟨gb197, 5, none⟩ (.int .i64 ((rd_T37 l0 x14_1).f3))).setCell ⟨gb197, 6, none⟩ (.int .i64 ((rd_T37 l0 x14_1).f4))).setCell ⟨gb197, 7, none⟩ (.int .i64 ((rd_T37 l0 x14_1).f5))).heap[gb197]? = some (.cells #[.string ((rd_T37 l0 x14_1).f0), .int .i64 ((rd_T37 l0 x14_1).f1), .int .i64 ((rd_T37 l0 x14_1).f2.f0), .int .i64 ((rd_T37 l0 x14_1).f2.f1), .int .i64 ((rd_T37 l0 x14_1).f2.f2), .int .i64 ((rd_T37 l0 x14_1).f3), .int .i64 ((rd_T37 l0 x14_1).f4), .int .i64 ((rd_T37 l0 x14_1).f5)] 37 (0, 0))) := ⟨by (with_reducible repeat (first | refine blk_drewN ?_ _ | refine blk_drew ?_ | refine blk_alloc ?_ _)); refine blk_put (cs := #[.string ((rd_T37 l0 x14_1).f0), .int .i64 ((rd_T37 l0 x14_1).f1), .int .i64 ((rd_T37 l0 x14_1).f2.f0), .int .i64 ((rd_T37 l0 x14_1).f2.f1), .int .i64 ((rd_T37 l0 x14_1).f2.f2), .int .i64 ((rd_T37 l0 x14_1).f3), .int .i64 ((rd_T37 l0 x14_1).f4), .int .i64 0]) ?_ 7 _ rfl; (with_reducible repeat (first | refine blk_drewN ?_ _ | refine blk_drew ?_ | refine blk_alloc ?_ _)); refine blk_put (cs := #[.string ((rd_T37 l0 x14_1).f0), .int .i64 ((rd_T37 l0 x14_1).f1), .int .i64 ((rd_T37 l0 x14_1).f2.f0), .int .i64 ((rd_T37 l0 x14_1).f2.f1), .int .i64 ((rd_T37 l0 x14_1).f2.f2), .int .i64 ((rd_T37 l0 x14_1).f3), .int .i64 0, .int .i64 0]) ?_ 6 _ rfl; (with_reducible repeat (first | refine blk_drewN ?_ _ | refine blk_drew ?_ | refine blk_alloc ?_ _)); refine blk_put (cs := #[.string ((rd_T37 l0 x14_1).f0), .int .i64 ((rd_T37 l0 x14_1).f1), .int .i64 ((rd_T37 l0 x14_1).f2.f0), .int .i64 ((rd_T37 l0 x14_1).f2.f1), .int .i64 ((rd_T37 l0 x14_1).f2.f2), .int .i64 0, .int .i64 0, .int .i64 0]) ?_ 5 _ rfl; (with_reducible repeat (first | refine blk_drewN ?_ _ | refine blk_drew ?_ | refine blk_alloc ?_ _)); refine blk_put (cs := #[.string ((rd_T37 l0 x14_1).f0), .int .i64 ((rd_T37 l0 x14_1).f1), .int .i64 ((rd_T37 l0 x14_1).f2.f0), .int .i64 ((rd_T37 l0 x14_1).f2.f1), .int .i64 0, .int .i64 0, .int .i64 0, .int .i64 0]) ?_ 4 _ rfl; (with_reducible repeat (first | refine blk_drewN ?_ _ | refine blk_drew ?_ | refine blk_alloc ?_ _)); refine blk_put (cs := #[.string ((rd_T37 l0 x14_1).f0), .int .i64 ((rd_T37 l0 x14_1).f1), .int .i64 ((rd_T37 l0 x14_1).f2.f0), .int .i64 0, .int .i64 0, .int .i64 0, .int .i64 0, .int .i64 0]) ?_ 3 _ rfl; (with_reducible repeat (first | refine blk_drewN ?_ _ | refine blk_drew ?_ | refine blk_alloc ?_ _)); refine blk_put (cs := #[.string ((rd_T37 l0 x14_1).f0), .int .i64 ((rd_T37 l0 x14_1).f1), .int .i64 0, .int .i64 0, .int .i64 0, .int .i64 0, .int .i64 0, .int .i64 0]) ?_ 2 _ rfl; (with_reducible repeat (first | refine blk_drewN ?_ _ | refine blk_drew ?_ | refine blk_alloc ?_ _)); refine blk_put (cs := #[.string ((rd_T37 l0 x14_1).f0), .int .i64 0, .int .i64 0, .int .i64 0, .int .i64 0, .int .i64 0, .int .i64 0, .int .i64 0]) ?_ 1 _ rfl; (with_reducible repeat (first | refine blk_drewN ?_ _ | refine blk_drew ?_ | refine blk_alloc ?_ _)); refine blk_put (cs := #[.string (⟨#[]⟩ : ByteArray), .int .i64 0, .int .i64 0, .int .i64 0, .int .i64 0, .int .i64 0, .int .i64 0, .int .i64 0]) ?_ 0 _ rfl; (with_reducible repeat (first | refine blk_drewN ?_ _ | refine blk_drew ?_ | refine blk_alloc ?_ _)); exact BK197.out⟩
        have n2_ : Aside0 (Below w.heap.size w ((((((((w12.setCell ⟨gb197, 0, none⟩ (.string ((rd_T37 l0 x14_1).f0))).setCell ⟨gb197, 1, none⟩ (.int .i64 ((rd_T37 l0 x14_1).f1))).setCell ⟨gb197, 2, none⟩ (.int .i64 ((rd_T37 l0 x14_1).f2.f0))).setCell ⟨gb197, 3, none⟩ (.int .i64 ((rd_T37 l0 x14_1).f2.f1))).setCell ⟨gb197, 4, none⟩ (.int .i64 ((rd_T37 l0 x14_1).f2.f2))).setCell ⟨gb197, 5, none⟩ (.int .i64 ((rd_T37 l0 x14_1).f3))).setCell ⟨gb197, 6, none⟩ (.int .i64 ((rd_T37 l0 x14_1).f4))).setCell ⟨gb197, 7, none⟩ (.int .i64 ((rd_T37 l0 x14_1).f5)))) := ⟨by repeat (first | (with_reducible first | exact HB.out | apply below_alloc | apply pw_below_drewN | apply below_drew1 | refine below_set ?_ GE195.out | refine below_set ?_ GE197.out) | exact HB.out)⟩
        (try clear BK195)
        (try clear BK197)
        (try clear HB)
        generalize ((((((((w12.setCell ⟨gb197, 0, none⟩ (.string ((rd_T37 l0 x14_1).f0))).setCell ⟨gb197, 1, none⟩ (.int .i64 ((rd_T37 l0 x14_1).f1))).setCell ⟨gb197, 2, none⟩ (.int .i64 ((rd_T37 l0 x14_1).f2.f0))).setCell ⟨gb197, 3, none⟩ (.int .i64 ((rd_T37 l0 x14_1).f2.f1))).setCell ⟨gb197, 4, none⟩ (.int .i64 ((rd_T37 l0 x14_1).f2.f2))).setCell ⟨gb197, 5, none⟩ (.int .i64 ((rd_T37 l0 x14_1).f3))).setCell ⟨gb197, 6, none⟩ (.int .i64 ((rd_T37 l0 x14_1).f4))).setCell ⟨gb197, 7, none⟩ (.int .i64 ((rd_T37 l0 x14_1).f5))) = w15 at n0_ n1_ n2_ ⊢
        have BK195 := n0_
        have BK197 := n1_
        have HB := n2_
        clear n0_ n1_ n2_
        have n0_ := Aside0.mk (blk_drew BK195.out)
        have n1_ := Aside0.mk (blk_drew BK197.out)
        have n2_ := Aside0.mk (below_drew1 HB.out)
        clear BK195
        clear BK197
        clear HB
        have BK195 := n0_
        have BK197 := n1_
        have HB := n2_
        clear n0_ n1_ n2_
        refine start_ (n := 26) (S := fun w' => w'.cell? ⟨gb197, 0, none⟩ = some (.string ((rd_T37 l0 x14_1).f0)) ∧ w'.cell? ⟨gb197, 1, none⟩ = some (.int .i64 ((rd_T37 l0 x14_1).f1)) ∧ w'.cell? ⟨gb197, 2, none⟩ = some (.int .i64 ((rd_T37 l0 x14_1).f2.f0)) ∧ w'.cell? ⟨gb197, 3, none⟩ = some (.int .i64 ((rd_T37 l0 x14_1).f2.f1)) ∧ w'.cell? ⟨gb197, 4, none⟩ = some (.int .i64 ((rd_T37 l0 x14_1).f2.f2)) ∧ w'.cell? ⟨gb197, 5, none⟩ = some (.int .i64 ((rd_T37 l0 x14_1).f3)) ∧ w'.cell? ⟨gb197, 6, none⟩ = some (.int .i64 ((rd_T37 l0 x14_1).f4)) ∧ w'.cell? ⟨gb197, 7, none⟩ = some (.int .i64 ((rd_T37 l0 x14_1).f5)) ∧ w'.cell? ⟨gb195, 0, none⟩ = some (.int .i64 a1_0) ∧ w'.cell? ⟨gb195, 1, none⟩ = some (.int .i64 a1_1) ∧ w'.cell? ⟨gb195, 2, none⟩ = some (.int .i64 a1_2) ∧ w'.cell? ⟨gb195, 3, none⟩ = some (.int .i64 a1_3) ∧ w'.cell? ⟨gb195, 4, none⟩ = some (.int .i64 a1_4) ∧ w'.cell? ⟨gb195, 5, none⟩ = some (.int .i64 a1_5)) (ds := []) #[false, false, false, false, false, false, false, false, false, false, false, false, false, false, false, false, false, false, false, false, false, false, false, false, false, false] (by kernel_rfl) rfl rfl ⟨(blk_cell BK197.out 0).trans rfl, (blk_cell BK197.out 1).trans rfl, (blk_cell BK197.out 2).trans rfl, (blk_cell BK197.out 3).trans rfl, (blk_cell BK197.out 4).trans rfl, (blk_cell BK197.out 5).trans rfl, (blk_cell BK197.out 6).trans rfl, (blk_cell BK197.out 7).trans rfl, (blk_cell BK195.out 0).trans rfl, (blk_cell BK195.out 1).trans rfl, (blk_cell BK195.out 2).trans rfl, (blk_cell BK195.out 3).trans rfl, (blk_cell BK195.out 4).trans rfl, (blk_cell BK195.out 5).trans rfl⟩ (fun hHeld => ?_); refine with_tabW saw_choose.tab5 saw_choose.bits5 (fun HT_ HW_ => ?_)
        generalize w15.drew = w16 at BK195 BK197 HB hHeld ⊢
        refine pure_ (i := 2) (N := some 21) (v := ?_) (a' := ?_) #[false, false, true, false, false, false, false, false, false, false, false, false, false, false, false, false, false, false, false, false, false, false, false, false, false, false] rfl rfl (any_of HT_.out (by kernel_rfl)) (fun _ _ _ h => h) (Or.inl ⟨by rfl, ?_⟩) ?_ ?_
        rotate_left
        ·intro w'
         go_simp
         with_reducible rfl
        rotate_left
        ·simp only [Act.put, List.setIfInBounds_toArray, List.set_cons_zero, List.set_cons_succ, i64_w, i32_w]
         rfl
        refine pure_ (i := 3) (N := some 22) (v := ?_) (a' := ?_) #[false, false, true, true, false, false, false, false, false, false, false, false, false, false, false, false, false, false, false, false, false, false, false, false, false, false] rfl rfl (any_of HT_.out (by kernel_rfl)) (fun _ _ _ h => h) (Or.inl ⟨by rfl, ?_⟩) ?_ ?_
        rotate_left
        ·intro w'
         go_simp
         with_reducible rfl
        rotate_left
        ·simp only [Act.put, List.setIfInBounds_toArray, List.set_cons_zero, List.set_cons_succ, i64_w, i32_w]
         rfl
        refine take_ (i := 0) (N := some 19) (v := ?_) (a' := ?_) #[true, false, true, true, false, false, false, false, false, false, false, false, false, false, false, false, false, false, false, false, false, false, false, false, false, false] rfl rfl (take_ofW HT_.out HW_.out (by kernel_rfl)) (fun _ _ _ h => h) (Or.inl ⟨by rfl, ?_⟩) hHeld ?_ ?_
        rotate_left
        ·rintro w' ⟨s0, s1, s2, s3, s4, s5, s6, s7, s8, s9, s10, s11, s12, s13⟩
         go_simp
         with_reducible rfl
        rotate_left
        ·simp only [Act.put, List.setIfInBounds_toArray, List.set_cons_zero, List.set_cons_succ, i64_w, i32_w]
         rfl
        refine take_ (i := 1) (N := some 20) (v := ?_) (a' := ?_) #[true, true, true, true, false, false, false, false, false, false, false, false, false, false, false, false, false, false, false, false, false, false, false, false, false, false] rfl rfl (take_ofW HT_.out HW_.out (by kernel_rfl)) (fun _ _ _ h => h) (Or.inl ⟨by rfl, ?_⟩) hHeld ?_ ?_
        rotate_left
        ·rintro w' ⟨s0, s1, s2, s3, s4, s5, s6, s7, s8, s9, s10, s11, s12, s13⟩
         go_simp
         with_reducible rfl
        rotate_left
        ·simp only [Act.put, List.setIfInBounds_toArray, List.set_cons_zero, List.set_cons_succ, i64_w, i32_w]
         rfl
        refine one_ (i := 4) (N := some 23) #[true, true, true, true, true, false, false, false, false, false, false, false, false, false, false, false, false, false, false, false, false, false, false, false, false, false] rfl rfl (one_of HT_.out (by kernel_rfl)) (by decide) (fun K hK => ?_)
        refine goes_ Try.func36 (by kernel_rfl) rfl #[.agg #[.string ((rd_T37 l0 x14_1).f0), .int .i64 ((rd_T37 l0 x14_1).f1), .int .i64 ((rd_T37 l0 x14_1).f2.f0), .int .i64 ((rd_T37 l0 x14_1).f2.f1), .int .i64 ((rd_T37 l0 x14_1).f2.f2), .int .i64 ((rd_T37 l0 x14_1).f3), .int .i64 ((rd_T37 l0 x14_1).f4), .int .i64 ((rd_T37 l0 x14_1).f5)], .agg #[.int .i64 a1_0, .int .i64 a1_1, .int .i64 a1_2, .int .i64 a1_3, .int .i64 a1_4, .int .i64 a1_5], .int .i64 a2, .int .i64 a3] (by rfl) rfl rfl (by (try simp only [List.map_toArray, List.map_cons, List.map_nil]); first | done | rfl | (simp only [List.length_drop, List.length_take]; rfl)) ?_
        with_reducible refine (saw_can.calls ((rd_T37 l0 x14_1).f0) ((rd_T37 l0 x14_1).f1) ((rd_T37 l0 x14_1).f2.f0) ((rd_T37 l0 x14_1).f2.f1) ((rd_T37 l0 x14_1).f2.f2) ((rd_T37 l0 x14_1).f3) ((rd_T37 l0 x14_1).f4) ((rd_T37 l0 x14_1).f5) a1_0 a1_1 a1_2 a1_3 a1_4 a1_5 a2 a3 t198 _ A9.out).mono ?_
        rintro e w17 ⟨rfl, hb⟩
        refine ⟨_, rfl, ?_⟩
        have n0_ := Aside0.mk (blk_below (g := gb195) (o := .cells #[.int .i64 a1_0, .int .i64 a1_1, .int .i64 a1_2, .int .i64 a1_3, .int .i64 a1_4, .int .i64 a1_5] 30 (0, 0)) (by (with_reducible repeat (first | refine blk_drewN ?_ _ | refine blk_drew ?_ | refine blk_alloc ?_ _)); exact BK195.out) hb)
        have n1_ := Aside0.mk (blk_below (g := gb197) (o := .cells #[.string ((rd_T37 l0 x14_1).f0), .int .i64 ((rd_T37 l0 x14_1).f1), .int .i64 ((rd_T37 l0 x14_1).f2.f0), .int .i64 ((rd_T37 l0 x14_1).f2.f1), .int .i64 ((rd_T37 l0 x14_1).f2.f2), .int .i64 ((rd_T37 l0 x14_1).f3), .int .i64 ((rd_T37 l0 x14_1).f4), .int .i64 ((rd_T37 l0 x14_1).f5)] 37 (0, 0)) (by (with_reducible repeat (first | refine blk_drewN ?_ _ | refine blk_drew ?_ | refine blk_alloc ?_ _)); exact BK197.out) hb)
        have n2_ := Aside0.mk (below_step (by repeat (first | (with_reducible first | exact HB.out | apply below_alloc | apply pw_below_drewN | apply below_drew1 | refine below_set ?_ GE195.out | refine below_set ?_ GE197.out) | exact HB.out)) hb)
        clear BK195
        clear BK197
        clear HB
        have BK195 := n0_
        have BK197 := n1_
        have HB := n2_
        clear n0_ n1_ n2_
        (try clear hb)
        (try clear hb2)
        (try clear hk)
        (try clear hi)
        refine hK.out _ _ ⟨(blk_cell BK197.out 0).trans rfl, (blk_cell BK197.out 1).trans rfl, (blk_cell BK197.out 2).trans rfl, (blk_cell BK197.out 3).trans rfl, (blk_cell BK197.out 4).trans rfl, (blk_cell BK197.out 5).trans rfl, (blk_cell BK197.out 6).trans rfl, (blk_cell BK197.out 7).trans rfl, (blk_cell BK195.out 0).trans rfl, (blk_cell BK195.out 1).trans rfl, (blk_cell BK195.out 2).trans rfl, (blk_cell BK195.out 3).trans rfl, (blk_cell BK195.out 4).trans rfl, (blk_cell BK195.out 5).trans rfl⟩ (fun hHeld => ?_)
        clear hK K
        refine norm_ (a' := ?_) ?_ ?_
        rotate_left
        ·show Act.put _ (some 23) _ = _
         simp only [Act.put, List.setIfInBounds_toArray, List.set_cons_zero, List.set_cons_succ, i64_w, i32_w]
         rfl
        refine pure_ (i := 5) (N := some 24) (v := ?_) (a' := ?_) #[true, true, true, true, true, true, false, false, false, false, false, false, false, false, false, false, false, false, false, false, false, false, false, false, false, false] rfl rfl (any_of HT_.out (by kernel_rfl)) (fun _ _ _ h => h) (Or.inl ⟨by rfl, ?_⟩) ?_ ?_
        rotate_left
        ·intro w'
         go_simp
         with_reducible rfl
        rotate_left
        ·simp only [Act.put, List.setIfInBounds_toArray, List.set_cons_zero, List.set_cons_succ, i64_w, i32_w]
         rfl
        refine pure_ (i := 6) (N := some 25) (v := ?_) (a' := ?_) #[true, true, true, true, true, true, true, false, false, false, false, false, false, false, false, false, false, false, false, false, false, false, false, false, false, false] rfl rfl (any_of HT_.out (by kernel_rfl)) (fun _ _ _ h => h) (Or.inl ⟨by rfl, ?_⟩) ?_ ?_
        rotate_left
        ·intro w'
         go_simp
         with_reducible rfl
        rotate_left
        ·simp only [Act.put, List.setIfInBounds_toArray, List.set_cons_zero, List.set_cons_succ, i64_w, i32_w]
         rfl
        refine pure_ (i := 7) (N := some 26) (v := ?_) (a' := ?_) #[true, true, true, true, true, true, true, true, false, false, false, false, false, false, false, false, false, false, false, false, false, false, false, false, false, false] rfl rfl (any_of HT_.out (by kernel_rfl)) (fun _ _ _ h => h) (Or.inl ⟨by rfl, ?_⟩) ?_ ?_
        rotate_left
        ·intro w'
         go_simp
         with_reducible rfl
        rotate_left
        ·simp only [Act.put, List.setIfInBounds_toArray, List.set_cons_zero, List.set_cons_succ, i64_w, i32_w]
         rfl
        refine pure_ (i := 8) (N := some 27) (v := ?_) (a' := ?_) #[true, true, true, true, true, true, true, true, true, false, false, false, false, false, false, false, false, false, false, false, false, false, false, false, false, false] rfl rfl (any_of HT_.out (by kernel_rfl)) (fun _ _ _ h => h) (Or.inl ⟨by rfl, ?_⟩) ?_ ?_
        rotate_left
        ·intro w'
         go_simp
         with_reducible rfl
        rotate_left
        ·simp only [Act.put, List.setIfInBounds_toArray, List.set_cons_zero, List.set_cons_succ, i64_w, i32_w]
         rfl
        refine pure_ (i := 9) (N := some 28) (v := ?_) (a' := ?_) #[true, true, true, true, true, true, true, true, true, true, false, false, false, false, false, false, false, false, false, false, false, false, false, false, false, false] rfl rfl (any_of HT_.out (by kernel_rfl)) (fun _ _ _ h => h) (Or.inl ⟨by rfl, ?_⟩) ?_ ?_
        rotate_left
        ·intro w'
         go_simp
         with_reducible rfl
        rotate_left
        ·simp only [Act.put, List.setIfInBounds_toArray, List.set_cons_zero, List.set_cons_succ, i64_w, i32_w]
         rfl
        refine pure_ (i := 10) (N := some 29) (v := undef) (a' := ?_) #[true, true, true, true, true, true, true, true, true, true, true, false, false, false, false, false, false, false, false, false, false, false, false, false, false, false] rfl rfl (any_of HT_.out (by kernel_rfl)) (fun _ _ _ h => h) (Or.inr ⟨by rfl, rfl⟩) ?_ ?_
        rotate_left
        ·simp only [Act.put, List.setIfInBounds_toArray, List.set_cons_zero, List.set_cons_succ, i64_w, i32_w]
         rfl
        refine pure_ (i := 11) (N := some 30) (v := undef) (a' := ?_) #[true, true, true, true, true, true, true, true, true, true, true, true, false, false, false, false, false, false, false, false, false, false, false, false, false, false] rfl rfl (any_of HT_.out (by kernel_rfl)) (fun _ _ _ h => h) (Or.inr ⟨by rfl, rfl⟩) ?_ ?_
        rotate_left
        ·simp only [Act.put, List.setIfInBounds_toArray, List.set_cons_zero, List.set_cons_succ, i64_w, i32_w]
         rfl
        refine pure_ (i := 12) (N := some 31) (v := undef) (a' := ?_) #[true, true, true, true, true, true, true, true, true, true, true, true, true, false, false, false, false, false, false, false, false, false, false, false, false, false] rfl rfl (any_of HT_.out (by kernel_rfl)) (fun _ _ _ h => h) (Or.inr ⟨by rfl, rfl⟩) ?_ ?_
        rotate_left
        ·simp only [Act.put, List.setIfInBounds_toArray, List.set_cons_zero, List.set_cons_succ, i64_w, i32_w]
         rfl
        refine pure_ (i := 13) (N := some 32) (v := undef) (a' := ?_) #[true, true, true, true, true, true, true, true, true, true, true, true, true, true, false, false, false, false, false, false, false, false, false, false, false, false] rfl rfl (any_of HT_.out (by kernel_rfl)) (fun _ _ _ h => h) (Or.inr ⟨by rfl, rfl⟩) ?_ ?_
        rotate_left
        ·simp only [Act.put, List.setIfInBounds_toArray, List.set_cons_zero, List.set_cons_succ, i64_w, i32_w]
         rfl
        refine pure_ (i := 14) (N := some 33) (v := undef) (a' := ?_) #[true, true, true, true, true, true, true, true, true, true, true, true, true, true, true, false, false, false, false, false, false, false, false, false, false, false] rfl rfl (any_of HT_.out (by kernel_rfl)) (fun _ _ _ h => h) (Or.inr ⟨by rfl, rfl⟩) ?_ ?_
        rotate_left
        ·simp only [Act.put, List.setIfInBounds_toArray, List.set_cons_zero, List.set_cons_succ, i64_w, i32_w]
         rfl
        refine pure_ (i := 15) (N := some 34) (v := undef) (a' := ?_) #[true, true, true, true, true, true, true, true, true, true, true, true, true, true, true, true, false, false, false, false, false, false, false, false, false, false] rfl rfl (any_of HT_.out (by kernel_rfl)) (fun _ _ _ h => h) (Or.inr ⟨by rfl, rfl⟩) ?_ ?_
        rotate_left
        ·simp only [Act.put, List.setIfInBounds_toArray, List.set_cons_zero, List.set_cons_succ, i64_w, i32_w]
         rfl
        refine pure_ (i := 16) (N := some 35) (v := undef) (a' := ?_) #[true, true, true, true, true, true, true, true, true, true, true, true, true, true, true, true, true, false, false, false, false, false, false, false, false, false] rfl rfl (any_of HT_.out (by kernel_rfl)) (fun _ _ _ h => h) (Or.inr ⟨by rfl, rfl⟩) ?_ ?_
        rotate_left
        ·simp only [Act.put, List.setIfInBounds_toArray, List.set_cons_zero, List.set_cons_succ, i64_w, i32_w]
         rfl
        refine pure_ (i := 17) (N := some 36) (v := undef) (a' := ?_) #[true, true, true, true, true, true, true, true, true, true, true, true, true, true, true, true, true, true, false, false, false, false, false, false, false, false] rfl rfl (any_of HT_.out (by kernel_rfl)) (fun _ _ _ h => h) (Or.inr ⟨by rfl, rfl⟩) ?_ ?_
        rotate_left
        ·simp only [Act.put, List.setIfInBounds_toArray, List.set_cons_zero, List.set_cons_succ, i64_w, i32_w]
         rfl
        refine pure_ (i := 18) (N := some 37) (v := undef) (a' := ?_) #[true, true, true, true, true, true, true, true, true, true, true, true, true, true, true, true, true, true, true, false, false, false, false, false, false, false] rfl rfl (any_of HT_.out (by kernel_rfl)) (fun _ _ _ h => h) (Or.inr ⟨by rfl, rfl⟩) ?_ ?_
        rotate_left
        ·simp only [Act.put, List.setIfInBounds_toArray, List.set_cons_zero, List.set_cons_succ, i64_w, i32_w]
         rfl
        refine pure_ (i := 19) (N := some 38) (v := undef) (a' := ?_) #[true, true, true, true, true, true, true, true, true, true, true, true, true, true, true, true, true, true, true, true, false, false, false, false, false, false] rfl rfl (any_of HT_.out (by kernel_rfl)) (fun _ _ _ h => h) (Or.inr ⟨by rfl, rfl⟩) ?_ ?_
        rotate_left
        ·simp only [Act.put, List.setIfInBounds_toArray, List.set_cons_zero, List.set_cons_succ, i64_w, i32_w]
         rfl
        refine pure_ (i := 20) (N := some 39) (v := undef) (a' := ?_) #[true, true, true, true, true, true, true, true, true, true, true, true, true, true, true, true, true, true, true, true, true, false, false, false, false, false] rfl rfl (any_of HT_.out (by kernel_rfl)) (fun _ _ _ h => h) (Or.inr ⟨by rfl, rfl⟩) ?_ ?_
        rotate_left
        ·simp only [Act.put, List.setIfInBounds_toArray, List.set_cons_zero, List.set_cons_succ, i64_w, i32_w]
         rfl
        refine pure_ (i := 21) (N := some 40) (v := undef) (a' := ?_) #[true, true, true, true, true, true, true, true, true, true, true, true, true, true, true, true, true, true, true, true, true, true, false, false, false, false] rfl rfl (any_of HT_.out (by kernel_rfl)) (fun _ _ _ h => h) (Or.inr ⟨by rfl, rfl⟩) ?_ ?_
        rotate_left
        ·simp only [Act.put, List.setIfInBounds_toArray, List.set_cons_zero, List.set_cons_succ, i64_w, i32_w]
         rfl
        refine pure_ (i := 22) (N := some 41) (v := undef) (a' := ?_) #[true, true, true, true, true, true, true, true, true, true, true, true, true, true, true, true, true, true, true, true, true, true, true, false, false, false] rfl rfl (any_of HT_.out (by kernel_rfl)) (fun _ _ _ h => h) (Or.inr ⟨by rfl, rfl⟩) ?_ ?_
        rotate_left
        ·simp only [Act.put, List.setIfInBounds_toArray, List.set_cons_zero, List.set_cons_succ, i64_w, i32_w]
         rfl
        refine pure_ (i := 23) (N := some 42) (v := undef) (a' := ?_) #[true, true, true, true, true, true, true, true, true, true, true, true, true, true, true, true, true, true, true, true, true, true, true, true, false, false] rfl rfl (any_of HT_.out (by kernel_rfl)) (fun _ _ _ h => h) (Or.inr ⟨by rfl, rfl⟩) ?_ ?_
        rotate_left
        ·simp only [Act.put, List.setIfInBounds_toArray, List.set_cons_zero, List.set_cons_succ, i64_w, i32_w]
         rfl
        refine pure_ (i := 24) (N := some 43) (v := ?_) (a' := ?_) #[true, true, true, true, true, true, true, true, true, true, true, true, true, true, true, true, true, true, true, true, true, true, true, true, true, false] rfl rfl (any_of HT_.out (by kernel_rfl)) (fun _ _ _ h => h) (Or.inl ⟨by rfl, ?_⟩) ?_ ?_
        rotate_left
        ·intro w'
         go_simp
         with_reducible rfl
        rotate_left
        ·simp only [Act.put, List.setIfInBounds_toArray, List.set_cons_zero, List.set_cons_succ, i64_w, i32_w]
         rfl
        refine pure_ (i := 25) (N := some 44) (v := ?_) (a' := ?_) #[true, true, true, true, true, true, true, true, true, true, true, true, true, true, true, true, true, true, true, true, true, true, true, true, true, true] rfl rfl (any_of HT_.out (by kernel_rfl)) (fun _ _ _ h => h) (Or.inl ⟨by rfl, ?_⟩) ?_ ?_
        rotate_left
        ·intro w'
         go_simp
         with_reducible rfl
        rotate_left
        ·simp only [Act.put, List.setIfInBounds_toArray, List.set_cons_zero, List.set_cons_succ, i64_w, i32_w]
         rfl
        refine done_ (done_of HT_.out (by kernel_rfl)) ?_
        try go_wp2
        go_roundg k1
        case measure => have := HK1.out; omega
        case rel => exact ⟨(x14_1), (wrap64 (x14_1 + 1)), (by first | rfl | (simp; done) | (simp [*]; done)), (by first | rfl | (simp; done) | (simp [*]; done)), H', ⟨by have := HK1.out; omega⟩, ⟨by (with_reducible repeat (first | refine blk_drewN ?_ _ | refine blk_drew ?_ | refine blk_alloc ?_ _)); exact BK195.out⟩, ⟨by repeat (first | (with_reducible first | exact HB.out | apply below_alloc | apply pw_below_drewN | apply below_drew1 | refine below_set ?_ GE195.out | refine below_set ?_ GE197.out) | exact HB.out)⟩⟩
       ·rw [if_neg c11] at H
        have c11b0 : decide (x9_1 < 0) = false := decide_eq_false c11
        clear c11
        replace H := Option.bind_eq_some_iff.mp H
        obtain ⟨t199, A180, H⟩ := H
        replace H : ((saw_minutes.f ((rd_T37 l0 x14_1).f0) ((rd_T37 l0 x14_1).f1) ((rd_T37 l0 x14_1).f2.f0) ((rd_T37 l0 x14_1).f2.f1) ((rd_T37 l0 x14_1).f2.f2) ((rd_T37 l0 x14_1).f3) ((rd_T37 l0 x14_1).f4) ((rd_T37 l0 x14_1).f5) t199).bind fun t200 => (if 0 ≤ x9_1 then (if x9_1 < (l0.length : Int) then ((saw_area.f a1_0 a1_1 a1_2 a1_3 a1_4 a1_5 a2).bind fun t202 => ((saw_minutes.f ((rd_T37 l0 x9_1).f0) ((rd_T37 l0 x9_1).f1) ((rd_T37 l0 x9_1).f2.f0) ((rd_T37 l0 x9_1).f2.f1) ((rd_T37 l0 x9_1).f2.f2) ((rd_T37 l0 x9_1).f3) ((rd_T37 l0 x9_1).f4) ((rd_T37 l0 x9_1).f5) t202).bind fun t203 => (if t200 < t203 then (saw_choose.l0 k1 l0 a2 a3 x14_1 l0 (l0.length : Int) (wrap64 (x14_1 + 1)) a1_0 a1_1 a1_2 a1_3 a1_4 a1_5) else (saw_choose.l0 k1 l0 a2 a3 x9_1 l0 (l0.length : Int) (wrap64 (x14_1 + 1)) a1_0 a1_1 a1_2 a1_3 a1_4 a1_5)))) else (none)) else (none))) = some r := H
        have A18 := Aside0.mk A180
        clear A180
        replace H := Option.bind_eq_some_iff.mp H
        obtain ⟨t200, A190, H⟩ := H
        replace H : (if 0 ≤ x9_1 then (if x9_1 < (l0.length : Int) then ((saw_area.f a1_0 a1_1 a1_2 a1_3 a1_4 a1_5 a2).bind fun t202 => ((saw_minutes.f ((rd_T37 l0 x9_1).f0) ((rd_T37 l0 x9_1).f1) ((rd_T37 l0 x9_1).f2.f0) ((rd_T37 l0 x9_1).f2.f1) ((rd_T37 l0 x9_1).f2.f2) ((rd_T37 l0 x9_1).f3) ((rd_T37 l0 x9_1).f4) ((rd_T37 l0 x9_1).f5) t202).bind fun t203 => (if t200 < t203 then (saw_choose.l0 k1 l0 a2 a3 x14_1 l0 (l0.length : Int) (wrap64 (x14_1 + 1)) a1_0 a1_1 a1_2 a1_3 a1_4 a1_5) else (saw_choose.l0 k1 l0 a2 a3 x9_1 l0 (l0.length : Int) (wrap64 (x14_1 + 1)) a1_0 a1_1 a1_2 a1_3 a1_4 a1_5)))) else (none)) else (none)) = some r := H
        have A19 := Aside0.mk A190
        clear A190
        by_cases c20 : 0 ≤ x9_1
        ·rw [if_pos c20] at H
         have c20b0 : decide (0 ≤ x9_1) = true := decide_eq_true c20
         clear c20
         by_cases c21 : x9_1 < (l0.length : Int)
         ·rw [if_pos c21] at H
          have c21b0 : decide (x9_1 < (l0.length : Int)) = true := decide_eq_true c21
          clear c21
          replace H := Option.bind_eq_some_iff.mp H
          obtain ⟨t202, A220, H⟩ := H
          replace H : ((saw_minutes.f ((rd_T37 l0 x9_1).f0) ((rd_T37 l0 x9_1).f1) ((rd_T37 l0 x9_1).f2.f0) ((rd_T37 l0 x9_1).f2.f1) ((rd_T37 l0 x9_1).f2.f2) ((rd_T37 l0 x9_1).f3) ((rd_T37 l0 x9_1).f4) ((rd_T37 l0 x9_1).f5) t202).bind fun t203 => (if t200 < t203 then (saw_choose.l0 k1 l0 a2 a3 x14_1 l0 (l0.length : Int) (wrap64 (x14_1 + 1)) a1_0 a1_1 a1_2 a1_3 a1_4 a1_5) else (saw_choose.l0 k1 l0 a2 a3 x9_1 l0 (l0.length : Int) (wrap64 (x14_1 + 1)) a1_0 a1_1 a1_2 a1_3 a1_4 a1_5))) = some r := H
          have A22 := Aside0.mk A220
          clear A220
          replace H := Option.bind_eq_some_iff.mp H
          obtain ⟨t203, A230, H⟩ := H
          replace H : (if t200 < t203 then (saw_choose.l0 k1 l0 a2 a3 x14_1 l0 (l0.length : Int) (wrap64 (x14_1 + 1)) a1_0 a1_1 a1_2 a1_3 a1_4 a1_5) else (saw_choose.l0 k1 l0 a2 a3 x9_1 l0 (l0.length : Int) (wrap64 (x14_1 + 1)) a1_0 a1_1 a1_2 a1_3 a1_4 a1_5)) = some r := H
          have A23 := Aside0.mk A230
          clear A230
          by_cases c24 : t200 < t203
          ·rw [if_pos c24] at H
           have c24b0 : decide (t200 < t203) = true := decide_eq_true c24
           clear c24
           have H' := Aside0.mk H
           clear H
           have p196 : 0 ≤ (x14_1 : Int) := of_decide_eq_true (by first | (with_reducible assumption) | assumption)
           have q196 : x14_1 < (l0.length : Int) := of_decide_eq_true (by first | (with_reducible assumption) | assumption)
           obtain ⟨ad196, e196, hx196_0, hx196_1, hx196_2, hx196_3, hx196_4, hx196_5, hx196_6, hx196_7⟩ := at_T37 HR0.out x14_1 p196 q196
           cases e196
           replace hx196_0 := (HB.out.cell (World.block_lt_of_cell? w _ hx196_0)).trans hx196_0
           replace hx196_1 := (HB.out.cell (World.block_lt_of_cell? w _ hx196_1)).trans hx196_1
           replace hx196_2 := (HB.out.cell (World.block_lt_of_cell? w _ hx196_2)).trans hx196_2
           replace hx196_3 := (HB.out.cell (World.block_lt_of_cell? w _ hx196_3)).trans hx196_3
           replace hx196_4 := (HB.out.cell (World.block_lt_of_cell? w _ hx196_4)).trans hx196_4
           replace hx196_5 := (HB.out.cell (World.block_lt_of_cell? w _ hx196_5)).trans hx196_5
           replace hx196_6 := (HB.out.cell (World.block_lt_of_cell? w _ hx196_6)).trans hx196_6
           replace hx196_7 := (HB.out.cell (World.block_lt_of_cell? w _ hx196_7)).trans hx196_7
           replace p196 := eq_true p196
           replace q196 := eq_true q196
           try go_wp2_with (first | ((with_reducible refine gate_dst (N := 11) rfl ?_); refine box_event ?hg (N := 11) ?hd (cs := #[.string (⟨#[]⟩ : ByteArray), .int .i64 0, .int .i64 0, .int .i64 0, .int .i64 0, .int .i64 0, .int .i64 0, .int .i64 0]) (t := 37) ?hr ?_; (case hd => rfl); (case hg => rfl); (case hr => first | (go_simp; done) | (go_simp; rfl)); intro gb197 hg w25 hbox hb; have n0_ := Aside0.mk (blk_below (g := gb195) (o := .cells #[.int .i64 a1_0, .int .i64 a1_1, .int .i64 a1_2, .int .i64 a1_3, .int .i64 a1_4, .int .i64 a1_5] 30 (0, 0)) (by (with_reducible repeat (first | refine blk_drewN ?_ _ | refine blk_drew ?_ | refine blk_alloc ?_ _)); exact BK195.out) hb); have n1_ := Aside0.mk (below_step (by repeat (first | (with_reducible first | exact HB.out | apply below_alloc | apply pw_below_drewN | apply below_drew1 | refine below_set ?_ GE195.out) | exact HB.out)) hb); have n2_ := Aside0.mk (hbox); have n3_ := Aside0.mk ((by rw [hg]; exact (below_size (by repeat (first | (with_reducible first | exact HB.out | apply below_alloc | apply pw_below_drewN | apply below_drew1 | refine below_set ?_ GE195.out) | exact HB.out))) : w.heap.size ≤ gb197)); have n4_ := Aside0.mk ((by rw [hg]; exact (below_size (by repeat (first | (with_reducible first | exact HB.out | apply below_alloc | apply pw_below_drewN | apply below_drew1 | refine below_set ?_ GE195.out) | exact HB.out))) : w.heap.size ≤ gb197)); have n5_ := Aside0.mk ((by rw [hg]; exact Nat.ne_of_lt (blk_lt (g := gb195) (o := .cells #[.int .i64 a1_0, .int .i64 a1_1, .int .i64 a1_2, .int .i64 a1_3, .int .i64 a1_4, .int .i64 a1_5] 30 (0, 0)) (by (with_reducible repeat (first | refine blk_drewN ?_ _ | refine blk_drew ?_ | refine blk_alloc ?_ _)); exact BK195.out)) : gb195 ≠ gb197)); have n6_ := Aside0.mk ((by rw [hg]; exact Nat.ne_of_gt (blk_lt (g := gb195) (o := .cells #[.int .i64 a1_0, .int .i64 a1_1, .int .i64 a1_2, .int .i64 a1_3, .int .i64 a1_4, .int .i64 a1_5] 30 (0, 0)) (by (with_reducible repeat (first | refine blk_drewN ?_ _ | refine blk_drew ?_ | refine blk_alloc ?_ _)); exact BK195.out)) : gb197 ≠ gb195)); clear BK195; clear HB; have BK195 := n0_; have HB := n1_; have BK197 := n2_; have GW197 := n3_; have GE197 := n4_; have NB195_197 := n5_; have NB197_195 := n6_; clear n0_ n1_ n2_ n3_ n4_ n5_ n6_; clear hb hbox hg; have hnb26 := NB197_195.out; have hnc26 := NB195_197.out; have hcz27_0 : w25.cell? ⟨gb197, 0, none⟩ = some (.string (⟨#[]⟩ : ByteArray)) := (blk_cell BK197.out 0).trans rfl; have hcz27_1 : w25.cell? ⟨gb197, 1, none⟩ = some (.int .i64 0) := (blk_cell BK197.out 1).trans rfl; have hcz27_2 : w25.cell? ⟨gb197, 2, none⟩ = some (.int .i64 0) := (blk_cell BK197.out 2).trans rfl; have hcz27_3 : w25.cell? ⟨gb197, 3, none⟩ = some (.int .i64 0) := (blk_cell BK197.out 3).trans rfl; have hcz27_4 : w25.cell? ⟨gb197, 4, none⟩ = some (.int .i64 0) := (blk_cell BK197.out 4).trans rfl; have hcz27_5 : w25.cell? ⟨gb197, 5, none⟩ = some (.int .i64 0) := (blk_cell BK197.out 5).trans rfl; have hcz27_6 : w25.cell? ⟨gb197, 6, none⟩ = some (.int .i64 0) := (blk_cell BK197.out 6).trans rfl; have hcz27_7 : w25.cell? ⟨gb197, 7, none⟩ = some (.int .i64 0) := (blk_cell BK197.out 7).trans rfl; have hfz27_0 := blk_frozen BK197.out 0; have hfz27_1 := blk_frozen BK197.out 1; have hfz27_2 := blk_frozen BK197.out 2; have hfz27_3 := blk_frozen BK197.out 3; have hfz27_4 := blk_frozen BK197.out 4; have hfz27_5 := blk_frozen BK197.out 5; have hfz27_6 := blk_frozen BK197.out 6; have hfz27_7 := blk_frozen BK197.out 7))
           have n0_ : Aside0 (((((((((w25.setCell ⟨gb197, 0, none⟩ (.string ((rd_T37 l0 x14_1).f0))).setCell ⟨gb197, 1, none⟩ (.int .i64 ((rd_T37 l0 x14_1).f1))).setCell ⟨gb197, 2, none⟩ (.int .i64 ((rd_T37 l0 x14_1).f2.f0))).setCell ⟨gb197, 3, none⟩ (.int .i64 ((rd_T37 l0 x14_1).f2.f1))).setCell ⟨gb197, 4, none⟩ (.int .i64 ((rd_T37 l0 x14_1).f2.f2))).setCell ⟨gb197, 5, none⟩ (.int .i64 ((rd_T37 l0 x14_1).f3))).setCell ⟨gb197, 6, none⟩ (.int .i64 ((rd_T37 l0 x14_1).f4))).setCell ⟨gb197, 7, none⟩ (.int .i64 ((rd_T37 l0 x14_1).f5))).heap[gb195]? = some (.cells #[.int .i64 a1_0, .int .i64 a1_1, .int .i64 a1_2, .int .i64 a1_3, .int .i64 a1_4, .int .i64 a1_5] 30 (0, 0))) := ⟨by (with_reducible repeat (first | refine blk_drewN ?_ _ | refine blk_drew ?_ | refine blk_alloc ?_ _)); refine blk_far ?_ NB195_197.out _; (with_reducible repeat (first | refine blk_drewN ?_ _ | refine blk_drew ?_ | refine blk_alloc ?_ _)); refine blk_far ?_ NB195_197.out _; (with_reducible repeat (first | refine blk_drewN ?_ _ | refine blk_drew ?_ | refine blk_alloc ?_ _)); refine blk_far ?_ NB195_197.out _; (with_reducible repeat (first | refine blk_drewN ?_ _ | refine blk_drew ?_ | refine blk_alloc ?_ _)); refine blk_far ?_ NB195_197.out _; (with_reducible repeat (first | refine blk_drewN ?_ _ | refine blk_drew ?_ | refine blk_alloc ?_ _)); refine blk_far ?_ NB195_197.out _; (with_reducible repeat (first | refine blk_drewN ?_ _ | refine blk_drew ?_ | refine blk_alloc ?_ _)); refine blk_far ?_ NB195_197.out _; (with_reducible repeat (first | refine blk_drewN ?_ _ | refine blk_drew ?_ | refine blk_alloc ?_ _)); refine blk_far ?_ NB195_197.out _; (with_reducible repeat (first | refine blk_drewN ?_ _ | refine blk_drew ?_ | refine blk_alloc ?_ _)); refine blk_far ?_ NB195_197.out _; (with_reducible repeat (first | refine blk_drewN ?_ _ | refine blk_drew ?_ | refine blk_alloc ?_ _)); exact BK195.out⟩
           have n1_ : Aside0 (((((((((w25.setCell ⟨gb197, 0, none⟩ (.string ((rd_T37 l0 x14_1).f0))).setCell ⟨gb197, 1, none⟩ (.int .i64 ((rd_T37 l0 x14_1).f1))).setCell ⟨gb197, 2, none⟩ (.int .i64 ((rd_T37 l0 x14_1).f2.f0))).setCell ⟨gb197, 3, none⟩ (.int .i64 ((rd_T37 l0 x14_1).f2.f1))).setCell ⟨gb197, 4, none⟩ (.int .i64 ((rd_T37 l0 x14_1).f2.f2))).setCell ⟨gb197, 5, none⟩ (.int .i64 ((rd_T37 l0 x14_1).f3))).setCell ⟨gb197, 6, none⟩ (.int .i64 ((rd_T37 l0 x14_1).f4))).setCell ⟨gb197, 7, none⟩ (.int .i64 ((rd_T37 l0 x14_1).f5))).heap[gb197]? = some (.cells #[.string ((rd_T37 l0 x14_1).f0), .int .i64 ((rd_T37 l0 x14_1).f1), .int .i64 ((rd_T37 l0 x14_1).f2.f0), .int .i64 ((rd_T37 l0 x14_1).f2.f1), .int .i64 ((rd_T37 l0 x14_1).f2.f2), .int .i64 ((rd_T37 l0 x14_1).f3), .int .i64 ((rd_T37 l0 x14_1).f4), .int .i64 ((rd_T37 l0 x14_1).f5)] 37 (0, 0))) := ⟨by (with_reducible repeat (first | refine blk_drewN ?_ _ | refine blk_drew ?_ | refine blk_alloc ?_ _)); refine blk_put (cs := #[.string ((rd_T37 l0 x14_1).f0), .int .i64 ((rd_T37 l0 x14_1).f1), .int .i64 ((rd_T37 l0 x14_1).f2.f0), .int .i64 ((rd_T37 l0 x14_1).f2.f1), .int .i64 ((rd_T37 l0 x14_1).f2.f2), .int .i64 ((rd_T37 l0 x14_1).f3), .int .i64 ((rd_T37 l0 x14_1).f4), .int .i64 0]) ?_ 7 _ rfl; (with_reducible repeat (first | refine blk_drewN ?_ _ | refine blk_drew ?_ | refine blk_alloc ?_ _)); refine blk_put (cs := #[.string ((rd_T37 l0 x14_1).f0), .int .i64 ((rd_T37 l0 x14_1).f1), .int .i64 ((rd_T37 l0 x14_1).f2.f0), .int .i64 ((rd_T37 l0 x14_1).f2.f1), .int .i64 ((rd_T37 l0 x14_1).f2.f2), .int .i64 ((rd_T37 l0 x14_1).f3), .int .i64 0, .int .i64 0]) ?_ 6 _ rfl; (with_reducible repeat (first | refine blk_drewN ?_ _ | refine blk_drew ?_ | refine blk_alloc ?_ _)); refine blk_put (cs := #[.string ((rd_T37 l0 x14_1).f0), .int .i64 ((rd_T37 l0 x14_1).f1), .int .i64 ((rd_T37 l0 x14_1).f2.f0), .int .i64 ((rd_T37 l0 x14_1).f2.f1), .int .i64 ((rd_T37 l0 x14_1).f2.f2), .int .i64 0, .int .i64 0, .int .i64 0]) ?_ 5 _ rfl; (with_reducible repeat (first | refine blk_drewN ?_ _ | refine blk_drew ?_ | refine blk_alloc ?_ _)); refine blk_put (cs := #[.string ((rd_T37 l0 x14_1).f0), .int .i64 ((rd_T37 l0 x14_1).f1), .int .i64 ((rd_T37 l0 x14_1).f2.f0), .int .i64 ((rd_T37 l0 x14_1).f2.f1), .int .i64 0, .int .i64 0, .int .i64 0, .int .i64 0]) ?_ 4 _ rfl; (with_reducible repeat (first | refine blk_drewN ?_ _ | refine blk_drew ?_ | refine blk_alloc ?_ _)); refine blk_put (cs := #[.string ((rd_T37 l0 x14_1).f0), .int .i64 ((rd_T37 l0 x14_1).f1), .int .i64 ((rd_T37 l0 x14_1).f2.f0), .int .i64 0, .int .i64 0, .int .i64 0, .int .i64 0, .int .i64 0]) ?_ 3 _ rfl; (with_reducible repeat (first | refine blk_drewN ?_ _ | refine blk_drew ?_ | refine blk_alloc ?_ _)); refine blk_put (cs := #[.string ((rd_T37 l0 x14_1).f0), .int .i64 ((rd_T37 l0 x14_1).f1), .int .i64 0, .int .i64 0, .int .i64 0, .int .i64 0, .int .i64 0, .int .i64 0]) ?_ 2 _ rfl; (with_reducible repeat (first | refine blk_drewN ?_ _ | refine blk_drew ?_ | refine blk_alloc ?_ _)); refine blk_put (cs := #[.string ((rd_T37 l0 x14_1).f0), .int .i64 0, .int .i64 0, .int .i64 0, .int .i64 0, .int .i64 0, .int .i64 0, .int .i64 0]) ?_ 1 _ rfl; (with_reducible repeat (first | refine blk_drewN ?_ _ | refine blk_drew ?_ | refine blk_alloc ?_ _)); refine blk_put (cs := #[.string (⟨#[]⟩ : ByteArray), .int .i64 0, .int .i64 0, .int .i64 0, .int .i64 0, .int .i64 0, .int .i64 0, .int .i64 0]) ?_ 0 _ rfl; (with_reducible repeat (first | refine blk_drewN ?_ _ | refine blk_drew ?_ | refine blk_alloc ?_ _)); exact BK197.out⟩
           have n2_ : Aside0 (Below w.heap.size w ((((((((w25.setCell ⟨gb197, 0, none⟩ (.string ((rd_T37 l0 x14_1).f0))).setCell ⟨gb197, 1, none⟩ (.int .i64 ((rd_T37 l0 x14_1).f1))).setCell ⟨gb197, 2, none⟩ (.int .i64 ((rd_T37 l0 x14_1).f2.f0))).setCell ⟨gb197, 3, none⟩ (.int .i64 ((rd_T37 l0 x14_1).f2.f1))).setCell ⟨gb197, 4, none⟩ (.int .i64 ((rd_T37 l0 x14_1).f2.f2))).setCell ⟨gb197, 5, none⟩ (.int .i64 ((rd_T37 l0 x14_1).f3))).setCell ⟨gb197, 6, none⟩ (.int .i64 ((rd_T37 l0 x14_1).f4))).setCell ⟨gb197, 7, none⟩ (.int .i64 ((rd_T37 l0 x14_1).f5)))) := ⟨by repeat (first | (with_reducible first | exact HB.out | apply below_alloc | apply pw_below_drewN | apply below_drew1 | refine below_set ?_ GE195.out | refine below_set ?_ GE197.out) | exact HB.out)⟩
           (try clear BK195)
           (try clear BK197)
           (try clear HB)
           generalize ((((((((w25.setCell ⟨gb197, 0, none⟩ (.string ((rd_T37 l0 x14_1).f0))).setCell ⟨gb197, 1, none⟩ (.int .i64 ((rd_T37 l0 x14_1).f1))).setCell ⟨gb197, 2, none⟩ (.int .i64 ((rd_T37 l0 x14_1).f2.f0))).setCell ⟨gb197, 3, none⟩ (.int .i64 ((rd_T37 l0 x14_1).f2.f1))).setCell ⟨gb197, 4, none⟩ (.int .i64 ((rd_T37 l0 x14_1).f2.f2))).setCell ⟨gb197, 5, none⟩ (.int .i64 ((rd_T37 l0 x14_1).f3))).setCell ⟨gb197, 6, none⟩ (.int .i64 ((rd_T37 l0 x14_1).f4))).setCell ⟨gb197, 7, none⟩ (.int .i64 ((rd_T37 l0 x14_1).f5))) = w28 at n0_ n1_ n2_ ⊢
           have BK195 := n0_
           have BK197 := n1_
           have HB := n2_
           clear n0_ n1_ n2_
           have n0_ := Aside0.mk (blk_drew BK195.out)
           have n1_ := Aside0.mk (blk_drew BK197.out)
           have n2_ := Aside0.mk (below_drew1 HB.out)
           clear BK195
           clear BK197
           clear HB
           have BK195 := n0_
           have BK197 := n1_
           have HB := n2_
           clear n0_ n1_ n2_
           have p201 : 0 ≤ (x9_1 : Int) := of_decide_eq_true (by first | (with_reducible assumption) | assumption)
           have q201 : x9_1 < (l0.length : Int) := of_decide_eq_true (by first | (with_reducible assumption) | assumption)
           obtain ⟨ad201, e201, hx201_0, hx201_1, hx201_2, hx201_3, hx201_4, hx201_5, hx201_6, hx201_7⟩ := at_T37 HR0.out x9_1 p201 q201
           have hw201_7 := hx201_7
           have hw201_6 := hx201_6
           have hw201_5 := hx201_5
           have hw201_4 := hx201_4
           have hw201_3 := hx201_3
           have hw201_2 := hx201_2
           have hw201_1 := hx201_1
           have hw201_0 := hx201_0
           obtain rfl : ad196 = ad201 := (by injection e201)
           replace hx201_0 := (HB.out.cell (World.block_lt_of_cell? w _ hx201_0)).trans hx201_0
           replace hx201_1 := (HB.out.cell (World.block_lt_of_cell? w _ hx201_1)).trans hx201_1
           replace hx201_2 := (HB.out.cell (World.block_lt_of_cell? w _ hx201_2)).trans hx201_2
           replace hx201_3 := (HB.out.cell (World.block_lt_of_cell? w _ hx201_3)).trans hx201_3
           replace hx201_4 := (HB.out.cell (World.block_lt_of_cell? w _ hx201_4)).trans hx201_4
           replace hx201_5 := (HB.out.cell (World.block_lt_of_cell? w _ hx201_5)).trans hx201_5
           replace hx201_6 := (HB.out.cell (World.block_lt_of_cell? w _ hx201_6)).trans hx201_6
           replace hx201_7 := (HB.out.cell (World.block_lt_of_cell? w _ hx201_7)).trans hx201_7
           replace p201 := eq_true p201
           replace q201 := eq_true q201
           refine start_ (n := 26) (S := fun w' => w'.cell? ⟨gb197, 0, none⟩ = some (.string ((rd_T37 l0 x14_1).f0)) ∧ w'.cell? ⟨gb197, 1, none⟩ = some (.int .i64 ((rd_T37 l0 x14_1).f1)) ∧ w'.cell? ⟨gb197, 2, none⟩ = some (.int .i64 ((rd_T37 l0 x14_1).f2.f0)) ∧ w'.cell? ⟨gb197, 3, none⟩ = some (.int .i64 ((rd_T37 l0 x14_1).f2.f1)) ∧ w'.cell? ⟨gb197, 4, none⟩ = some (.int .i64 ((rd_T37 l0 x14_1).f2.f2)) ∧ w'.cell? ⟨gb197, 5, none⟩ = some (.int .i64 ((rd_T37 l0 x14_1).f3)) ∧ w'.cell? ⟨gb197, 6, none⟩ = some (.int .i64 ((rd_T37 l0 x14_1).f4)) ∧ w'.cell? ⟨gb197, 7, none⟩ = some (.int .i64 ((rd_T37 l0 x14_1).f5)) ∧ w'.cell? ⟨gb195, 0, none⟩ = some (.int .i64 a1_0) ∧ w'.cell? ⟨gb195, 1, none⟩ = some (.int .i64 a1_1) ∧ w'.cell? ⟨gb195, 2, none⟩ = some (.int .i64 a1_2) ∧ w'.cell? ⟨gb195, 3, none⟩ = some (.int .i64 a1_3) ∧ w'.cell? ⟨gb195, 4, none⟩ = some (.int .i64 a1_4) ∧ w'.cell? ⟨gb195, 5, none⟩ = some (.int .i64 a1_5) ∧ w'.cell? (ad196.add ((x9_1).toNat * 8)) = some (.string ((rd_T37 l0 x9_1).f0)) ∧ w'.cell? ⟨(ad196.add ((x9_1).toNat * 8)).block, (ad196.add ((x9_1).toNat * 8)).off + 1, none⟩ = some (.int .i64 ((rd_T37 l0 x9_1).f1)) ∧ w'.cell? ⟨(ad196.add ((x9_1).toNat * 8)).block, (ad196.add ((x9_1).toNat * 8)).off + 2, none⟩ = some (.int .i64 ((rd_T37 l0 x9_1).f2.f0)) ∧ w'.cell? ⟨(ad196.add ((x9_1).toNat * 8)).block, (ad196.add ((x9_1).toNat * 8)).off + 3, none⟩ = some (.int .i64 ((rd_T37 l0 x9_1).f2.f1)) ∧ w'.cell? ⟨(ad196.add ((x9_1).toNat * 8)).block, (ad196.add ((x9_1).toNat * 8)).off + 4, none⟩ = some (.int .i64 ((rd_T37 l0 x9_1).f2.f2)) ∧ w'.cell? ⟨(ad196.add ((x9_1).toNat * 8)).block, (ad196.add ((x9_1).toNat * 8)).off + 5, none⟩ = some (.int .i64 ((rd_T37 l0 x9_1).f3)) ∧ w'.cell? ⟨(ad196.add ((x9_1).toNat * 8)).block, (ad196.add ((x9_1).toNat * 8)).off + 6, none⟩ = some (.int .i64 ((rd_T37 l0 x9_1).f4)) ∧ w'.cell? ⟨(ad196.add ((x9_1).toNat * 8)).block, (ad196.add ((x9_1).toNat * 8)).off + 7, none⟩ = some (.int .i64 ((rd_T37 l0 x9_1).f5))) (ds := []) #[false, false, false, false, false, false, false, false, false, false, false, false, false, false, false, false, false, false, false, false, false, false, false, false, false, false] (by kernel_rfl) rfl rfl ⟨(blk_cell BK197.out 0).trans rfl, (blk_cell BK197.out 1).trans rfl, (blk_cell BK197.out 2).trans rfl, (blk_cell BK197.out 3).trans rfl, (blk_cell BK197.out 4).trans rfl, (blk_cell BK197.out 5).trans rfl, (blk_cell BK197.out 6).trans rfl, (blk_cell BK197.out 7).trans rfl, (blk_cell BK195.out 0).trans rfl, (blk_cell BK195.out 1).trans rfl, (blk_cell BK195.out 2).trans rfl, (blk_cell BK195.out 3).trans rfl, (blk_cell BK195.out 4).trans rfl, (blk_cell BK195.out 5).trans rfl, ((HB.out.cell (World.block_lt_of_cell? w _ hw201_0)).trans hw201_0), ((HB.out.cell (World.block_lt_of_cell? w _ hw201_1)).trans hw201_1), ((HB.out.cell (World.block_lt_of_cell? w _ hw201_2)).trans hw201_2), ((HB.out.cell (World.block_lt_of_cell? w _ hw201_3)).trans hw201_3), ((HB.out.cell (World.block_lt_of_cell? w _ hw201_4)).trans hw201_4), ((HB.out.cell (World.block_lt_of_cell? w _ hw201_5)).trans hw201_5), ((HB.out.cell (World.block_lt_of_cell? w _ hw201_6)).trans hw201_6), ((HB.out.cell (World.block_lt_of_cell? w _ hw201_7)).trans hw201_7)⟩ (fun hHeld => ?_); refine with_tabW saw_choose.tab5 saw_choose.bits5 (fun HT_ HW_ => ?_)
           generalize w28.drew = w29 at BK195 BK197 HB hx201_0 hx201_1 hx201_2 hx201_3 hx201_4 hx201_5 hx201_6 hx201_7 hHeld ⊢
           refine pure_ (i := 2) (N := some 21) (v := ?_) (a' := ?_) #[false, false, true, false, false, false, false, false, false, false, false, false, false, false, false, false, false, false, false, false, false, false, false, false, false, false] rfl rfl (any_of HT_.out (by kernel_rfl)) (fun _ _ _ h => h) (Or.inl ⟨by rfl, ?_⟩) ?_ ?_
           rotate_left
           ·intro w'
            go_simp
            with_reducible rfl
           rotate_left
           ·simp only [Act.put, List.setIfInBounds_toArray, List.set_cons_zero, List.set_cons_succ, i64_w, i32_w]
            rfl
           refine pure_ (i := 3) (N := some 22) (v := ?_) (a' := ?_) #[false, false, true, true, false, false, false, false, false, false, false, false, false, false, false, false, false, false, false, false, false, false, false, false, false, false] rfl rfl (any_of HT_.out (by kernel_rfl)) (fun _ _ _ h => h) (Or.inl ⟨by rfl, ?_⟩) ?_ ?_
           rotate_left
           ·intro w'
            go_simp
            with_reducible rfl
           rotate_left
           ·simp only [Act.put, List.setIfInBounds_toArray, List.set_cons_zero, List.set_cons_succ, i64_w, i32_w]
            rfl
           refine take_ (i := 0) (N := some 19) (v := ?_) (a' := ?_) #[true, false, true, true, false, false, false, false, false, false, false, false, false, false, false, false, false, false, false, false, false, false, false, false, false, false] rfl rfl (take_ofW HT_.out HW_.out (by kernel_rfl)) (fun _ _ _ h => h) (Or.inl ⟨by rfl, ?_⟩) hHeld ?_ ?_
           rotate_left
           ·rintro w' ⟨s0, s1, s2, s3, s4, s5, s6, s7, s8, s9, s10, s11, s12, s13, s14, s15, s16, s17, s18, s19, s20, s21⟩
            go_simp
            with_reducible rfl
           rotate_left
           ·simp only [Act.put, List.setIfInBounds_toArray, List.set_cons_zero, List.set_cons_succ, i64_w, i32_w]
            rfl
           refine take_ (i := 1) (N := some 20) (v := ?_) (a' := ?_) #[true, true, true, true, false, false, false, false, false, false, false, false, false, false, false, false, false, false, false, false, false, false, false, false, false, false] rfl rfl (take_ofW HT_.out HW_.out (by kernel_rfl)) (fun _ _ _ h => h) (Or.inl ⟨by rfl, ?_⟩) hHeld ?_ ?_
           rotate_left
           ·rintro w' ⟨s0, s1, s2, s3, s4, s5, s6, s7, s8, s9, s10, s11, s12, s13, s14, s15, s16, s17, s18, s19, s20, s21⟩
            go_simp
            with_reducible rfl
           rotate_left
           ·simp only [Act.put, List.setIfInBounds_toArray, List.set_cons_zero, List.set_cons_succ, i64_w, i32_w]
            rfl
           refine one_ (i := 4) (N := some 23) #[true, true, true, true, true, false, false, false, false, false, false, false, false, false, false, false, false, false, false, false, false, false, false, false, false, false] rfl rfl (one_of HT_.out (by kernel_rfl)) (by decide) (fun K hK => ?_)
           refine goes_ Try.func36 (by kernel_rfl) rfl #[.agg #[.string ((rd_T37 l0 x14_1).f0), .int .i64 ((rd_T37 l0 x14_1).f1), .int .i64 ((rd_T37 l0 x14_1).f2.f0), .int .i64 ((rd_T37 l0 x14_1).f2.f1), .int .i64 ((rd_T37 l0 x14_1).f2.f2), .int .i64 ((rd_T37 l0 x14_1).f3), .int .i64 ((rd_T37 l0 x14_1).f4), .int .i64 ((rd_T37 l0 x14_1).f5)], .agg #[.int .i64 a1_0, .int .i64 a1_1, .int .i64 a1_2, .int .i64 a1_3, .int .i64 a1_4, .int .i64 a1_5], .int .i64 a2, .int .i64 a3] (by rfl) rfl rfl (by (try simp only [List.map_toArray, List.map_cons, List.map_nil]); first | done | rfl | (simp only [List.length_drop, List.length_take]; rfl)) ?_
           with_reducible refine (saw_can.calls ((rd_T37 l0 x14_1).f0) ((rd_T37 l0 x14_1).f1) ((rd_T37 l0 x14_1).f2.f0) ((rd_T37 l0 x14_1).f2.f1) ((rd_T37 l0 x14_1).f2.f2) ((rd_T37 l0 x14_1).f3) ((rd_T37 l0 x14_1).f4) ((rd_T37 l0 x14_1).f5) a1_0 a1_1 a1_2 a1_3 a1_4 a1_5 a2 a3 t198 _ A9.out).mono ?_
           rintro e w30 ⟨rfl, hb⟩
           refine ⟨_, rfl, ?_⟩
           have n0_ := Aside0.mk (blk_below (g := gb195) (o := .cells #[.int .i64 a1_0, .int .i64 a1_1, .int .i64 a1_2, .int .i64 a1_3, .int .i64 a1_4, .int .i64 a1_5] 30 (0, 0)) (by (with_reducible repeat (first | refine blk_drewN ?_ _ | refine blk_drew ?_ | refine blk_alloc ?_ _)); exact BK195.out) hb)
           have n1_ := Aside0.mk (blk_below (g := gb197) (o := .cells #[.string ((rd_T37 l0 x14_1).f0), .int .i64 ((rd_T37 l0 x14_1).f1), .int .i64 ((rd_T37 l0 x14_1).f2.f0), .int .i64 ((rd_T37 l0 x14_1).f2.f1), .int .i64 ((rd_T37 l0 x14_1).f2.f2), .int .i64 ((rd_T37 l0 x14_1).f3), .int .i64 ((rd_T37 l0 x14_1).f4), .int .i64 ((rd_T37 l0 x14_1).f5)] 37 (0, 0)) (by (with_reducible repeat (first | refine blk_drewN ?_ _ | refine blk_drew ?_ | refine blk_alloc ?_ _)); exact BK197.out) hb)
           have n2_ := Aside0.mk (below_step (by repeat (first | (with_reducible first | exact HB.out | apply below_alloc | apply pw_below_drewN | apply below_drew1 | refine below_set ?_ GE195.out | refine below_set ?_ GE197.out) | exact HB.out)) hb)
           clear BK195
           clear BK197
           clear HB
           have BK195 := n0_
           have BK197 := n1_
           have HB := n2_
           clear n0_ n1_ n2_
           (try clear hb)
           (try clear hb2)
           (try clear hk)
           (try clear hi)
           refine hK.out _ _ ⟨(blk_cell BK197.out 0).trans rfl, (blk_cell BK197.out 1).trans rfl, (blk_cell BK197.out 2).trans rfl, (blk_cell BK197.out 3).trans rfl, (blk_cell BK197.out 4).trans rfl, (blk_cell BK197.out 5).trans rfl, (blk_cell BK197.out 6).trans rfl, (blk_cell BK197.out 7).trans rfl, (blk_cell BK195.out 0).trans rfl, (blk_cell BK195.out 1).trans rfl, (blk_cell BK195.out 2).trans rfl, (blk_cell BK195.out 3).trans rfl, (blk_cell BK195.out 4).trans rfl, (blk_cell BK195.out 5).trans rfl, ((HB.out.cell (World.block_lt_of_cell? w _ hw201_0)).trans hw201_0), ((HB.out.cell (World.block_lt_of_cell? w _ hw201_1)).trans hw201_1), ((HB.out.cell (World.block_lt_of_cell? w _ hw201_2)).trans hw201_2), ((HB.out.cell (World.block_lt_of_cell? w _ hw201_3)).trans hw201_3), ((HB.out.cell (World.block_lt_of_cell? w _ hw201_4)).trans hw201_4), ((HB.out.cell (World.block_lt_of_cell? w _ hw201_5)).trans hw201_5), ((HB.out.cell (World.block_lt_of_cell? w _ hw201_6)).trans hw201_6), ((HB.out.cell (World.block_lt_of_cell? w _ hw201_7)).trans hw201_7)⟩ (fun hHeld => ?_)
           clear hK K
           refine norm_ (a' := ?_) ?_ ?_
           rotate_left
           ·show Act.put _ (some 23) _ = _
            simp only [Act.put, List.setIfInBounds_toArray, List.set_cons_zero, List.set_cons_succ, i64_w, i32_w]
            rfl
           refine pure_ (i := 5) (N := some 24) (v := ?_) (a' := ?_) #[true, true, true, true, true, true, false, false, false, false, false, false, false, false, false, false, false, false, false, false, false, false, false, false, false, false] rfl rfl (any_of HT_.out (by kernel_rfl)) (fun _ _ _ h => h) (Or.inl ⟨by rfl, ?_⟩) ?_ ?_
           rotate_left
           ·intro w'
            go_simp
            with_reducible rfl
           rotate_left
           ·simp only [Act.put, List.setIfInBounds_toArray, List.set_cons_zero, List.set_cons_succ, i64_w, i32_w]
            rfl
           refine pure_ (i := 6) (N := some 25) (v := ?_) (a' := ?_) #[true, true, true, true, true, true, true, false, false, false, false, false, false, false, false, false, false, false, false, false, false, false, false, false, false, false] rfl rfl (any_of HT_.out (by kernel_rfl)) (fun _ _ _ h => h) (Or.inl ⟨by rfl, ?_⟩) ?_ ?_
           rotate_left
           ·intro w'
            go_simp
            with_reducible rfl
           rotate_left
           ·simp only [Act.put, List.setIfInBounds_toArray, List.set_cons_zero, List.set_cons_succ, i64_w, i32_w]
            rfl
           refine pure_ (i := 7) (N := some 26) (v := ?_) (a' := ?_) #[true, true, true, true, true, true, true, true, false, false, false, false, false, false, false, false, false, false, false, false, false, false, false, false, false, false] rfl rfl (any_of HT_.out (by kernel_rfl)) (fun _ _ _ h => h) (Or.inl ⟨by rfl, ?_⟩) ?_ ?_
           rotate_left
           ·intro w'
            go_simp
            with_reducible rfl
           rotate_left
           ·simp only [Act.put, List.setIfInBounds_toArray, List.set_cons_zero, List.set_cons_succ, i64_w, i32_w]
            rfl
           refine pure_ (i := 8) (N := some 27) (v := ?_) (a' := ?_) #[true, true, true, true, true, true, true, true, true, false, false, false, false, false, false, false, false, false, false, false, false, false, false, false, false, false] rfl rfl (any_of HT_.out (by kernel_rfl)) (fun _ _ _ h => h) (Or.inl ⟨by rfl, ?_⟩) ?_ ?_
           rotate_left
           ·intro w'
            go_simp
            with_reducible rfl
           rotate_left
           ·simp only [Act.put, List.setIfInBounds_toArray, List.set_cons_zero, List.set_cons_succ, i64_w, i32_w]
            rfl
           refine pure_ (i := 9) (N := some 28) (v := ?_) (a' := ?_) #[true, true, true, true, true, true, true, true, true, true, false, false, false, false, false, false, false, false, false, false, false, false, false, false, false, false] rfl rfl (any_of HT_.out (by kernel_rfl)) (fun _ _ _ h => h) (Or.inl ⟨by rfl, ?_⟩) ?_ ?_
           rotate_left
           ·intro w'
            go_simp
            with_reducible rfl
           rotate_left
           ·simp only [Act.put, List.setIfInBounds_toArray, List.set_cons_zero, List.set_cons_succ, i64_w, i32_w]
            rfl
           refine pure_ (i := 12) (N := some 31) (v := ?_) (a' := ?_) #[true, true, true, true, true, true, true, true, true, true, false, false, true, false, false, false, false, false, false, false, false, false, false, false, false, false] rfl rfl (any_of HT_.out (by kernel_rfl)) (fun _ _ _ h => h) (Or.inl ⟨by rfl, ?_⟩) ?_ ?_
           rotate_left
           ·intro w'
            go_simp
            with_reducible rfl
           rotate_left
           ·simp only [Act.put, List.setIfInBounds_toArray, List.set_cons_zero, List.set_cons_succ, i64_w, i32_w]
            rfl
           refine pure_ (i := 15) (N := some 34) (v := ?_) (a' := ?_) #[true, true, true, true, true, true, true, true, true, true, false, false, true, false, false, true, false, false, false, false, false, false, false, false, false, false] rfl rfl (any_of HT_.out (by kernel_rfl)) (fun _ _ _ h => h) (Or.inl ⟨by rfl, ?_⟩) ?_ ?_
           rotate_left
           ·intro w'
            go_simp
            with_reducible rfl
           rotate_left
           ·simp only [Act.put, List.setIfInBounds_toArray, List.set_cons_zero, List.set_cons_succ, i64_w, i32_w]
            rfl
           refine pure_ (i := 16) (N := some 35) (v := ?_) (a' := ?_) #[true, true, true, true, true, true, true, true, true, true, false, false, true, false, false, true, true, false, false, false, false, false, false, false, false, false] rfl rfl (any_of HT_.out (by kernel_rfl)) (fun _ _ _ h => h) (Or.inl ⟨by rfl, ?_⟩) ?_ ?_
           rotate_left
           ·intro w'
            go_simp
            with_reducible rfl
           rotate_left
           ·simp only [Act.put, List.setIfInBounds_toArray, List.set_cons_zero, List.set_cons_succ, i64_w, i32_w]
            rfl
           refine pure_ (i := 17) (N := some 36) (v := ?_) (a' := ?_) #[true, true, true, true, true, true, true, true, true, true, false, false, true, false, false, true, true, true, false, false, false, false, false, false, false, false] rfl rfl (any_of HT_.out (by kernel_rfl)) (fun _ _ _ h => h) (Or.inl ⟨by rfl, ?_⟩) ?_ ?_
           rotate_left
           ·intro w'
            go_simp
            with_reducible rfl
           rotate_left
           ·simp only [Act.put, List.setIfInBounds_toArray, List.set_cons_zero, List.set_cons_succ, i64_w, i32_w]
            rfl
           refine pure_ (i := 20) (N := some 39) (v := ?_) (a' := ?_) #[true, true, true, true, true, true, true, true, true, true, false, false, true, false, false, true, true, true, false, false, true, false, false, false, false, false] rfl rfl (any_of HT_.out (by kernel_rfl)) (fun _ _ _ h => h) (Or.inl ⟨by rfl, ?_⟩) ?_ ?_
           rotate_left
           ·intro w'
            go_simp
            with_reducible rfl
           rotate_left
           ·simp only [Act.put, List.setIfInBounds_toArray, List.set_cons_zero, List.set_cons_succ, i64_w, i32_w]
            rfl
           refine take_ (i := 10) (N := some 29) (v := ?_) (a' := ?_) #[true, true, true, true, true, true, true, true, true, true, true, false, true, false, false, true, true, true, false, false, true, false, false, false, false, false] rfl rfl (take_ofW HT_.out HW_.out (by kernel_rfl)) (fun _ _ _ h => h) (Or.inl ⟨by rfl, ?_⟩) hHeld ?_ ?_
           rotate_left
           ·rintro w' ⟨s0, s1, s2, s3, s4, s5, s6, s7, s8, s9, s10, s11, s12, s13, s14, s15, s16, s17, s18, s19, s20, s21⟩
            go_simp
            with_reducible rfl
           rotate_left
           ·simp only [Act.put, List.setIfInBounds_toArray, List.set_cons_zero, List.set_cons_succ, i64_w, i32_w]
            rfl
           refine take_ (i := 11) (N := some 30) (v := ?_) (a' := ?_) #[true, true, true, true, true, true, true, true, true, true, true, true, true, false, false, true, true, true, false, false, true, false, false, false, false, false] rfl rfl (take_ofW HT_.out HW_.out (by kernel_rfl)) (fun _ _ _ h => h) (Or.inl ⟨by rfl, ?_⟩) hHeld ?_ ?_
           rotate_left
           ·rintro w' ⟨s0, s1, s2, s3, s4, s5, s6, s7, s8, s9, s10, s11, s12, s13, s14, s15, s16, s17, s18, s19, s20, s21⟩
            go_simp
            with_reducible rfl
           rotate_left
           ·simp only [Act.put, List.setIfInBounds_toArray, List.set_cons_zero, List.set_cons_succ, i64_w, i32_w]
            rfl
           refine take_ (i := 18) (N := some 37) (v := ?_) (a' := ?_) #[true, true, true, true, true, true, true, true, true, true, true, true, true, false, false, true, true, true, true, false, true, false, false, false, false, false] rfl rfl (take_ofW HT_.out HW_.out (by kernel_rfl)) (fun _ _ _ h => h) (Or.inl ⟨by rfl, ?_⟩) hHeld ?_ ?_
           rotate_left
           ·rintro w' ⟨s0, s1, s2, s3, s4, s5, s6, s7, s8, s9, s10, s11, s12, s13, s14, s15, s16, s17, s18, s19, s20, s21⟩
            go_simp
            with_reducible rfl
           rotate_left
           ·simp only [Act.put, List.setIfInBounds_toArray, List.set_cons_zero, List.set_cons_succ, i64_w, i32_w]
            rfl
           refine take_ (i := 19) (N := some 38) (v := ?_) (a' := ?_) #[true, true, true, true, true, true, true, true, true, true, true, true, true, false, false, true, true, true, true, true, true, false, false, false, false, false] rfl rfl (take_ofW HT_.out HW_.out (by kernel_rfl)) (fun _ _ _ h => h) (Or.inl ⟨by rfl, ?_⟩) hHeld ?_ ?_
           rotate_left
           ·rintro w' ⟨s0, s1, s2, s3, s4, s5, s6, s7, s8, s9, s10, s11, s12, s13, s14, s15, s16, s17, s18, s19, s20, s21⟩
            go_simp
            with_reducible rfl
           rotate_left
           ·simp only [Act.put, List.setIfInBounds_toArray, List.set_cons_zero, List.set_cons_succ, i64_w, i32_w]
            rfl
           refine one_ (i := 13) (N := some 32) #[true, true, true, true, true, true, true, true, true, true, true, true, true, true, false, true, true, true, true, true, true, false, false, false, false, false] rfl rfl (one_of HT_.out (by kernel_rfl)) (by decide) (fun K hK => ?_)
           refine goes_ Try.func38 (by kernel_rfl) rfl #[.agg #[.int .i64 a1_0, .int .i64 a1_1, .int .i64 a1_2, .int .i64 a1_3, .int .i64 a1_4, .int .i64 a1_5], .int .i64 a2] (by rfl) rfl rfl (by (try simp only [List.map_toArray, List.map_cons, List.map_nil]); first | done | rfl | (simp only [List.length_drop, List.length_take]; rfl)) ?_
           with_reducible refine (saw_area.calls a1_0 a1_1 a1_2 a1_3 a1_4 a1_5 a2 t199 _ A18.out).mono ?_
           rintro e w31 ⟨rfl, hb⟩
           refine ⟨_, rfl, ?_⟩
           have n0_ := Aside0.mk (blk_below (g := gb195) (o := .cells #[.int .i64 a1_0, .int .i64 a1_1, .int .i64 a1_2, .int .i64 a1_3, .int .i64 a1_4, .int .i64 a1_5] 30 (0, 0)) (by (with_reducible repeat (first | refine blk_drewN ?_ _ | refine blk_drew ?_ | refine blk_alloc ?_ _)); exact BK195.out) hb)
           have n1_ := Aside0.mk (blk_below (g := gb197) (o := .cells #[.string ((rd_T37 l0 x14_1).f0), .int .i64 ((rd_T37 l0 x14_1).f1), .int .i64 ((rd_T37 l0 x14_1).f2.f0), .int .i64 ((rd_T37 l0 x14_1).f2.f1), .int .i64 ((rd_T37 l0 x14_1).f2.f2), .int .i64 ((rd_T37 l0 x14_1).f3), .int .i64 ((rd_T37 l0 x14_1).f4), .int .i64 ((rd_T37 l0 x14_1).f5)] 37 (0, 0)) (by (with_reducible repeat (first | refine blk_drewN ?_ _ | refine blk_drew ?_ | refine blk_alloc ?_ _)); exact BK197.out) hb)
           have n2_ := Aside0.mk (below_step (by repeat (first | (with_reducible first | exact HB.out | apply below_alloc | apply pw_below_drewN | apply below_drew1 | refine below_set ?_ GE195.out | refine below_set ?_ GE197.out) | exact HB.out)) hb)
           clear BK195
           clear BK197
           clear HB
           have BK195 := n0_
           have BK197 := n1_
           have HB := n2_
           clear n0_ n1_ n2_
           (try clear hb)
           (try clear hb2)
           (try clear hk)
           (try clear hi)
           refine hK.out _ _ ⟨(blk_cell BK197.out 0).trans rfl, (blk_cell BK197.out 1).trans rfl, (blk_cell BK197.out 2).trans rfl, (blk_cell BK197.out 3).trans rfl, (blk_cell BK197.out 4).trans rfl, (blk_cell BK197.out 5).trans rfl, (blk_cell BK197.out 6).trans rfl, (blk_cell BK197.out 7).trans rfl, (blk_cell BK195.out 0).trans rfl, (blk_cell BK195.out 1).trans rfl, (blk_cell BK195.out 2).trans rfl, (blk_cell BK195.out 3).trans rfl, (blk_cell BK195.out 4).trans rfl, (blk_cell BK195.out 5).trans rfl, ((HB.out.cell (World.block_lt_of_cell? w _ hw201_0)).trans hw201_0), ((HB.out.cell (World.block_lt_of_cell? w _ hw201_1)).trans hw201_1), ((HB.out.cell (World.block_lt_of_cell? w _ hw201_2)).trans hw201_2), ((HB.out.cell (World.block_lt_of_cell? w _ hw201_3)).trans hw201_3), ((HB.out.cell (World.block_lt_of_cell? w _ hw201_4)).trans hw201_4), ((HB.out.cell (World.block_lt_of_cell? w _ hw201_5)).trans hw201_5), ((HB.out.cell (World.block_lt_of_cell? w _ hw201_6)).trans hw201_6), ((HB.out.cell (World.block_lt_of_cell? w _ hw201_7)).trans hw201_7)⟩ (fun hHeld => ?_)
           clear hK K
           refine norm_ (a' := ?_) ?_ ?_
           rotate_left
           ·show Act.put _ (some 32) _ = _
            simp only [Act.put, List.setIfInBounds_toArray, List.set_cons_zero, List.set_cons_succ, i64_w, i32_w]
            rfl
           refine one_ (i := 14) (N := some 33) #[true, true, true, true, true, true, true, true, true, true, true, true, true, true, true, true, true, true, true, true, true, false, false, false, false, false] rfl rfl (one_of HT_.out (by kernel_rfl)) (by decide) (fun K hK => ?_)
           refine goes_ Try.func35 (by kernel_rfl) rfl #[.agg #[.string ((rd_T37 l0 x14_1).f0), .int .i64 ((rd_T37 l0 x14_1).f1), .int .i64 ((rd_T37 l0 x14_1).f2.f0), .int .i64 ((rd_T37 l0 x14_1).f2.f1), .int .i64 ((rd_T37 l0 x14_1).f2.f2), .int .i64 ((rd_T37 l0 x14_1).f3), .int .i64 ((rd_T37 l0 x14_1).f4), .int .i64 ((rd_T37 l0 x14_1).f5)], .int .i64 t199] (by rfl) rfl rfl (by (try simp only [List.map_toArray, List.map_cons, List.map_nil]); first | done | rfl | (simp only [List.length_drop, List.length_take]; rfl)) ?_
           with_reducible refine (saw_minutes.calls ((rd_T37 l0 x14_1).f0) ((rd_T37 l0 x14_1).f1) ((rd_T37 l0 x14_1).f2.f0) ((rd_T37 l0 x14_1).f2.f1) ((rd_T37 l0 x14_1).f2.f2) ((rd_T37 l0 x14_1).f3) ((rd_T37 l0 x14_1).f4) ((rd_T37 l0 x14_1).f5) t199 t200 _ A19.out).mono ?_
           rintro e w32 ⟨rfl, hb⟩
           refine ⟨_, rfl, ?_⟩
           have n0_ := Aside0.mk (blk_below (g := gb195) (o := .cells #[.int .i64 a1_0, .int .i64 a1_1, .int .i64 a1_2, .int .i64 a1_3, .int .i64 a1_4, .int .i64 a1_5] 30 (0, 0)) (by (with_reducible repeat (first | refine blk_drewN ?_ _ | refine blk_drew ?_ | refine blk_alloc ?_ _)); exact BK195.out) hb)
           have n1_ := Aside0.mk (blk_below (g := gb197) (o := .cells #[.string ((rd_T37 l0 x14_1).f0), .int .i64 ((rd_T37 l0 x14_1).f1), .int .i64 ((rd_T37 l0 x14_1).f2.f0), .int .i64 ((rd_T37 l0 x14_1).f2.f1), .int .i64 ((rd_T37 l0 x14_1).f2.f2), .int .i64 ((rd_T37 l0 x14_1).f3), .int .i64 ((rd_T37 l0 x14_1).f4), .int .i64 ((rd_T37 l0 x14_1).f5)] 37 (0, 0)) (by (with_reducible repeat (first | refine blk_drewN ?_ _ | refine blk_drew ?_ | refine blk_alloc ?_ _)); exact BK197.out) hb)
           have n2_ := Aside0.mk (below_step (by repeat (first | (with_reducible first | exact HB.out | apply below_alloc | apply pw_below_drewN | apply below_drew1 | refine below_set ?_ GE195.out | refine below_set ?_ GE197.out) | exact HB.out)) hb)
           clear BK195
           clear BK197
           clear HB
           have BK195 := n0_
           have BK197 := n1_
           have HB := n2_
           clear n0_ n1_ n2_
           (try clear hb)
           (try clear hb2)
           (try clear hk)
           (try clear hi)
           refine hK.out _ _ ⟨(blk_cell BK197.out 0).trans rfl, (blk_cell BK197.out 1).trans rfl, (blk_cell BK197.out 2).trans rfl, (blk_cell BK197.out 3).trans rfl, (blk_cell BK197.out 4).trans rfl, (blk_cell BK197.out 5).trans rfl, (blk_cell BK197.out 6).trans rfl, (blk_cell BK197.out 7).trans rfl, (blk_cell BK195.out 0).trans rfl, (blk_cell BK195.out 1).trans rfl, (blk_cell BK195.out 2).trans rfl, (blk_cell BK195.out 3).trans rfl, (blk_cell BK195.out 4).trans rfl, (blk_cell BK195.out 5).trans rfl, ((HB.out.cell (World.block_lt_of_cell? w _ hw201_0)).trans hw201_0), ((HB.out.cell (World.block_lt_of_cell? w _ hw201_1)).trans hw201_1), ((HB.out.cell (World.block_lt_of_cell? w _ hw201_2)).trans hw201_2), ((HB.out.cell (World.block_lt_of_cell? w _ hw201_3)).trans hw201_3), ((HB.out.cell (World.block_lt_of_cell? w _ hw201_4)).trans hw201_4), ((HB.out.cell (World.block_lt_of_cell? w _ hw201_5)).trans hw201_5), ((HB.out.cell (World.block_lt_of_cell? w _ hw201_6)).trans hw201_6), ((HB.out.cell (World.block_lt_of_cell? w _ hw201_7)).trans hw201_7)⟩ (fun hHeld => ?_)
           clear hK K
           refine norm_ (a' := ?_) ?_ ?_
           rotate_left
           ·show Act.put _ (some 33) _ = _
            simp only [Act.put, List.setIfInBounds_toArray, List.set_cons_zero, List.set_cons_succ, i64_w, i32_w]
            rfl
           refine one_ (i := 21) (N := some 40) #[true, true, true, true, true, true, true, true, true, true, true, true, true, true, true, true, true, true, true, true, true, true, false, false, false, false] rfl rfl (one_of HT_.out (by kernel_rfl)) (by decide) (fun K hK => ?_)
           refine goes_ Try.func38 (by kernel_rfl) rfl #[.agg #[.int .i64 a1_0, .int .i64 a1_1, .int .i64 a1_2, .int .i64 a1_3, .int .i64 a1_4, .int .i64 a1_5], .int .i64 a2] (by rfl) rfl rfl (by (try simp only [List.map_toArray, List.map_cons, List.map_nil]); first | done | rfl | (simp only [List.length_drop, List.length_take]; rfl)) ?_
           with_reducible refine (saw_area.calls a1_0 a1_1 a1_2 a1_3 a1_4 a1_5 a2 t202 _ A22.out).mono ?_
           rintro e w33 ⟨rfl, hb⟩
           refine ⟨_, rfl, ?_⟩
           have n0_ := Aside0.mk (blk_below (g := gb195) (o := .cells #[.int .i64 a1_0, .int .i64 a1_1, .int .i64 a1_2, .int .i64 a1_3, .int .i64 a1_4, .int .i64 a1_5] 30 (0, 0)) (by (with_reducible repeat (first | refine blk_drewN ?_ _ | refine blk_drew ?_ | refine blk_alloc ?_ _)); exact BK195.out) hb)
           have n1_ := Aside0.mk (blk_below (g := gb197) (o := .cells #[.string ((rd_T37 l0 x14_1).f0), .int .i64 ((rd_T37 l0 x14_1).f1), .int .i64 ((rd_T37 l0 x14_1).f2.f0), .int .i64 ((rd_T37 l0 x14_1).f2.f1), .int .i64 ((rd_T37 l0 x14_1).f2.f2), .int .i64 ((rd_T37 l0 x14_1).f3), .int .i64 ((rd_T37 l0 x14_1).f4), .int .i64 ((rd_T37 l0 x14_1).f5)] 37 (0, 0)) (by (with_reducible repeat (first | refine blk_drewN ?_ _ | refine blk_drew ?_ | refine blk_alloc ?_ _)); exact BK197.out) hb)
           have n2_ := Aside0.mk (below_step (by repeat (first | (with_reducible first | exact HB.out | apply below_alloc | apply pw_below_drewN | apply below_drew1 | refine below_set ?_ GE195.out | refine below_set ?_ GE197.out) | exact HB.out)) hb)
           clear BK195
           clear BK197
           clear HB
           have BK195 := n0_
           have BK197 := n1_
           have HB := n2_
           clear n0_ n1_ n2_
           (try clear hb)
           (try clear hb2)
           (try clear hk)
           (try clear hi)
           refine hK.out _ _ ⟨(blk_cell BK197.out 0).trans rfl, (blk_cell BK197.out 1).trans rfl, (blk_cell BK197.out 2).trans rfl, (blk_cell BK197.out 3).trans rfl, (blk_cell BK197.out 4).trans rfl, (blk_cell BK197.out 5).trans rfl, (blk_cell BK197.out 6).trans rfl, (blk_cell BK197.out 7).trans rfl, (blk_cell BK195.out 0).trans rfl, (blk_cell BK195.out 1).trans rfl, (blk_cell BK195.out 2).trans rfl, (blk_cell BK195.out 3).trans rfl, (blk_cell BK195.out 4).trans rfl, (blk_cell BK195.out 5).trans rfl, ((HB.out.cell (World.block_lt_of_cell? w _ hw201_0)).trans hw201_0), ((HB.out.cell (World.block_lt_of_cell? w _ hw201_1)).trans hw201_1), ((HB.out.cell (World.block_lt_of_cell? w _ hw201_2)).trans hw201_2), ((HB.out.cell (World.block_lt_of_cell? w _ hw201_3)).trans hw201_3), ((HB.out.cell (World.block_lt_of_cell? w _ hw201_4)).trans hw201_4), ((HB.out.cell (World.block_lt_of_cell? w _ hw201_5)).trans hw201_5), ((HB.out.cell (World.block_lt_of_cell? w _ hw201_6)).trans hw201_6), ((HB.out.cell (World.block_lt_of_cell? w _ hw201_7)).trans hw201_7)⟩ (fun hHeld => ?_)
           clear hK K
           refine norm_ (a' := ?_) ?_ ?_
           rotate_left
           ·show Act.put _ (some 40) _ = _
            simp only [Act.put, List.setIfInBounds_toArray, List.set_cons_zero, List.set_cons_succ, i64_w, i32_w]
            rfl
           refine one_ (i := 22) (N := some 41) #[true, true, true, true, true, true, true, true, true, true, true, true, true, true, true, true, true, true, true, true, true, true, true, false, false, false] rfl rfl (one_of HT_.out (by kernel_rfl)) (by decide) (fun K hK => ?_)
           refine goes_ Try.func35 (by kernel_rfl) rfl #[.agg #[.string ((rd_T37 l0 x9_1).f0), .int .i64 ((rd_T37 l0 x9_1).f1), .int .i64 ((rd_T37 l0 x9_1).f2.f0), .int .i64 ((rd_T37 l0 x9_1).f2.f1), .int .i64 ((rd_T37 l0 x9_1).f2.f2), .int .i64 ((rd_T37 l0 x9_1).f3), .int .i64 ((rd_T37 l0 x9_1).f4), .int .i64 ((rd_T37 l0 x9_1).f5)], .int .i64 t202] (by rfl) rfl rfl (by (try simp only [List.map_toArray, List.map_cons, List.map_nil]); first | done | rfl | (simp only [List.length_drop, List.length_take]; rfl)) ?_
           with_reducible refine (saw_minutes.calls ((rd_T37 l0 x9_1).f0) ((rd_T37 l0 x9_1).f1) ((rd_T37 l0 x9_1).f2.f0) ((rd_T37 l0 x9_1).f2.f1) ((rd_T37 l0 x9_1).f2.f2) ((rd_T37 l0 x9_1).f3) ((rd_T37 l0 x9_1).f4) ((rd_T37 l0 x9_1).f5) t202 t203 _ A23.out).mono ?_
           rintro e w34 ⟨rfl, hb⟩
           refine ⟨_, rfl, ?_⟩
           have n0_ := Aside0.mk (blk_below (g := gb195) (o := .cells #[.int .i64 a1_0, .int .i64 a1_1, .int .i64 a1_2, .int .i64 a1_3, .int .i64 a1_4, .int .i64 a1_5] 30 (0, 0)) (by (with_reducible repeat (first | refine blk_drewN ?_ _ | refine blk_drew ?_ | refine blk_alloc ?_ _)); exact BK195.out) hb)
           have n1_ := Aside0.mk (blk_below (g := gb197) (o := .cells #[.string ((rd_T37 l0 x14_1).f0), .int .i64 ((rd_T37 l0 x14_1).f1), .int .i64 ((rd_T37 l0 x14_1).f2.f0), .int .i64 ((rd_T37 l0 x14_1).f2.f1), .int .i64 ((rd_T37 l0 x14_1).f2.f2), .int .i64 ((rd_T37 l0 x14_1).f3), .int .i64 ((rd_T37 l0 x14_1).f4), .int .i64 ((rd_T37 l0 x14_1).f5)] 37 (0, 0)) (by (with_reducible repeat (first | refine blk_drewN ?_ _ | refine blk_drew ?_ | refine blk_alloc ?_ _)); exact BK197.out) hb)
           have n2_ := Aside0.mk (below_step (by repeat (first | (with_reducible first | exact HB.out | apply below_alloc | apply pw_below_drewN | apply below_drew1 | refine below_set ?_ GE195.out | refine below_set ?_ GE197.out) | exact HB.out)) hb)
           clear BK195
           clear BK197
           clear HB
           have BK195 := n0_
           have BK197 := n1_
           have HB := n2_
           clear n0_ n1_ n2_
           (try clear hb)
           (try clear hb2)
           (try clear hk)
           (try clear hi)
           refine hK.out _ _ ⟨(blk_cell BK197.out 0).trans rfl, (blk_cell BK197.out 1).trans rfl, (blk_cell BK197.out 2).trans rfl, (blk_cell BK197.out 3).trans rfl, (blk_cell BK197.out 4).trans rfl, (blk_cell BK197.out 5).trans rfl, (blk_cell BK197.out 6).trans rfl, (blk_cell BK197.out 7).trans rfl, (blk_cell BK195.out 0).trans rfl, (blk_cell BK195.out 1).trans rfl, (blk_cell BK195.out 2).trans rfl, (blk_cell BK195.out 3).trans rfl, (blk_cell BK195.out 4).trans rfl, (blk_cell BK195.out 5).trans rfl, ((HB.out.cell (World.block_lt_of_cell? w _ hw201_0)).trans hw201_0), ((HB.out.cell (World.block_lt_of_cell? w _ hw201_1)).trans hw201_1), ((HB.out.cell (World.block_lt_of_cell? w _ hw201_2)).trans hw201_2), ((HB.out.cell (World.block_lt_of_cell? w _ hw201_3)).trans hw201_3), ((HB.out.cell (World.block_lt_of_cell? w _ hw201_4)).trans hw201_4), ((HB.out.cell (World.block_lt_of_cell? w _ hw201_5)).trans hw201_5), ((HB.out.cell (World.block_lt_of_cell? w _ hw201_6)).trans hw201_6), ((HB.out.cell (World.block_lt_of_cell? w _ hw201_7)).trans hw201_7)⟩ (fun hHeld => ?_)
           clear hK K
           refine norm_ (a' := ?_) ?_ ?_
           rotate_left
           ·show Act.put _ (some 41) _ = _
            simp only [Act.put, List.setIfInBounds_toArray, List.set_cons_zero, List.set_cons_succ, i64_w, i32_w]
            rfl
           refine pure_ (i := 23) (N := some 42) (v := ?_) (a' := ?_) #[true, true, true, true, true, true, true, true, true, true, true, true, true, true, true, true, true, true, true, true, true, true, true, true, false, false] rfl rfl (any_of HT_.out (by kernel_rfl)) (fun _ _ _ h => h) (Or.inl ⟨by rfl, ?_⟩) ?_ ?_
           rotate_left
           ·intro w'
            go_simp
            with_reducible rfl
           rotate_left
           ·simp only [Act.put, List.setIfInBounds_toArray, List.set_cons_zero, List.set_cons_succ, i64_w, i32_w]
            rfl
           refine pure_ (i := 24) (N := some 43) (v := ?_) (a' := ?_) #[true, true, true, true, true, true, true, true, true, true, true, true, true, true, true, true, true, true, true, true, true, true, true, true, true, false] rfl rfl (any_of HT_.out (by kernel_rfl)) (fun _ _ _ h => h) (Or.inl ⟨by rfl, ?_⟩) ?_ ?_
           rotate_left
           ·intro w'
            go_simp
            with_reducible rfl
           rotate_left
           ·simp only [Act.put, List.setIfInBounds_toArray, List.set_cons_zero, List.set_cons_succ, i64_w, i32_w]
            rfl
           refine pure_ (i := 25) (N := some 44) (v := ?_) (a' := ?_) #[true, true, true, true, true, true, true, true, true, true, true, true, true, true, true, true, true, true, true, true, true, true, true, true, true, true] rfl rfl (any_of HT_.out (by kernel_rfl)) (fun _ _ _ h => h) (Or.inl ⟨by rfl, ?_⟩) ?_ ?_
           rotate_left
           ·intro w'
            go_simp
            with_reducible rfl
           rotate_left
           ·simp only [Act.put, List.setIfInBounds_toArray, List.set_cons_zero, List.set_cons_succ, i64_w, i32_w]
            rfl
           refine done_ (done_of HT_.out (by kernel_rfl)) ?_
           try go_wp2
           go_roundg k1
           case measure => have := HK1.out; omega
           case rel => exact ⟨(x14_1), (wrap64 (x14_1 + 1)), (by first | rfl | (simp; done) | (simp [*]; done)), (by first | rfl | (simp; done) | (simp [*]; done)), H', ⟨by have := HK1.out; omega⟩, ⟨by (with_reducible repeat (first | refine blk_drewN ?_ _ | refine blk_drew ?_ | refine blk_alloc ?_ _)); exact BK195.out⟩, ⟨by repeat (first | (with_reducible first | exact HB.out | apply below_alloc | apply pw_below_drewN | apply below_drew1 | refine below_set ?_ GE195.out | refine below_set ?_ GE197.out) | exact HB.out)⟩⟩
          ·rw [if_neg c24] at H
           have c24b0 : decide (t200 < t203) = false := decide_eq_false c24
           clear c24
           have H' := Aside0.mk H
           clear H
           have p196 : 0 ≤ (x14_1 : Int) := of_decide_eq_true (by first | (with_reducible assumption) | assumption)
           have q196 : x14_1 < (l0.length : Int) := of_decide_eq_true (by first | (with_reducible assumption) | assumption)
           obtain ⟨ad196, e196, hx196_0, hx196_1, hx196_2, hx196_3, hx196_4, hx196_5, hx196_6, hx196_7⟩ := at_T37 HR0.out x14_1 p196 q196
           cases e196
           replace hx196_0 := (HB.out.cell (World.block_lt_of_cell? w _ hx196_0)).trans hx196_0
           replace hx196_1 := (HB.out.cell (World.block_lt_of_cell? w _ hx196_1)).trans hx196_1
           replace hx196_2 := (HB.out.cell (World.block_lt_of_cell? w _ hx196_2)).trans hx196_2
           replace hx196_3 := (HB.out.cell (World.block_lt_of_cell? w _ hx196_3)).trans hx196_3
           replace hx196_4 := (HB.out.cell (World.block_lt_of_cell? w _ hx196_4)).trans hx196_4
           replace hx196_5 := (HB.out.cell (World.block_lt_of_cell? w _ hx196_5)).trans hx196_5
           replace hx196_6 := (HB.out.cell (World.block_lt_of_cell? w _ hx196_6)).trans hx196_6
           replace hx196_7 := (HB.out.cell (World.block_lt_of_cell? w _ hx196_7)).trans hx196_7
           replace p196 := eq_true p196
           replace q196 := eq_true q196
           try go_wp2_with (first | ((with_reducible refine gate_dst (N := 11) rfl ?_); refine box_event ?hg (N := 11) ?hd (cs := #[.string (⟨#[]⟩ : ByteArray), .int .i64 0, .int .i64 0, .int .i64 0, .int .i64 0, .int .i64 0, .int .i64 0, .int .i64 0]) (t := 37) ?hr ?_; (case hd => rfl); (case hg => rfl); (case hr => first | (go_simp; done) | (go_simp; rfl)); intro gb197 hg w35 hbox hb; have n0_ := Aside0.mk (blk_below (g := gb195) (o := .cells #[.int .i64 a1_0, .int .i64 a1_1, .int .i64 a1_2, .int .i64 a1_3, .int .i64 a1_4, .int .i64 a1_5] 30 (0, 0)) (by (with_reducible repeat (first | refine blk_drewN ?_ _ | refine blk_drew ?_ | refine blk_alloc ?_ _)); exact BK195.out) hb); have n1_ := Aside0.mk (below_step (by repeat (first | (with_reducible first | exact HB.out | apply below_alloc | apply pw_below_drewN | apply below_drew1 | refine below_set ?_ GE195.out) | exact HB.out)) hb); have n2_ := Aside0.mk (hbox); have n3_ := Aside0.mk ((by rw [hg]; exact (below_size (by repeat (first | (with_reducible first | exact HB.out | apply below_alloc | apply pw_below_drewN | apply below_drew1 | refine below_set ?_ GE195.out) | exact HB.out))) : w.heap.size ≤ gb197)); have n4_ := Aside0.mk ((by rw [hg]; exact (below_size (by repeat (first | (with_reducible first | exact HB.out | apply below_alloc | apply pw_below_drewN | apply below_drew1 | refine below_set ?_ GE195.out) | exact HB.out))) : w.heap.size ≤ gb197)); have n5_ := Aside0.mk ((by rw [hg]; exact Nat.ne_of_lt (blk_lt (g := gb195) (o := .cells #[.int .i64 a1_0, .int .i64 a1_1, .int .i64 a1_2, .int .i64 a1_3, .int .i64 a1_4, .int .i64 a1_5] 30 (0, 0)) (by (with_reducible repeat (first | refine blk_drewN ?_ _ | refine blk_drew ?_ | refine blk_alloc ?_ _)); exact BK195.out)) : gb195 ≠ gb197)); have n6_ := Aside0.mk ((by rw [hg]; exact Nat.ne_of_gt (blk_lt (g := gb195) (o := .cells #[.int .i64 a1_0, .int .i64 a1_1, .int .i64 a1_2, .int .i64 a1_3, .int .i64 a1_4, .int .i64 a1_5] 30 (0, 0)) (by (with_reducible repeat (first | refine blk_drewN ?_ _ | refine blk_drew ?_ | refine blk_alloc ?_ _)); exact BK195.out)) : gb197 ≠ gb195)); clear BK195; clear HB; have BK195 := n0_; have HB := n1_; have BK197 := n2_; have GW197 := n3_; have GE197 := n4_; have NB195_197 := n5_; have NB197_195 := n6_; clear n0_ n1_ n2_ n3_ n4_ n5_ n6_; clear hb hbox hg; have hnb36 := NB197_195.out; have hnc36 := NB195_197.out; have hcz37_0 : w35.cell? ⟨gb197, 0, none⟩ = some (.string (⟨#[]⟩ : ByteArray)) := (blk_cell BK197.out 0).trans rfl; have hcz37_1 : w35.cell? ⟨gb197, 1, none⟩ = some (.int .i64 0) := (blk_cell BK197.out 1).trans rfl; have hcz37_2 : w35.cell? ⟨gb197, 2, none⟩ = some (.int .i64 0) := (blk_cell BK197.out 2).trans rfl; have hcz37_3 : w35.cell? ⟨gb197, 3, none⟩ = some (.int .i64 0) := (blk_cell BK197.out 3).trans rfl; have hcz37_4 : w35.cell? ⟨gb197, 4, none⟩ = some (.int .i64 0) := (blk_cell BK197.out 4).trans rfl; have hcz37_5 : w35.cell? ⟨gb197, 5, none⟩ = some (.int .i64 0) := (blk_cell BK197.out 5).trans rfl; have hcz37_6 : w35.cell? ⟨gb197, 6, none⟩ = some (.int .i64 0) := (blk_cell BK197.out 6).trans rfl; have hcz37_7 : w35.cell? ⟨gb197, 7, none⟩ = some (.int .i64 0) := (blk_cell BK197.out 7).trans rfl; have hfz37_0 := blk_frozen BK197.out 0; have hfz37_1 := blk_frozen BK197.out 1; have hfz37_2 := blk_frozen BK197.out 2; have hfz37_3 := blk_frozen BK197.out 3; have hfz37_4 := blk_frozen BK197.out 4; have hfz37_5 := blk_frozen BK197.out 5; have hfz37_6 := blk_frozen BK197.out 6; have hfz37_7 := blk_frozen BK197.out 7))
           have n0_ : Aside0 (((((((((w35.setCell ⟨gb197, 0, none⟩ (.string ((rd_T37 l0 x14_1).f0))).setCell ⟨gb197, 1, none⟩ (.int .i64 ((rd_T37 l0 x14_1).f1))).setCell ⟨gb197, 2, none⟩ (.int .i64 ((rd_T37 l0 x14_1).f2.f0))).setCell ⟨gb197, 3, none⟩ (.int .i64 ((rd_T37 l0 x14_1).f2.f1))).setCell ⟨gb197, 4, none⟩ (.int .i64 ((rd_T37 l0 x14_1).f2.f2))).setCell ⟨gb197, 5, none⟩ (.int .i64 ((rd_T37 l0 x14_1).f3))).setCell ⟨gb197, 6, none⟩ (.int .i64 ((rd_T37 l0 x14_1).f4))).setCell ⟨gb197, 7, none⟩ (.int .i64 ((rd_T37 l0 x14_1).f5))).heap[gb195]? = some (.cells #[.int .i64 a1_0, .int .i64 a1_1, .int .i64 a1_2, .int .i64 a1_3, .int .i64 a1_4, .int .i64 a1_5] 30 (0, 0))) := ⟨by (with_reducible repeat (first | refine blk_drewN ?_ _ | refine blk_drew ?_ | refine blk_alloc ?_ _)); refine blk_far ?_ NB195_197.out _; (with_reducible repeat (first | refine blk_drewN ?_ _ | refine blk_drew ?_ | refine blk_alloc ?_ _)); refine blk_far ?_ NB195_197.out _; (with_reducible repeat (first | refine blk_drewN ?_ _ | refine blk_drew ?_ | refine blk_alloc ?_ _)); refine blk_far ?_ NB195_197.out _; (with_reducible repeat (first | refine blk_drewN ?_ _ | refine blk_drew ?_ | refine blk_alloc ?_ _)); refine blk_far ?_ NB195_197.out _; (with_reducible repeat (first | refine blk_drewN ?_ _ | refine blk_drew ?_ | refine blk_alloc ?_ _)); refine blk_far ?_ NB195_197.out _; (with_reducible repeat (first | refine blk_drewN ?_ _ | refine blk_drew ?_ | refine blk_alloc ?_ _)); refine blk_far ?_ NB195_197.out _; (with_reducible repeat (first | refine blk_drewN ?_ _ | refine blk_drew ?_ | refine blk_alloc ?_ _)); refine blk_far ?_ NB195_197.out _; (with_reducible repeat (first | refine blk_drewN ?_ _ | refine blk_drew ?_ | refine blk_alloc ?_ _)); refine blk_far ?_ NB195_197.out _; (with_reducible repeat (first | refine blk_drewN ?_ _ | refine blk_drew ?_ | refine blk_alloc ?_ _)); exact BK195.out⟩
           have n1_ : Aside0 (((((((((w35.setCell ⟨gb197, 0, none⟩ (.string ((rd_T37 l0 x14_1).f0))).setCell ⟨gb197, 1, none⟩ (.int .i64 ((rd_T37 l0 x14_1).f1))).setCell ⟨gb197, 2, none⟩ (.int .i64 ((rd_T37 l0 x14_1).f2.f0))).setCell ⟨gb197, 3, none⟩ (.int .i64 ((rd_T37 l0 x14_1).f2.f1))).setCell ⟨gb197, 4, none⟩ (.int .i64 ((rd_T37 l0 x14_1).f2.f2))).setCell ⟨gb197, 5, none⟩ (.int .i64 ((rd_T37 l0 x14_1).f3))).setCell ⟨gb197, 6, none⟩ (.int .i64 ((rd_T37 l0 x14_1).f4))).setCell ⟨gb197, 7, none⟩ (.int .i64 ((rd_T37 l0 x14_1).f5))).heap[gb197]? = some (.cells #[.string ((rd_T37 l0 x14_1).f0), .int .i64 ((rd_T37 l0 x14_1).f1), .int .i64 ((rd_T37 l0 x14_1).f2.f0), .int .i64 ((rd_T37 l0 x14_1).f2.f1), .int .i64 ((rd_T37 l0 x14_1).f2.f2), .int .i64 ((rd_T37 l0 x14_1).f3), .int .i64 ((rd_T37 l0 x14_1).f4), .int .i64 ((rd_T37 l0 x14_1).f5)] 37 (0, 0))) := ⟨by (with_reducible repeat (first | refine blk_drewN ?_ _ | refine blk_drew ?_ | refine blk_alloc ?_ _)); refine blk_put (cs := #[.string ((rd_T37 l0 x14_1).f0), .int .i64 ((rd_T37 l0 x14_1).f1), .int .i64 ((rd_T37 l0 x14_1).f2.f0), .int .i64 ((rd_T37 l0 x14_1).f2.f1), .int .i64 ((rd_T37 l0 x14_1).f2.f2), .int .i64 ((rd_T37 l0 x14_1).f3), .int .i64 ((rd_T37 l0 x14_1).f4), .int .i64 0]) ?_ 7 _ rfl; (with_reducible repeat (first | refine blk_drewN ?_ _ | refine blk_drew ?_ | refine blk_alloc ?_ _)); refine blk_put (cs := #[.string ((rd_T37 l0 x14_1).f0), .int .i64 ((rd_T37 l0 x14_1).f1), .int .i64 ((rd_T37 l0 x14_1).f2.f0), .int .i64 ((rd_T37 l0 x14_1).f2.f1), .int .i64 ((rd_T37 l0 x14_1).f2.f2), .int .i64 ((rd_T37 l0 x14_1).f3), .int .i64 0, .int .i64 0]) ?_ 6 _ rfl; (with_reducible repeat (first | refine blk_drewN ?_ _ | refine blk_drew ?_ | refine blk_alloc ?_ _)); refine blk_put (cs := #[.string ((rd_T37 l0 x14_1).f0), .int .i64 ((rd_T37 l0 x14_1).f1), .int .i64 ((rd_T37 l0 x14_1).f2.f0), .int .i64 ((rd_T37 l0 x14_1).f2.f1), .int .i64 ((rd_T37 l0 x14_1).f2.f2), .int .i64 0, .int .i64 0, .int .i64 0]) ?_ 5 _ rfl; (with_reducible repeat (first | refine blk_drewN ?_ _ | refine blk_drew ?_ | refine blk_alloc ?_ _)); refine blk_put (cs := #[.string ((rd_T37 l0 x14_1).f0), .int .i64 ((rd_T37 l0 x14_1).f1), .int .i64 ((rd_T37 l0 x14_1).f2.f0), .int .i64 ((rd_T37 l0 x14_1).f2.f1), .int .i64 0, .int .i64 0, .int .i64 0, .int .i64 0]) ?_ 4 _ rfl; (with_reducible repeat (first | refine blk_drewN ?_ _ | refine blk_drew ?_ | refine blk_alloc ?_ _)); refine blk_put (cs := #[.string ((rd_T37 l0 x14_1).f0), .int .i64 ((rd_T37 l0 x14_1).f1), .int .i64 ((rd_T37 l0 x14_1).f2.f0), .int .i64 0, .int .i64 0, .int .i64 0, .int .i64 0, .int .i64 0]) ?_ 3 _ rfl; (with_reducible repeat (first | refine blk_drewN ?_ _ | refine blk_drew ?_ | refine blk_alloc ?_ _)); refine blk_put (cs := #[.string ((rd_T37 l0 x14_1).f0), .int .i64 ((rd_T37 l0 x14_1).f1), .int .i64 0, .int .i64 0, .int .i64 0, .int .i64 0, .int .i64 0, .int .i64 0]) ?_ 2 _ rfl; (with_reducible repeat (first | refine blk_drewN ?_ _ | refine blk_drew ?_ | refine blk_alloc ?_ _)); refine blk_put (cs := #[.string ((rd_T37 l0 x14_1).f0), .int .i64 0, .int .i64 0, .int .i64 0, .int .i64 0, .int .i64 0, .int .i64 0, .int .i64 0]) ?_ 1 _ rfl; (with_reducible repeat (first | refine blk_drewN ?_ _ | refine blk_drew ?_ | refine blk_alloc ?_ _)); refine blk_put (cs := #[.string (⟨#[]⟩ : ByteArray), .int .i64 0, .int .i64 0, .int .i64 0, .int .i64 0, .int .i64 0, .int .i64 0, .int .i64 0]) ?_ 0 _ rfl; (with_reducible repeat (first | refine blk_drewN ?_ _ | refine blk_drew ?_ | refine blk_alloc ?_ _)); exact BK197.out⟩
           have n2_ : Aside0 (Below w.heap.size w ((((((((w35.setCell ⟨gb197, 0, none⟩ (.string ((rd_T37 l0 x14_1).f0))).setCell ⟨gb197, 1, none⟩ (.int .i64 ((rd_T37 l0 x14_1).f1))).setCell ⟨gb197, 2, none⟩ (.int .i64 ((rd_T37 l0 x14_1).f2.f0))).setCell ⟨gb197, 3, none⟩ (.int .i64 ((rd_T37 l0 x14_1).f2.f1))).setCell ⟨gb197, 4, none⟩ (.int .i64 ((rd_T37 l0 x14_1).f2.f2))).setCell ⟨gb197, 5, none⟩ (.int .i64 ((rd_T37 l0 x14_1).f3))).setCell ⟨gb197, 6, none⟩ (.int .i64 ((rd_T37 l0 x14_1).f4))).setCell ⟨gb197, 7, none⟩ (.int .i64 ((rd_T37 l0 x14_1).f5)))) := ⟨by repeat (first | (with_reducible first | exact HB.out | apply below_alloc | apply pw_below_drewN | apply below_drew1 | refine below_set ?_ GE195.out | refine below_set ?_ GE197.out) | exact HB.out)⟩
           (try clear BK195)
           (try clear BK197)
           (try clear HB)
           generalize ((((((((w35.setCell ⟨gb197, 0, none⟩ (.string ((rd_T37 l0 x14_1).f0))).setCell ⟨gb197, 1, none⟩ (.int .i64 ((rd_T37 l0 x14_1).f1))).setCell ⟨gb197, 2, none⟩ (.int .i64 ((rd_T37 l0 x14_1).f2.f0))).setCell ⟨gb197, 3, none⟩ (.int .i64 ((rd_T37 l0 x14_1).f2.f1))).setCell ⟨gb197, 4, none⟩ (.int .i64 ((rd_T37 l0 x14_1).f2.f2))).setCell ⟨gb197, 5, none⟩ (.int .i64 ((rd_T37 l0 x14_1).f3))).setCell ⟨gb197, 6, none⟩ (.int .i64 ((rd_T37 l0 x14_1).f4))).setCell ⟨gb197, 7, none⟩ (.int .i64 ((rd_T37 l0 x14_1).f5))) = w38 at n0_ n1_ n2_ ⊢
           have BK195 := n0_
           have BK197 := n1_
           have HB := n2_
           clear n0_ n1_ n2_
           have n0_ := Aside0.mk (blk_drew BK195.out)
           have n1_ := Aside0.mk (blk_drew BK197.out)
           have n2_ := Aside0.mk (below_drew1 HB.out)
           clear BK195
           clear BK197
           clear HB
           have BK195 := n0_
           have BK197 := n1_
           have HB := n2_
           clear n0_ n1_ n2_
           have p201 : 0 ≤ (x9_1 : Int) := of_decide_eq_true (by first | (with_reducible assumption) | assumption)
           have q201 : x9_1 < (l0.length : Int) := of_decide_eq_true (by first | (with_reducible assumption) | assumption)
           obtain ⟨ad201, e201, hx201_0, hx201_1, hx201_2, hx201_3, hx201_4, hx201_5, hx201_6, hx201_7⟩ := at_T37 HR0.out x9_1 p201 q201
           have hw201_7 := hx201_7
           have hw201_6 := hx201_6
           have hw201_5 := hx201_5
           have hw201_4 := hx201_4
           have hw201_3 := hx201_3
           have hw201_2 := hx201_2
           have hw201_1 := hx201_1
           have hw201_0 := hx201_0
           obtain rfl : ad196 = ad201 := (by injection e201)
           replace hx201_0 := (HB.out.cell (World.block_lt_of_cell? w _ hx201_0)).trans hx201_0
           replace hx201_1 := (HB.out.cell (World.block_lt_of_cell? w _ hx201_1)).trans hx201_1
           replace hx201_2 := (HB.out.cell (World.block_lt_of_cell? w _ hx201_2)).trans hx201_2
           replace hx201_3 := (HB.out.cell (World.block_lt_of_cell? w _ hx201_3)).trans hx201_3
           replace hx201_4 := (HB.out.cell (World.block_lt_of_cell? w _ hx201_4)).trans hx201_4
           replace hx201_5 := (HB.out.cell (World.block_lt_of_cell? w _ hx201_5)).trans hx201_5
           replace hx201_6 := (HB.out.cell (World.block_lt_of_cell? w _ hx201_6)).trans hx201_6
           replace hx201_7 := (HB.out.cell (World.block_lt_of_cell? w _ hx201_7)).trans hx201_7
           replace p201 := eq_true p201
           replace q201 := eq_true q201
           refine start_ (n := 26) (S := fun w' => w'.cell? ⟨gb197, 0, none⟩ = some (.string ((rd_T37 l0 x14_1).f0)) ∧ w'.cell? ⟨gb197, 1, none⟩ = some (.int .i64 ((rd_T37 l0 x14_1).f1)) ∧ w'.cell? ⟨gb197, 2, none⟩ = some (.int .i64 ((rd_T37 l0 x14_1).f2.f0)) ∧ w'.cell? ⟨gb197, 3, none⟩ = some (.int .i64 ((rd_T37 l0 x14_1).f2.f1)) ∧ w'.cell? ⟨gb197, 4, none⟩ = some (.int .i64 ((rd_T37 l0 x14_1).f2.f2)) ∧ w'.cell? ⟨gb197, 5, none⟩ = some (.int .i64 ((rd_T37 l0 x14_1).f3)) ∧ w'.cell? ⟨gb197, 6, none⟩ = some (.int .i64 ((rd_T37 l0 x14_1).f4)) ∧ w'.cell? ⟨gb197, 7, none⟩ = some (.int .i64 ((rd_T37 l0 x14_1).f5)) ∧ w'.cell? ⟨gb195, 0, none⟩ = some (.int .i64 a1_0) ∧ w'.cell? ⟨gb195, 1, none⟩ = some (.int .i64 a1_1) ∧ w'.cell? ⟨gb195, 2, none⟩ = some (.int .i64 a1_2) ∧ w'.cell? ⟨gb195, 3, none⟩ = some (.int .i64 a1_3) ∧ w'.cell? ⟨gb195, 4, none⟩ = some (.int .i64 a1_4) ∧ w'.cell? ⟨gb195, 5, none⟩ = some (.int .i64 a1_5) ∧ w'.cell? (ad196.add ((x9_1).toNat * 8)) = some (.string ((rd_T37 l0 x9_1).f0)) ∧ w'.cell? ⟨(ad196.add ((x9_1).toNat * 8)).block, (ad196.add ((x9_1).toNat * 8)).off + 1, none⟩ = some (.int .i64 ((rd_T37 l0 x9_1).f1)) ∧ w'.cell? ⟨(ad196.add ((x9_1).toNat * 8)).block, (ad196.add ((x9_1).toNat * 8)).off + 2, none⟩ = some (.int .i64 ((rd_T37 l0 x9_1).f2.f0)) ∧ w'.cell? ⟨(ad196.add ((x9_1).toNat * 8)).block, (ad196.add ((x9_1).toNat * 8)).off + 3, none⟩ = some (.int .i64 ((rd_T37 l0 x9_1).f2.f1)) ∧ w'.cell? ⟨(ad196.add ((x9_1).toNat * 8)).block, (ad196.add ((x9_1).toNat * 8)).off + 4, none⟩ = some (.int .i64 ((rd_T37 l0 x9_1).f2.f2)) ∧ w'.cell? ⟨(ad196.add ((x9_1).toNat * 8)).block, (ad196.add ((x9_1).toNat * 8)).off + 5, none⟩ = some (.int .i64 ((rd_T37 l0 x9_1).f3)) ∧ w'.cell? ⟨(ad196.add ((x9_1).toNat * 8)).block, (ad196.add ((x9_1).toNat * 8)).off + 6, none⟩ = some (.int .i64 ((rd_T37 l0 x9_1).f4)) ∧ w'.cell? ⟨(ad196.add ((x9_1).toNat * 8)).block, (ad196.add ((x9_1).toNat * 8)).off + 7, none⟩ = some (.int .i64 ((rd_T37 l0 x9_1).f5))) (ds := []) #[false, false, false, false, false, false, false, false, false, false, false, false, false, false, false, false, false, false, false, false, false, false, false, false, false, false] (by kernel_rfl) rfl rfl ⟨(blk_cell BK197.out 0).trans rfl, (blk_cell BK197.out 1).trans rfl, (blk_cell BK197.out 2).trans rfl, (blk_cell BK197.out 3).trans rfl, (blk_cell BK197.out 4).trans rfl, (blk_cell BK197.out 5).trans rfl, (blk_cell BK197.out 6).trans rfl, (blk_cell BK197.out 7).trans rfl, (blk_cell BK195.out 0).trans rfl, (blk_cell BK195.out 1).trans rfl, (blk_cell BK195.out 2).trans rfl, (blk_cell BK195.out 3).trans rfl, (blk_cell BK195.out 4).trans rfl, (blk_cell BK195.out 5).trans rfl, ((HB.out.cell (World.block_lt_of_cell? w _ hw201_0)).trans hw201_0), ((HB.out.cell (World.block_lt_of_cell? w _ hw201_1)).trans hw201_1), ((HB.out.cell (World.block_lt_of_cell? w _ hw201_2)).trans hw201_2), ((HB.out.cell (World.block_lt_of_cell? w _ hw201_3)).trans hw201_3), ((HB.out.cell (World.block_lt_of_cell? w _ hw201_4)).trans hw201_4), ((HB.out.cell (World.block_lt_of_cell? w _ hw201_5)).trans hw201_5), ((HB.out.cell (World.block_lt_of_cell? w _ hw201_6)).trans hw201_6), ((HB.out.cell (World.block_lt_of_cell? w _ hw201_7)).trans hw201_7)⟩ (fun hHeld => ?_); refine with_tabW saw_choose.tab5 saw_choose.bits5 (fun HT_ HW_ => ?_)
           generalize w38.drew = w39 at BK195 BK197 HB hx201_0 hx201_1 hx201_2 hx201_3 hx201_4 hx201_5 hx201_6 hx201_7 hHeld ⊢
           refine pure_ (i := 2) (N := some 21) (v := ?_) (a' := ?_) #[false, false, true, false, false, false, false, false, false, false, false, false, false, false, false, false, false, false, false, false, false, false, false, false, false, false] rfl rfl (any_of HT_.out (by kernel_rfl)) (fun _ _ _ h => h) (Or.inl ⟨by rfl, ?_⟩) ?_ ?_
           rotate_left
           ·intro w'
            go_simp
            with_reducible rfl
           rotate_left
           ·simp only [Act.put, List.setIfInBounds_toArray, List.set_cons_zero, List.set_cons_succ, i64_w, i32_w]
            rfl
           refine pure_ (i := 3) (N := some 22) (v := ?_) (a' := ?_) #[false, false, true, true, false, false, false, false, false, false, false, false, false, false, false, false, false, false, false, false, false, false, false, false, false, false] rfl rfl (any_of HT_.out (by kernel_rfl)) (fun _ _ _ h => h) (Or.inl ⟨by rfl, ?_⟩) ?_ ?_
           rotate_left
           ·intro w'
            go_simp
            with_reducible rfl
           rotate_left
           ·simp only [Act.put, List.setIfInBounds_toArray, List.set_cons_zero, List.set_cons_succ, i64_w, i32_w]
            rfl
           refine take_ (i := 0) (N := some 19) (v := ?_) (a' := ?_) #[true, false, true, true, false, false, false, false, false, false, false, false, false, false, false, false, false, false, false, false, false, false, false, false, false, false] rfl rfl (take_ofW HT_.out HW_.out (by kernel_rfl)) (fun _ _ _ h => h) (Or.inl ⟨by rfl, ?_⟩) hHeld ?_ ?_
           rotate_left
           ·rintro w' ⟨s0, s1, s2, s3, s4, s5, s6, s7, s8, s9, s10, s11, s12, s13, s14, s15, s16, s17, s18, s19, s20, s21⟩
            go_simp
            with_reducible rfl
           rotate_left
           ·simp only [Act.put, List.setIfInBounds_toArray, List.set_cons_zero, List.set_cons_succ, i64_w, i32_w]
            rfl
           refine take_ (i := 1) (N := some 20) (v := ?_) (a' := ?_) #[true, true, true, true, false, false, false, false, false, false, false, false, false, false, false, false, false, false, false, false, false, false, false, false, false, false] rfl rfl (take_ofW HT_.out HW_.out (by kernel_rfl)) (fun _ _ _ h => h) (Or.inl ⟨by rfl, ?_⟩) hHeld ?_ ?_
           rotate_left
           ·rintro w' ⟨s0, s1, s2, s3, s4, s5, s6, s7, s8, s9, s10, s11, s12, s13, s14, s15, s16, s17, s18, s19, s20, s21⟩
            go_simp
            with_reducible rfl
           rotate_left
           ·simp only [Act.put, List.setIfInBounds_toArray, List.set_cons_zero, List.set_cons_succ, i64_w, i32_w]
            rfl
           refine one_ (i := 4) (N := some 23) #[true, true, true, true, true, false, false, false, false, false, false, false, false, false, false, false, false, false, false, false, false, false, false, false, false, false] rfl rfl (one_of HT_.out (by kernel_rfl)) (by decide) (fun K hK => ?_)
           refine goes_ Try.func36 (by kernel_rfl) rfl #[.agg #[.string ((rd_T37 l0 x14_1).f0), .int .i64 ((rd_T37 l0 x14_1).f1), .int .i64 ((rd_T37 l0 x14_1).f2.f0), .int .i64 ((rd_T37 l0 x14_1).f2.f1), .int .i64 ((rd_T37 l0 x14_1).f2.f2), .int .i64 ((rd_T37 l0 x14_1).f3), .int .i64 ((rd_T37 l0 x14_1).f4), .int .i64 ((rd_T37 l0 x14_1).f5)], .agg #[.int .i64 a1_0, .int .i64 a1_1, .int .i64 a1_2, .int .i64 a1_3, .int .i64 a1_4, .int .i64 a1_5], .int .i64 a2, .int .i64 a3] (by rfl) rfl rfl (by (try simp only [List.map_toArray, List.map_cons, List.map_nil]); first | done | rfl | (simp only [List.length_drop, List.length_take]; rfl)) ?_
           with_reducible refine (saw_can.calls ((rd_T37 l0 x14_1).f0) ((rd_T37 l0 x14_1).f1) ((rd_T37 l0 x14_1).f2.f0) ((rd_T37 l0 x14_1).f2.f1) ((rd_T37 l0 x14_1).f2.f2) ((rd_T37 l0 x14_1).f3) ((rd_T37 l0 x14_1).f4) ((rd_T37 l0 x14_1).f5) a1_0 a1_1 a1_2 a1_3 a1_4 a1_5 a2 a3 t198 _ A9.out).mono ?_
           rintro e w40 ⟨rfl, hb⟩
           refine ⟨_, rfl, ?_⟩
           have n0_ := Aside0.mk (blk_below (g := gb195) (o := .cells #[.int .i64 a1_0, .int .i64 a1_1, .int .i64 a1_2, .int .i64 a1_3, .int .i64 a1_4, .int .i64 a1_5] 30 (0, 0)) (by (with_reducible repeat (first | refine blk_drewN ?_ _ | refine blk_drew ?_ | refine blk_alloc ?_ _)); exact BK195.out) hb)
           have n1_ := Aside0.mk (blk_below (g := gb197) (o := .cells #[.string ((rd_T37 l0 x14_1).f0), .int .i64 ((rd_T37 l0 x14_1).f1), .int .i64 ((rd_T37 l0 x14_1).f2.f0), .int .i64 ((rd_T37 l0 x14_1).f2.f1), .int .i64 ((rd_T37 l0 x14_1).f2.f2), .int .i64 ((rd_T37 l0 x14_1).f3), .int .i64 ((rd_T37 l0 x14_1).f4), .int .i64 ((rd_T37 l0 x14_1).f5)] 37 (0, 0)) (by (with_reducible repeat (first | refine blk_drewN ?_ _ | refine blk_drew ?_ | refine blk_alloc ?_ _)); exact BK197.out) hb)
           have n2_ := Aside0.mk (below_step (by repeat (first | (with_reducible first | exact HB.out | apply below_alloc | apply pw_below_drewN | apply below_drew1 | refine below_set ?_ GE195.out | refine below_set ?_ GE197.out) | exact HB.out)) hb)
           clear BK195
           clear BK197
           clear HB
           have BK195 := n0_
           have BK197 := n1_
           have HB := n2_
           clear n0_ n1_ n2_
           (try clear hb)
           (try clear hb2)
           (try clear hk)
           (try clear hi)
           refine hK.out _ _ ⟨(blk_cell BK197.out 0).trans rfl, (blk_cell BK197.out 1).trans rfl, (blk_cell BK197.out 2).trans rfl, (blk_cell BK197.out 3).trans rfl, (blk_cell BK197.out 4).trans rfl, (blk_cell BK197.out 5).trans rfl, (blk_cell BK197.out 6).trans rfl, (blk_cell BK197.out 7).trans rfl, (blk_cell BK195.out 0).trans rfl, (blk_cell BK195.out 1).trans rfl, (blk_cell BK195.out 2).trans rfl, (blk_cell BK195.out 3).trans rfl, (blk_cell BK195.out 4).trans rfl, (blk_cell BK195.out 5).trans rfl, ((HB.out.cell (World.block_lt_of_cell? w _ hw201_0)).trans hw201_0), ((HB.out.cell (World.block_lt_of_cell? w _ hw201_1)).trans hw201_1), ((HB.out.cell (World.block_lt_of_cell? w _ hw201_2)).trans hw201_2), ((HB.out.cell (World.block_lt_of_cell? w _ hw201_3)).trans hw201_3), ((HB.out.cell (World.block_lt_of_cell? w _ hw201_4)).trans hw201_4), ((HB.out.cell (World.block_lt_of_cell? w _ hw201_5)).trans hw201_5), ((HB.out.cell (World.block_lt_of_cell? w _ hw201_6)).trans hw201_6), ((HB.out.cell (World.block_lt_of_cell? w _ hw201_7)).trans hw201_7)⟩ (fun hHeld => ?_)
           clear hK K
           refine norm_ (a' := ?_) ?_ ?_
           rotate_left
           ·show Act.put _ (some 23) _ = _
            simp only [Act.put, List.setIfInBounds_toArray, List.set_cons_zero, List.set_cons_succ, i64_w, i32_w]
            rfl
           refine pure_ (i := 5) (N := some 24) (v := ?_) (a' := ?_) #[true, true, true, true, true, true, false, false, false, false, false, false, false, false, false, false, false, false, false, false, false, false, false, false, false, false] rfl rfl (any_of HT_.out (by kernel_rfl)) (fun _ _ _ h => h) (Or.inl ⟨by rfl, ?_⟩) ?_ ?_
           rotate_left
           ·intro w'
            go_simp
            with_reducible rfl
           rotate_left
           ·simp only [Act.put, List.setIfInBounds_toArray, List.set_cons_zero, List.set_cons_succ, i64_w, i32_w]
            rfl
           refine pure_ (i := 6) (N := some 25) (v := ?_) (a' := ?_) #[true, true, true, true, true, true, true, false, false, false, false, false, false, false, false, false, false, false, false, false, false, false, false, false, false, false] rfl rfl (any_of HT_.out (by kernel_rfl)) (fun _ _ _ h => h) (Or.inl ⟨by rfl, ?_⟩) ?_ ?_
           rotate_left
           ·intro w'
            go_simp
            with_reducible rfl
           rotate_left
           ·simp only [Act.put, List.setIfInBounds_toArray, List.set_cons_zero, List.set_cons_succ, i64_w, i32_w]
            rfl
           refine pure_ (i := 7) (N := some 26) (v := ?_) (a' := ?_) #[true, true, true, true, true, true, true, true, false, false, false, false, false, false, false, false, false, false, false, false, false, false, false, false, false, false] rfl rfl (any_of HT_.out (by kernel_rfl)) (fun _ _ _ h => h) (Or.inl ⟨by rfl, ?_⟩) ?_ ?_
           rotate_left
           ·intro w'
            go_simp
            with_reducible rfl
           rotate_left
           ·simp only [Act.put, List.setIfInBounds_toArray, List.set_cons_zero, List.set_cons_succ, i64_w, i32_w]
            rfl
           refine pure_ (i := 8) (N := some 27) (v := ?_) (a' := ?_) #[true, true, true, true, true, true, true, true, true, false, false, false, false, false, false, false, false, false, false, false, false, false, false, false, false, false] rfl rfl (any_of HT_.out (by kernel_rfl)) (fun _ _ _ h => h) (Or.inl ⟨by rfl, ?_⟩) ?_ ?_
           rotate_left
           ·intro w'
            go_simp
            with_reducible rfl
           rotate_left
           ·simp only [Act.put, List.setIfInBounds_toArray, List.set_cons_zero, List.set_cons_succ, i64_w, i32_w]
            rfl
           refine pure_ (i := 9) (N := some 28) (v := ?_) (a' := ?_) #[true, true, true, true, true, true, true, true, true, true, false, false, false, false, false, false, false, false, false, false, false, false, false, false, false, false] rfl rfl (any_of HT_.out (by kernel_rfl)) (fun _ _ _ h => h) (Or.inl ⟨by rfl, ?_⟩) ?_ ?_
           rotate_left
           ·intro w'
            go_simp
            with_reducible rfl
           rotate_left
           ·simp only [Act.put, List.setIfInBounds_toArray, List.set_cons_zero, List.set_cons_succ, i64_w, i32_w]
            rfl
           refine pure_ (i := 12) (N := some 31) (v := ?_) (a' := ?_) #[true, true, true, true, true, true, true, true, true, true, false, false, true, false, false, false, false, false, false, false, false, false, false, false, false, false] rfl rfl (any_of HT_.out (by kernel_rfl)) (fun _ _ _ h => h) (Or.inl ⟨by rfl, ?_⟩) ?_ ?_
           rotate_left
           ·intro w'
            go_simp
            with_reducible rfl
           rotate_left
           ·simp only [Act.put, List.setIfInBounds_toArray, List.set_cons_zero, List.set_cons_succ, i64_w, i32_w]
            rfl
           refine pure_ (i := 15) (N := some 34) (v := ?_) (a' := ?_) #[true, true, true, true, true, true, true, true, true, true, false, false, true, false, false, true, false, false, false, false, false, false, false, false, false, false] rfl rfl (any_of HT_.out (by kernel_rfl)) (fun _ _ _ h => h) (Or.inl ⟨by rfl, ?_⟩) ?_ ?_
           rotate_left
           ·intro w'
            go_simp
            with_reducible rfl
           rotate_left
           ·simp only [Act.put, List.setIfInBounds_toArray, List.set_cons_zero, List.set_cons_succ, i64_w, i32_w]
            rfl
           refine pure_ (i := 16) (N := some 35) (v := ?_) (a' := ?_) #[true, true, true, true, true, true, true, true, true, true, false, false, true, false, false, true, true, false, false, false, false, false, false, false, false, false] rfl rfl (any_of HT_.out (by kernel_rfl)) (fun _ _ _ h => h) (Or.inl ⟨by rfl, ?_⟩) ?_ ?_
           rotate_left
           ·intro w'
            go_simp
            with_reducible rfl
           rotate_left
           ·simp only [Act.put, List.setIfInBounds_toArray, List.set_cons_zero, List.set_cons_succ, i64_w, i32_w]
            rfl
           refine pure_ (i := 17) (N := some 36) (v := ?_) (a' := ?_) #[true, true, true, true, true, true, true, true, true, true, false, false, true, false, false, true, true, true, false, false, false, false, false, false, false, false] rfl rfl (any_of HT_.out (by kernel_rfl)) (fun _ _ _ h => h) (Or.inl ⟨by rfl, ?_⟩) ?_ ?_
           rotate_left
           ·intro w'
            go_simp
            with_reducible rfl
           rotate_left
           ·simp only [Act.put, List.setIfInBounds_toArray, List.set_cons_zero, List.set_cons_succ, i64_w, i32_w]
            rfl
           refine pure_ (i := 20) (N := some 39) (v := ?_) (a' := ?_) #[true, true, true, true, true, true, true, true, true, true, false, false, true, false, false, true, true, true, false, false, true, false, false, false, false, false] rfl rfl (any_of HT_.out (by kernel_rfl)) (fun _ _ _ h => h) (Or.inl ⟨by rfl, ?_⟩) ?_ ?_
           rotate_left
           ·intro w'
            go_simp
            with_reducible rfl
           rotate_left
           ·simp only [Act.put, List.setIfInBounds_toArray, List.set_cons_zero, List.set_cons_succ, i64_w, i32_w]
            rfl
           refine take_ (i := 10) (N := some 29) (v := ?_) (a' := ?_) #[true, true, true, true, true, true, true, true, true, true, true, false, true, false, false, true, true, true, false, false, true, false, false, false, false, false] rfl rfl (take_ofW HT_.out HW_.out (by kernel_rfl)) (fun _ _ _ h => h) (Or.inl ⟨by rfl, ?_⟩) hHeld ?_ ?_
           rotate_left
           ·rintro w' ⟨s0, s1, s2, s3, s4, s5, s6, s7, s8, s9, s10, s11, s12, s13, s14, s15, s16, s17, s18, s19, s20, s21⟩
            go_simp
            with_reducible rfl
           rotate_left
           ·simp only [Act.put, List.setIfInBounds_toArray, List.set_cons_zero, List.set_cons_succ, i64_w, i32_w]
            rfl
           refine take_ (i := 11) (N := some 30) (v := ?_) (a' := ?_) #[true, true, true, true, true, true, true, true, true, true, true, true, true, false, false, true, true, true, false, false, true, false, false, false, false, false] rfl rfl (take_ofW HT_.out HW_.out (by kernel_rfl)) (fun _ _ _ h => h) (Or.inl ⟨by rfl, ?_⟩) hHeld ?_ ?_
           rotate_left
           ·rintro w' ⟨s0, s1, s2, s3, s4, s5, s6, s7, s8, s9, s10, s11, s12, s13, s14, s15, s16, s17, s18, s19, s20, s21⟩
            go_simp
            with_reducible rfl
           rotate_left
           ·simp only [Act.put, List.setIfInBounds_toArray, List.set_cons_zero, List.set_cons_succ, i64_w, i32_w]
            rfl
           refine take_ (i := 18) (N := some 37) (v := ?_) (a' := ?_) #[true, true, true, true, true, true, true, true, true, true, true, true, true, false, false, true, true, true, true, false, true, false, false, false, false, false] rfl rfl (take_ofW HT_.out HW_.out (by kernel_rfl)) (fun _ _ _ h => h) (Or.inl ⟨by rfl, ?_⟩) hHeld ?_ ?_
           rotate_left
           ·rintro w' ⟨s0, s1, s2, s3, s4, s5, s6, s7, s8, s9, s10, s11, s12, s13, s14, s15, s16, s17, s18, s19, s20, s21⟩
            go_simp
            with_reducible rfl
           rotate_left
           ·simp only [Act.put, List.setIfInBounds_toArray, List.set_cons_zero, List.set_cons_succ, i64_w, i32_w]
            rfl
           refine take_ (i := 19) (N := some 38) (v := ?_) (a' := ?_) #[true, true, true, true, true, true, true, true, true, true, true, true, true, false, false, true, true, true, true, true, true, false, false, false, false, false] rfl rfl (take_ofW HT_.out HW_.out (by kernel_rfl)) (fun _ _ _ h => h) (Or.inl ⟨by rfl, ?_⟩) hHeld ?_ ?_
           rotate_left
           ·rintro w' ⟨s0, s1, s2, s3, s4, s5, s6, s7, s8, s9, s10, s11, s12, s13, s14, s15, s16, s17, s18, s19, s20, s21⟩
            go_simp
            with_reducible rfl
           rotate_left
           ·simp only [Act.put, List.setIfInBounds_toArray, List.set_cons_zero, List.set_cons_succ, i64_w, i32_w]
            rfl
           refine one_ (i := 13) (N := some 32) #[true, true, true, true, true, true, true, true, true, true, true, true, true, true, false, true, true, true, true, true, true, false, false, false, false, false] rfl rfl (one_of HT_.out (by kernel_rfl)) (by decide) (fun K hK => ?_)
           refine goes_ Try.func38 (by kernel_rfl) rfl #[.agg #[.int .i64 a1_0, .int .i64 a1_1, .int .i64 a1_2, .int .i64 a1_3, .int .i64 a1_4, .int .i64 a1_5], .int .i64 a2] (by rfl) rfl rfl (by (try simp only [List.map_toArray, List.map_cons, List.map_nil]); first | done | rfl | (simp only [List.length_drop, List.length_take]; rfl)) ?_
           with_reducible refine (saw_area.calls a1_0 a1_1 a1_2 a1_3 a1_4 a1_5 a2 t199 _ A18.out).mono ?_
           rintro e w41 ⟨rfl, hb⟩
           refine ⟨_, rfl, ?_⟩
           have n0_ := Aside0.mk (blk_below (g := gb195) (o := .cells #[.int .i64 a1_0, .int .i64 a1_1, .int .i64 a1_2, .int .i64 a1_3, .int .i64 a1_4, .int .i64 a1_5] 30 (0, 0)) (by (with_reducible repeat (first | refine blk_drewN ?_ _ | refine blk_drew ?_ | refine blk_alloc ?_ _)); exact BK195.out) hb)
           have n1_ := Aside0.mk (blk_below (g := gb197) (o := .cells #[.string ((rd_T37 l0 x14_1).f0), .int .i64 ((rd_T37 l0 x14_1).f1), .int .i64 ((rd_T37 l0 x14_1).f2.f0), .int .i64 ((rd_T37 l0 x14_1).f2.f1), .int .i64 ((rd_T37 l0 x14_1).f2.f2), .int .i64 ((rd_T37 l0 x14_1).f3), .int .i64 ((rd_T37 l0 x14_1).f4), .int .i64 ((rd_T37 l0 x14_1).f5)] 37 (0, 0)) (by (with_reducible repeat (first | refine blk_drewN ?_ _ | refine blk_drew ?_ | refine blk_alloc ?_ _)); exact BK197.out) hb)
           have n2_ := Aside0.mk (below_step (by repeat (first | (with_reducible first | exact HB.out | apply below_alloc | apply pw_below_drewN | apply below_drew1 | refine below_set ?_ GE195.out | refine below_set ?_ GE197.out) | exact HB.out)) hb)
           clear BK195
           clear BK197
           clear HB
           have BK195 := n0_
           have BK197 := n1_
           have HB := n2_
           clear n0_ n1_ n2_
           (try clear hb)
           (try clear hb2)
           (try clear hk)
           (try clear hi)
           refine hK.out _ _ ⟨(blk_cell BK197.out 0).trans rfl, (blk_cell BK197.out 1).trans rfl, (blk_cell BK197.out 2).trans rfl, (blk_cell BK197.out 3).trans rfl, (blk_cell BK197.out 4).trans rfl, (blk_cell BK197.out 5).trans rfl, (blk_cell BK197.out 6).trans rfl, (blk_cell BK197.out 7).trans rfl, (blk_cell BK195.out 0).trans rfl, (blk_cell BK195.out 1).trans rfl, (blk_cell BK195.out 2).trans rfl, (blk_cell BK195.out 3).trans rfl, (blk_cell BK195.out 4).trans rfl, (blk_cell BK195.out 5).trans rfl, ((HB.out.cell (World.block_lt_of_cell? w _ hw201_0)).trans hw201_0), ((HB.out.cell (World.block_lt_of_cell? w _ hw201_1)).trans hw201_1), ((HB.out.cell (World.block_lt_of_cell? w _ hw201_2)).trans hw201_2), ((HB.out.cell (World.block_lt_of_cell? w _ hw201_3)).trans hw201_3), ((HB.out.cell (World.block_lt_of_cell? w _ hw201_4)).trans hw201_4), ((HB.out.cell (World.block_lt_of_cell? w _ hw201_5)).trans hw201_5), ((HB.out.cell (World.block_lt_of_cell? w _ hw201_6)).trans hw201_6), ((HB.out.cell (World.block_lt_of_cell? w _ hw201_7)).trans hw201_7)⟩ (fun hHeld => ?_)
           clear hK K
           refine norm_ (a' := ?_) ?_ ?_
           rotate_left
           ·show Act.put _ (some 32) _ = _
            simp only [Act.put, List.setIfInBounds_toArray, List.set_cons_zero, List.set_cons_succ, i64_w, i32_w]
            rfl
           refine one_ (i := 14) (N := some 33) #[true, true, true, true, true, true, true, true, true, true, true, true, true, true, true, true, true, true, true, true, true, false, false, false, false, false] rfl rfl (one_of HT_.out (by kernel_rfl)) (by decide) (fun K hK => ?_)
           refine goes_ Try.func35 (by kernel_rfl) rfl #[.agg #[.string ((rd_T37 l0 x14_1).f0), .int .i64 ((rd_T37 l0 x14_1).f1), .int .i64 ((rd_T37 l0 x14_1).f2.f0), .int .i64 ((rd_T37 l0 x14_1).f2.f1), .int .i64 ((rd_T37 l0 x14_1).f2.f2), .int .i64 ((rd_T37 l0 x14_1).f3), .int .i64 ((rd_T37 l0 x14_1).f4), .int .i64 ((rd_T37 l0 x14_1).f5)], .int .i64 t199] (by rfl) rfl rfl (by (try simp only [List.map_toArray, List.map_cons, List.map_nil]); first | done | rfl | (simp only [List.length_drop, List.length_take]; rfl)) ?_
           with_reducible refine (saw_minutes.calls ((rd_T37 l0 x14_1).f0) ((rd_T37 l0 x14_1).f1) ((rd_T37 l0 x14_1).f2.f0) ((rd_T37 l0 x14_1).f2.f1) ((rd_T37 l0 x14_1).f2.f2) ((rd_T37 l0 x14_1).f3) ((rd_T37 l0 x14_1).f4) ((rd_T37 l0 x14_1).f5) t199 t200 _ A19.out).mono ?_
           rintro e w42 ⟨rfl, hb⟩
           refine ⟨_, rfl, ?_⟩
           have n0_ := Aside0.mk (blk_below (g := gb195) (o := .cells #[.int .i64 a1_0, .int .i64 a1_1, .int .i64 a1_2, .int .i64 a1_3, .int .i64 a1_4, .int .i64 a1_5] 30 (0, 0)) (by (with_reducible repeat (first | refine blk_drewN ?_ _ | refine blk_drew ?_ | refine blk_alloc ?_ _)); exact BK195.out) hb)
           have n1_ := Aside0.mk (blk_below (g := gb197) (o := .cells #[.string ((rd_T37 l0 x14_1).f0), .int .i64 ((rd_T37 l0 x14_1).f1), .int .i64 ((rd_T37 l0 x14_1).f2.f0), .int .i64 ((rd_T37 l0 x14_1).f2.f1), .int .i64 ((rd_T37 l0 x14_1).f2.f2), .int .i64 ((rd_T37 l0 x14_1).f3), .int .i64 ((rd_T37 l0 x14_1).f4), .int .i64 ((rd_T37 l0 x14_1).f5)] 37 (0, 0)) (by (with_reducible repeat (first | refine blk_drewN ?_ _ | refine blk_drew ?_ | refine blk_alloc ?_ _)); exact BK197.out) hb)
           have n2_ := Aside0.mk (below_step (by repeat (first | (with_reducible first | exact HB.out | apply below_alloc | apply pw_below_drewN | apply below_drew1 | refine below_set ?_ GE195.out | refine below_set ?_ GE197.out) | exact HB.out)) hb)
           clear BK195
           clear BK197
           clear HB
           have BK195 := n0_
           have BK197 := n1_
           have HB := n2_
           clear n0_ n1_ n2_
           (try clear hb)
           (try clear hb2)
           (try clear hk)
           (try clear hi)
           refine hK.out _ _ ⟨(blk_cell BK197.out 0).trans rfl, (blk_cell BK197.out 1).trans rfl, (blk_cell BK197.out 2).trans rfl, (blk_cell BK197.out 3).trans rfl, (blk_cell BK197.out 4).trans rfl, (blk_cell BK197.out 5).trans rfl, (blk_cell BK197.out 6).trans rfl, (blk_cell BK197.out 7).trans rfl, (blk_cell BK195.out 0).trans rfl, (blk_cell BK195.out 1).trans rfl, (blk_cell BK195.out 2).trans rfl, (blk_cell BK195.out 3).trans rfl, (blk_cell BK195.out 4).trans rfl, (blk_cell BK195.out 5).trans rfl, ((HB.out.cell (World.block_lt_of_cell? w _ hw201_0)).trans hw201_0), ((HB.out.cell (World.block_lt_of_cell? w _ hw201_1)).trans hw201_1), ((HB.out.cell (World.block_lt_of_cell? w _ hw201_2)).trans hw201_2), ((HB.out.cell (World.block_lt_of_cell? w _ hw201_3)).trans hw201_3), ((HB.out.cell (World.block_lt_of_cell? w _ hw201_4)).trans hw201_4), ((HB.out.cell (World.block_lt_of_cell? w _ hw201_5)).trans hw201_5), ((HB.out.cell (World.block_lt_of_cell? w _ hw201_6)).trans hw201_6), ((HB.out.cell (World.block_lt_of_cell? w _ hw201_7)).trans hw201_7)⟩ (fun hHeld => ?_)
           clear hK K
           refine norm_ (a' := ?_) ?_ ?_
           rotate_left
           ·show Act.put _ (some 33) _ = _
            simp only [Act.put, List.setIfInBounds_toArray, List.set_cons_zero, List.set_cons_succ, i64_w, i32_w]
            rfl
           refine one_ (i := 21) (N := some 40) #[true, true, true, true, true, true, true, true, true, true, true, true, true, true, true, true, true, true, true, true, true, true, false, false, false, false] rfl rfl (one_of HT_.out (by kernel_rfl)) (by decide) (fun K hK => ?_)
           refine goes_ Try.func38 (by kernel_rfl) rfl #[.agg #[.int .i64 a1_0, .int .i64 a1_1, .int .i64 a1_2, .int .i64 a1_3, .int .i64 a1_4, .int .i64 a1_5], .int .i64 a2] (by rfl) rfl rfl (by (try simp only [List.map_toArray, List.map_cons, List.map_nil]); first | done | rfl | (simp only [List.length_drop, List.length_take]; rfl)) ?_
           with_reducible refine (saw_area.calls a1_0 a1_1 a1_2 a1_3 a1_4 a1_5 a2 t202 _ A22.out).mono ?_
           rintro e w43 ⟨rfl, hb⟩
           refine ⟨_, rfl, ?_⟩
           have n0_ := Aside0.mk (blk_below (g := gb195) (o := .cells #[.int .i64 a1_0, .int .i64 a1_1, .int .i64 a1_2, .int .i64 a1_3, .int .i64 a1_4, .int .i64 a1_5] 30 (0, 0)) (by (with_reducible repeat (first | refine blk_drewN ?_ _ | refine blk_drew ?_ | refine blk_alloc ?_ _)); exact BK195.out) hb)
           have n1_ := Aside0.mk (blk_below (g := gb197) (o := .cells #[.string ((rd_T37 l0 x14_1).f0), .int .i64 ((rd_T37 l0 x14_1).f1), .int .i64 ((rd_T37 l0 x14_1).f2.f0), .int .i64 ((rd_T37 l0 x14_1).f2.f1), .int .i64 ((rd_T37 l0 x14_1).f2.f2), .int .i64 ((rd_T37 l0 x14_1).f3), .int .i64 ((rd_T37 l0 x14_1).f4), .int .i64 ((rd_T37 l0 x14_1).f5)] 37 (0, 0)) (by (with_reducible repeat (first | refine blk_drewN ?_ _ | refine blk_drew ?_ | refine blk_alloc ?_ _)); exact BK197.out) hb)
           have n2_ := Aside0.mk (below_step (by repeat (first | (with_reducible first | exact HB.out | apply below_alloc | apply pw_below_drewN | apply below_drew1 | refine below_set ?_ GE195.out | refine below_set ?_ GE197.out) | exact HB.out)) hb)
           clear BK195
           clear BK197
           clear HB
           have BK195 := n0_
           have BK197 := n1_
           have HB := n2_
           clear n0_ n1_ n2_
           (try clear hb)
           (try clear hb2)
           (try clear hk)
           (try clear hi)
           refine hK.out _ _ ⟨(blk_cell BK197.out 0).trans rfl, (blk_cell BK197.out 1).trans rfl, (blk_cell BK197.out 2).trans rfl, (blk_cell BK197.out 3).trans rfl, (blk_cell BK197.out 4).trans rfl, (blk_cell BK197.out 5).trans rfl, (blk_cell BK197.out 6).trans rfl, (blk_cell BK197.out 7).trans rfl, (blk_cell BK195.out 0).trans rfl, (blk_cell BK195.out 1).trans rfl, (blk_cell BK195.out 2).trans rfl, (blk_cell BK195.out 3).trans rfl, (blk_cell BK195.out 4).trans rfl, (blk_cell BK195.out 5).trans rfl, ((HB.out.cell (World.block_lt_of_cell? w _ hw201_0)).trans hw201_0), ((HB.out.cell (World.block_lt_of_cell? w _ hw201_1)).trans hw201_1), ((HB.out.cell (World.block_lt_of_cell? w _ hw201_2)).trans hw201_2), ((HB.out.cell (World.block_lt_of_cell? w _ hw201_3)).trans hw201_3), ((HB.out.cell (World.block_lt_of_cell? w _ hw201_4)).trans hw201_4), ((HB.out.cell (World.block_lt_of_cell? w _ hw201_5)).trans hw201_5), ((HB.out.cell (World.block_lt_of_cell? w _ hw201_6)).trans hw201_6), ((HB.out.cell (World.block_lt_of_cell? w _ hw201_7)).trans hw201_7)⟩ (fun hHeld => ?_)
           clear hK K
           refine norm_ (a' := ?_) ?_ ?_
           rotate_left
           ·show Act.put _ (some 40) _ = _
            simp only [Act.put, List.setIfInBounds_toArray, List.set_cons_zero, List.set_cons_succ, i64_w, i32_w]
            rfl
           refine one_ (i := 22) (N := some 41) #[true, true, true, true, true, true, true, true, true, true, true, true, true, true, true, true, true, true, true, true, true, true, true, false, false, false] rfl rfl (one_of HT_.out (by kernel_rfl)) (by decide) (fun K hK => ?_)
           refine goes_ Try.func35 (by kernel_rfl) rfl #[.agg #[.string ((rd_T37 l0 x9_1).f0), .int .i64 ((rd_T37 l0 x9_1).f1), .int .i64 ((rd_T37 l0 x9_1).f2.f0), .int .i64 ((rd_T37 l0 x9_1).f2.f1), .int .i64 ((rd_T37 l0 x9_1).f2.f2), .int .i64 ((rd_T37 l0 x9_1).f3), .int .i64 ((rd_T37 l0 x9_1).f4), .int .i64 ((rd_T37 l0 x9_1).f5)], .int .i64 t202] (by rfl) rfl rfl (by (try simp only [List.map_toArray, List.map_cons, List.map_nil]); first | done | rfl | (simp only [List.length_drop, List.length_take]; rfl)) ?_
           with_reducible refine (saw_minutes.calls ((rd_T37 l0 x9_1).f0) ((rd_T37 l0 x9_1).f1) ((rd_T37 l0 x9_1).f2.f0) ((rd_T37 l0 x9_1).f2.f1) ((rd_T37 l0 x9_1).f2.f2) ((rd_T37 l0 x9_1).f3) ((rd_T37 l0 x9_1).f4) ((rd_T37 l0 x9_1).f5) t202 t203 _ A23.out).mono ?_
           rintro e w44 ⟨rfl, hb⟩
           refine ⟨_, rfl, ?_⟩
           have n0_ := Aside0.mk (blk_below (g := gb195) (o := .cells #[.int .i64 a1_0, .int .i64 a1_1, .int .i64 a1_2, .int .i64 a1_3, .int .i64 a1_4, .int .i64 a1_5] 30 (0, 0)) (by (with_reducible repeat (first | refine blk_drewN ?_ _ | refine blk_drew ?_ | refine blk_alloc ?_ _)); exact BK195.out) hb)
           have n1_ := Aside0.mk (blk_below (g := gb197) (o := .cells #[.string ((rd_T37 l0 x14_1).f0), .int .i64 ((rd_T37 l0 x14_1).f1), .int .i64 ((rd_T37 l0 x14_1).f2.f0), .int .i64 ((rd_T37 l0 x14_1).f2.f1), .int .i64 ((rd_T37 l0 x14_1).f2.f2), .int .i64 ((rd_T37 l0 x14_1).f3), .int .i64 ((rd_T37 l0 x14_1).f4), .int .i64 ((rd_T37 l0 x14_1).f5)] 37 (0, 0)) (by (with_reducible repeat (first | refine blk_drewN ?_ _ | refine blk_drew ?_ | refine blk_alloc ?_ _)); exact BK197.out) hb)
           have n2_ := Aside0.mk (below_step (by repeat (first | (with_reducible first | exact HB.out | apply below_alloc | apply pw_below_drewN | apply below_drew1 | refine below_set ?_ GE195.out | refine below_set ?_ GE197.out) | exact HB.out)) hb)
           clear BK195
           clear BK197
           clear HB
           have BK195 := n0_
           have BK197 := n1_
           have HB := n2_
           clear n0_ n1_ n2_
           (try clear hb)
           (try clear hb2)
           (try clear hk)
           (try clear hi)
           refine hK.out _ _ ⟨(blk_cell BK197.out 0).trans rfl, (blk_cell BK197.out 1).trans rfl, (blk_cell BK197.out 2).trans rfl, (blk_cell BK197.out 3).trans rfl, (blk_cell BK197.out 4).trans rfl, (blk_cell BK197.out 5).trans rfl, (blk_cell BK197.out 6).trans rfl, (blk_cell BK197.out 7).trans rfl, (blk_cell BK195.out 0).trans rfl, (blk_cell BK195.out 1).trans rfl, (blk_cell BK195.out 2).trans rfl, (blk_cell BK195.out 3).trans rfl, (blk_cell BK195.out 4).trans rfl, (blk_cell BK195.out 5).trans rfl, ((HB.out.cell (World.block_lt_of_cell? w _ hw201_0)).trans hw201_0), ((HB.out.cell (World.block_lt_of_cell? w _ hw201_1)).trans hw201_1), ((HB.out.cell (World.block_lt_of_cell? w _ hw201_2)).trans hw201_2), ((HB.out.cell (World.block_lt_of_cell? w _ hw201_3)).trans hw201_3), ((HB.out.cell (World.block_lt_of_cell? w _ hw201_4)).trans hw201_4), ((HB.out.cell (World.block_lt_of_cell? w _ hw201_5)).trans hw201_5), ((HB.out.cell (World.block_lt_of_cell? w _ hw201_6)).trans hw201_6), ((HB.out.cell (World.block_lt_of_cell? w _ hw201_7)).trans hw201_7)⟩ (fun hHeld => ?_)
           clear hK K
           refine norm_ (a' := ?_) ?_ ?_
           rotate_left
           ·show Act.put _ (some 41) _ = _
            simp only [Act.put, List.setIfInBounds_toArray, List.set_cons_zero, List.set_cons_succ, i64_w, i32_w]
            rfl
           refine pure_ (i := 23) (N := some 42) (v := ?_) (a' := ?_) #[true, true, true, true, true, true, true, true, true, true, true, true, true, true, true, true, true, true, true, true, true, true, true, true, false, false] rfl rfl (any_of HT_.out (by kernel_rfl)) (fun _ _ _ h => h) (Or.inl ⟨by rfl, ?_⟩) ?_ ?_
           rotate_left
           ·intro w'
            go_simp
            with_reducible rfl
           rotate_left
           ·simp only [Act.put, List.setIfInBounds_toArray, List.set_cons_zero, List.set_cons_succ, i64_w, i32_w]
            rfl
           refine pure_ (i := 24) (N := some 43) (v := ?_) (a' := ?_) #[true, true, true, true, true, true, true, true, true, true, true, true, true, true, true, true, true, true, true, true, true, true, true, true, true, false] rfl rfl (any_of HT_.out (by kernel_rfl)) (fun _ _ _ h => h) (Or.inl ⟨by rfl, ?_⟩) ?_ ?_
           rotate_left
           ·intro w'
            go_simp
            with_reducible rfl
           rotate_left
           ·simp only [Act.put, List.setIfInBounds_toArray, List.set_cons_zero, List.set_cons_succ, i64_w, i32_w]
            rfl
           refine pure_ (i := 25) (N := some 44) (v := ?_) (a' := ?_) #[true, true, true, true, true, true, true, true, true, true, true, true, true, true, true, true, true, true, true, true, true, true, true, true, true, true] rfl rfl (any_of HT_.out (by kernel_rfl)) (fun _ _ _ h => h) (Or.inl ⟨by rfl, ?_⟩) ?_ ?_
           rotate_left
           ·intro w'
            go_simp
            with_reducible rfl
           rotate_left
           ·simp only [Act.put, List.setIfInBounds_toArray, List.set_cons_zero, List.set_cons_succ, i64_w, i32_w]
            rfl
           refine done_ (done_of HT_.out (by kernel_rfl)) ?_
           try go_wp2
           go_roundg k1
           case measure => have := HK1.out; omega
           case rel => exact ⟨(x9_1), (wrap64 (x14_1 + 1)), (by first | rfl | (simp; done) | (simp [*]; done)), (by first | rfl | (simp; done) | (simp [*]; done)), H', ⟨by have := HK1.out; omega⟩, ⟨by (with_reducible repeat (first | refine blk_drewN ?_ _ | refine blk_drew ?_ | refine blk_alloc ?_ _)); exact BK195.out⟩, ⟨by repeat (first | (with_reducible first | exact HB.out | apply below_alloc | apply pw_below_drewN | apply below_drew1 | refine below_set ?_ GE195.out | refine below_set ?_ GE197.out) | exact HB.out)⟩⟩
         ·rw [if_neg c21] at H
          exact absurd H (by simp)
        ·rw [if_neg c20] at H
         exact absurd H (by simp)
      ·rw [if_neg c10] at H
       have c10b0 : (t198 == 0) = false := beq_eq_false_iff_ne.mpr c10
       have c10b1 : (t198 != 0) = true := bne_iff_ne.mpr c10
       have H' := Aside0.mk H
       clear H
       have p196 : 0 ≤ (x14_1 : Int) := of_decide_eq_true (by first | (with_reducible assumption) | assumption)
       have q196 : x14_1 < (l0.length : Int) := of_decide_eq_true (by first | (with_reducible assumption) | assumption)
       obtain ⟨ad196, e196, hx196_0, hx196_1, hx196_2, hx196_3, hx196_4, hx196_5, hx196_6, hx196_7⟩ := at_T37 HR0.out x14_1 p196 q196
       cases e196
       replace hx196_0 := (HB.out.cell (World.block_lt_of_cell? w _ hx196_0)).trans hx196_0
       replace hx196_1 := (HB.out.cell (World.block_lt_of_cell? w _ hx196_1)).trans hx196_1
       replace hx196_2 := (HB.out.cell (World.block_lt_of_cell? w _ hx196_2)).trans hx196_2
       replace hx196_3 := (HB.out.cell (World.block_lt_of_cell? w _ hx196_3)).trans hx196_3
       replace hx196_4 := (HB.out.cell (World.block_lt_of_cell? w _ hx196_4)).trans hx196_4
       replace hx196_5 := (HB.out.cell (World.block_lt_of_cell? w _ hx196_5)).trans hx196_5
       replace hx196_6 := (HB.out.cell (World.block_lt_of_cell? w _ hx196_6)).trans hx196_6
       replace hx196_7 := (HB.out.cell (World.block_lt_of_cell? w _ hx196_7)).trans hx196_7
       replace p196 := eq_true p196
       replace q196 := eq_true q196
       try go_wp2_with (first | ((with_reducible refine gate_dst (N := 11) rfl ?_); refine box_event ?hg (N := 11) ?hd (cs := #[.string (⟨#[]⟩ : ByteArray), .int .i64 0, .int .i64 0, .int .i64 0, .int .i64 0, .int .i64 0, .int .i64 0, .int .i64 0]) (t := 37) ?hr ?_; (case hd => rfl); (case hg => rfl); (case hr => first | (go_simp; done) | (go_simp; rfl)); intro gb197 hg w45 hbox hb; have n0_ := Aside0.mk (blk_below (g := gb195) (o := .cells #[.int .i64 a1_0, .int .i64 a1_1, .int .i64 a1_2, .int .i64 a1_3, .int .i64 a1_4, .int .i64 a1_5] 30 (0, 0)) (by (with_reducible repeat (first | refine blk_drewN ?_ _ | refine blk_drew ?_ | refine blk_alloc ?_ _)); exact BK195.out) hb); have n1_ := Aside0.mk (below_step (by repeat (first | (with_reducible first | exact HB.out | apply below_alloc | apply pw_below_drewN | apply below_drew1 | refine below_set ?_ GE195.out) | exact HB.out)) hb); have n2_ := Aside0.mk (hbox); have n3_ := Aside0.mk ((by rw [hg]; exact (below_size (by repeat (first | (with_reducible first | exact HB.out | apply below_alloc | apply pw_below_drewN | apply below_drew1 | refine below_set ?_ GE195.out) | exact HB.out))) : w.heap.size ≤ gb197)); have n4_ := Aside0.mk ((by rw [hg]; exact (below_size (by repeat (first | (with_reducible first | exact HB.out | apply below_alloc | apply pw_below_drewN | apply below_drew1 | refine below_set ?_ GE195.out) | exact HB.out))) : w.heap.size ≤ gb197)); have n5_ := Aside0.mk ((by rw [hg]; exact Nat.ne_of_lt (blk_lt (g := gb195) (o := .cells #[.int .i64 a1_0, .int .i64 a1_1, .int .i64 a1_2, .int .i64 a1_3, .int .i64 a1_4, .int .i64 a1_5] 30 (0, 0)) (by (with_reducible repeat (first | refine blk_drewN ?_ _ | refine blk_drew ?_ | refine blk_alloc ?_ _)); exact BK195.out)) : gb195 ≠ gb197)); have n6_ := Aside0.mk ((by rw [hg]; exact Nat.ne_of_gt (blk_lt (g := gb195) (o := .cells #[.int .i64 a1_0, .int .i64 a1_1, .int .i64 a1_2, .int .i64 a1_3, .int .i64 a1_4, .int .i64 a1_5] 30 (0, 0)) (by (with_reducible repeat (first | refine blk_drewN ?_ _ | refine blk_drew ?_ | refine blk_alloc ?_ _)); exact BK195.out)) : gb197 ≠ gb195)); clear BK195; clear HB; have BK195 := n0_; have HB := n1_; have BK197 := n2_; have GW197 := n3_; have GE197 := n4_; have NB195_197 := n5_; have NB197_195 := n6_; clear n0_ n1_ n2_ n3_ n4_ n5_ n6_; clear hb hbox hg; have hnb46 := NB197_195.out; have hnc46 := NB195_197.out; have hcz47_0 : w45.cell? ⟨gb197, 0, none⟩ = some (.string (⟨#[]⟩ : ByteArray)) := (blk_cell BK197.out 0).trans rfl; have hcz47_1 : w45.cell? ⟨gb197, 1, none⟩ = some (.int .i64 0) := (blk_cell BK197.out 1).trans rfl; have hcz47_2 : w45.cell? ⟨gb197, 2, none⟩ = some (.int .i64 0) := (blk_cell BK197.out 2).trans rfl; have hcz47_3 : w45.cell? ⟨gb197, 3, none⟩ = some (.int .i64 0) := (blk_cell BK197.out 3).trans rfl; have hcz47_4 : w45.cell? ⟨gb197, 4, none⟩ = some (.int .i64 0) := (blk_cell BK197.out 4).trans rfl; have hcz47_5 : w45.cell? ⟨gb197, 5, none⟩ = some (.int .i64 0) := (blk_cell BK197.out 5).trans rfl; have hcz47_6 : w45.cell? ⟨gb197, 6, none⟩ = some (.int .i64 0) := (blk_cell BK197.out 6).trans rfl; have hcz47_7 : w45.cell? ⟨gb197, 7, none⟩ = some (.int .i64 0) := (blk_cell BK197.out 7).trans rfl; have hfz47_0 := blk_frozen BK197.out 0; have hfz47_1 := blk_frozen BK197.out 1; have hfz47_2 := blk_frozen BK197.out 2; have hfz47_3 := blk_frozen BK197.out 3; have hfz47_4 := blk_frozen BK197.out 4; have hfz47_5 := blk_frozen BK197.out 5; have hfz47_6 := blk_frozen BK197.out 6; have hfz47_7 := blk_frozen BK197.out 7))
       have n0_ : Aside0 (((((((((w45.setCell ⟨gb197, 0, none⟩ (.string ((rd_T37 l0 x14_1).f0))).setCell ⟨gb197, 1, none⟩ (.int .i64 ((rd_T37 l0 x14_1).f1))).setCell ⟨gb197, 2, none⟩ (.int .i64 ((rd_T37 l0 x14_1).f2.f0))).setCell ⟨gb197, 3, none⟩ (.int .i64 ((rd_T37 l0 x14_1).f2.f1))).setCell ⟨gb197, 4, none⟩ (.int .i64 ((rd_T37 l0 x14_1).f2.f2))).setCell ⟨gb197, 5, none⟩ (.int .i64 ((rd_T37 l0 x14_1).f3))).setCell ⟨gb197, 6, none⟩ (.int .i64 ((rd_T37 l0 x14_1).f4))).setCell ⟨gb197, 7, none⟩ (.int .i64 ((rd_T37 l0 x14_1).f5))).heap[gb195]? = some (.cells #[.int .i64 a1_0, .int .i64 a1_1, .int .i64 a1_2, .int .i64 a1_3, .int .i64 a1_4, .int .i64 a1_5] 30 (0, 0))) := ⟨by (with_reducible repeat (first | refine blk_drewN ?_ _ | refine blk_drew ?_ | refine blk_alloc ?_ _)); refine blk_far ?_ NB195_197.out _; (with_reducible repeat (first | refine blk_drewN ?_ _ | refine blk_drew ?_ | refine blk_alloc ?_ _)); refine blk_far ?_ NB195_197.out _; (with_reducible repeat (first | refine blk_drewN ?_ _ | refine blk_drew ?_ | refine blk_alloc ?_ _)); refine blk_far ?_ NB195_197.out _; (with_reducible repeat (first | refine blk_drewN ?_ _ | refine blk_drew ?_ | refine blk_alloc ?_ _)); refine blk_far ?_ NB195_197.out _; (with_reducible repeat (first | refine blk_drewN ?_ _ | refine blk_drew ?_ | refine blk_alloc ?_ _)); refine blk_far ?_ NB195_197.out _; (with_reducible repeat (first | refine blk_drewN ?_ _ | refine blk_drew ?_ | refine blk_alloc ?_ _)); refine blk_far ?_ NB195_197.out _; (with_reducible repeat (first | refine blk_drewN ?_ _ | refine blk_drew ?_ | refine blk_alloc ?_ _)); refine blk_far ?_ NB195_197.out _; (with_reducible repeat (first | refine blk_drewN ?_ _ | refine blk_drew ?_ | refine blk_alloc ?_ _)); refine blk_far ?_ NB195_197.out _; (with_reducible repeat (first | refine blk_drewN ?_ _ | refine blk_drew ?_ | refine blk_alloc ?_ _)); exact BK195.out⟩
       have n1_ : Aside0 (((((((((w45.setCell ⟨gb197, 0, none⟩ (.string ((rd_T37 l0 x14_1).f0))).setCell ⟨gb197, 1, none⟩ (.int .i64 ((rd_T37 l0 x14_1).f1))).setCell ⟨gb197, 2, none⟩ (.int .i64 ((rd_T37 l0 x14_1).f2.f0))).setCell ⟨gb197, 3, none⟩ (.int .i64 ((rd_T37 l0 x14_1).f2.f1))).setCell ⟨gb197, 4, none⟩ (.int .i64 ((rd_T37 l0 x14_1).f2.f2))).setCell ⟨gb197, 5, none⟩ (.int .i64 ((rd_T37 l0 x14_1).f3))).setCell ⟨gb197, 6, none⟩ (.int .i64 ((rd_T37 l0 x14_1).f4))).setCell ⟨gb197, 7, none⟩ (.int .i64 ((rd_T37 l0 x14_1).f5))).heap[gb197]? = some (.cells #[.string ((rd_T37 l0 x14_1).f0), .int .i64 ((rd_T37 l0 x14_1).f1), .int .i64 ((rd_T37 l0 x14_1).f2.f0), .int .i64 ((rd_T37 l0 x14_1).f2.f1), .int .i64 ((rd_T37 l0 x14_1).f2.f2), .int .i64 ((rd_T37 l0 x14_1).f3), .int .i64 ((rd_T37 l0 x14_1).f4), .int .i64 ((rd_T37 l0 x14_1).f5)] 37 (0, 0))) := ⟨by (with_reducible repeat (first | refine blk_drewN ?_ _ | refine blk_drew ?_ | refine blk_alloc ?_ _)); refine blk_put (cs := #[.string ((rd_T37 l0 x14_1).f0), .int .i64 ((rd_T37 l0 x14_1).f1), .int .i64 ((rd_T37 l0 x14_1).f2.f0), .int .i64 ((rd_T37 l0 x14_1).f2.f1), .int .i64 ((rd_T37 l0 x14_1).f2.f2), .int .i64 ((rd_T37 l0 x14_1).f3), .int .i64 ((rd_T37 l0 x14_1).f4), .int .i64 0]) ?_ 7 _ rfl; (with_reducible repeat (first | refine blk_drewN ?_ _ | refine blk_drew ?_ | refine blk_alloc ?_ _)); refine blk_put (cs := #[.string ((rd_T37 l0 x14_1).f0), .int .i64 ((rd_T37 l0 x14_1).f1), .int .i64 ((rd_T37 l0 x14_1).f2.f0), .int .i64 ((rd_T37 l0 x14_1).f2.f1), .int .i64 ((rd_T37 l0 x14_1).f2.f2), .int .i64 ((rd_T37 l0 x14_1).f3), .int .i64 0, .int .i64 0]) ?_ 6 _ rfl; (with_reducible repeat (first | refine blk_drewN ?_ _ | refine blk_drew ?_ | refine blk_alloc ?_ _)); refine blk_put (cs := #[.string ((rd_T37 l0 x14_1).f0), .int .i64 ((rd_T37 l0 x14_1).f1), .int .i64 ((rd_T37 l0 x14_1).f2.f0), .int .i64 ((rd_T37 l0 x14_1).f2.f1), .int .i64 ((rd_T37 l0 x14_1).f2.f2), .int .i64 0, .int .i64 0, .int .i64 0]) ?_ 5 _ rfl; (with_reducible repeat (first | refine blk_drewN ?_ _ | refine blk_drew ?_ | refine blk_alloc ?_ _)); refine blk_put (cs := #[.string ((rd_T37 l0 x14_1).f0), .int .i64 ((rd_T37 l0 x14_1).f1), .int .i64 ((rd_T37 l0 x14_1).f2.f0), .int .i64 ((rd_T37 l0 x14_1).f2.f1), .int .i64 0, .int .i64 0, .int .i64 0, .int .i64 0]) ?_ 4 _ rfl; (with_reducible repeat (first | refine blk_drewN ?_ _ | refine blk_drew ?_ | refine blk_alloc ?_ _)); refine blk_put (cs := #[.string ((rd_T37 l0 x14_1).f0), .int .i64 ((rd_T37 l0 x14_1).f1), .int .i64 ((rd_T37 l0 x14_1).f2.f0), .int .i64 0, .int .i64 0, .int .i64 0, .int .i64 0, .int .i64 0]) ?_ 3 _ rfl; (with_reducible repeat (first | refine blk_drewN ?_ _ | refine blk_drew ?_ | refine blk_alloc ?_ _)); refine blk_put (cs := #[.string ((rd_T37 l0 x14_1).f0), .int .i64 ((rd_T37 l0 x14_1).f1), .int .i64 0, .int .i64 0, .int .i64 0, .int .i64 0, .int .i64 0, .int .i64 0]) ?_ 2 _ rfl; (with_reducible repeat (first | refine blk_drewN ?_ _ | refine blk_drew ?_ | refine blk_alloc ?_ _)); refine blk_put (cs := #[.string ((rd_T37 l0 x14_1).f0), .int .i64 0, .int .i64 0, .int .i64 0, .int .i64 0, .int .i64 0, .int .i64 0, .int .i64 0]) ?_ 1 _ rfl; (with_reducible repeat (first | refine blk_drewN ?_ _ | refine blk_drew ?_ | refine blk_alloc ?_ _)); refine blk_put (cs := #[.string (⟨#[]⟩ : ByteArray), .int .i64 0, .int .i64 0, .int .i64 0, .int .i64 0, .int .i64 0, .int .i64 0, .int .i64 0]) ?_ 0 _ rfl; (with_reducible repeat (first | refine blk_drewN ?_ _ | refine blk_drew ?_ | refine blk_alloc ?_ _)); exact BK197.out⟩
       have n2_ : Aside0 (Below w.heap.size w ((((((((w45.setCell ⟨gb197, 0, none⟩ (.string ((rd_T37 l0 x14_1).f0))).setCell ⟨gb197, 1, none⟩ (.int .i64 ((rd_T37 l0 x14_1).f1))).setCell ⟨gb197, 2, none⟩ (.int .i64 ((rd_T37 l0 x14_1).f2.f0))).setCell ⟨gb197, 3, none⟩ (.int .i64 ((rd_T37 l0 x14_1).f2.f1))).setCell ⟨gb197, 4, none⟩ (.int .i64 ((rd_T37 l0 x14_1).f2.f2))).setCell ⟨gb197, 5, none⟩ (.int .i64 ((rd_T37 l0 x14_1).f3))).setCell ⟨gb197, 6, none⟩ (.int .i64 ((rd_T37 l0 x14_1).f4))).setCell ⟨gb197, 7, none⟩ (.int .i64 ((rd_T37 l0 x14_1).f5)))) := ⟨by repeat (first | (with_reducible first | exact HB.out | apply below_alloc | apply pw_below_drewN | apply below_drew1 | refine below_set ?_ GE195.out | refine below_set ?_ GE197.out) | exact HB.out)⟩
       (try clear BK195)
       (try clear BK197)
       (try clear HB)
       generalize ((((((((w45.setCell ⟨gb197, 0, none⟩ (.string ((rd_T37 l0 x14_1).f0))).setCell ⟨gb197, 1, none⟩ (.int .i64 ((rd_T37 l0 x14_1).f1))).setCell ⟨gb197, 2, none⟩ (.int .i64 ((rd_T37 l0 x14_1).f2.f0))).setCell ⟨gb197, 3, none⟩ (.int .i64 ((rd_T37 l0 x14_1).f2.f1))).setCell ⟨gb197, 4, none⟩ (.int .i64 ((rd_T37 l0 x14_1).f2.f2))).setCell ⟨gb197, 5, none⟩ (.int .i64 ((rd_T37 l0 x14_1).f3))).setCell ⟨gb197, 6, none⟩ (.int .i64 ((rd_T37 l0 x14_1).f4))).setCell ⟨gb197, 7, none⟩ (.int .i64 ((rd_T37 l0 x14_1).f5))) = w48 at n0_ n1_ n2_ ⊢
       have BK195 := n0_
       have BK197 := n1_
       have HB := n2_
       clear n0_ n1_ n2_
       have n0_ := Aside0.mk (blk_drew BK195.out)
       have n1_ := Aside0.mk (blk_drew BK197.out)
       have n2_ := Aside0.mk (below_drew1 HB.out)
       clear BK195
       clear BK197
       clear HB
       have BK195 := n0_
       have BK197 := n1_
       have HB := n2_
       clear n0_ n1_ n2_
       refine start_ (n := 26) (S := fun w' => w'.cell? ⟨gb197, 0, none⟩ = some (.string ((rd_T37 l0 x14_1).f0)) ∧ w'.cell? ⟨gb197, 1, none⟩ = some (.int .i64 ((rd_T37 l0 x14_1).f1)) ∧ w'.cell? ⟨gb197, 2, none⟩ = some (.int .i64 ((rd_T37 l0 x14_1).f2.f0)) ∧ w'.cell? ⟨gb197, 3, none⟩ = some (.int .i64 ((rd_T37 l0 x14_1).f2.f1)) ∧ w'.cell? ⟨gb197, 4, none⟩ = some (.int .i64 ((rd_T37 l0 x14_1).f2.f2)) ∧ w'.cell? ⟨gb197, 5, none⟩ = some (.int .i64 ((rd_T37 l0 x14_1).f3)) ∧ w'.cell? ⟨gb197, 6, none⟩ = some (.int .i64 ((rd_T37 l0 x14_1).f4)) ∧ w'.cell? ⟨gb197, 7, none⟩ = some (.int .i64 ((rd_T37 l0 x14_1).f5)) ∧ w'.cell? ⟨gb195, 0, none⟩ = some (.int .i64 a1_0) ∧ w'.cell? ⟨gb195, 1, none⟩ = some (.int .i64 a1_1) ∧ w'.cell? ⟨gb195, 2, none⟩ = some (.int .i64 a1_2) ∧ w'.cell? ⟨gb195, 3, none⟩ = some (.int .i64 a1_3) ∧ w'.cell? ⟨gb195, 4, none⟩ = some (.int .i64 a1_4) ∧ w'.cell? ⟨gb195, 5, none⟩ = some (.int .i64 a1_5)) (ds := []) #[false, false, false, false, false, false, false, false, false, false, false, false, false, false, false, false, false, false, false, false, false, false, false, false, false, false] (by kernel_rfl) rfl rfl ⟨(blk_cell BK197.out 0).trans rfl, (blk_cell BK197.out 1).trans rfl, (blk_cell BK197.out 2).trans rfl, (blk_cell BK197.out 3).trans rfl, (blk_cell BK197.out 4).trans rfl, (blk_cell BK197.out 5).trans rfl, (blk_cell BK197.out 6).trans rfl, (blk_cell BK197.out 7).trans rfl, (blk_cell BK195.out 0).trans rfl, (blk_cell BK195.out 1).trans rfl, (blk_cell BK195.out 2).trans rfl, (blk_cell BK195.out 3).trans rfl, (blk_cell BK195.out 4).trans rfl, (blk_cell BK195.out 5).trans rfl⟩ (fun hHeld => ?_); refine with_tabW saw_choose.tab5 saw_choose.bits5 (fun HT_ HW_ => ?_)
       generalize w48.drew = w49 at BK195 BK197 HB hHeld ⊢
       refine pure_ (i := 2) (N := some 21) (v := ?_) (a' := ?_) #[false, false, true, false, false, false, false, false, false, false, false, false, false, false, false, false, false, false, false, false, false, false, false, false, false, false] rfl rfl (any_of HT_.out (by kernel_rfl)) (fun _ _ _ h => h) (Or.inl ⟨by rfl, ?_⟩) ?_ ?_
       rotate_left
       ·intro w'
        go_simp
        with_reducible rfl
       rotate_left
       ·simp only [Act.put, List.setIfInBounds_toArray, List.set_cons_zero, List.set_cons_succ, i64_w, i32_w]
        rfl
       refine pure_ (i := 3) (N := some 22) (v := ?_) (a' := ?_) #[false, false, true, true, false, false, false, false, false, false, false, false, false, false, false, false, false, false, false, false, false, false, false, false, false, false] rfl rfl (any_of HT_.out (by kernel_rfl)) (fun _ _ _ h => h) (Or.inl ⟨by rfl, ?_⟩) ?_ ?_
       rotate_left
       ·intro w'
        go_simp
        with_reducible rfl
       rotate_left
       ·simp only [Act.put, List.setIfInBounds_toArray, List.set_cons_zero, List.set_cons_succ, i64_w, i32_w]
        rfl
       refine take_ (i := 0) (N := some 19) (v := ?_) (a' := ?_) #[true, false, true, true, false, false, false, false, false, false, false, false, false, false, false, false, false, false, false, false, false, false, false, false, false, false] rfl rfl (take_ofW HT_.out HW_.out (by kernel_rfl)) (fun _ _ _ h => h) (Or.inl ⟨by rfl, ?_⟩) hHeld ?_ ?_
       rotate_left
       ·rintro w' ⟨s0, s1, s2, s3, s4, s5, s6, s7, s8, s9, s10, s11, s12, s13⟩
        go_simp
        with_reducible rfl
       rotate_left
       ·simp only [Act.put, List.setIfInBounds_toArray, List.set_cons_zero, List.set_cons_succ, i64_w, i32_w]
        rfl
       refine take_ (i := 1) (N := some 20) (v := ?_) (a' := ?_) #[true, true, true, true, false, false, false, false, false, false, false, false, false, false, false, false, false, false, false, false, false, false, false, false, false, false] rfl rfl (take_ofW HT_.out HW_.out (by kernel_rfl)) (fun _ _ _ h => h) (Or.inl ⟨by rfl, ?_⟩) hHeld ?_ ?_
       rotate_left
       ·rintro w' ⟨s0, s1, s2, s3, s4, s5, s6, s7, s8, s9, s10, s11, s12, s13⟩
        go_simp
        with_reducible rfl
       rotate_left
       ·simp only [Act.put, List.setIfInBounds_toArray, List.set_cons_zero, List.set_cons_succ, i64_w, i32_w]
        rfl
       refine one_ (i := 4) (N := some 23) #[true, true, true, true, true, false, false, false, false, false, false, false, false, false, false, false, false, false, false, false, false, false, false, false, false, false] rfl rfl (one_of HT_.out (by kernel_rfl)) (by decide) (fun K hK => ?_)
       refine goes_ Try.func36 (by kernel_rfl) rfl #[.agg #[.string ((rd_T37 l0 x14_1).f0), .int .i64 ((rd_T37 l0 x14_1).f1), .int .i64 ((rd_T37 l0 x14_1).f2.f0), .int .i64 ((rd_T37 l0 x14_1).f2.f1), .int .i64 ((rd_T37 l0 x14_1).f2.f2), .int .i64 ((rd_T37 l0 x14_1).f3), .int .i64 ((rd_T37 l0 x14_1).f4), .int .i64 ((rd_T37 l0 x14_1).f5)], .agg #[.int .i64 a1_0, .int .i64 a1_1, .int .i64 a1_2, .int .i64 a1_3, .int .i64 a1_4, .int .i64 a1_5], .int .i64 a2, .int .i64 a3] (by rfl) rfl rfl (by (try simp only [List.map_toArray, List.map_cons, List.map_nil]); first | done | rfl | (simp only [List.length_drop, List.length_take]; rfl)) ?_
       with_reducible refine (saw_can.calls ((rd_T37 l0 x14_1).f0) ((rd_T37 l0 x14_1).f1) ((rd_T37 l0 x14_1).f2.f0) ((rd_T37 l0 x14_1).f2.f1) ((rd_T37 l0 x14_1).f2.f2) ((rd_T37 l0 x14_1).f3) ((rd_T37 l0 x14_1).f4) ((rd_T37 l0 x14_1).f5) a1_0 a1_1 a1_2 a1_3 a1_4 a1_5 a2 a3 t198 _ A9.out).mono ?_
       rintro e w50 ⟨rfl, hb⟩
       refine ⟨_, rfl, ?_⟩
       have n0_ := Aside0.mk (blk_below (g := gb195) (o := .cells #[.int .i64 a1_0, .int .i64 a1_1, .int .i64 a1_2, .int .i64 a1_3, .int .i64 a1_4, .int .i64 a1_5] 30 (0, 0)) (by (with_reducible repeat (first | refine blk_drewN ?_ _ | refine blk_drew ?_ | refine blk_alloc ?_ _)); exact BK195.out) hb)
       have n1_ := Aside0.mk (blk_below (g := gb197) (o := .cells #[.string ((rd_T37 l0 x14_1).f0), .int .i64 ((rd_T37 l0 x14_1).f1), .int .i64 ((rd_T37 l0 x14_1).f2.f0), .int .i64 ((rd_T37 l0 x14_1).f2.f1), .int .i64 ((rd_T37 l0 x14_1).f2.f2), .int .i64 ((rd_T37 l0 x14_1).f3), .int .i64 ((rd_T37 l0 x14_1).f4), .int .i64 ((rd_T37 l0 x14_1).f5)] 37 (0, 0)) (by (with_reducible repeat (first | refine blk_drewN ?_ _ | refine blk_drew ?_ | refine blk_alloc ?_ _)); exact BK197.out) hb)
       have n2_ := Aside0.mk (below_step (by repeat (first | (with_reducible first | exact HB.out | apply below_alloc | apply pw_below_drewN | apply below_drew1 | refine below_set ?_ GE195.out | refine below_set ?_ GE197.out) | exact HB.out)) hb)
       clear BK195
       clear BK197
       clear HB
       have BK195 := n0_
       have BK197 := n1_
       have HB := n2_
       clear n0_ n1_ n2_
       (try clear hb)
       (try clear hb2)
       (try clear hk)
       (try clear hi)
       refine hK.out _ _ ⟨(blk_cell BK197.out 0).trans rfl, (blk_cell BK197.out 1).trans rfl, (blk_cell BK197.out 2).trans rfl, (blk_cell BK197.out 3).trans rfl, (blk_cell BK197.out 4).trans rfl, (blk_cell BK197.out 5).trans rfl, (blk_cell BK197.out 6).trans rfl, (blk_cell BK197.out 7).trans rfl, (blk_cell BK195.out 0).trans rfl, (blk_cell BK195.out 1).trans rfl, (blk_cell BK195.out 2).trans rfl, (blk_cell BK195.out 3).trans rfl, (blk_cell BK195.out 4).trans rfl, (blk_cell BK195.out 5).trans rfl⟩ (fun hHeld => ?_)
       clear hK K
       refine norm_ (a' := ?_) ?_ ?_
       rotate_left
       ·show Act.put _ (some 23) _ = _
        simp only [Act.put, List.setIfInBounds_toArray, List.set_cons_zero, List.set_cons_succ, i64_w, i32_w]
        rfl
       refine pure_ (i := 5) (N := some 24) (v := ?_) (a' := ?_) #[true, true, true, true, true, true, false, false, false, false, false, false, false, false, false, false, false, false, false, false, false, false, false, false, false, false] rfl rfl (any_of HT_.out (by kernel_rfl)) (fun _ _ _ h => h) (Or.inl ⟨by rfl, ?_⟩) ?_ ?_
       rotate_left
       ·intro w'
        go_simp
        with_reducible rfl
       rotate_left
       ·simp only [Act.put, List.setIfInBounds_toArray, List.set_cons_zero, List.set_cons_succ, i64_w, i32_w]
        rfl
       refine pure_ (i := 6) (N := some 25) (v := ?_) (a' := ?_) #[true, true, true, true, true, true, true, false, false, false, false, false, false, false, false, false, false, false, false, false, false, false, false, false, false, false] rfl rfl (any_of HT_.out (by kernel_rfl)) (fun _ _ _ h => h) (Or.inl ⟨by rfl, ?_⟩) ?_ ?_
       rotate_left
       ·intro w'
        go_simp
        with_reducible rfl
       rotate_left
       ·simp only [Act.put, List.setIfInBounds_toArray, List.set_cons_zero, List.set_cons_succ, i64_w, i32_w]
        rfl
       refine pure_ (i := 7) (N := some 26) (v := undef) (a' := ?_) #[true, true, true, true, true, true, true, true, false, false, false, false, false, false, false, false, false, false, false, false, false, false, false, false, false, false] rfl rfl (any_of HT_.out (by kernel_rfl)) (fun _ _ _ h => h) (Or.inr ⟨by rfl, rfl⟩) ?_ ?_
       rotate_left
       ·simp only [Act.put, List.setIfInBounds_toArray, List.set_cons_zero, List.set_cons_succ, i64_w, i32_w]
        rfl
       refine pure_ (i := 8) (N := some 27) (v := undef) (a' := ?_) #[true, true, true, true, true, true, true, true, true, false, false, false, false, false, false, false, false, false, false, false, false, false, false, false, false, false] rfl rfl (any_of HT_.out (by kernel_rfl)) (fun _ _ _ h => h) (Or.inr ⟨by rfl, rfl⟩) ?_ ?_
       rotate_left
       ·simp only [Act.put, List.setIfInBounds_toArray, List.set_cons_zero, List.set_cons_succ, i64_w, i32_w]
        rfl
       refine pure_ (i := 9) (N := some 28) (v := undef) (a' := ?_) #[true, true, true, true, true, true, true, true, true, true, false, false, false, false, false, false, false, false, false, false, false, false, false, false, false, false] rfl rfl (any_of HT_.out (by kernel_rfl)) (fun _ _ _ h => h) (Or.inr ⟨by rfl, rfl⟩) ?_ ?_
       rotate_left
       ·simp only [Act.put, List.setIfInBounds_toArray, List.set_cons_zero, List.set_cons_succ, i64_w, i32_w]
        rfl
       refine pure_ (i := 10) (N := some 29) (v := undef) (a' := ?_) #[true, true, true, true, true, true, true, true, true, true, true, false, false, false, false, false, false, false, false, false, false, false, false, false, false, false] rfl rfl (any_of HT_.out (by kernel_rfl)) (fun _ _ _ h => h) (Or.inr ⟨by rfl, rfl⟩) ?_ ?_
       rotate_left
       ·simp only [Act.put, List.setIfInBounds_toArray, List.set_cons_zero, List.set_cons_succ, i64_w, i32_w]
        rfl
       refine pure_ (i := 11) (N := some 30) (v := undef) (a' := ?_) #[true, true, true, true, true, true, true, true, true, true, true, true, false, false, false, false, false, false, false, false, false, false, false, false, false, false] rfl rfl (any_of HT_.out (by kernel_rfl)) (fun _ _ _ h => h) (Or.inr ⟨by rfl, rfl⟩) ?_ ?_
       rotate_left
       ·simp only [Act.put, List.setIfInBounds_toArray, List.set_cons_zero, List.set_cons_succ, i64_w, i32_w]
        rfl
       refine pure_ (i := 12) (N := some 31) (v := undef) (a' := ?_) #[true, true, true, true, true, true, true, true, true, true, true, true, true, false, false, false, false, false, false, false, false, false, false, false, false, false] rfl rfl (any_of HT_.out (by kernel_rfl)) (fun _ _ _ h => h) (Or.inr ⟨by rfl, rfl⟩) ?_ ?_
       rotate_left
       ·simp only [Act.put, List.setIfInBounds_toArray, List.set_cons_zero, List.set_cons_succ, i64_w, i32_w]
        rfl
       refine pure_ (i := 13) (N := some 32) (v := undef) (a' := ?_) #[true, true, true, true, true, true, true, true, true, true, true, true, true, true, false, false, false, false, false, false, false, false, false, false, false, false] rfl rfl (any_of HT_.out (by kernel_rfl)) (fun _ _ _ h => h) (Or.inr ⟨by rfl, rfl⟩) ?_ ?_
       rotate_left
       ·simp only [Act.put, List.setIfInBounds_toArray, List.set_cons_zero, List.set_cons_succ, i64_w, i32_w]
        rfl
       refine pure_ (i := 14) (N := some 33) (v := undef) (a' := ?_) #[true, true, true, true, true, true, true, true, true, true, true, true, true, true, true, false, false, false, false, false, false, false, false, false, false, false] rfl rfl (any_of HT_.out (by kernel_rfl)) (fun _ _ _ h => h) (Or.inr ⟨by rfl, rfl⟩) ?_ ?_
       rotate_left
       ·simp only [Act.put, List.setIfInBounds_toArray, List.set_cons_zero, List.set_cons_succ, i64_w, i32_w]
        rfl
       refine pure_ (i := 15) (N := some 34) (v := undef) (a' := ?_) #[true, true, true, true, true, true, true, true, true, true, true, true, true, true, true, true, false, false, false, false, false, false, false, false, false, false] rfl rfl (any_of HT_.out (by kernel_rfl)) (fun _ _ _ h => h) (Or.inr ⟨by rfl, rfl⟩) ?_ ?_
       rotate_left
       ·simp only [Act.put, List.setIfInBounds_toArray, List.set_cons_zero, List.set_cons_succ, i64_w, i32_w]
        rfl
       refine pure_ (i := 16) (N := some 35) (v := undef) (a' := ?_) #[true, true, true, true, true, true, true, true, true, true, true, true, true, true, true, true, true, false, false, false, false, false, false, false, false, false] rfl rfl (any_of HT_.out (by kernel_rfl)) (fun _ _ _ h => h) (Or.inr ⟨by rfl, rfl⟩) ?_ ?_
       rotate_left
       ·simp only [Act.put, List.setIfInBounds_toArray, List.set_cons_zero, List.set_cons_succ, i64_w, i32_w]
        rfl
       refine pure_ (i := 17) (N := some 36) (v := undef) (a' := ?_) #[true, true, true, true, true, true, true, true, true, true, true, true, true, true, true, true, true, true, false, false, false, false, false, false, false, false] rfl rfl (any_of HT_.out (by kernel_rfl)) (fun _ _ _ h => h) (Or.inr ⟨by rfl, rfl⟩) ?_ ?_
       rotate_left
       ·simp only [Act.put, List.setIfInBounds_toArray, List.set_cons_zero, List.set_cons_succ, i64_w, i32_w]
        rfl
       refine pure_ (i := 18) (N := some 37) (v := undef) (a' := ?_) #[true, true, true, true, true, true, true, true, true, true, true, true, true, true, true, true, true, true, true, false, false, false, false, false, false, false] rfl rfl (any_of HT_.out (by kernel_rfl)) (fun _ _ _ h => h) (Or.inr ⟨by rfl, rfl⟩) ?_ ?_
       rotate_left
       ·simp only [Act.put, List.setIfInBounds_toArray, List.set_cons_zero, List.set_cons_succ, i64_w, i32_w]
        rfl
       refine pure_ (i := 19) (N := some 38) (v := undef) (a' := ?_) #[true, true, true, true, true, true, true, true, true, true, true, true, true, true, true, true, true, true, true, true, false, false, false, false, false, false] rfl rfl (any_of HT_.out (by kernel_rfl)) (fun _ _ _ h => h) (Or.inr ⟨by rfl, rfl⟩) ?_ ?_
       rotate_left
       ·simp only [Act.put, List.setIfInBounds_toArray, List.set_cons_zero, List.set_cons_succ, i64_w, i32_w]
        rfl
       refine pure_ (i := 20) (N := some 39) (v := undef) (a' := ?_) #[true, true, true, true, true, true, true, true, true, true, true, true, true, true, true, true, true, true, true, true, true, false, false, false, false, false] rfl rfl (any_of HT_.out (by kernel_rfl)) (fun _ _ _ h => h) (Or.inr ⟨by rfl, rfl⟩) ?_ ?_
       rotate_left
       ·simp only [Act.put, List.setIfInBounds_toArray, List.set_cons_zero, List.set_cons_succ, i64_w, i32_w]
        rfl
       refine pure_ (i := 21) (N := some 40) (v := undef) (a' := ?_) #[true, true, true, true, true, true, true, true, true, true, true, true, true, true, true, true, true, true, true, true, true, true, false, false, false, false] rfl rfl (any_of HT_.out (by kernel_rfl)) (fun _ _ _ h => h) (Or.inr ⟨by rfl, rfl⟩) ?_ ?_
       rotate_left
       ·simp only [Act.put, List.setIfInBounds_toArray, List.set_cons_zero, List.set_cons_succ, i64_w, i32_w]
        rfl
       refine pure_ (i := 22) (N := some 41) (v := undef) (a' := ?_) #[true, true, true, true, true, true, true, true, true, true, true, true, true, true, true, true, true, true, true, true, true, true, true, false, false, false] rfl rfl (any_of HT_.out (by kernel_rfl)) (fun _ _ _ h => h) (Or.inr ⟨by rfl, rfl⟩) ?_ ?_
       rotate_left
       ·simp only [Act.put, List.setIfInBounds_toArray, List.set_cons_zero, List.set_cons_succ, i64_w, i32_w]
        rfl
       refine pure_ (i := 23) (N := some 42) (v := undef) (a' := ?_) #[true, true, true, true, true, true, true, true, true, true, true, true, true, true, true, true, true, true, true, true, true, true, true, true, false, false] rfl rfl (any_of HT_.out (by kernel_rfl)) (fun _ _ _ h => h) (Or.inr ⟨by rfl, rfl⟩) ?_ ?_
       rotate_left
       ·simp only [Act.put, List.setIfInBounds_toArray, List.set_cons_zero, List.set_cons_succ, i64_w, i32_w]
        rfl
       refine pure_ (i := 24) (N := some 43) (v := undef) (a' := ?_) #[true, true, true, true, true, true, true, true, true, true, true, true, true, true, true, true, true, true, true, true, true, true, true, true, true, false] rfl rfl (any_of HT_.out (by kernel_rfl)) (fun _ _ _ h => h) (Or.inr ⟨by rfl, rfl⟩) ?_ ?_
       rotate_left
       ·simp only [Act.put, List.setIfInBounds_toArray, List.set_cons_zero, List.set_cons_succ, i64_w, i32_w]
        rfl
       refine pure_ (i := 25) (N := some 44) (v := ?_) (a' := ?_) #[true, true, true, true, true, true, true, true, true, true, true, true, true, true, true, true, true, true, true, true, true, true, true, true, true, true] rfl rfl (any_of HT_.out (by kernel_rfl)) (fun _ _ _ h => h) (Or.inl ⟨by rfl, ?_⟩) ?_ ?_
       rotate_left
       ·intro w'
        go_simp
        with_reducible rfl
       rotate_left
       ·simp only [Act.put, List.setIfInBounds_toArray, List.set_cons_zero, List.set_cons_succ, i64_w, i32_w]
        rfl
       refine done_ (done_of HT_.out (by kernel_rfl)) ?_
       try go_wp2
       go_roundg k1
       case measure => have := HK1.out; omega
       case rel => exact ⟨(x9_1), (wrap64 (x14_1 + 1)), (by first | rfl | (simp; done) | (simp [*]; done)), (by first | rfl | (simp; done) | (simp [*]; done)), H', ⟨by have := HK1.out; omega⟩, ⟨by (with_reducible repeat (first | refine blk_drewN ?_ _ | refine blk_drew ?_ | refine blk_alloc ?_ _)); exact BK195.out⟩, ⟨by repeat (first | (with_reducible first | exact HB.out | apply below_alloc | apply pw_below_drewN | apply below_drew1 | refine below_set ?_ GE195.out | refine below_set ?_ GE197.out) | exact HB.out)⟩⟩
     ·rw [if_neg c8] at H
      exact absurd H (by simp)
    ·rw [if_neg c7] at H
     exact absurd H (by simp)
   ·rw [if_neg c6] at H
    have c6b0 : decide (x14_1 < (l0.length : Int)) = false := decide_eq_false c6
    clear c6
    obtain rfl := Option.some.inj H
    simp only [Option.some.injEq, Prod.mk.injEq] at H
    obtain ⟨rfl⟩ := H
    go_wp2
    go_ret
    exact ⟨by first | rfl | (simp [errW_none, errW_some] <;> rfl) | (simp [*, errW_none, errW_some] <;> rfl), by repeat (first | (with_reducible first | exact HB.out | apply below_alloc | apply pw_below_drewN | apply below_drew1 | refine below_set ?_ GE195.out) | exact HB.out)⟩

end Go.Proofs.Ytlbpdhjdlnhciaa.P
