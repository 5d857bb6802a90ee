/- What functions of the program return: each contract says so of one function, for every input at which its pure function yields. -/
import Derived.Test.YtlbpdhjdlnhciaaPx0
import Derived.Test.YtlbpdhjdlnhciaaPx5
import Derived.Test.YtlbpdhjdlnhciaaSym
namespace Go.Proofs.Ytlbpdhjdlnhciaa.P
open Go.RowKit Go.Proofs.YtlbpdhjdlnhciaaW.PrintWords Go.Proofs.YtlbpdhjdlnhciaaW.PrintLast Go.Proofs.YtlbpdhjdlnhciaaW.PrintMore
attribute [local go_sem] max2_int min2_int max_two min_two max_three min_three max_four min_four   -- for this text's walks alone
set_option linter.unusedVariables false
set_option linter.unusedSimpArgs false

open Go.Proofs.Ytlbpdhjdlnhciaa.Sym
def gangsawref29_Choose.l0 : Nat → List (S37) → Int → Int → Int → Int → Int → Int → Int → Int → Int → Int → Option (Int)
 | 0, _, _, _, _, _, _, _, _, _, _, _ => none
 | k + 1, x0, x2, x3, x9, x10, x209000, x209001, x209002, x209003, x209004, x209005 => if x10 < (x0.length : Int) then (if 0 ≤ x10 then ((gangsawref29_able.f ((rd_T37 x0 x10).f0) ((rd_T37 x0 x10).f1) ((rd_T37 x0 x10).f2.f0) ((rd_T37 x0 x10).f2.f1) ((rd_T37 x0 x10).f2.f2) ((rd_T37 x0 x10).f3) ((rd_T37 x0 x10).f4) ((rd_T37 x0 x10).f5) x209000 x209001 x209002 x209003 x209004 x209005 x2 x3).bind fun t210 => (if t210 = 0 then (if x9 < 0 then (gangsawref29_Choose.l0 k x0 x2 x3 x10 (wrap64 (x10 + 1)) x209000 x209001 x209002 x209003 x209004 x209005) else ((gangsawref29_Area.f x209000 x209001 x209002 x209003 x209004 x209005 x2).bind fun t212 => ((gangsawref29_minutes.f ((rd_T37 x0 x10).f0) ((rd_T37 x0 x10).f1) ((rd_T37 x0 x10).f2.f0) ((rd_T37 x0 x10).f2.f1) ((rd_T37 x0 x10).f2.f2) ((rd_T37 x0 x10).f3) ((rd_T37 x0 x10).f4) ((rd_T37 x0 x10).f5) t212).bind fun t213 => (if 0 ≤ x9 then (if x9 < (x0.length : Int) then ((gangsawref29_Area.f x209000 x209001 x209002 x209003 x209004 x209005 x2).bind fun t215 => ((gangsawref29_minutes.f ((rd_T37 x0 x9).f0) ((rd_T37 x0 x9).f1) ((rd_T37 x0 x9).f2.f0) ((rd_T37 x0 x9).f2.f1) ((rd_T37 x0 x9).f2.f2) ((rd_T37 x0 x9).f3) ((rd_T37 x0 x9).f4) ((rd_T37 x0 x9).f5) t215).bind fun t216 => (if t213 < t216 then (gangsawref29_Choose.l0 k x0 x2 x3 x10 (wrap64 (x10 + 1)) x209000 x209001 x209002 x209003 x209004 x209005) else (gangsawref29_Choose.l0 k x0 x2 x3 x9 (wrap64 (x10 + 1)) x209000 x209001 x209002 x209003 x209004 x209005)))) else (none)) else (none))))) else (gangsawref29_Choose.l0 k x0 x2 x3 x9 (wrap64 (x10 + 1)) x209000 x209001 x209002 x209003 x209004 x209005))) else (none)) else (some x9)
def gangsawref29_Choose.f (k : Nat) (l0 : List (S37)) (a1_0 : Int) (a1_1 : Int) (a1_2 : Int) (a1_3 : Int) (a1_4 : Int) (a1_5 : Int) (a2 : Int) (a3 : Int) : Option (Int) := gangsawref29_Choose.l0 k l0 a2 a3 (-1) 0 a1_0 a1_1 a1_2 a1_3 a1_4 a1_5
theorem gangsawref29_Choose.mono_l : ∀ k, (∀ y0 y1 y2 y3 y4 y5 y6 y7 y8 y9 y10, LeO (gangsawref29_Choose.l0 k y0 y1 y2 y3 y4 y5 y6 y7 y8 y9 y10) (gangsawref29_Choose.l0 (k + 1) y0 y1 y2 y3 y4 y5 y6 y7 y8 y9 y10))
 | 0 => fun _ _ _ _ _ _ _ _ _ _ _ r h => by simp [gangsawref29_Choose.l0] at h
 | k + 1 => by
  have ih0 := gangsawref29_Choose.mono_l k
  ·intro y0 y1 y2 y3 y4 y5 y6 y7 y8 y9 y10
   unfold gangsawref29_Choose.l0
   repeat' first
   | (with_reducible exact ih0 _ _ _ _ _ _ _ _ _ _ _)
   | (with_reducible refine contains3.mono2 (fun x_ => ?_))
   | (with_reducible refine contains37.mono2 (fun x_ => ?_))
   | (with_reducible refine index3.mono2 (fun x_ => ?_))
   | (with_reducible refine index37.mono2 (fun x_ => ?_))
   | (with_reducible exact LeO.refl _)
   | (with_reducible exact LeO.none _)
   | (with_reducible refine LeO.ite ?_ ?_)
   | (with_reducible refine LeO.bind ?_ (fun _ => ?_))
   | exact ih0 _ _ _ _ _ _ _ _ _ _ _
   | exact LeO.none _
   | refine LeO.ite ?_ ?_
   | refine LeO.bind ?_ (fun _ => ?_)
theorem gangsawref29_Choose.mono : ∀ a0 a1 a2 a3 a4 a5 a6 a7 a8 k, LeO (gangsawref29_Choose.f k a0 a1 a2 a3 a4 a5 a6 a7 a8) (gangsawref29_Choose.f (k + 1) a0 a1 a2 a3 a4 a5 a6 a7 a8) := by
 intro a0 a1 a2 a3 a4 a5 a6 a7 a8 k
 have ih0 := gangsawref29_Choose.mono_l k
 unfold gangsawref29_Choose.f
 repeat' first
   | (with_reducible exact ih0 _ _ _ _ _ _ _ _ _ _ _)
   | (with_reducible refine contains3.mono2 (fun x_ => ?_))
   | (with_reducible refine contains37.mono2 (fun x_ => ?_))
   | (with_reducible refine index3.mono2 (fun x_ => ?_))
   | (with_reducible refine index37.mono2 (fun x_ => ?_))
   | (with_reducible exact LeO.refl _)
   | (with_reducible exact LeO.none _)
   | (with_reducible refine LeO.ite ?_ ?_)
   | (with_reducible refine LeO.bind ?_ (fun _ => ?_))
   | exact ih0 _ _ _ _ _ _ _ _ _ _ _
   | exact LeO.none _
   | refine LeO.ite ?_ ?_
   | refine LeO.bind ?_ (fun _ => ?_)
def gangsawref29_Choose.T5 : Bool × List (List Nat × List Nat) := (true, [([], []), ([], []), ([0, 1], [0, 1]), ([2], [2]), ([], []), ([], []), ([], []), ([3, 4, 5, 6], [3, 4, 5, 6]), ([7], [7])])
def gangsawref29_Choose.B5 : List Nat := [0, 0, 3, 7, 0, 0, 0, 127, 255]
theorem gangsawref29_Choose.tab5 : rtab .any (opsOf Try.f14 5) = gangsawref29_Choose.T5 := by kernel_rfl
theorem gangsawref29_Choose.bits5 : waitsOk gangsawref29_Choose.T5.2 gangsawref29_Choose.B5 = true := by kernel_rfl
def gangsawref29_Choose.T6 : Bool × List (List Nat × List Nat) := (true, [([], []), ([0], [0]), ([1], [1]), ([2], [2]), ([2], [2]), ([3, 4, 2], [2, 3, 4]), ([5, 2], [2, 5]), ([2], [2]), ([2], [2]), ([7, 8, 2, 2], [2, 7, 8]), ([6, 9, 9, 2], [2, 6, 9]), ([2], [2]), ([2], [2]), ([11, 12, 2], [2, 11, 12]), ([13, 2], [2, 13]), ([2], [2]), ([2], [2]), ([15, 16, 10, 2], [2, 15, 16]), ([14, 17, 17, 2], [2, 14, 17]), ([10, 18, 2], [2, 10, 18]), ([2, 19], [2, 19])])
def gangsawref29_Choose.B6 : List Nat := [0, 1, 3, 7, 7, 31, 63, 7, 7, 391, 1023, 7, 7, 6151, 14343, 7, 7, 100351, 262143, 524287, 1048575]
theorem gangsawref29_Choose.tab6 : rtab .any (opsOf Try.f14 6) = gangsawref29_Choose.T6 := by kernel_rfl
theorem gangsawref29_Choose.bits6 : waitsOk gangsawref29_Choose.T6.2 gangsawref29_Choose.B6 = true := by kernel_rfl
set_option maxHeartbeats 8000000 in
set_option maxRecDepth 100000 in
theorem gangsawref29_Choose.calls (k : Nat) (A0 : Option Addr) (c0 : Nat) (l0 : List (S37)) (a1_0 : Int) (a1_1 : Int) (a1_2 : Int) (a1_3 : Int) (a1_4 : Int) (a1_5 : Int) (a2 : Int) (a3 : Int) (r : Int) (w : World) (hr0 : Kd.C k37 w A0 l0.length l0) (hc0 : l0.length ≤ c0) (h : gangsawref29_Choose.f k l0 a1_0 a1_1 a1_2 a1_3 a1_4 a1_5 a2 a3 = some r) :
  Calls Try.prog 14 #[.slice A0 l0.length c0, .agg #[.int .i64 a1_0, .int .i64 a1_1, .int .i64 a1_2, .int .i64 a1_3, .int .i64 a1_4, .int .i64 a1_5], .int .i64 a2, .int .i64 a3] w fun e w' => e = .returned (.int .i64 r) ∧ Below w.heap.size w w' := by
 have hu30 := Try.underlying30
 have hu37 := Try.underlying37
 have HR0 := Aside0.mk hr0
 have HC0 := Aside0.mk hc0
 clear hr0 hc0
 have HB := Aside0.mk (Below.refl w.heap.size w)
 have H : (gangsawref29_Choose.l0 k l0 a2 a3 (-1) 0 a1_0 a1_1 a1_2 a1_3 a1_4 a1_5) = some r := h
 clear h
 have H' := Aside0.mk H
 clear H
 go_enter Try.func14, Try.ntmps14
 go_wp2_with (first | ((with_reducible refine gate_dst (N := 5) rfl ?_); refine box_event ?hg (N := 5) ?hd (cs := #[.int .i64 a1_0, .int .i64 a1_1, .int .i64 a1_2, .int .i64 a1_3, .int .i64 a1_4, .int .i64 a1_5]) (t := 30) ?hr ?_; (case hd => rfl); (case hg => rfl); (case hr => first | (go_simp; done) | (go_simp; rfl)); intro gb208 hg w5 hbox hb; have n0_ := Aside0.mk (below_step (by repeat (first | (with_reducible first | exact HB.out | apply below_alloc | apply pw_below_drewN | apply below_drew1) | exact HB.out)) hb); have n1_ := Aside0.mk (hbox); have n2_ := Aside0.mk ((by rw [hg]; exact (below_size (by repeat (first | (with_reducible first | exact HB.out | apply below_alloc | apply pw_below_drewN | apply below_drew1) | exact HB.out))) : w.heap.size ≤ gb208)); have n3_ := Aside0.mk ((by rw [hg]; exact (below_size (by repeat (first | (with_reducible first | exact HB.out | apply below_alloc | apply pw_below_drewN | apply below_drew1) | exact HB.out))) : w.heap.size ≤ gb208)); clear HB; have HB := n0_; have BK208 := n1_; have GW208 := n2_; have GE208 := n3_; clear n0_ n1_ n2_ n3_; clear hb hbox hg))
 go_loopg [9, 10] k (fun kq v9 v10 w' => ∃ (x9_1 : Int) (x10_1 : Int), v9 = .int .i64 x9_1 ∧ v10 = .int .i64 x10_1 ∧ Aside0 (gangsawref29_Choose.l0 kq l0 a2 a3 x9_1 x10_1 a1_0 a1_1 a1_2 a1_3 a1_4 a1_5 = some r) ∧ Aside0 (kq ≤ k) ∧ Aside0 (w'.heap[gb208]? = some (.cells #[.int .i64 a1_0, .int .i64 a1_1, .int .i64 a1_2, .int .i64 a1_3, .int .i64 a1_4, .int .i64 a1_5] 30 (0, 0))) ∧ Aside0 (Below w.heap.size w w'))
 case atStart => exact ⟨((-1)), (0), (by first | rfl | (simp; done) | (simp [*]; done)), (by first | rfl | (simp; done) | (simp [*]; done)), H', ⟨Nat.le_refl _⟩, ⟨by (with_reducible repeat (first | refine blk_drewN ?_ _ | refine blk_drew ?_ | refine blk_alloc ?_ _)); exact BK208.out⟩, ⟨by repeat (first | (with_reducible first | exact HB.out | apply below_alloc | apply pw_below_drewN | apply below_drew1 | refine below_set ?_ GE208.out) | exact HB.out)⟩⟩
 case round =>
  clear H'
  try clear c1
  try clear p2
  obtain ⟨x9_1, x10_1, rfl, rfl, HA, HK1, BK208, HB⟩ := hrel
  cases gk with
  | zero => exact absurd HA.out (by simp [gangsawref29_Choose.l0])
  | succ k1 =>
   have H := HA.out
   clear HA
   simp only [gangsawref29_Choose.l0] at H
   by_cases c6 : x10_1 < (l0.length : Int)
   ·rw [if_pos c6] at H
    have c6b0 : decide (x10_1 < (l0.length : Int)) = true := decide_eq_true c6
    clear c6
    by_cases c7 : 0 ≤ x10_1
    ·rw [if_pos c7] at H
     have c7b0 : decide (0 ≤ x10_1) = true := decide_eq_true c7
     clear c7
     replace H := Option.bind_eq_some_iff.mp H
     obtain ⟨t210, A80, H⟩ := H
     replace H : (if t210 = 0 then (if x9_1 < 0 then (gangsawref29_Choose.l0 k1 l0 a2 a3 x10_1 (wrap64 (x10_1 + 1)) a1_0 a1_1 a1_2 a1_3 a1_4 a1_5) else ((gangsawref29_Area.f a1_0 a1_1 a1_2 a1_3 a1_4 a1_5 a2).bind fun t212 => ((gangsawref29_minutes.f ((rd_T37 l0 x10_1).f0) ((rd_T37 l0 x10_1).f1) ((rd_T37 l0 x10_1).f2.f0) ((rd_T37 l0 x10_1).f2.f1) ((rd_T37 l0 x10_1).f2.f2) ((rd_T37 l0 x10_1).f3) ((rd_T37 l0 x10_1).f4) ((rd_T37 l0 x10_1).f5) t212).bind fun t213 => (if 0 ≤ x9_1 then (if x9_1 < (l0.length : Int) then ((gangsawref29_Area.f a1_0 a1_1 a1_2 a1_3 a1_4 a1_5 a2).bind fun t215 => ((gangsawref29_minutes.f ((rd_T37 l0 x9_1).f0) ((rd_T37 l0 x9_1).f1) ((rd_T37 l0 x9_1).f2.f0) ((rd_T37 l0 x9_1).f2.f1) ((rd_T37 l0 x9_1).f2.f2) ((rd_T37 l0 x9_1).f3) ((rd_T37 l0 x9_1).f4) ((rd_T37 l0 x9_1).f5) t215).bind fun t216 => (if t213 < t216 then (gangsawref29_Choose.l0 k1 l0 a2 a3 x10_1 (wrap64 (x10_1 + 1)) a1_0 a1_1 a1_2 a1_3 a1_4 a1_5) else (gangsawref29_Choose.l0 k1 l0 a2 a3 x9_1 (wrap64 (x10_1 + 1)) a1_0 a1_1 a1_2 a1_3 a1_4 a1_5)))) else (none)) else (none))))) else (gangsawref29_Choose.l0 k1 l0 a2 a3 x9_1 (wrap64 (x10_1 + 1)) a1_0 a1_1 a1_2 a1_3 a1_4 a1_5)) = some r := H
     have A8 := Aside0.mk A80
     clear A80
     by_cases c9 : t210 = 0
     ·rw [if_pos c9] at H
      have c9b0 : (t210 == 0) = true := beq_iff_eq.mpr c9
      have c9b1 : (t210 != 0) = false := bne_eq_false_iff_eq.mpr c9
      clear c9
      by_cases c10 : x9_1 < 0
      ·rw [if_pos c10] at H
       have c10b0 : decide (x9_1 < 0) = true := decide_eq_true c10
       clear c10
       have H' := Aside0.mk H
       clear H
       try go_wp2
       have n0_ := Aside0.mk (blk_drew BK208.out)
       have n1_ := Aside0.mk (below_drew1 HB.out)
       clear BK208
       clear HB
       have BK208 := n0_
       have HB := n1_
       clear n0_ n1_
       have p209 : 0 ≤ (x10_1 : Int) := of_decide_eq_true (by first | (with_reducible assumption) | assumption)
       have q209 : x10_1 < (l0.length : Int) := of_decide_eq_true (by first | (with_reducible assumption) | assumption)
       obtain ⟨ad209, e209, hx209_0, hx209_1, hx209_2, hx209_3, hx209_4, hx209_5, hx209_6, hx209_7⟩ := at_T37 HR0.out x10_1 p209 q209
       have hw209_7 := hx209_7
       have hw209_6 := hx209_6
       have hw209_5 := hx209_5
       have hw209_4 := hx209_4
       have hw209_3 := hx209_3
       have hw209_2 := hx209_2
       have hw209_1 := hx209_1
       have hw209_0 := hx209_0
       cases e209
       replace hx209_0 := (HB.out.cell (World.block_lt_of_cell? w _ hx209_0)).trans hx209_0
       replace hx209_1 := (HB.out.cell (World.block_lt_of_cell? w _ hx209_1)).trans hx209_1
       replace hx209_2 := (HB.out.cell (World.block_lt_of_cell? w _ hx209_2)).trans hx209_2
       replace hx209_3 := (HB.out.cell (World.block_lt_of_cell? w _ hx209_3)).trans hx209_3
       replace hx209_4 := (HB.out.cell (World.block_lt_of_cell? w _ hx209_4)).trans hx209_4
       replace hx209_5 := (HB.out.cell (World.block_lt_of_cell? w _ hx209_5)).trans hx209_5
       replace hx209_6 := (HB.out.cell (World.block_lt_of_cell? w _ hx209_6)).trans hx209_6
       replace hx209_7 := (HB.out.cell (World.block_lt_of_cell? w _ hx209_7)).trans hx209_7
       replace p209 := eq_true p209
       replace q209 := eq_true q209
       refine start_ (n := 9) (S := fun w' => w'.cell? ⟨gb208, 0, none⟩ = some (.int .i64 a1_0) ∧ w'.cell? ⟨gb208, 1, none⟩ = some (.int .i64 a1_1) ∧ w'.cell? ⟨gb208, 2, none⟩ = some (.int .i64 a1_2) ∧ w'.cell? ⟨gb208, 3, none⟩ = some (.int .i64 a1_3) ∧ w'.cell? ⟨gb208, 4, none⟩ = some (.int .i64 a1_4) ∧ w'.cell? ⟨gb208, 5, none⟩ = some (.int .i64 a1_5) ∧ w'.cell? (ad209.add ((x10_1).toNat * 8)) = some (.string ((rd_T37 l0 x10_1).f0)) ∧ w'.cell? ⟨(ad209.add ((x10_1).toNat * 8)).block, (ad209.add ((x10_1).toNat * 8)).off + 1, none⟩ = some (.int .i64 ((rd_T37 l0 x10_1).f1)) ∧ w'.cell? ⟨(ad209.add ((x10_1).toNat * 8)).block, (ad209.add ((x10_1).toNat * 8)).off + 2, none⟩ = some (.int .i64 ((rd_T37 l0 x10_1).f2.f0)) ∧ w'.cell? ⟨(ad209.add ((x10_1).toNat * 8)).block, (ad209.add ((x10_1).toNat * 8)).off + 3, none⟩ = some (.int .i64 ((rd_T37 l0 x10_1).f2.f1)) ∧ w'.cell? ⟨(ad209.add ((x10_1).toNat * 8)).block, (ad209.add ((x10_1).toNat * 8)).off + 4, none⟩ = some (.int .i64 ((rd_T37 l0 x10_1).f2.f2)) ∧ w'.cell? ⟨(ad209.add ((x10_1).toNat * 8)).block, (ad209.add ((x10_1).toNat * 8)).off + 5, none⟩ = some (.int .i64 ((rd_T37 l0 x10_1).f3)) ∧ w'.cell? ⟨(ad209.add ((x10_1).toNat * 8)).block, (ad209.add ((x10_1).toNat * 8)).off + 6, none⟩ = some (.int .i64 ((rd_T37 l0 x10_1).f4)) ∧ w'.cell? ⟨(ad209.add ((x10_1).toNat * 8)).block, (ad209.add ((x10_1).toNat * 8)).off + 7, none⟩ = some (.int .i64 ((rd_T37 l0 x10_1).f5))) (ds := []) #[false, false, false, false, false, false, false, false, false] (by kernel_rfl) rfl rfl ⟨(blk_cell BK208.out 0).trans rfl, (blk_cell BK208.out 1).trans rfl, (blk_cell BK208.out 2).trans rfl, (blk_cell BK208.out 3).trans rfl, (blk_cell BK208.out 4).trans rfl, (blk_cell BK208.out 5).trans rfl, ((HB.out.cell (World.block_lt_of_cell? w _ hw209_0)).trans hw209_0), ((HB.out.cell (World.block_lt_of_cell? w _ hw209_1)).trans hw209_1), ((HB.out.cell (World.block_lt_of_cell? w _ hw209_2)).trans hw209_2), ((HB.out.cell (World.block_lt_of_cell? w _ hw209_3)).trans hw209_3), ((HB.out.cell (World.block_lt_of_cell? w _ hw209_4)).trans hw209_4), ((HB.out.cell (World.block_lt_of_cell? w _ hw209_5)).trans hw209_5), ((HB.out.cell (World.block_lt_of_cell? w _ hw209_6)).trans hw209_6), ((HB.out.cell (World.block_lt_of_cell? w _ hw209_7)).trans hw209_7)⟩ (fun hHeld => ?_); refine with_tabW gangsawref29_Choose.tab5 gangsawref29_Choose.bits5 (fun HT_ HW_ => ?_)
       generalize wr.drew = w11 at BK208 HB hx209_0 hx209_1 hx209_2 hx209_3 hx209_4 hx209_5 hx209_6 hx209_7 hHeld ⊢
       refine pure_ (i := 0) (N := some 17) (v := ?_) (a' := ?_) #[true, false, false, false, false, false, false, false, false] rfl rfl (any_of HT_.out (by kernel_rfl)) (fun _ _ _ h => h) (Or.inl ⟨by rfl, ?_⟩) ?_ ?_
       rotate_left
       ·intro w'
        go_simp
        with_reducible rfl
       rotate_left
       ·simp only [Act.put, List.setIfInBounds_toArray, List.set_cons_zero, List.set_cons_succ, i64_w, i32_w]
        rfl
       refine pure_ (i := 1) (N := some 18) (v := ?_) (a' := ?_) #[true, true, false, false, false, false, false, false, false] rfl rfl (any_of HT_.out (by kernel_rfl)) (fun _ _ _ h => h) (Or.inl ⟨by rfl, ?_⟩) ?_ ?_
       rotate_left
       ·intro w'
        go_simp
        with_reducible rfl
       rotate_left
       ·simp only [Act.put, List.setIfInBounds_toArray, List.set_cons_zero, List.set_cons_succ, i64_w, i32_w]
        rfl
       refine pure_ (i := 2) (N := some 19) (v := ?_) (a' := ?_) #[true, true, true, false, false, false, false, false, false] rfl rfl (any_of HT_.out (by kernel_rfl)) (fun _ _ _ h => h) (Or.inl ⟨by rfl, ?_⟩) ?_ ?_
       rotate_left
       ·intro w'
        go_simp
        with_reducible rfl
       rotate_left
       ·simp only [Act.put, List.setIfInBounds_toArray, List.set_cons_zero, List.set_cons_succ, i64_w, i32_w]
        rfl
       refine pure_ (i := 5) (N := some 22) (v := ?_) (a' := ?_) #[true, true, true, false, false, true, false, false, false] rfl rfl (any_of HT_.out (by kernel_rfl)) (fun _ _ _ h => h) (Or.inl ⟨by rfl, ?_⟩) ?_ ?_
       rotate_left
       ·intro w'
        go_simp
        with_reducible rfl
       rotate_left
       ·simp only [Act.put, List.setIfInBounds_toArray, List.set_cons_zero, List.set_cons_succ, i64_w, i32_w]
        rfl
       refine pure_ (i := 6) (N := some 23) (v := ?_) (a' := ?_) #[true, true, true, false, false, true, true, false, false] rfl rfl (any_of HT_.out (by kernel_rfl)) (fun _ _ _ h => h) (Or.inl ⟨by rfl, ?_⟩) ?_ ?_
       rotate_left
       ·intro w'
        go_simp
        with_reducible rfl
       rotate_left
       ·simp only [Act.put, List.setIfInBounds_toArray, List.set_cons_zero, List.set_cons_succ, i64_w, i32_w]
        rfl
       refine take_ (i := 3) (N := some 20) (v := ?_) (a' := ?_) #[true, true, true, true, false, true, true, false, false] rfl rfl (take_ofW HT_.out HW_.out (by kernel_rfl)) (fun _ _ _ h => h) (Or.inl ⟨by rfl, ?_⟩) hHeld ?_ ?_
       rotate_left
       ·rintro w' ⟨s0, s1, s2, s3, s4, s5, s6, s7, s8, s9, s10, s11, s12, s13⟩
        go_simp
        with_reducible rfl
       rotate_left
       ·simp only [Act.put, List.setIfInBounds_toArray, List.set_cons_zero, List.set_cons_succ, i64_w, i32_w]
        rfl
       refine take_ (i := 4) (N := some 21) (v := ?_) (a' := ?_) #[true, true, true, true, true, true, true, false, false] rfl rfl (take_ofW HT_.out HW_.out (by kernel_rfl)) (fun _ _ _ h => h) (Or.inl ⟨by rfl, ?_⟩) hHeld ?_ ?_
       rotate_left
       ·rintro w' ⟨s0, s1, s2, s3, s4, s5, s6, s7, s8, s9, s10, s11, s12, s13⟩
        go_simp
        with_reducible rfl
       rotate_left
       ·simp only [Act.put, List.setIfInBounds_toArray, List.set_cons_zero, List.set_cons_succ, i64_w, i32_w]
        rfl
       refine one_ (i := 7) (N := some 24) #[true, true, true, true, true, true, true, true, false] rfl rfl (one_of HT_.out (by kernel_rfl)) (by decide) (fun K hK => ?_)
       refine goes_ Try.func33 (by kernel_rfl) rfl #[.agg #[.string ((rd_T37 l0 x10_1).f0), .int .i64 ((rd_T37 l0 x10_1).f1), .int .i64 ((rd_T37 l0 x10_1).f2.f0), .int .i64 ((rd_T37 l0 x10_1).f2.f1), .int .i64 ((rd_T37 l0 x10_1).f2.f2), .int .i64 ((rd_T37 l0 x10_1).f3), .int .i64 ((rd_T37 l0 x10_1).f4), .int .i64 ((rd_T37 l0 x10_1).f5)], .agg #[.int .i64 a1_0, .int .i64 a1_1, .int .i64 a1_2, .int .i64 a1_3, .int .i64 a1_4, .int .i64 a1_5], .int .i64 a2, .int .i64 a3] (by rfl) rfl rfl (by (try simp only [List.map_toArray, List.map_cons, List.map_nil]); first | done | rfl | (simp only [List.length_drop, List.length_take]; rfl)) ?_
       with_reducible refine (gangsawref29_able.calls ((rd_T37 l0 x10_1).f0) ((rd_T37 l0 x10_1).f1) ((rd_T37 l0 x10_1).f2.f0) ((rd_T37 l0 x10_1).f2.f1) ((rd_T37 l0 x10_1).f2.f2) ((rd_T37 l0 x10_1).f3) ((rd_T37 l0 x10_1).f4) ((rd_T37 l0 x10_1).f5) a1_0 a1_1 a1_2 a1_3 a1_4 a1_5 a2 a3 t210 _ A8.out).mono ?_
       rintro e w12 ⟨rfl, hb⟩
       refine ⟨_, rfl, ?_⟩
       have n0_ := Aside0.mk (blk_below (g := gb208) (o := .cells #[.int .i64 a1_0, .int .i64 a1_1, .int .i64 a1_2, .int .i64 a1_3, .int .i64 a1_4, .int .i64 a1_5] 30 (0, 0)) (by (with_reducible repeat (first | refine blk_drewN ?_ _ | refine blk_drew ?_ | refine blk_alloc ?_ _)); exact BK208.out) hb)
       have n1_ := Aside0.mk (below_step (by repeat (first | (with_reducible first | exact HB.out | apply below_alloc | apply pw_below_drewN | apply below_drew1 | refine below_set ?_ GE208.out) | exact HB.out)) hb)
       clear BK208
       clear HB
       have BK208 := n0_
       have HB := n1_
       clear n0_ n1_
       (try clear hb)
       (try clear hb2)
       (try clear hk)
       (try clear hi)
       refine hK.out _ _ ⟨(blk_cell BK208.out 0).trans rfl, (blk_cell BK208.out 1).trans rfl, (blk_cell BK208.out 2).trans rfl, (blk_cell BK208.out 3).trans rfl, (blk_cell BK208.out 4).trans rfl, (blk_cell BK208.out 5).trans rfl, ((HB.out.cell (World.block_lt_of_cell? w _ hw209_0)).trans hw209_0), ((HB.out.cell (World.block_lt_of_cell? w _ hw209_1)).trans hw209_1), ((HB.out.cell (World.block_lt_of_cell? w _ hw209_2)).trans hw209_2), ((HB.out.cell (World.block_lt_of_cell? w _ hw209_3)).trans hw209_3), ((HB.out.cell (World.block_lt_of_cell? w _ hw209_4)).trans hw209_4), ((HB.out.cell (World.block_lt_of_cell? w _ hw209_5)).trans hw209_5), ((HB.out.cell (World.block_lt_of_cell? w _ hw209_6)).trans hw209_6), ((HB.out.cell (World.block_lt_of_cell? w _ hw209_7)).trans hw209_7)⟩ (fun hHeld => ?_)
       clear hK K
       refine norm_ (a' := ?_) ?_ ?_
       rotate_left
       ·show Act.put _ (some 24) _ = _
        simp only [Act.put, List.setIfInBounds_toArray, List.set_cons_zero, List.set_cons_succ, i64_w, i32_w]
        rfl
       refine pure_ (i := 8) (N := some 25) (v := ?_) (a' := ?_) #[true, true, true, true, true, true, true, true, true] rfl rfl (any_of HT_.out (by kernel_rfl)) (fun _ _ _ h => h) (Or.inl ⟨by rfl, ?_⟩) ?_ ?_
       rotate_left
       ·intro w'
        go_simp
        with_reducible rfl
       rotate_left
       ·simp only [Act.put, List.setIfInBounds_toArray, List.set_cons_zero, List.set_cons_succ, i64_w, i32_w]
        rfl
       refine done_ (done_of HT_.out (by kernel_rfl)) ?_
       try go_wp2
       have n0_ := Aside0.mk (blk_drew BK208.out)
       have n1_ := Aside0.mk (below_drew1 HB.out)
       clear BK208
       clear HB
       have BK208 := n0_
       have HB := n1_
       clear n0_ n1_
       refine start_ (n := 21) (S := fun w' => True) (ds := []) #[false, false, false, false, false, false, false, false, false, false, false, false, false, false, false, false, false, false, false, false, false] (by kernel_rfl) rfl rfl trivial (fun hHeld => ?_); refine with_tabW gangsawref29_Choose.tab6 gangsawref29_Choose.bits6 (fun HT_ HW_ => ?_)
       generalize w12.drew = w13 at BK208 HB hHeld ⊢
       refine pure_ (i := 0) (N := some 26) (v := ?_) (a' := ?_) #[true, false, false, false, false, false, false, false, false, false, false, false, false, false, false, false, false, false, false, false, false] rfl rfl (any_of HT_.out (by kernel_rfl)) (fun _ _ _ h => h) (Or.inl ⟨by rfl, ?_⟩) ?_ ?_
       rotate_left
       ·intro w'
        go_simp
        with_reducible rfl
       rotate_left
       ·simp only [Act.put, List.setIfInBounds_toArray, List.set_cons_zero, List.set_cons_succ, i64_w, i32_w]
        rfl
       refine pure_ (i := 1) (N := some 27) (v := ?_) (a' := ?_) #[true, true, false, false, false, false, false, false, false, false, false, false, false, false, false, false, false, false, false, false, false] rfl rfl (any_of HT_.out (by kernel_rfl)) (fun _ _ _ h => h) (Or.inl ⟨by rfl, ?_⟩) ?_ ?_
       rotate_left
       ·intro w'
        go_simp
        with_reducible rfl
       rotate_left
       ·simp only [Act.put, List.setIfInBounds_toArray, List.set_cons_zero, List.set_cons_succ, i64_w, i32_w]
        rfl
       refine pure_ (i := 2) (N := some 28) (v := ?_) (a' := ?_) #[true, true, true, false, false, false, false, false, false, false, false, false, false, false, false, false, false, false, false, false, false] rfl rfl (any_of HT_.out (by kernel_rfl)) (fun _ _ _ h => h) (Or.inl ⟨by rfl, ?_⟩) ?_ ?_
       rotate_left
       ·intro w'
        go_simp
        with_reducible rfl
       rotate_left
       ·simp only [Act.put, List.setIfInBounds_toArray, List.set_cons_zero, List.set_cons_succ, i64_w, i32_w]
        rfl
       refine pure_ (i := 3) (N := some 29) (v := undef) (a' := ?_) #[true, true, true, true, false, false, false, false, false, false, false, false, false, false, false, false, false, false, false, false, false] rfl rfl (any_of HT_.out (by kernel_rfl)) (fun _ _ _ h => h) (Or.inr ⟨by rfl, rfl⟩) ?_ ?_
       rotate_left
       ·simp only [Act.put, List.setIfInBounds_toArray, List.set_cons_zero, List.set_cons_succ, i64_w, i32_w]
        rfl
       refine pure_ (i := 4) (N := some 30) (v := undef) (a' := ?_) #[true, true, true, true, true, false, false, false, false, false, false, false, false, false, false, false, false, false, false, false, false] rfl rfl (any_of HT_.out (by kernel_rfl)) (fun _ _ _ h => h) (Or.inr ⟨by rfl, rfl⟩) ?_ ?_
       rotate_left
       ·simp only [Act.put, List.setIfInBounds_toArray, List.set_cons_zero, List.set_cons_succ, i64_w, i32_w]
        rfl
       refine pure_ (i := 5) (N := some 31) (v := undef) (a' := ?_) #[true, true, true, true, true, true, false, false, false, false, false, false, false, false, false, false, false, false, false, false, false] rfl rfl (any_of HT_.out (by kernel_rfl)) (fun _ _ _ h => h) (Or.inr ⟨by rfl, rfl⟩) ?_ ?_
       rotate_left
       ·simp only [Act.put, List.setIfInBounds_toArray, List.set_cons_zero, List.set_cons_succ, i64_w, i32_w]
        rfl
       refine pure_ (i := 6) (N := some 32) (v := undef) (a' := ?_) #[true, true, true, true, true, true, true, false, false, false, false, false, false, false, false, false, false, false, false, false, false] rfl rfl (any_of HT_.out (by kernel_rfl)) (fun _ _ _ h => h) (Or.inr ⟨by rfl, rfl⟩) ?_ ?_
       rotate_left
       ·simp only [Act.put, List.setIfInBounds_toArray, List.set_cons_zero, List.set_cons_succ, i64_w, i32_w]
        rfl
       refine pure_ (i := 7) (N := some 33) (v := undef) (a' := ?_) #[true, true, true, true, true, true, true, true, false, false, false, false, false, false, false, false, false, false, false, false, false] rfl rfl (any_of HT_.out (by kernel_rfl)) (fun _ _ _ h => h) (Or.inr ⟨by rfl, rfl⟩) ?_ ?_
       rotate_left
       ·simp only [Act.put, List.setIfInBounds_toArray, List.set_cons_zero, List.set_cons_succ, i64_w, i32_w]
        rfl
       refine pure_ (i := 8) (N := some 34) (v := undef) (a' := ?_) #[true, true, true, true, true, true, true, true, true, false, false, false, false, false, false, false, false, false, false, false, false] rfl rfl (any_of HT_.out (by kernel_rfl)) (fun _ _ _ h => h) (Or.inr ⟨by rfl, rfl⟩) ?_ ?_
       rotate_left
       ·simp only [Act.put, List.setIfInBounds_toArray, List.set_cons_zero, List.set_cons_succ, i64_w, i32_w]
        rfl
       refine pure_ (i := 9) (N := some 35) (v := undef) (a' := ?_) #[true, true, true, true, true, true, true, true, true, true, false, false, false, false, false, false, false, false, false, false, false] rfl rfl (any_of HT_.out (by kernel_rfl)) (fun _ _ _ h => h) (Or.inr ⟨by rfl, rfl⟩) ?_ ?_
       rotate_left
       ·simp only [Act.put, List.setIfInBounds_toArray, List.set_cons_zero, List.set_cons_succ, i64_w, i32_w]
        rfl
       refine pure_ (i := 10) (N := some 36) (v := undef) (a' := ?_) #[true, true, true, true, true, true, true, true, true, true, true, false, false, false, false, false, false, false, false, false, false] rfl rfl (any_of HT_.out (by kernel_rfl)) (fun _ _ _ h => h) (Or.inr ⟨by rfl, rfl⟩) ?_ ?_
       rotate_left
       ·simp only [Act.put, List.setIfInBounds_toArray, List.set_cons_zero, List.set_cons_succ, i64_w, i32_w]
        rfl
       refine pure_ (i := 11) (N := some 37) (v := undef) (a' := ?_) #[true, true, true, true, true, true, true, true, true, true, true, true, false, false, false, false, false, false, false, false, false] rfl rfl (any_of HT_.out (by kernel_rfl)) (fun _ _ _ h => h) (Or.inr ⟨by rfl, rfl⟩) ?_ ?_
       rotate_left
       ·simp only [Act.put, List.setIfInBounds_toArray, List.set_cons_zero, List.set_cons_succ, i64_w, i32_w]
        rfl
       refine pure_ (i := 12) (N := some 38) (v := undef) (a' := ?_) #[true, true, true, true, true, true, true, true, true, true, true, true, true, false, false, false, false, false, false, false, false] rfl rfl (any_of HT_.out (by kernel_rfl)) (fun _ _ _ h => h) (Or.inr ⟨by rfl, rfl⟩) ?_ ?_
       rotate_left
       ·simp only [Act.put, List.setIfInBounds_toArray, List.set_cons_zero, List.set_cons_succ, i64_w, i32_w]
        rfl
       refine pure_ (i := 13) (N := some 39) (v := undef) (a' := ?_) #[true, true, true, true, true, true, true, true, true, true, true, true, true, true, false, false, false, false, false, false, false] rfl rfl (any_of HT_.out (by kernel_rfl)) (fun _ _ _ h => h) (Or.inr ⟨by rfl, rfl⟩) ?_ ?_
       rotate_left
       ·simp only [Act.put, List.setIfInBounds_toArray, List.set_cons_zero, List.set_cons_succ, i64_w, i32_w]
        rfl
       refine pure_ (i := 14) (N := some 40) (v := undef) (a' := ?_) #[true, true, true, true, true, true, true, true, true, true, true, true, true, true, true, false, false, false, false, false, false] rfl rfl (any_of HT_.out (by kernel_rfl)) (fun _ _ _ h => h) (Or.inr ⟨by rfl, rfl⟩) ?_ ?_
       rotate_left
       ·simp only [Act.put, List.setIfInBounds_toArray, List.set_cons_zero, List.set_cons_succ, i64_w, i32_w]
        rfl
       refine pure_ (i := 15) (N := some 41) (v := undef) (a' := ?_) #[true, true, true, true, true, true, true, true, true, true, true, true, true, true, true, true, false, false, false, false, false] rfl rfl (any_of HT_.out (by kernel_rfl)) (fun _ _ _ h => h) (Or.inr ⟨by rfl, rfl⟩) ?_ ?_
       rotate_left
       ·simp only [Act.put, List.setIfInBounds_toArray, List.set_cons_zero, List.set_cons_succ, i64_w, i32_w]
        rfl
       refine pure_ (i := 16) (N := some 42) (v := undef) (a' := ?_) #[true, true, true, true, true, true, true, true, true, true, true, true, true, true, true, true, true, false, false, false, false] rfl rfl (any_of HT_.out (by kernel_rfl)) (fun _ _ _ h => h) (Or.inr ⟨by rfl, rfl⟩) ?_ ?_
       rotate_left
       ·simp only [Act.put, List.setIfInBounds_toArray, List.set_cons_zero, List.set_cons_succ, i64_w, i32_w]
        rfl
       refine pure_ (i := 17) (N := some 43) (v := undef) (a' := ?_) #[true, true, true, true, true, true, true, true, true, true, true, true, true, true, true, true, true, true, false, false, false] rfl rfl (any_of HT_.out (by kernel_rfl)) (fun _ _ _ h => h) (Or.inr ⟨by rfl, rfl⟩) ?_ ?_
       rotate_left
       ·simp only [Act.put, List.setIfInBounds_toArray, List.set_cons_zero, List.set_cons_succ, i64_w, i32_w]
        rfl
       refine pure_ (i := 18) (N := some 44) (v := undef) (a' := ?_) #[true, true, true, true, true, true, true, true, true, true, true, true, true, true, true, true, true, true, true, false, false] rfl rfl (any_of HT_.out (by kernel_rfl)) (fun _ _ _ h => h) (Or.inr ⟨by rfl, rfl⟩) ?_ ?_
       rotate_left
       ·simp only [Act.put, List.setIfInBounds_toArray, List.set_cons_zero, List.set_cons_succ, i64_w, i32_w]
        rfl
       refine pure_ (i := 19) (N := some 45) (v := undef) (a' := ?_) #[true, true, true, true, true, true, true, true, true, true, true, true, true, true, true, true, true, true, true, true, false] rfl rfl (any_of HT_.out (by kernel_rfl)) (fun _ _ _ h => h) (Or.inr ⟨by rfl, rfl⟩) ?_ ?_
       rotate_left
       ·simp only [Act.put, List.setIfInBounds_toArray, List.set_cons_zero, List.set_cons_succ, i64_w, i32_w]
        rfl
       refine pure_ (i := 20) (N := some 46) (v := ?_) (a' := ?_) #[true, true, true, true, true, true, true, true, true, true, true, true, true, true, true, true, true, true, true, true, true] rfl rfl (any_of HT_.out (by kernel_rfl)) (fun _ _ _ h => h) (Or.inl ⟨by rfl, ?_⟩) ?_ ?_
       rotate_left
       ·intro w'
        go_simp
        with_reducible rfl
       rotate_left
       ·simp only [Act.put, List.setIfInBounds_toArray, List.set_cons_zero, List.set_cons_succ, i64_w, i32_w]
        rfl
       refine done_ (done_of HT_.out (by kernel_rfl)) ?_
       try go_wp2
       go_roundg k1
       case measure => have := HK1.out; omega
       case rel => exact ⟨(x10_1), (wrap64 (x10_1 + 1)), (by first | rfl | (simp; done) | (simp [*]; done)), (by first | rfl | (simp; done) | (simp [*]; done)), H', ⟨by have := HK1.out; omega⟩, ⟨by (with_reducible repeat (first | refine blk_drewN ?_ _ | refine blk_drew ?_ | refine blk_alloc ?_ _)); exact BK208.out⟩, ⟨by repeat (first | (with_reducible first | exact HB.out | apply below_alloc | apply pw_below_drewN | apply below_drew1 | refine below_set ?_ GE208.out) | exact HB.out)⟩⟩
      ·rw [if_neg c10] at H
       have c10b0 : decide (x9_1 < 0) = false := decide_eq_false c10
       clear c10
       replace H := Option.bind_eq_some_iff.mp H
       obtain ⟨t212, A140, H⟩ := H
       replace H : ((gangsawref29_minutes.f ((rd_T37 l0 x10_1).f0) ((rd_T37 l0 x10_1).f1) ((rd_T37 l0 x10_1).f2.f0) ((rd_T37 l0 x10_1).f2.f1) ((rd_T37 l0 x10_1).f2.f2) ((rd_T37 l0 x10_1).f3) ((rd_T37 l0 x10_1).f4) ((rd_T37 l0 x10_1).f5) t212).bind fun t213 => (if 0 ≤ x9_1 then (if x9_1 < (l0.length : Int) then ((gangsawref29_Area.f a1_0 a1_1 a1_2 a1_3 a1_4 a1_5 a2).bind fun t215 => ((gangsawref29_minutes.f ((rd_T37 l0 x9_1).f0) ((rd_T37 l0 x9_1).f1) ((rd_T37 l0 x9_1).f2.f0) ((rd_T37 l0 x9_1).f2.f1) ((rd_T37 l0 x9_1).f2.f2) ((rd_T37 l0 x9_1).f3) ((rd_T37 l0 x9_1).f4) ((rd_T37 l0 x9_1).f5) t215).bind fun t216 => (if t213 < t216 then (gangsawref29_Choose.l0 k1 l0 a2 a3 x10_1 (wrap64 (x10_1 + 1)) a1_0 a1_1 a1_2 a1_3 a1_4 a1_5) else (gangsawref29_Choose.l0 k1 l0 a2 a3 x9_1 (wrap64 (x10_1 + 1)) a1_0 a1_1 a1_2 a1_3 a1_4 a1_5)))) else (none)) else (none))) = some r := H
       have A14 := Aside0.mk A140
       clear A140
       replace H := Option.bind_eq_some_iff.mp H
       obtain ⟨t213, A150, H⟩ := H
       replace H : (if 0 ≤ x9_1 then (if x9_1 < (l0.length : Int) then ((gangsawref29_Area.f a1_0 a1_1 a1_2 a1_3 a1_4 a1_5 a2).bind fun t215 => ((gangsawref29_minutes.f ((rd_T37 l0 x9_1).f0) ((rd_T37 l0 x9_1).f1) ((rd_T37 l0 x9_1).f2.f0) ((rd_T37 l0 x9_1).f2.f1) ((rd_T37 l0 x9_1).f2.f2) ((rd_T37 l0 x9_1).f3) ((rd_T37 l0 x9_1).f4) ((rd_T37 l0 x9_1).f5) t215).bind fun t216 => (if t213 < t216 then (gangsawref29_Choose.l0 k1 l0 a2 a3 x10_1 (wrap64 (x10_1 + 1)) a1_0 a1_1 a1_2 a1_3 a1_4 a1_5) else (gangsawref29_Choose.l0 k1 l0 a2 a3 x9_1 (wrap64 (x10_1 + 1)) a1_0 a1_1 a1_2 a1_3 a1_4 a1_5)))) else (none)) else (none)) = some r := H
       have A15 := Aside0.mk A150
       clear A150
       by_cases c16 : 0 ≤ x9_1
       ·rw [if_pos c16] at H
        have c16b0 : decide (0 ≤ x9_1) = true := decide_eq_true c16
        clear c16
        by_cases c17 : x9_1 < (l0.length : Int)
        ·rw [if_pos c17] at H
         have c17b0 : decide (x9_1 < (l0.length : Int)) = true := decide_eq_true c17
         clear c17
         replace H := Option.bind_eq_some_iff.mp H
         obtain ⟨t215, A180, H⟩ := H
         replace H : ((gangsawref29_minutes.f ((rd_T37 l0 x9_1).f0) ((rd_T37 l0 x9_1).f1) ((rd_T37 l0 x9_1).f2.f0) ((rd_T37 l0 x9_1).f2.f1) ((rd_T37 l0 x9_1).f2.f2) ((rd_T37 l0 x9_1).f3) ((rd_T37 l0 x9_1).f4) ((rd_T37 l0 x9_1).f5) t215).bind fun t216 => (if t213 < t216 then (gangsawref29_Choose.l0 k1 l0 a2 a3 x10_1 (wrap64 (x10_1 + 1)) a1_0 a1_1 a1_2 a1_3 a1_4 a1_5) else (gangsawref29_Choose.l0 k1 l0 a2 a3 x9_1 (wrap64 (x10_1 + 1)) a1_0 a1_1 a1_2 a1_3 a1_4 a1_5))) = some r := H
         have A18 := Aside0.mk A180
         clear A180
         replace H := Option.bind_eq_some_iff.mp H
         obtain ⟨t216, A190, H⟩ := H
         replace H : (if t213 < t216 then (gangsawref29_Choose.l0 k1 l0 a2 a3 x10_1 (wrap64 (x10_1 + 1)) a1_0 a1_1 a1_2 a1_3 a1_4 a1_5) else (gangsawref29_Choose.l0 k1 l0 a2 a3 x9_1 (wrap64 (x10_1 + 1)) a1_0 a1_1 a1_2 a1_3 a1_4 a1_5)) = some r := H
         have A19 := Aside0.mk A190
         clear A190
         by_cases c20 : t213 < t216
         ·rw [if_pos c20] at H
          have c20b0 : decide (t213 < t216) = true := decide_eq_true c20
          clear c20
          have H' := Aside0.mk H
          clear H
          try go_wp2
          have n0_ := Aside0.mk (blk_drew BK208.out)
          have n1_ := Aside0.mk (below_drew1 HB.out)
          clear BK208
          clear HB
          have BK208 := n0_
          have HB := n1_
          clear n0_ n1_
          have p209 : 0 ≤ (x10_1 : Int) := of_decide_eq_true (by first | (with_reducible assumption) | assumption)
          have q209 : x10_1 < (l0.length : Int) := of_decide_eq_true (by first | (with_reducible assumption) | assumption)
          obtain ⟨ad209, e209, hx209_0, hx209_1, hx209_2, hx209_3, hx209_4, hx209_5, hx209_6, hx209_7⟩ := at_T37 HR0.out x10_1 p209 q209
          have hw209_7 := hx209_7
          have hw209_6 := hx209_6
          have hw209_5 := hx209_5
          have hw209_4 := hx209_4
          have hw209_3 := hx209_3
          have hw209_2 := hx209_2
          have hw209_1 := hx209_1
          have hw209_0 := hx209_0
          cases e209
          replace hx209_0 := (HB.out.cell (World.block_lt_of_cell? w _ hx209_0)).trans hx209_0
          replace hx209_1 := (HB.out.cell (World.block_lt_of_cell? w _ hx209_1)).trans hx209_1
          replace hx209_2 := (HB.out.cell (World.block_lt_of_cell? w _ hx209_2)).trans hx209_2
          replace hx209_3 := (HB.out.cell (World.block_lt_of_cell? w _ hx209_3)).trans hx209_3
          replace hx209_4 := (HB.out.cell (World.block_lt_of_cell? w _ hx209_4)).trans hx209_4
          replace hx209_5 := (HB.out.cell (World.block_lt_of_cell? w _ hx209_5)).trans hx209_5
          replace hx209_6 := (HB.out.cell (World.block_lt_of_cell? w _ hx209_6)).trans hx209_6
          replace hx209_7 := (HB.out.cell (World.block_lt_of_cell? w _ hx209_7)).trans hx209_7
          replace p209 := eq_true p209
          replace q209 := eq_true q209
          refine start_ (n := 9) (S := fun w' => w'.cell? ⟨gb208, 0, none⟩ = some (.int .i64 a1_0) ∧ w'.cell? ⟨gb208, 1, none⟩ = some (.int .i64 a1_1) ∧ w'.cell? ⟨gb208, 2, none⟩ = some (.int .i64 a1_2) ∧ w'.cell? ⟨gb208, 3, none⟩ = some (.int .i64 a1_3) ∧ w'.cell? ⟨gb208, 4, none⟩ = some (.int .i64 a1_4) ∧ w'.cell? ⟨gb208, 5, none⟩ = some (.int .i64 a1_5) ∧ w'.cell? (ad209.add ((x10_1).toNat * 8)) = some (.string ((rd_T37 l0 x10_1).f0)) ∧ w'.cell? ⟨(ad209.add ((x10_1).toNat * 8)).block, (ad209.add ((x10_1).toNat * 8)).off + 1, none⟩ = some (.int .i64 ((rd_T37 l0 x10_1).f1)) ∧ w'.cell? ⟨(ad209.add ((x10_1).toNat * 8)).block, (ad209.add ((x10_1).toNat * 8)).off + 2, none⟩ = some (.int .i64 ((rd_T37 l0 x10_1).f2.f0)) ∧ w'.cell? ⟨(ad209.add ((x10_1).toNat * 8)).block, (ad209.add ((x10_1).toNat * 8)).off + 3, none⟩ = some (.int .i64 ((rd_T37 l0 x10_1).f2.f1)) ∧ w'.cell? ⟨(ad209.add ((x10_1).toNat * 8)).block, (ad209.add ((x10_1).toNat * 8)).off + 4, none⟩ = some (.int .i64 ((rd_T37 l0 x10_1).f2.f2)) ∧ w'.cell? ⟨(ad209.add ((x10_1).toNat * 8)).block, (ad209.add ((x10_1).toNat * 8)).off + 5, none⟩ = some (.int .i64 ((rd_T37 l0 x10_1).f3)) ∧ w'.cell? ⟨(ad209.add ((x10_1).toNat * 8)).block, (ad209.add ((x10_1).toNat * 8)).off + 6, none⟩ = some (.int .i64 ((rd_T37 l0 x10_1).f4)) ∧ w'.cell? ⟨(ad209.add ((x10_1).toNat * 8)).block, (ad209.add ((x10_1).toNat * 8)).off + 7, none⟩ = some (.int .i64 ((rd_T37 l0 x10_1).f5))) (ds := []) #[false, false, false, false, false, false, false, false, false] (by kernel_rfl) rfl rfl ⟨(blk_cell BK208.out 0).trans rfl, (blk_cell BK208.out 1).trans rfl, (blk_cell BK208.out 2).trans rfl, (blk_cell BK208.out 3).trans rfl, (blk_cell BK208.out 4).trans rfl, (blk_cell BK208.out 5).trans rfl, ((HB.out.cell (World.block_lt_of_cell? w _ hw209_0)).trans hw209_0), ((HB.out.cell (World.block_lt_of_cell? w _ hw209_1)).trans hw209_1), ((HB.out.cell (World.block_lt_of_cell? w _ hw209_2)).trans hw209_2), ((HB.out.cell (World.block_lt_of_cell? w _ hw209_3)).trans hw209_3), ((HB.out.cell (World.block_lt_of_cell? w _ hw209_4)).trans hw209_4), ((HB.out.cell (World.block_lt_of_cell? w _ hw209_5)).trans hw209_5), ((HB.out.cell (World.block_lt_of_cell? w _ hw209_6)).trans hw209_6), ((HB.out.cell (World.block_lt_of_cell? w _ hw209_7)).trans hw209_7)⟩ (fun hHeld => ?_); refine with_tabW gangsawref29_Choose.tab5 gangsawref29_Choose.bits5 (fun HT_ HW_ => ?_)
          generalize wr.drew = w21 at BK208 HB hx209_0 hx209_1 hx209_2 hx209_3 hx209_4 hx209_5 hx209_6 hx209_7 hHeld ⊢
          refine pure_ (i := 0) (N := some 17) (v := ?_) (a' := ?_) #[true, false, false, false, false, false, false, false, false] rfl rfl (any_of HT_.out (by kernel_rfl)) (fun _ _ _ h => h) (Or.inl ⟨by rfl, ?_⟩) ?_ ?_
          rotate_left
          ·intro w'
           go_simp
           with_reducible rfl
          rotate_left
          ·simp only [Act.put, List.setIfInBounds_toArray, List.set_cons_zero, List.set_cons_succ, i64_w, i32_w]
           rfl
          refine pure_ (i := 1) (N := some 18) (v := ?_) (a' := ?_) #[true, true, false, false, false, false, false, false, false] rfl rfl (any_of HT_.out (by kernel_rfl)) (fun _ _ _ h => h) (Or.inl ⟨by rfl, ?_⟩) ?_ ?_
          rotate_left
          ·intro w'
           go_simp
           with_reducible rfl
          rotate_left
          ·simp only [Act.put, List.setIfInBounds_toArray, List.set_cons_zero, List.set_cons_succ, i64_w, i32_w]
           rfl
          refine pure_ (i := 2) (N := some 19) (v := ?_) (a' := ?_) #[true, true, true, false, false, false, false, false, false] rfl rfl (any_of HT_.out (by kernel_rfl)) (fun _ _ _ h => h) (Or.inl ⟨by rfl, ?_⟩) ?_ ?_
          rotate_left
          ·intro w'
           go_simp
           with_reducible rfl
          rotate_left
          ·simp only [Act.put, List.setIfInBounds_toArray, List.set_cons_zero, List.set_cons_succ, i64_w, i32_w]
           rfl
          refine pure_ (i := 5) (N := some 22) (v := ?_) (a' := ?_) #[true, true, true, false, false, true, false, false, false] rfl rfl (any_of HT_.out (by kernel_rfl)) (fun _ _ _ h => h) (Or.inl ⟨by rfl, ?_⟩) ?_ ?_
          rotate_left
          ·intro w'
           go_simp
           with_reducible rfl
          rotate_left
          ·simp only [Act.put, List.setIfInBounds_toArray, List.set_cons_zero, List.set_cons_succ, i64_w, i32_w]
           rfl
          refine pure_ (i := 6) (N := some 23) (v := ?_) (a' := ?_) #[true, true, true, false, false, true, true, false, false] rfl rfl (any_of HT_.out (by kernel_rfl)) (fun _ _ _ h => h) (Or.inl ⟨by rfl, ?_⟩) ?_ ?_
          rotate_left
          ·intro w'
           go_simp
           with_reducible rfl
          rotate_left
          ·simp only [Act.put, List.setIfInBounds_toArray, List.set_cons_zero, List.set_cons_succ, i64_w, i32_w]
           rfl
          refine take_ (i := 3) (N := some 20) (v := ?_) (a' := ?_) #[true, true, true, true, false, true, true, false, false] rfl rfl (take_ofW HT_.out HW_.out (by kernel_rfl)) (fun _ _ _ h => h) (Or.inl ⟨by rfl, ?_⟩) hHeld ?_ ?_
          rotate_left
          ·rintro w' ⟨s0, s1, s2, s3, s4, s5, s6, s7, s8, s9, s10, s11, s12, s13⟩
           go_simp
           with_reducible rfl
          rotate_left
          ·simp only [Act.put, List.setIfInBounds_toArray, List.set_cons_zero, List.set_cons_succ, i64_w, i32_w]
           rfl
          refine take_ (i := 4) (N := some 21) (v := ?_) (a' := ?_) #[true, true, true, true, true, true, true, false, false] rfl rfl (take_ofW HT_.out HW_.out (by kernel_rfl)) (fun _ _ _ h => h) (Or.inl ⟨by rfl, ?_⟩) hHeld ?_ ?_
          rotate_left
          ·rintro w' ⟨s0, s1, s2, s3, s4, s5, s6, s7, s8, s9, s10, s11, s12, s13⟩
           go_simp
           with_reducible rfl
          rotate_left
          ·simp only [Act.put, List.setIfInBounds_toArray, List.set_cons_zero, List.set_cons_succ, i64_w, i32_w]
           rfl
          refine one_ (i := 7) (N := some 24) #[true, true, true, true, true, true, true, true, false] rfl rfl (one_of HT_.out (by kernel_rfl)) (by decide) (fun K hK => ?_)
          refine goes_ Try.func33 (by kernel_rfl) rfl #[.agg #[.string ((rd_T37 l0 x10_1).f0), .int .i64 ((rd_T37 l0 x10_1).f1), .int .i64 ((rd_T37 l0 x10_1).f2.f0), .int .i64 ((rd_T37 l0 x10_1).f2.f1), .int .i64 ((rd_T37 l0 x10_1).f2.f2), .int .i64 ((rd_T37 l0 x10_1).f3), .int .i64 ((rd_T37 l0 x10_1).f4), .int .i64 ((rd_T37 l0 x10_1).f5)], .agg #[.int .i64 a1_0, .int .i64 a1_1, .int .i64 a1_2, .int .i64 a1_3, .int .i64 a1_4, .int .i64 a1_5], .int .i64 a2, .int .i64 a3] (by rfl) rfl rfl (by (try simp only [List.map_toArray, List.map_cons, List.map_nil]); first | done | rfl | (simp only [List.length_drop, List.length_take]; rfl)) ?_
          with_reducible refine (gangsawref29_able.calls ((rd_T37 l0 x10_1).f0) ((rd_T37 l0 x10_1).f1) ((rd_T37 l0 x10_1).f2.f0) ((rd_T37 l0 x10_1).f2.f1) ((rd_T37 l0 x10_1).f2.f2) ((rd_T37 l0 x10_1).f3) ((rd_T37 l0 x10_1).f4) ((rd_T37 l0 x10_1).f5) a1_0 a1_1 a1_2 a1_3 a1_4 a1_5 a2 a3 t210 _ A8.out).mono ?_
          rintro e w22 ⟨rfl, hb⟩
          refine ⟨_, rfl, ?_⟩
          have n0_ := Aside0.mk (blk_below (g := gb208) (o := .cells #[.int .i64 a1_0, .int .i64 a1_1, .int .i64 a1_2, .int .i64 a1_3, .int .i64 a1_4, .int .i64 a1_5] 30 (0, 0)) (by (with_reducible repeat (first | refine blk_drewN ?_ _ | refine blk_drew ?_ | refine blk_alloc ?_ _)); exact BK208.out) hb)
          have n1_ := Aside0.mk (below_step (by repeat (first | (with_reducible first | exact HB.out | apply below_alloc | apply pw_below_drewN | apply below_drew1 | refine below_set ?_ GE208.out) | exact HB.out)) hb)
          clear BK208
          clear HB
          have BK208 := n0_
          have HB := n1_
          clear n0_ n1_
          (try clear hb)
          (try clear hb2)
          (try clear hk)
          (try clear hi)
          refine hK.out _ _ ⟨(blk_cell BK208.out 0).trans rfl, (blk_cell BK208.out 1).trans rfl, (blk_cell BK208.out 2).trans rfl, (blk_cell BK208.out 3).trans rfl, (blk_cell BK208.out 4).trans rfl, (blk_cell BK208.out 5).trans rfl, ((HB.out.cell (World.block_lt_of_cell? w _ hw209_0)).trans hw209_0), ((HB.out.cell (World.block_lt_of_cell? w _ hw209_1)).trans hw209_1), ((HB.out.cell (World.block_lt_of_cell? w _ hw209_2)).trans hw209_2), ((HB.out.cell (World.block_lt_of_cell? w _ hw209_3)).trans hw209_3), ((HB.out.cell (World.block_lt_of_cell? w _ hw209_4)).trans hw209_4), ((HB.out.cell (World.block_lt_of_cell? w _ hw209_5)).trans hw209_5), ((HB.out.cell (World.block_lt_of_cell? w _ hw209_6)).trans hw209_6), ((HB.out.cell (World.block_lt_of_cell? w _ hw209_7)).trans hw209_7)⟩ (fun hHeld => ?_)
          clear hK K
          refine norm_ (a' := ?_) ?_ ?_
          rotate_left
          ·show Act.put _ (some 24) _ = _
           simp only [Act.put, List.setIfInBounds_toArray, List.set_cons_zero, List.set_cons_succ, i64_w, i32_w]
           rfl
          refine pure_ (i := 8) (N := some 25) (v := ?_) (a' := ?_) #[true, true, true, true, true, true, true, true, true] rfl rfl (any_of HT_.out (by kernel_rfl)) (fun _ _ _ h => h) (Or.inl ⟨by rfl, ?_⟩) ?_ ?_
          rotate_left
          ·intro w'
           go_simp
           with_reducible rfl
          rotate_left
          ·simp only [Act.put, List.setIfInBounds_toArray, List.set_cons_zero, List.set_cons_succ, i64_w, i32_w]
           rfl
          refine done_ (done_of HT_.out (by kernel_rfl)) ?_
          try go_wp2
          have n0_ := Aside0.mk (blk_drew BK208.out)
          have n1_ := Aside0.mk (below_drew1 HB.out)
          clear BK208
          clear HB
          have BK208 := n0_
          have HB := n1_
          clear n0_ n1_
          have p211 : 0 ≤ (x10_1 : Int) := of_decide_eq_true (by first | (with_reducible assumption) | assumption)
          have q211 : x10_1 < (l0.length : Int) := of_decide_eq_true (by first | (with_reducible assumption) | assumption)
          obtain ⟨ad211, e211, hx211_0, hx211_1, hx211_2, hx211_3, hx211_4, hx211_5, hx211_6, hx211_7⟩ := at_T37 HR0.out x10_1 p211 q211
          have hw211_7 := hx211_7
          have hw211_6 := hx211_6
          have hw211_5 := hx211_5
          have hw211_4 := hx211_4
          have hw211_3 := hx211_3
          have hw211_2 := hx211_2
          have hw211_1 := hx211_1
          have hw211_0 := hx211_0
          obtain rfl : ad209 = ad211 := (by injection e211)
          replace hx211_0 := (HB.out.cell (World.block_lt_of_cell? w _ hx211_0)).trans hx211_0
          replace hx211_1 := (HB.out.cell (World.block_lt_of_cell? w _ hx211_1)).trans hx211_1
          replace hx211_2 := (HB.out.cell (World.block_lt_of_cell? w _ hx211_2)).trans hx211_2
          replace hx211_3 := (HB.out.cell (World.block_lt_of_cell? w _ hx211_3)).trans hx211_3
          replace hx211_4 := (HB.out.cell (World.block_lt_of_cell? w _ hx211_4)).trans hx211_4
          replace hx211_5 := (HB.out.cell (World.block_lt_of_cell? w _ hx211_5)).trans hx211_5
          replace hx211_6 := (HB.out.cell (World.block_lt_of_cell? w _ hx211_6)).trans hx211_6
          replace hx211_7 := (HB.out.cell (World.block_lt_of_cell? w _ hx211_7)).trans hx211_7
          replace p211 := eq_true p211
          replace q211 := eq_true q211
          have p214 : 0 ≤ (x9_1 : Int) := of_decide_eq_true (by first | (with_reducible assumption) | assumption)
          have q214 : x9_1 < (l0.length : Int) := of_decide_eq_true (by first | (with_reducible assumption) | assumption)
          obtain ⟨ad214, e214, hx214_0, hx214_1, hx214_2, hx214_3, hx214_4, hx214_5, hx214_6, hx214_7⟩ := at_T37 HR0.out x9_1 p214 q214
          have hw214_7 := hx214_7
          have hw214_6 := hx214_6
          have hw214_5 := hx214_5
          have hw214_4 := hx214_4
          have hw214_3 := hx214_3
          have hw214_2 := hx214_2
          have hw214_1 := hx214_1
          have hw214_0 := hx214_0
          obtain rfl : ad209 = ad214 := (by injection e214)
          replace hx214_0 := (HB.out.cell (World.block_lt_of_cell? w _ hx214_0)).trans hx214_0
          replace hx214_1 := (HB.out.cell (World.block_lt_of_cell? w _ hx214_1)).trans hx214_1
          replace hx214_2 := (HB.out.cell (World.block_lt_of_cell? w _ hx214_2)).trans hx214_2
          replace hx214_3 := (HB.out.cell (World.block_lt_of_cell? w _ hx214_3)).trans hx214_3
          replace hx214_4 := (HB.out.cell (World.block_lt_of_cell? w _ hx214_4)).trans hx214_4
          replace hx214_5 := (HB.out.cell (World.block_lt_of_cell? w _ hx214_5)).trans hx214_5
          replace hx214_6 := (HB.out.cell (World.block_lt_of_cell? w _ hx214_6)).trans hx214_6
          replace hx214_7 := (HB.out.cell (World.block_lt_of_cell? w _ hx214_7)).trans hx214_7
          replace p214 := eq_true p214
          replace q214 := eq_true q214
          refine start_ (n := 21) (S := fun w' => w'.cell? ⟨gb208, 0, none⟩ = some (.int .i64 a1_0) ∧ w'.cell? ⟨gb208, 1, none⟩ = some (.int .i64 a1_1) ∧ w'.cell? ⟨gb208, 2, none⟩ = some (.int .i64 a1_2) ∧ w'.cell? ⟨gb208, 3, none⟩ = some (.int .i64 a1_3) ∧ w'.cell? ⟨gb208, 4, none⟩ = some (.int .i64 a1_4) ∧ w'.cell? ⟨gb208, 5, none⟩ = some (.int .i64 a1_5) ∧ w'.cell? (ad209.add ((x10_1).toNat * 8)) = some (.string ((rd_T37 l0 x10_1).f0)) ∧ w'.cell? ⟨(ad209.add ((x10_1).toNat * 8)).block, (ad209.add ((x10_1).toNat * 8)).off + 1, none⟩ = some (.int .i64 ((rd_T37 l0 x10_1).f1)) ∧ w'.cell? ⟨(ad209.add ((x10_1).toNat * 8)).block, (ad209.add ((x10_1).toNat * 8)).off + 2, none⟩ = some (.int .i64 ((rd_T37 l0 x10_1).f2.f0)) ∧ w'.cell? ⟨(ad209.add ((x10_1).toNat * 8)).block, (ad209.add ((x10_1).toNat * 8)).off + 3, none⟩ = some (.int .i64 ((rd_T37 l0 x10_1).f2.f1)) ∧ w'.cell? ⟨(ad209.add ((x10_1).toNat * 8)).block, (ad209.add ((x10_1).toNat * 8)).off + 4, none⟩ = some (.int .i64 ((rd_T37 l0 x10_1).f2.f2)) ∧ w'.cell? ⟨(ad209.add ((x10_1).toNat * 8)).block, (ad209.add ((x10_1).toNat * 8)).off + 5, none⟩ = some (.int .i64 ((rd_T37 l0 x10_1).f3)) ∧ w'.cell? ⟨(ad209.add ((x10_1).toNat * 8)).block, (ad209.add ((x10_1).toNat * 8)).off + 6, none⟩ = some (.int .i64 ((rd_T37 l0 x10_1).f4)) ∧ w'.cell? ⟨(ad209.add ((x10_1).toNat * 8)).block, (ad209.add ((x10_1).toNat * 8)).off + 7, none⟩ = some (.int .i64 ((rd_T37 l0 x10_1).f5)) ∧ w'.cell? (ad209.add ((x9_1).toNat * 8)) = some (.string ((rd_T37 l0 x9_1).f0)) ∧ w'.cell? ⟨(ad209.add ((x9_1).toNat * 8)).block, (ad209.add ((x9_1).toNat * 8)).off + 1, none⟩ = some (.int .i64 ((rd_T37 l0 x9_1).f1)) ∧ w'.cell? ⟨(ad209.add ((x9_1).toNat * 8)).block, (ad209.add ((x9_1).toNat * 8)).off + 2, none⟩ = some (.int .i64 ((rd_T37 l0 x9_1).f2.f0)) ∧ w'.cell? ⟨(ad209.add ((x9_1).toNat * 8)).block, (ad209.add ((x9_1).toNat * 8)).off + 3, none⟩ = some (.int .i64 ((rd_T37 l0 x9_1).f2.f1)) ∧ w'.cell? ⟨(ad209.add ((x9_1).toNat * 8)).block, (ad209.add ((x9_1).toNat * 8)).off + 4, none⟩ = some (.int .i64 ((rd_T37 l0 x9_1).f2.f2)) ∧ w'.cell? ⟨(ad209.add ((x9_1).toNat * 8)).block, (ad209.add ((x9_1).toNat * 8)).off + 5, none⟩ = some (.int .i64 ((rd_T37 l0 x9_1).f3)) ∧ w'.cell? ⟨(ad209.add ((x9_1).toNat * 8)).block, (ad209.add ((x9_1).toNat * 8)).off + 6, none⟩ = some (.int .i64 ((rd_T37 l0 x9_1).f4)) ∧ w'.cell? ⟨(ad209.add ((x9_1).toNat * 8)).block, (ad209.add ((x9_1).toNat * 8)).off + 7, none⟩ = some (.int .i64 ((rd_T37 l0 x9_1).f5))) (ds := []) #[false, false, false, false, false, false, false, false, false, false, false, false, false, false, false, false, false, false, false, false, false] (by kernel_rfl) rfl rfl ⟨(blk_cell BK208.out 0).trans rfl, (blk_cell BK208.out 1).trans rfl, (blk_cell BK208.out 2).trans rfl, (blk_cell BK208.out 3).trans rfl, (blk_cell BK208.out 4).trans rfl, (blk_cell BK208.out 5).trans rfl, ((HB.out.cell (World.block_lt_of_cell? w _ hw211_0)).trans hw211_0), ((HB.out.cell (World.block_lt_of_cell? w _ hw211_1)).trans hw211_1), ((HB.out.cell (World.block_lt_of_cell? w _ hw211_2)).trans hw211_2), ((HB.out.cell (World.block_lt_of_cell? w _ hw211_3)).trans hw211_3), ((HB.out.cell (World.block_lt_of_cell? w _ hw211_4)).trans hw211_4), ((HB.out.cell (World.block_lt_of_cell? w _ hw211_5)).trans hw211_5), ((HB.out.cell (World.block_lt_of_cell? w _ hw211_6)).trans hw211_6), ((HB.out.cell (World.block_lt_of_cell? w _ hw211_7)).trans hw211_7), ((HB.out.cell (World.block_lt_of_cell? w _ hw214_0)).trans hw214_0), ((HB.out.cell (World.block_lt_of_cell? w _ hw214_1)).trans hw214_1), ((HB.out.cell (World.block_lt_of_cell? w _ hw214_2)).trans hw214_2), ((HB.out.cell (World.block_lt_of_cell? w _ hw214_3)).trans hw214_3), ((HB.out.cell (World.block_lt_of_cell? w _ hw214_4)).trans hw214_4), ((HB.out.cell (World.block_lt_of_cell? w _ hw214_5)).trans hw214_5), ((HB.out.cell (World.block_lt_of_cell? w _ hw214_6)).trans hw214_6), ((HB.out.cell (World.block_lt_of_cell? w _ hw214_7)).trans hw214_7)⟩ (fun hHeld => ?_); refine with_tabW gangsawref29_Choose.tab6 gangsawref29_Choose.bits6 (fun HT_ HW_ => ?_)
          generalize w22.drew = w23 at BK208 HB hx211_0 hx211_1 hx211_2 hx211_3 hx211_4 hx211_5 hx211_6 hx211_7 hx214_0 hx214_1 hx214_2 hx214_3 hx214_4 hx214_5 hx214_6 hx214_7 hHeld ⊢
          refine pure_ (i := 0) (N := some 26) (v := ?_) (a' := ?_) #[true, false, false, false, false, false, false, false, false, false, false, false, false, false, false, false, false, false, false, false, false] rfl rfl (any_of HT_.out (by kernel_rfl)) (fun _ _ _ h => h) (Or.inl ⟨by rfl, ?_⟩) ?_ ?_
          rotate_left
          ·intro w'
           go_simp
           with_reducible rfl
          rotate_left
          ·simp only [Act.put, List.setIfInBounds_toArray, List.set_cons_zero, List.set_cons_succ, i64_w, i32_w]
           rfl
          refine pure_ (i := 1) (N := some 27) (v := ?_) (a' := ?_) #[true, true, false, false, false, false, false, false, false, false, false, false, false, false, false, false, false, false, false, false, false] rfl rfl (any_of HT_.out (by kernel_rfl)) (fun _ _ _ h => h) (Or.inl ⟨by rfl, ?_⟩) ?_ ?_
          rotate_left
          ·intro w'
           go_simp
           with_reducible rfl
          rotate_left
          ·simp only [Act.put, List.setIfInBounds_toArray, List.set_cons_zero, List.set_cons_succ, i64_w, i32_w]
           rfl
          refine pure_ (i := 2) (N := some 28) (v := ?_) (a' := ?_) #[true, true, true, false, false, false, false, false, false, false, false, false, false, false, false, false, false, false, false, false, false] rfl rfl (any_of HT_.out (by kernel_rfl)) (fun _ _ _ h => h) (Or.inl ⟨by rfl, ?_⟩) ?_ ?_
          rotate_left
          ·intro w'
           go_simp
           with_reducible rfl
          rotate_left
          ·simp only [Act.put, List.setIfInBounds_toArray, List.set_cons_zero, List.set_cons_succ, i64_w, i32_w]
           rfl
          refine pure_ (i := 3) (N := some 29) (v := ?_) (a' := ?_) #[true, true, true, true, false, false, false, false, false, false, false, false, false, false, false, false, false, false, false, false, false] rfl rfl (any_of HT_.out (by kernel_rfl)) (fun _ _ _ h => h) (Or.inl ⟨by rfl, ?_⟩) ?_ ?_
          rotate_left
          ·intro w'
           go_simp
           with_reducible rfl
          rotate_left
          ·simp only [Act.put, List.setIfInBounds_toArray, List.set_cons_zero, List.set_cons_succ, i64_w, i32_w]
           rfl
          refine pure_ (i := 4) (N := some 30) (v := ?_) (a' := ?_) #[true, true, true, true, true, false, false, false, false, false, false, false, false, false, false, false, false, false, false, false, false] rfl rfl (any_of HT_.out (by kernel_rfl)) (fun _ _ _ h => h) (Or.inl ⟨by rfl, ?_⟩) ?_ ?_
          rotate_left
          ·intro w'
           go_simp
           with_reducible rfl
          rotate_left
          ·simp only [Act.put, List.setIfInBounds_toArray, List.set_cons_zero, List.set_cons_succ, i64_w, i32_w]
           rfl
          refine pure_ (i := 5) (N := some 31) (v := ?_) (a' := ?_) #[true, true, true, true, true, true, false, false, false, false, false, false, false, false, false, false, false, false, false, false, false] rfl rfl (any_of HT_.out (by kernel_rfl)) (fun _ _ _ h => h) (Or.inl ⟨by rfl, ?_⟩) ?_ ?_
          rotate_left
          ·intro w'
           go_simp
           with_reducible rfl
          rotate_left
          ·simp only [Act.put, List.setIfInBounds_toArray, List.set_cons_zero, List.set_cons_succ, i64_w, i32_w]
           rfl
          refine pure_ (i := 8) (N := some 34) (v := ?_) (a' := ?_) #[true, true, true, true, true, true, false, false, true, false, false, false, false, false, false, false, false, false, false, false, false] rfl rfl (any_of HT_.out (by kernel_rfl)) (fun _ _ _ h => h) (Or.inl ⟨by rfl, ?_⟩) ?_ ?_
          rotate_left
          ·intro w'
           go_simp
           with_reducible rfl
          rotate_left
          ·simp only [Act.put, List.setIfInBounds_toArray, List.set_cons_zero, List.set_cons_succ, i64_w, i32_w]
           rfl
          refine pure_ (i := 11) (N := some 37) (v := ?_) (a' := ?_) #[true, true, true, true, true, true, false, false, true, false, false, true, false, false, false, false, false, false, false, false, false] rfl rfl (any_of HT_.out (by kernel_rfl)) (fun _ _ _ h => h) (Or.inl ⟨by rfl, ?_⟩) ?_ ?_
          rotate_left
          ·intro w'
           go_simp
           with_reducible rfl
          rotate_left
          ·simp only [Act.put, List.setIfInBounds_toArray, List.set_cons_zero, List.set_cons_succ, i64_w, i32_w]
           rfl
          refine pure_ (i := 12) (N := some 38) (v := ?_) (a' := ?_) #[true, true, true, true, true, true, false, false, true, false, false, true, true, false, false, false, false, false, false, false, false] rfl rfl (any_of HT_.out (by kernel_rfl)) (fun _ _ _ h => h) (Or.inl ⟨by rfl, ?_⟩) ?_ ?_
          rotate_left
          ·intro w'
           go_simp
           with_reducible rfl
          rotate_left
          ·simp only [Act.put, List.setIfInBounds_toArray, List.set_cons_zero, List.set_cons_succ, i64_w, i32_w]
           rfl
          refine pure_ (i := 13) (N := some 39) (v := ?_) (a' := ?_) #[true, true, true, true, true, true, false, false, true, false, false, true, true, true, false, false, false, false, false, false, false] rfl rfl (any_of HT_.out (by kernel_rfl)) (fun _ _ _ h => h) (Or.inl ⟨by rfl, ?_⟩) ?_ ?_
          rotate_left
          ·intro w'
           go_simp
           with_reducible rfl
          rotate_left
          ·simp only [Act.put, List.setIfInBounds_toArray, List.set_cons_zero, List.set_cons_succ, i64_w, i32_w]
           rfl
          refine pure_ (i := 16) (N := some 42) (v := ?_) (a' := ?_) #[true, true, true, true, true, true, false, false, true, false, false, true, true, true, false, false, true, false, false, false, false] rfl rfl (any_of HT_.out (by kernel_rfl)) (fun _ _ _ h => h) (Or.inl ⟨by rfl, ?_⟩) ?_ ?_
          rotate_left
          ·intro w'
           go_simp
           with_reducible rfl
          rotate_left
          ·simp only [Act.put, List.setIfInBounds_toArray, List.set_cons_zero, List.set_cons_succ, i64_w, i32_w]
           rfl
          refine take_ (i := 6) (N := some 32) (v := ?_) (a' := ?_) #[true, true, true, true, true, true, true, false, true, false, false, true, true, true, false, false, true, false, false, false, false] rfl rfl (take_ofW HT_.out HW_.out (by kernel_rfl)) (fun _ _ _ h => h) (Or.inl ⟨by rfl, ?_⟩) hHeld ?_ ?_
          rotate_left
          ·rintro w' ⟨s0, s1, s2, s3, s4, s5, s6, s7, s8, s9, s10, s11, s12, s13, s14, s15, s16, s17, s18, s19, s20, s21⟩
           go_simp
           with_reducible rfl
          rotate_left
          ·simp only [Act.put, List.setIfInBounds_toArray, List.set_cons_zero, List.set_cons_succ, i64_w, i32_w]
           rfl
          refine take_ (i := 7) (N := some 33) (v := ?_) (a' := ?_) #[true, true, true, true, true, true, true, true, true, false, false, true, true, true, false, false, true, false, false, false, false] rfl rfl (take_ofW HT_.out HW_.out (by kernel_rfl)) (fun _ _ _ h => h) (Or.inl ⟨by rfl, ?_⟩) hHeld ?_ ?_
          rotate_left
          ·rintro w' ⟨s0, s1, s2, s3, s4, s5, s6, s7, s8, s9, s10, s11, s12, s13, s14, s15, s16, s17, s18, s19, s20, s21⟩
           go_simp
           with_reducible rfl
          rotate_left
          ·simp only [Act.put, List.setIfInBounds_toArray, List.set_cons_zero, List.set_cons_succ, i64_w, i32_w]
           rfl
          refine take_ (i := 14) (N := some 40) (v := ?_) (a' := ?_) #[true, true, true, true, true, true, true, true, true, false, false, true, true, true, true, false, true, false, false, false, false] rfl rfl (take_ofW HT_.out HW_.out (by kernel_rfl)) (fun _ _ _ h => h) (Or.inl ⟨by rfl, ?_⟩) hHeld ?_ ?_
          rotate_left
          ·rintro w' ⟨s0, s1, s2, s3, s4, s5, s6, s7, s8, s9, s10, s11, s12, s13, s14, s15, s16, s17, s18, s19, s20, s21⟩
           go_simp
           with_reducible rfl
          rotate_left
          ·simp only [Act.put, List.setIfInBounds_toArray, List.set_cons_zero, List.set_cons_succ, i64_w, i32_w]
           rfl
          refine take_ (i := 15) (N := some 41) (v := ?_) (a' := ?_) #[true, true, true, true, true, true, true, true, true, false, false, true, true, true, true, true, true, false, false, false, false] rfl rfl (take_ofW HT_.out HW_.out (by kernel_rfl)) (fun _ _ _ h => h) (Or.inl ⟨by rfl, ?_⟩) hHeld ?_ ?_
          rotate_left
          ·rintro w' ⟨s0, s1, s2, s3, s4, s5, s6, s7, s8, s9, s10, s11, s12, s13, s14, s15, s16, s17, s18, s19, s20, s21⟩
           go_simp
           with_reducible rfl
          rotate_left
          ·simp only [Act.put, List.setIfInBounds_toArray, List.set_cons_zero, List.set_cons_succ, i64_w, i32_w]
           rfl
          refine one_ (i := 9) (N := some 35) #[true, true, true, true, true, true, true, true, true, true, false, true, true, true, true, true, true, false, false, false, false] rfl rfl (one_of HT_.out (by kernel_rfl)) (by decide) (fun K hK => ?_)
          refine goes_ Try.func20 (by kernel_rfl) rfl #[.agg #[.int .i64 a1_0, .int .i64 a1_1, .int .i64 a1_2, .int .i64 a1_3, .int .i64 a1_4, .int .i64 a1_5], .int .i64 a2] (by rfl) rfl rfl (by (try simp only [List.map_toArray, List.map_cons, List.map_nil]); first | done | rfl | (simp only [List.length_drop, List.length_take]; rfl)) ?_
          with_reducible refine (gangsawref29_Area.calls a1_0 a1_1 a1_2 a1_3 a1_4 a1_5 a2 t212 _ A14.out).mono ?_
          rintro e w24 ⟨rfl, hb⟩
          refine ⟨_, rfl, ?_⟩
          have n0_ := Aside0.mk (blk_below (g := gb208) (o := .cells #[.int .i64 a1_0, .int .i64 a1_1, .int .i64 a1_2, .int .i64 a1_3, .int .i64 a1_4, .int .i64 a1_5] 30 (0, 0)) (by (with_reducible repeat (first | refine blk_drewN ?_ _ | refine blk_drew ?_ | refine blk_alloc ?_ _)); exact BK208.out) hb)
          have n1_ := Aside0.mk (below_step (by repeat (first | (with_reducible first | exact HB.out | apply below_alloc | apply pw_below_drewN | apply below_drew1 | refine below_set ?_ GE208.out) | exact HB.out)) hb)
          clear BK208
          clear HB
          have BK208 := n0_
          have HB := n1_
          clear n0_ n1_
          (try clear hb)
          (try clear hb2)
          (try clear hk)
          (try clear hi)
          refine hK.out _ _ ⟨(blk_cell BK208.out 0).trans rfl, (blk_cell BK208.out 1).trans rfl, (blk_cell BK208.out 2).trans rfl, (blk_cell BK208.out 3).trans rfl, (blk_cell BK208.out 4).trans rfl, (blk_cell BK208.out 5).trans rfl, ((HB.out.cell (World.block_lt_of_cell? w _ hw211_0)).trans hw211_0), ((HB.out.cell (World.block_lt_of_cell? w _ hw211_1)).trans hw211_1), ((HB.out.cell (World.block_lt_of_cell? w _ hw211_2)).trans hw211_2), ((HB.out.cell (World.block_lt_of_cell? w _ hw211_3)).trans hw211_3), ((HB.out.cell (World.block_lt_of_cell? w _ hw211_4)).trans hw211_4), ((HB.out.cell (World.block_lt_of_cell? w _ hw211_5)).trans hw211_5), ((HB.out.cell (World.block_lt_of_cell? w _ hw211_6)).trans hw211_6), ((HB.out.cell (World.block_lt_of_cell? w _ hw211_7)).trans hw211_7), ((HB.out.cell (World.block_lt_of_cell? w _ hw214_0)).trans hw214_0), ((HB.out.cell (World.block_lt_of_cell? w _ hw214_1)).trans hw214_1), ((HB.out.cell (World.block_lt_of_cell? w _ hw214_2)).trans hw214_2), ((HB.out.cell (World.block_lt_of_cell? w _ hw214_3)).trans hw214_3), ((HB.out.cell (World.block_lt_of_cell? w _ hw214_4)).trans hw214_4), ((HB.out.cell (World.block_lt_of_cell? w _ hw214_5)).trans hw214_5), ((HB.out.cell (World.block_lt_of_cell? w _ hw214_6)).trans hw214_6), ((HB.out.cell (World.block_lt_of_cell? w _ hw214_7)).trans hw214_7)⟩ (fun hHeld => ?_)
          clear hK K
          refine norm_ (a' := ?_) ?_ ?_
          rotate_left
          ·show Act.put _ (some 35) _ = _
           simp only [Act.put, List.setIfInBounds_toArray, List.set_cons_zero, List.set_cons_succ, i64_w, i32_w]
           rfl
          refine one_ (i := 10) (N := some 36) #[true, true, true, true, true, true, true, true, true, true, true, true, true, true, true, true, true, false, false, false, false] rfl rfl (one_of HT_.out (by kernel_rfl)) (by decide) (fun K hK => ?_)
          refine goes_ Try.func34 (by kernel_rfl) rfl #[.agg #[.string ((rd_T37 l0 x10_1).f0), .int .i64 ((rd_T37 l0 x10_1).f1), .int .i64 ((rd_T37 l0 x10_1).f2.f0), .int .i64 ((rd_T37 l0 x10_1).f2.f1), .int .i64 ((rd_T37 l0 x10_1).f2.f2), .int .i64 ((rd_T37 l0 x10_1).f3), .int .i64 ((rd_T37 l0 x10_1).f4), .int .i64 ((rd_T37 l0 x10_1).f5)], .int .i64 t212] (by rfl) rfl rfl (by (try simp only [List.map_toArray, List.map_cons, List.map_nil]); first | done | rfl | (simp only [List.length_drop, List.length_take]; rfl)) ?_
          with_reducible refine (gangsawref29_minutes.calls ((rd_T37 l0 x10_1).f0) ((rd_T37 l0 x10_1).f1) ((rd_T37 l0 x10_1).f2.f0) ((rd_T37 l0 x10_1).f2.f1) ((rd_T37 l0 x10_1).f2.f2) ((rd_T37 l0 x10_1).f3) ((rd_T37 l0 x10_1).f4) ((rd_T37 l0 x10_1).f5) t212 t213 _ A15.out).mono ?_
          rintro e w25 ⟨rfl, hb⟩
          refine ⟨_, rfl, ?_⟩
          have n0_ := Aside0.mk (blk_below (g := gb208) (o := .cells #[.int .i64 a1_0, .int .i64 a1_1, .int .i64 a1_2, .int .i64 a1_3, .int .i64 a1_4, .int .i64 a1_5] 30 (0, 0)) (by (with_reducible repeat (first | refine blk_drewN ?_ _ | refine blk_drew ?_ | refine blk_alloc ?_ _)); exact BK208.out) hb)
          have n1_ := Aside0.mk (below_step (by repeat (first | (with_reducible first | exact HB.out | apply below_alloc | apply pw_below_drewN | apply below_drew1 | refine below_set ?_ GE208.out) | exact HB.out)) hb)
          clear BK208
          clear HB
          have BK208 := n0_
          have HB := n1_
          clear n0_ n1_
          (try clear hb)
          (try clear hb2)
          (try clear hk)
          (try clear hi)
          refine hK.out _ _ ⟨(blk_cell BK208.out 0).trans rfl, (blk_cell BK208.out 1).trans rfl, (blk_cell BK208.out 2).trans rfl, (blk_cell BK208.out 3).trans rfl, (blk_cell BK208.out 4).trans rfl, (blk_cell BK208.out 5).trans rfl, ((HB.out.cell (World.block_lt_of_cell? w _ hw211_0)).trans hw211_0), ((HB.out.cell (World.block_lt_of_cell? w _ hw211_1)).trans hw211_1), ((HB.out.cell (World.block_lt_of_cell? w _ hw211_2)).trans hw211_2), ((HB.out.cell (World.block_lt_of_cell? w _ hw211_3)).trans hw211_3), ((HB.out.cell (World.block_lt_of_cell? w _ hw211_4)).trans hw211_4), ((HB.out.cell (World.block_lt_of_cell? w _ hw211_5)).trans hw211_5), ((HB.out.cell (World.block_lt_of_cell? w _ hw211_6)).trans hw211_6), ((HB.out.cell (World.block_lt_of_cell? w _ hw211_7)).trans hw211_7), ((HB.out.cell (World.block_lt_of_cell? w _ hw214_0)).trans hw214_0), ((HB.out.cell (World.block_lt_of_cell? w _ hw214_1)).trans hw214_1), ((HB.out.cell (World.block_lt_of_cell? w _ hw214_2)).trans hw214_2), ((HB.out.cell (World.block_lt_of_cell? w _ hw214_3)).trans hw214_3), ((HB.out.cell (World.block_lt_of_cell? w _ hw214_4)).trans hw214_4), ((HB.out.cell (World.block_lt_of_cell? w _ hw214_5)).trans hw214_5), ((HB.out.cell (World.block_lt_of_cell? w _ hw214_6)).trans hw214_6), ((HB.out.cell (World.block_lt_of_cell? w _ hw214_7)).trans hw214_7)⟩ (fun hHeld => ?_)
          clear hK K
          refine norm_ (a' := ?_) ?_ ?_
          rotate_left
          ·show Act.put _ (some 36) _ = _
           simp only [Act.put, List.setIfInBounds_toArray, List.set_cons_zero, List.set_cons_succ, i64_w, i32_w]
           rfl
          refine one_ (i := 17) (N := some 43) #[true, true, true, true, true, true, true, true, true, true, true, true, true, true, true, true, true, true, false, false, false] rfl rfl (one_of HT_.out (by kernel_rfl)) (by decide) (fun K hK => ?_)
          refine goes_ Try.func20 (by kernel_rfl) rfl #[.agg #[.int .i64 a1_0, .int .i64 a1_1, .int .i64 a1_2, .int .i64 a1_3, .int .i64 a1_4, .int .i64 a1_5], .int .i64 a2] (by rfl) rfl rfl (by (try simp only [List.map_toArray, List.map_cons, List.map_nil]); first | done | rfl | (simp only [List.length_drop, List.length_take]; rfl)) ?_
          with_reducible refine (gangsawref29_Area.calls a1_0 a1_1 a1_2 a1_3 a1_4 a1_5 a2 t215 _ A18.out).mono ?_
          rintro e w26 ⟨rfl, hb⟩
          refine ⟨_, rfl, ?_⟩
          have n0_ := Aside0.mk (blk_below (g := gb208) (o := .cells #[.int .i64 a1_0, .int .i64 a1_1, .int .i64 a1_2, .int .i64 a1_3, .int .i64 a1_4, .int .i64 a1_5] 30 (0, 0)) (by (with_reducible repeat (first | refine blk_drewN ?_ _ | refine blk_drew ?_ | refine blk_alloc ?_ _)); exact BK208.out) hb)
          have n1_ := Aside0.mk (below_step (by repeat (first | (with_reducible first | exact HB.out | apply below_alloc | apply pw_below_drewN | apply below_drew1 | refine below_set ?_ GE208.out) | exact HB.out)) hb)
          clear BK208
          clear HB
          have BK208 := n0_
          have HB := n1_
          clear n0_ n1_
          (try clear hb)
          (try clear hb2)
          (try clear hk)
          (try clear hi)
          refine hK.out _ _ ⟨(blk_cell BK208.out 0).trans rfl, (blk_cell BK208.out 1).trans rfl, (blk_cell BK208.out 2).trans rfl, (blk_cell BK208.out 3).trans rfl, (blk_cell BK208.out 4).trans rfl, (blk_cell BK208.out 5).trans rfl, ((HB.out.cell (World.block_lt_of_cell? w _ hw211_0)).trans hw211_0), ((HB.out.cell (World.block_lt_of_cell? w _ hw211_1)).trans hw211_1), ((HB.out.cell (World.block_lt_of_cell? w _ hw211_2)).trans hw211_2), ((HB.out.cell (World.block_lt_of_cell? w _ hw211_3)).trans hw211_3), ((HB.out.cell (World.block_lt_of_cell? w _ hw211_4)).trans hw211_4), ((HB.out.cell (World.block_lt_of_cell? w _ hw211_5)).trans hw211_5), ((HB.out.cell (World.block_lt_of_cell? w _ hw211_6)).trans hw211_6), ((HB.out.cell (World.block_lt_of_cell? w _ hw211_7)).trans hw211_7), ((HB.out.cell (World.block_lt_of_cell? w _ hw214_0)).trans hw214_0), ((HB.out.cell (World.block_lt_of_cell? w _ hw214_1)).trans hw214_1), ((HB.out.cell (World.block_lt_of_cell? w _ hw214_2)).trans hw214_2), ((HB.out.cell (World.block_lt_of_cell? w _ hw214_3)).trans hw214_3), ((HB.out.cell (World.block_lt_of_cell? w _ hw214_4)).trans hw214_4), ((HB.out.cell (World.block_lt_of_cell? w _ hw214_5)).trans hw214_5), ((HB.out.cell (World.block_lt_of_cell? w _ hw214_6)).trans hw214_6), ((HB.out.cell (World.block_lt_of_cell? w _ hw214_7)).trans hw214_7)⟩ (fun hHeld => ?_)
          clear hK K
          refine norm_ (a' := ?_) ?_ ?_
          rotate_left
          ·show Act.put _ (some 43) _ = _
           simp only [Act.put, List.setIfInBounds_toArray, List.set_cons_zero, List.set_cons_succ, i64_w, i32_w]
           rfl
          refine one_ (i := 18) (N := some 44) #[true, true, true, true, true, true, true, true, true, true, true, true, true, true, true, true, true, true, true, false, false] rfl rfl (one_of HT_.out (by kernel_rfl)) (by decide) (fun K hK => ?_)
          refine goes_ Try.func34 (by kernel_rfl) rfl #[.agg #[.string ((rd_T37 l0 x9_1).f0), .int .i64 ((rd_T37 l0 x9_1).f1), .int .i64 ((rd_T37 l0 x9_1).f2.f0), .int .i64 ((rd_T37 l0 x9_1).f2.f1), .int .i64 ((rd_T37 l0 x9_1).f2.f2), .int .i64 ((rd_T37 l0 x9_1).f3), .int .i64 ((rd_T37 l0 x9_1).f4), .int .i64 ((rd_T37 l0 x9_1).f5)], .int .i64 t215] (by rfl) rfl rfl (by (try simp only [List.map_toArray, List.map_cons, List.map_nil]); first | done | rfl | (simp only [List.length_drop, List.length_take]; rfl)) ?_
          with_reducible refine (gangsawref29_minutes.calls ((rd_T37 l0 x9_1).f0) ((rd_T37 l0 x9_1).f1) ((rd_T37 l0 x9_1).f2.f0) ((rd_T37 l0 x9_1).f2.f1) ((rd_T37 l0 x9_1).f2.f2) ((rd_T37 l0 x9_1).f3) ((rd_T37 l0 x9_1).f4) ((rd_T37 l0 x9_1).f5) t215 t216 _ A19.out).mono ?_
          rintro e w27 ⟨rfl, hb⟩
          refine ⟨_, rfl, ?_⟩
          have n0_ := Aside0.mk (blk_below (g := gb208) (o := .cells #[.int .i64 a1_0, .int .i64 a1_1, .int .i64 a1_2, .int .i64 a1_3, .int .i64 a1_4, .int .i64 a1_5] 30 (0, 0)) (by (with_reducible repeat (first | refine blk_drewN ?_ _ | refine blk_drew ?_ | refine blk_alloc ?_ _)); exact BK208.out) hb)
          have n1_ := Aside0.mk (below_step (by repeat (first | (with_reducible first | exact HB.out | apply below_alloc | apply pw_below_drewN | apply below_drew1 | refine below_set ?_ GE208.out) | exact HB.out)) hb)
          clear BK208
          clear HB
          have BK208 := n0_
          have HB := n1_
          clear n0_ n1_
          (try clear hb)
          (try clear hb2)
          (try clear hk)
          (try clear hi)
          refine hK.out _ _ ⟨(blk_cell BK208.out 0).trans rfl, (blk_cell BK208.out 1).trans rfl, (blk_cell BK208.out 2).trans rfl, (blk_cell BK208.out 3).trans rfl, (blk_cell BK208.out 4).trans rfl, (blk_cell BK208.out 5).trans rfl, ((HB.out.cell (World.block_lt_of_cell? w _ hw211_0)).trans hw211_0), ((HB.out.cell (World.block_lt_of_cell? w _ hw211_1)).trans hw211_1), ((HB.out.cell (World.block_lt_of_cell? w _ hw211_2)).trans hw211_2), ((HB.out.cell (World.block_lt_of_cell? w _ hw211_3)).trans hw211_3), ((HB.out.cell (World.block_lt_of_cell? w _ hw211_4)).trans hw211_4), ((HB.out.cell (World.block_lt_of_cell? w _ hw211_5)).trans hw211_5), ((HB.out.cell (World.block_lt_of_cell? w _ hw211_6)).trans hw211_6), ((HB.out.cell (World.block_lt_of_cell? w _ hw211_7)).trans hw211_7), ((HB.out.cell (World.block_lt_of_cell? w _ hw214_0)).trans hw214_0), ((HB.out.cell (World.block_lt_of_cell? w _ hw214_1)).trans hw214_1), ((HB.out.cell (World.block_lt_of_cell? w _ hw214_2)).trans hw214_2), ((HB.out.cell (World.block_lt_of_cell? w _ hw214_3)).trans hw214_3), ((HB.out.cell (World.block_lt_of_cell? w _ hw214_4)).trans hw214_4), ((HB.out.cell (World.block_lt_of_cell? w _ hw214_5)).trans hw214_5), ((HB.out.cell (World.block_lt_of_cell? w _ hw214_6)).trans hw214_6), ((HB.out.cell (World.block_lt_of_cell? w _ hw214_7)).trans hw214_7)⟩ (fun hHeld => ?_)
          clear hK K
          refine norm_ (a' := ?_) ?_ ?_
          rotate_left
          ·show Act.put _ (some 44) _ = _
           simp only [Act.put, List.setIfInBounds_toArray, List.set_cons_zero, List.set_cons_succ, i64_w, i32_w]
           rfl
          refine pure_ (i := 19) (N := some 45) (v := ?_) (a' := ?_) #[true, true, true, true, true, true, true, true, true, true, true, true, true, true, true, true, true, true, true, true, false] rfl rfl (any_of HT_.out (by kernel_rfl)) (fun _ _ _ h => h) (Or.inl ⟨by rfl, ?_⟩) ?_ ?_
          rotate_left
          ·intro w'
           go_simp
           with_reducible rfl
          rotate_left
          ·simp only [Act.put, List.setIfInBounds_toArray, List.set_cons_zero, List.set_cons_succ, i64_w, i32_w]
           rfl
          refine pure_ (i := 20) (N := some 46) (v := ?_) (a' := ?_) #[true, true, true, true, true, true, true, true, true, true, true, true, true, true, true, true, true, true, true, true, true] rfl rfl (any_of HT_.out (by kernel_rfl)) (fun _ _ _ h => h) (Or.inl ⟨by rfl, ?_⟩) ?_ ?_
          rotate_left
          ·intro w'
           go_simp
           with_reducible rfl
          rotate_left
          ·simp only [Act.put, List.setIfInBounds_toArray, List.set_cons_zero, List.set_cons_succ, i64_w, i32_w]
           rfl
          refine done_ (done_of HT_.out (by kernel_rfl)) ?_
          try go_wp2
          go_roundg k1
          case measure => have := HK1.out; omega
          case rel => exact ⟨(x10_1), (wrap64 (x10_1 + 1)), (by first | rfl | (simp; done) | (simp [*]; done)), (by first | rfl | (simp; done) | (simp [*]; done)), H', ⟨by have := HK1.out; omega⟩, ⟨by (with_reducible repeat (first | refine blk_drewN ?_ _ | refine blk_drew ?_ | refine blk_alloc ?_ _)); exact BK208.out⟩, ⟨by repeat (first | (with_reducible first | exact HB.out | apply below_alloc | apply pw_below_drewN | apply below_drew1 | refine below_set ?_ GE208.out) | exact HB.out)⟩⟩
         ·rw [if_neg c20] at H
          have c20b0 : decide (t213 < t216) = false := decide_eq_false c20
          clear c20
          have H' := Aside0.mk H
          clear H
          try go_wp2
          have n0_ := Aside0.mk (blk_drew BK208.out)
          have n1_ := Aside0.mk (below_drew1 HB.out)
          clear BK208
          clear HB
          have BK208 := n0_
          have HB := n1_
          clear n0_ n1_
          have p209 : 0 ≤ (x10_1 : Int) := of_decide_eq_true (by first | (with_reducible assumption) | assumption)
          have q209 : x10_1 < (l0.length : Int) := of_decide_eq_true (by first | (with_reducible assumption) | assumption)
          obtain ⟨ad209, e209, hx209_0, hx209_1, hx209_2, hx209_3, hx209_4, hx209_5, hx209_6, hx209_7⟩ := at_T37 HR0.out x10_1 p209 q209
          have hw209_7 := hx209_7
          have hw209_6 := hx209_6
          have hw209_5 := hx209_5
          have hw209_4 := hx209_4
          have hw209_3 := hx209_3
          have hw209_2 := hx209_2
          have hw209_1 := hx209_1
          have hw209_0 := hx209_0
          cases e209
          replace hx209_0 := (HB.out.cell (World.block_lt_of_cell? w _ hx209_0)).trans hx209_0
          replace hx209_1 := (HB.out.cell (World.block_lt_of_cell? w _ hx209_1)).trans hx209_1
          replace hx209_2 := (HB.out.cell (World.block_lt_of_cell? w _ hx209_2)).trans hx209_2
          replace hx209_3 := (HB.out.cell (World.block_lt_of_cell? w _ hx209_3)).trans hx209_3
          replace hx209_4 := (HB.out.cell (World.block_lt_of_cell? w _ hx209_4)).trans hx209_4
          replace hx209_5 := (HB.out.cell (World.block_lt_of_cell? w _ hx209_5)).trans hx209_5
          replace hx209_6 := (HB.out.cell (World.block_lt_of_cell? w _ hx209_6)).trans hx209_6
          replace hx209_7 := (HB.out.cell (World.block_lt_of_cell? w _ hx209_7)).trans hx209_7
          replace p209 := eq_true p209
          replace q209 := eq_true q209
          refine start_ (n := 9) (S := fun w' => w'.cell? ⟨gb208, 0, none⟩ = some (.int .i64 a1_0) ∧ w'.cell? ⟨gb208, 1, none⟩ = some (.int .i64 a1_1) ∧ w'.cell? ⟨gb208, 2, none⟩ = some (.int .i64 a1_2) ∧ w'.cell? ⟨gb208, 3, none⟩ = some (.int .i64 a1_3) ∧ w'.cell? ⟨gb208, 4, none⟩ = some (.int .i64 a1_4) ∧ w'.cell? ⟨gb208, 5, none⟩ = some (.int .i64 a1_5) ∧ w'.cell? (ad209.add ((x10_1).toNat * 8)) = some (.string ((rd_T37 l0 x10_1).f0)) ∧ w'.cell? ⟨(ad209.add ((x10_1).toNat * 8)).block, (ad209.add ((x10_1).toNat * 8)).off + 1, none⟩ = some (.int .i64 ((rd_T37 l0 x10_1).f1)) ∧ w'.cell? ⟨(ad209.add ((x10_1).toNat * 8)).block, (ad209.add ((x10_1).toNat * 8)).off + 2, none⟩ = some (.int .i64 ((rd_T37 l0 x10_1).f2.f0)) ∧ w'.cell? ⟨(ad209.add ((x10_1).toNat * 8)).block, (ad209.add ((x10_1).toNat * 8)).off + 3, none⟩ = some (.int .i64 ((rd_T37 l0 x10_1).f2.f1)) ∧ w'.cell? ⟨(ad209.add ((x10_1).toNat * 8)).block, (ad209.add ((x10_1).toNat * 8)).off + 4, none⟩ = some (.int .i64 ((rd_T37 l0 x10_1).f2.f2)) ∧ w'.cell? ⟨(ad209.add ((x10_1).toNat * 8)).block, (ad209.add ((x10_1).toNat * 8)).off + 5, none⟩ = some (.int .i64 ((rd_T37 l0 x10_1).f3)) ∧ w'.cell? ⟨(ad209.add ((x10_1).toNat * 8)).block, (ad209.add ((x10_1).toNat * 8)).off + 6, none⟩ = some (.int .i64 ((rd_T37 l0 x10_1).f4)) ∧ w'.cell? ⟨(ad209.add ((x10_1).toNat * 8)).block, (ad209.add ((x10_1).toNat * 8)).off + 7, none⟩ = some (.int .i64 ((rd_T37 l0 x10_1).f5))) (ds := []) #[false, false, false, false, false, false, false, false, false] (by kernel_rfl) rfl rfl ⟨(blk_cell BK208.out 0).trans rfl, (blk_cell BK208.out 1).trans rfl, (blk_cell BK208.out 2).trans rfl, (blk_cell BK208.out 3).trans rfl, (blk_cell BK208.out 4).trans rfl, (blk_cell BK208.out 5).trans rfl, ((HB.out.cell (World.block_lt_of_cell? w _ hw209_0)).trans hw209_0), ((HB.out.cell (World.block_lt_of_cell? w _ hw209_1)).trans hw209_1), ((HB.out.cell (World.block_lt_of_cell? w _ hw209_2)).trans hw209_2), ((HB.out.cell (World.block_lt_of_cell? w _ hw209_3)).trans hw209_3), ((HB.out.cell (World.block_lt_of_cell? w _ hw209_4)).trans hw209_4), ((HB.out.cell (World.block_lt_of_cell? w _ hw209_5)).trans hw209_5), ((HB.out.cell (World.block_lt_of_cell? w _ hw209_6)).trans hw209_6), ((HB.out.cell (World.block_lt_of_cell? w _ hw209_7)).trans hw209_7)⟩ (fun hHeld => ?_); refine with_tabW gangsawref29_Choose.tab5 gangsawref29_Choose.bits5 (fun HT_ HW_ => ?_)
          generalize wr.drew = w28 at BK208 HB hx209_0 hx209_1 hx209_2 hx209_3 hx209_4 hx209_5 hx209_6 hx209_7 hHeld ⊢
          refine pure_ (i := 0) (N := some 17) (v := ?_) (a' := ?_) #[true, false, false, false, false, false, false, false, false] rfl rfl (any_of HT_.out (by kernel_rfl)) (fun _ _ _ h => h) (Or.inl ⟨by rfl, ?_⟩) ?_ ?_
          rotate_left
          ·intro w'
           go_simp
           with_reducible rfl
          rotate_left
          ·simp only [Act.put, List.setIfInBounds_toArray, List.set_cons_zero, List.set_cons_succ, i64_w, i32_w]
           rfl
          refine pure_ (i := 1) (N := some 18) (v := ?_) (a' := ?_) #[true, true, false, false, false, false, false, false, false] rfl rfl (any_of HT_.out (by kernel_rfl)) (fun _ _ _ h => h) (Or.inl ⟨by rfl, ?_⟩) ?_ ?_
          rotate_left
          ·intro w'
           go_simp
           with_reducible rfl
          rotate_left
          ·simp only [Act.put, List.setIfInBounds_toArray, List.set_cons_zero, List.set_cons_succ, i64_w, i32_w]
           rfl
          refine pure_ (i := 2) (N := some 19) (v := ?_) (a' := ?_) #[true, true, true, false, false, false, false, false, false] rfl rfl (any_of HT_.out (by kernel_rfl)) (fun _ _ _ h => h) (Or.inl ⟨by rfl, ?_⟩) ?_ ?_
          rotate_left
          ·intro w'
           go_simp
           with_reducible rfl
          rotate_left
          ·simp only [Act.put, List.setIfInBounds_toArray, List.set_cons_zero, List.set_cons_succ, i64_w, i32_w]
           rfl
          refine pure_ (i := 5) (N := some 22) (v := ?_) (a' := ?_) #[true, true, true, false, false, true, false, false, false] rfl rfl (any_of HT_.out (by kernel_rfl)) (fun _ _ _ h => h) (Or.inl ⟨by rfl, ?_⟩) ?_ ?_
          rotate_left
          ·intro w'
           go_simp
           with_reducible rfl
          rotate_left
          ·simp only [Act.put, List.setIfInBounds_toArray, List.set_cons_zero, List.set_cons_succ, i64_w, i32_w]
           rfl
          refine pure_ (i := 6) (N := some 23) (v := ?_) (a' := ?_) #[true, true, true, false, false, true, true, false, false] rfl rfl (any_of HT_.out (by kernel_rfl)) (fun _ _ _ h => h) (Or.inl ⟨by rfl, ?_⟩) ?_ ?_
          rotate_left
          ·intro w'
           go_simp
           with_reducible rfl
          rotate_left
          ·simp only [Act.put, List.setIfInBounds_toArray, List.set_cons_zero, List.set_cons_succ, i64_w, i32_w]
           rfl
          refine take_ (i := 3) (N := some 20) (v := ?_) (a' := ?_) #[true, true, true, true, false, true, true, false, false] rfl rfl (take_ofW HT_.out HW_.out (by kernel_rfl)) (fun _ _ _ h => h) (Or.inl ⟨by rfl, ?_⟩) hHeld ?_ ?_
          rotate_left
          ·rintro w' ⟨s0, s1, s2, s3, s4, s5, s6, s7, s8, s9, s10, s11, s12, s13⟩
           go_simp
           with_reducible rfl
          rotate_left
          ·simp only [Act.put, List.setIfInBounds_toArray, List.set_cons_zero, List.set_cons_succ, i64_w, i32_w]
           rfl
          refine take_ (i := 4) (N := some 21) (v := ?_) (a' := ?_) #[true, true, true, true, true, true, true, false, false] rfl rfl (take_ofW HT_.out HW_.out (by kernel_rfl)) (fun _ _ _ h => h) (Or.inl ⟨by rfl, ?_⟩) hHeld ?_ ?_
          rotate_left
          ·rintro w' ⟨s0, s1, s2, s3, s4, s5, s6, s7, s8, s9, s10, s11, s12, s13⟩
           go_simp
           with_reducible rfl
          rotate_left
          ·simp only [Act.put, List.setIfInBounds_toArray, List.set_cons_zero, List.set_cons_succ, i64_w, i32_w]
           rfl
          refine one_ (i := 7) (N := some 24) #[true, true, true, true, true, true, true, true, false] rfl rfl (one_of HT_.out (by kernel_rfl)) (by decide) (fun K hK => ?_)
          refine goes_ Try.func33 (by kernel_rfl) rfl #[.agg #[.string ((rd_T37 l0 x10_1).f0), .int .i64 ((rd_T37 l0 x10_1).f1), .int .i64 ((rd_T37 l0 x10_1).f2.f0), .int .i64 ((rd_T37 l0 x10_1).f2.f1), .int .i64 ((rd_T37 l0 x10_1).f2.f2), .int .i64 ((rd_T37 l0 x10_1).f3), .int .i64 ((rd_T37 l0 x10_1).f4), .int .i64 ((rd_T37 l0 x10_1).f5)], .agg #[.int .i64 a1_0, .int .i64 a1_1, .int .i64 a1_2, .int .i64 a1_3, .int .i64 a1_4, .int .i64 a1_5], .int .i64 a2, .int .i64 a3] (by rfl) rfl rfl (by (try simp only [List.map_toArray, List.map_cons, List.map_nil]); first | done | rfl | (simp only [List.length_drop, List.length_take]; rfl)) ?_
          with_reducible refine (gangsawref29_able.calls ((rd_T37 l0 x10_1).f0) ((rd_T37 l0 x10_1).f1) ((rd_T37 l0 x10_1).f2.f0) ((rd_T37 l0 x10_1).f2.f1) ((rd_T37 l0 x10_1).f2.f2) ((rd_T37 l0 x10_1).f3) ((rd_T37 l0 x10_1).f4) ((rd_T37 l0 x10_1).f5) a1_0 a1_1 a1_2 a1_3 a1_4 a1_5 a2 a3 t210 _ A8.out).mono ?_
          rintro e w29 ⟨rfl, hb⟩
          refine ⟨_, rfl, ?_⟩
          have n0_ := Aside0.mk (blk_below (g := gb208) (o := .cells #[.int .i64 a1_0, .int .i64 a1_1, .int .i64 a1_2, .int .i64 a1_3, .int .i64 a1_4, .int .i64 a1_5] 30 (0, 0)) (by (with_reducible repeat (first | refine blk_drewN ?_ _ | refine blk_drew ?_ | refine blk_alloc ?_ _)); exact BK208.out) hb)
          have n1_ := Aside0.mk (below_step (by repeat (first | (with_reducible first | exact HB.out | apply below_alloc | apply pw_below_drewN | apply below_drew1 | refine below_set ?_ GE208.out) | exact HB.out)) hb)
          clear BK208
          clear HB
          have BK208 := n0_
          have HB := n1_
          clear n0_ n1_
          (try clear hb)
          (try clear hb2)
          (try clear hk)
          (try clear hi)
          refine hK.out _ _ ⟨(blk_cell BK208.out 0).trans rfl, (blk_cell BK208.out 1).trans rfl, (blk_cell BK208.out 2).trans rfl, (blk_cell BK208.out 3).trans rfl, (blk_cell BK208.out 4).trans rfl, (blk_cell BK208.out 5).trans rfl, ((HB.out.cell (World.block_lt_of_cell? w _ hw209_0)).trans hw209_0), ((HB.out.cell (World.block_lt_of_cell? w _ hw209_1)).trans hw209_1), ((HB.out.cell (World.block_lt_of_cell? w _ hw209_2)).trans hw209_2), ((HB.out.cell (World.block_lt_of_cell? w _ hw209_3)).trans hw209_3), ((HB.out.cell (World.block_lt_of_cell? w _ hw209_4)).trans hw209_4), ((HB.out.cell (World.block_lt_of_cell? w _ hw209_5)).trans hw209_5), ((HB.out.cell (World.block_lt_of_cell? w _ hw209_6)).trans hw209_6), ((HB.out.cell (World.block_lt_of_cell? w _ hw209_7)).trans hw209_7)⟩ (fun hHeld => ?_)
          clear hK K
          refine norm_ (a' := ?_) ?_ ?_
          rotate_left
          ·show Act.put _ (some 24) _ = _
           simp only [Act.put, List.setIfInBounds_toArray, List.set_cons_zero, List.set_cons_succ, i64_w, i32_w]
           rfl
          refine pure_ (i := 8) (N := some 25) (v := ?_) (a' := ?_) #[true, true, true, true, true, true, true, true, true] rfl rfl (any_of HT_.out (by kernel_rfl)) (fun _ _ _ h => h) (Or.inl ⟨by rfl, ?_⟩) ?_ ?_
          rotate_left
          ·intro w'
           go_simp
           with_reducible rfl
          rotate_left
          ·simp only [Act.put, List.setIfInBounds_toArray, List.set_cons_zero, List.set_cons_succ, i64_w, i32_w]
           rfl
          refine done_ (done_of HT_.out (by kernel_rfl)) ?_
          try go_wp2
          have n0_ := Aside0.mk (blk_drew BK208.out)
          have n1_ := Aside0.mk (below_drew1 HB.out)
          clear BK208
          clear HB
          have BK208 := n0_
          have HB := n1_
          clear n0_ n1_
          have p211 : 0 ≤ (x10_1 : Int) := of_decide_eq_true (by first | (with_reducible assumption) | assumption)
          have q211 : x10_1 < (l0.length : Int) := of_decide_eq_true (by first | (with_reducible assumption) | assumption)
          obtain ⟨ad211, e211, hx211_0, hx211_1, hx211_2, hx211_3, hx211_4, hx211_5, hx211_6, hx211_7⟩ := at_T37 HR0.out x10_1 p211 q211
          have hw211_7 := hx211_7
          have hw211_6 := hx211_6
          have hw211_5 := hx211_5
          have hw211_4 := hx211_4
          have hw211_3 := hx211_3
          have hw211_2 := hx211_2
          have hw211_1 := hx211_1
          have hw211_0 := hx211_0
          obtain rfl : ad209 = ad211 := (by injection e211)
          replace hx211_0 := (HB.out.cell (World.block_lt_of_cell? w _ hx211_0)).trans hx211_0
          replace hx211_1 := (HB.out.cell (World.block_lt_of_cell? w _ hx211_1)).trans hx211_1
          replace hx211_2 := (HB.out.cell (World.block_lt_of_cell? w _ hx211_2)).trans hx211_2
          replace hx211_3 := (HB.out.cell (World.block_lt_of_cell? w _ hx211_3)).trans hx211_3
          replace hx211_4 := (HB.out.cell (World.block_lt_of_cell? w _ hx211_4)).trans hx211_4
          replace hx211_5 := (HB.out.cell (World.block_lt_of_cell? w _ hx211_5)).trans hx211_5
          replace hx211_6 := (HB.out.cell (World.block_lt_of_cell? w _ hx211_6)).trans hx211_6
          replace hx211_7 := (HB.out.cell (World.block_lt_of_cell? w _ hx211_7)).trans hx211_7
          replace p211 := eq_true p211
          replace q211 := eq_true q211
          have p214 : 0 ≤ (x9_1 : Int) := of_decide_eq_true (by first | (with_reducible assumption) | assumption)
          have q214 : x9_1 < (l0.length : Int) := of_decide_eq_true (by first | (with_reducible assumption) | assumption)
          obtain ⟨ad214, e214, hx214_0, hx214_1, hx214_2, hx214_3, hx214_4, hx214_5, hx214_6, hx214_7⟩ := at_T37 HR0.out x9_1 p214 q214
          have hw214_7 := hx214_7
          have hw214_6 := hx214_6
          have hw214_5 := hx214_5
          have hw214_4 := hx214_4
          have hw214_3 := hx214_3
          have hw214_2 := hx214_2
          have hw214_1 := hx214_1
          have hw214_0 := hx214_0
          obtain rfl : ad209 = ad214 := (by injection e214)
          replace hx214_0 := (HB.out.cell (World.block_lt_of_cell? w _ hx214_0)).trans hx214_0
          replace hx214_1 := (HB.out.cell (World.block_lt_of_cell? w _ hx214_1)).trans hx214_1
          replace hx214_2 := (HB.out.cell (World.block_lt_of_cell? w _ hx214_2)).trans hx214_2
          replace hx214_3 := (HB.out.cell (World.block_lt_of_cell? w _ hx214_3)).trans hx214_3
          replace hx214_4 := (HB.out.cell (World.block_lt_of_cell? w _ hx214_4)).trans hx214_4
          replace hx214_5 := (HB.out.cell (World.block_lt_of_cell? w _ hx214_5)).trans hx214_5
          replace hx214_6 := (HB.out.cell (World.block_lt_of_cell? w _ hx214_6)).trans hx214_6
          replace hx214_7 := (HB.out.cell (World.block_lt_of_cell? w _ hx214_7)).trans hx214_7
          replace p214 := eq_true p214
          replace q214 := eq_true q214
          refine start_ (n := 21) (S := fun w' => w'.cell? ⟨gb208, 0, none⟩ = some (.int .i64 a1_0) ∧ w'.cell? ⟨gb208, 1, none⟩ = some (.int .i64 a1_1) ∧ w'.cell? ⟨gb208, 2, none⟩ = some (.int .i64 a1_2) ∧ w'.cell? ⟨gb208, 3, none⟩ = some (.int .i64 a1_3) ∧ w'.cell? ⟨gb208, 4, none⟩ = some (.int .i64 a1_4) ∧ w'.cell? ⟨gb208, 5, none⟩ = some (.int .i64 a1_5) ∧ w'.cell? (ad209.add ((x10_1).toNat * 8)) = some (.string ((rd_T37 l0 x10_1).f0)) ∧ w'.cell? ⟨(ad209.add ((x10_1).toNat * 8)).block, (ad209.add ((x10_1).toNat * 8)).off + 1, none⟩ = some (.int .i64 ((rd_T37 l0 x10_1).f1)) ∧ w'.cell? ⟨(ad209.add ((x10_1).toNat * 8)).block, (ad209.add ((x10_1).toNat * 8)).off + 2, none⟩ = some (.int .i64 ((rd_T37 l0 x10_1).f2.f0)) ∧ w'.cell? ⟨(ad209.add ((x10_1).toNat * 8)).block, (ad209.add ((x10_1).toNat * 8)).off + 3, none⟩ = some (.int .i64 ((rd_T37 l0 x10_1).f2.f1)) ∧ w'.cell? ⟨(ad209.add ((x10_1).toNat * 8)).block, (ad209.add ((x10_1).toNat * 8)).off + 4, none⟩ = some (.int .i64 ((rd_T37 l0 x10_1).f2.f2)) ∧ w'.cell? ⟨(ad209.add ((x10_1).toNat * 8)).block, (ad209.add ((x10_1).toNat * 8)).off + 5, none⟩ = some (.int .i64 ((rd_T37 l0 x10_1).f3)) ∧ w'.cell? ⟨(ad209.add ((x10_1).toNat * 8)).block, (ad209.add ((x10_1).toNat * 8)).off + 6, none⟩ = some (.int .i64 ((rd_T37 l0 x10_1).f4)) ∧ w'.cell? ⟨(ad209.add ((x10_1).toNat * 8)).block, (ad209.add ((x10_1).toNat * 8)).off + 7, none⟩ = some (.int .i64 ((rd_T37 l0 x10_1).f5)) ∧ w'.cell? (ad209.add ((x9_1).toNat * 8)) = some (.string ((rd_T37 l0 x9_1).f0)) ∧ w'.cell? ⟨(ad209.add ((x9_1).toNat * 8)).block, (ad209.add ((x9_1).toNat * 8)).off + 1, none⟩ = some (.int .i64 ((rd_T37 l0 x9_1).f1)) ∧ w'.cell? ⟨(ad209.add ((x9_1).toNat * 8)).block, (ad209.add ((x9_1).toNat * 8)).off + 2, none⟩ = some (.int .i64 ((rd_T37 l0 x9_1).f2.f0)) ∧ w'.cell? ⟨(ad209.add ((x9_1).toNat * 8)).block, (ad209.add ((x9_1).toNat * 8)).off + 3, none⟩ = some (.int .i64 ((rd_T37 l0 x9_1).f2.f1)) ∧ w'.cell? ⟨(ad209.add ((x9_1).toNat * 8)).block, (ad209.add ((x9_1).toNat * 8)).off + 4, none⟩ = some (.int .i64 ((rd_T37 l0 x9_1).f2.f2)) ∧ w'.cell? ⟨(ad209.add ((x9_1).toNat * 8)).block, (ad209.add ((x9_1).toNat * 8)).off + 5, none⟩ = some (.int .i64 ((rd_T37 l0 x9_1).f3)) ∧ w'.cell? ⟨(ad209.add ((x9_1).toNat * 8)).block, (ad209.add ((x9_1).toNat * 8)).off + 6, none⟩ = some (.int .i64 ((rd_T37 l0 x9_1).f4)) ∧ w'.cell? ⟨(ad209.add ((x9_1).toNat * 8)).block, (ad209.add ((x9_1).toNat * 8)).off + 7, none⟩ = some (.int .i64 ((rd_T37 l0 x9_1).f5))) (ds := []) #[false, false, false, false, false, false, false, false, false, false, false, false, false, false, false, false, false, false, false, false, false] (by kernel_rfl) rfl rfl ⟨(blk_cell BK208.out 0).trans rfl, (blk_cell BK208.out 1).trans rfl, (blk_cell BK208.out 2).trans rfl, (blk_cell BK208.out 3).trans rfl, (blk_cell BK208.out 4).trans rfl, (blk_cell BK208.out 5).trans rfl, ((HB.out.cell (World.block_lt_of_cell? w _ hw211_0)).trans hw211_0), ((HB.out.cell (World.block_lt_of_cell? w _ hw211_1)).trans hw211_1), ((HB.out.cell (World.block_lt_of_cell? w _ hw211_2)).trans hw211_2), ((HB.out.cell (World.block_lt_of_cell? w _ hw211_3)).trans hw211_3), ((HB.out.cell (World.block_lt_of_cell? w _ hw211_4)).trans hw211_4), ((HB.out.cell (World.block_lt_of_cell? w _ hw211_5)).trans hw211_5), ((HB.out.cell (World.block_lt_of_cell? w _ hw211_6)).trans hw211_6), ((HB.out.cell (World.block_lt_of_cell? w _ hw211_7)).trans hw211_7), ((HB.out.cell (World.block_lt_of_cell? w _ hw214_0)).trans hw214_0), ((HB.out.cell (World.block_lt_of_cell? w _ hw214_1)).trans hw214_1), ((HB.out.cell (World.block_lt_of_cell? w _ hw214_2)).trans hw214_2), ((HB.out.cell (World.block_lt_of_cell? w _ hw214_3)).trans hw214_3), ((HB.out.cell (World.block_lt_of_cell? w _ hw214_4)).trans hw214_4), ((HB.out.cell (World.block_lt_of_cell? w _ hw214_5)).trans hw214_5), ((HB.out.cell (World.block_lt_of_cell? w _ hw214_6)).trans hw214_6), ((HB.out.cell (World.block_lt_of_cell? w _ hw214_7)).trans hw214_7)⟩ (fun hHeld => ?_); refine with_tabW gangsawref29_Choose.tab6 gangsawref29_Choose.bits6 (fun HT_ HW_ => ?_)
          generalize w29.drew = w30 at BK208 HB hx211_0 hx211_1 hx211_2 hx211_3 hx211_4 hx211_5 hx211_6 hx211_7 hx214_0 hx214_1 hx214_2 hx214_3 hx214_4 hx214_5 hx214_6 hx214_7 hHeld ⊢
          refine pure_ (i := 0) (N := some 26) (v := ?_) (a' := ?_) #[true, false, false, false, false, false, false, false, false, false, false, false, false, false, false, false, false, false, false, false, false] rfl rfl (any_of HT_.out (by kernel_rfl)) (fun _ _ _ h => h) (Or.inl ⟨by rfl, ?_⟩) ?_ ?_
          rotate_left
          ·intro w'
           go_simp
           with_reducible rfl
          rotate_left
          ·simp only [Act.put, List.setIfInBounds_toArray, List.set_cons_zero, List.set_cons_succ, i64_w, i32_w]
           rfl
          refine pure_ (i := 1) (N := some 27) (v := ?_) (a' := ?_) #[true, true, false, false, false, false, false, false, false, false, false, false, false, false, false, false, false, false, false, false, false] rfl rfl (any_of HT_.out (by kernel_rfl)) (fun _ _ _ h => h) (Or.inl ⟨by rfl, ?_⟩) ?_ ?_
          rotate_left
          ·intro w'
           go_simp
           with_reducible rfl
          rotate_left
          ·simp only [Act.put, List.setIfInBounds_toArray, List.set_cons_zero, List.set_cons_succ, i64_w, i32_w]
           rfl
          refine pure_ (i := 2) (N := some 28) (v := ?_) (a' := ?_) #[true, true, true, false, false, false, false, false, false, false, false, false, false, false, false, false, false, false, false, false, false] rfl rfl (any_of HT_.out (by kernel_rfl)) (fun _ _ _ h => h) (Or.inl ⟨by rfl, ?_⟩) ?_ ?_
          rotate_left
          ·intro w'
           go_simp
           with_reducible rfl
          rotate_left
          ·simp only [Act.put, List.setIfInBounds_toArray, List.set_cons_zero, List.set_cons_succ, i64_w, i32_w]
           rfl
          refine pure_ (i := 3) (N := some 29) (v := ?_) (a' := ?_) #[true, true, true, true, false, false, false, false, false, false, false, false, false, false, false, false, false, false, false, false, false] rfl rfl (any_of HT_.out (by kernel_rfl)) (fun _ _ _ h => h) (Or.inl ⟨by rfl, ?_⟩) ?_ ?_
          rotate_left
          ·intro w'
           go_simp
           with_reducible rfl
          rotate_left
          ·simp only [Act.put, List.setIfInBounds_toArray, List.set_cons_zero, List.set_cons_succ, i64_w, i32_w]
           rfl
          refine pure_ (i := 4) (N := some 30) (v := ?_) (a' := ?_) #[true, true, true, true, true, false, false, false, false, false, false, false, false, false, false, false, false, false, false, false, false] rfl rfl (any_of HT_.out (by kernel_rfl)) (fun _ _ _ h => h) (Or.inl ⟨by rfl, ?_⟩) ?_ ?_
          rotate_left
          ·intro w'
           go_simp
           with_reducible rfl
          rotate_left
          ·simp only [Act.put, List.setIfInBounds_toArray, List.set_cons_zero, List.set_cons_succ, i64_w, i32_w]
           rfl
          refine pure_ (i := 5) (N := some 31) (v := ?_) (a' := ?_) #[true, true, true, true, true, true, false, false, false, false, false, false, false, false, false, false, false, false, false, false, false] rfl rfl (any_of HT_.out (by kernel_rfl)) (fun _ _ _ h => h) (Or.inl ⟨by rfl, ?_⟩) ?_ ?_
          rotate_left
          ·intro w'
           go_simp
           with_reducible rfl
          rotate_left
          ·simp only [Act.put, List.setIfInBounds_toArray, List.set_cons_zero, List.set_cons_succ, i64_w, i32_w]
           rfl
          refine pure_ (i := 8) (N := some 34) (v := ?_) (a' := ?_) #[true, true, true, true, true, true, false, false, true, false, false, false, false, false, false, false, false, false, false, false, false] rfl rfl (any_of HT_.out (by kernel_rfl)) (fun _ _ _ h => h) (Or.inl ⟨by rfl, ?_⟩) ?_ ?_
          rotate_left
          ·intro w'
           go_simp
           with_reducible rfl
          rotate_left
          ·simp only [Act.put, List.setIfInBounds_toArray, List.set_cons_zero, List.set_cons_succ, i64_w, i32_w]
           rfl
          refine pure_ (i := 11) (N := some 37) (v := ?_) (a' := ?_) #[true, true, true, true, true, true, false, false, true, false, false, true, false, false, false, false, false, false, false, false, false] rfl rfl (any_of HT_.out (by kernel_rfl)) (fun _ _ _ h => h) (Or.inl ⟨by rfl, ?_⟩) ?_ ?_
          rotate_left
          ·intro w'
           go_simp
           with_reducible rfl
          rotate_left
          ·simp only [Act.put, List.setIfInBounds_toArray, List.set_cons_zero, List.set_cons_succ, i64_w, i32_w]
           rfl
          refine pure_ (i := 12) (N := some 38) (v := ?_) (a' := ?_) #[true, true, true, true, true, true, false, false, true, false, false, true, true, false, false, false, false, false, false, false, false] rfl rfl (any_of HT_.out (by kernel_rfl)) (fun _ _ _ h => h) (Or.inl ⟨by rfl, ?_⟩) ?_ ?_
          rotate_left
          ·intro w'
           go_simp
           with_reducible rfl
          rotate_left
          ·simp only [Act.put, List.setIfInBounds_toArray, List.set_cons_zero, List.set_cons_succ, i64_w, i32_w]
           rfl
          refine pure_ (i := 13) (N := some 39) (v := ?_) (a' := ?_) #[true, true, true, true, true, true, false, false, true, false, false, true, true, true, false, false, false, false, false, false, false] rfl rfl (any_of HT_.out (by kernel_rfl)) (fun _ _ _ h => h) (Or.inl ⟨by rfl, ?_⟩) ?_ ?_
          rotate_left
          ·intro w'
           go_simp
           with_reducible rfl
          rotate_left
          ·simp only [Act.put, List.setIfInBounds_toArray, List.set_cons_zero, List.set_cons_succ, i64_w, i32_w]
           rfl
          refine pure_ (i := 16) (N := some 42) (v := ?_) (a' := ?_) #[true, true, true, true, true, true, false, false, true, false, false, true, true, true, false, false, true, false, false, false, false] rfl rfl (any_of HT_.out (by kernel_rfl)) (fun _ _ _ h => h) (Or.inl ⟨by rfl, ?_⟩) ?_ ?_
          rotate_left
          ·intro w'
           go_simp
           with_reducible rfl
          rotate_left
          ·simp only [Act.put, List.setIfInBounds_toArray, List.set_cons_zero, List.set_cons_succ, i64_w, i32_w]
           rfl
          refine take_ (i := 6) (N := some 32) (v := ?_) (a' := ?_) #[true, true, true, true, true, true, true, false, true, false, false, true, true, true, false, false, true, false, false, false, false] rfl rfl (take_ofW HT_.out HW_.out (by kernel_rfl)) (fun _ _ _ h => h) (Or.inl ⟨by rfl, ?_⟩) hHeld ?_ ?_
          rotate_left
          ·rintro w' ⟨s0, s1, s2, s3, s4, s5, s6, s7, s8, s9, s10, s11, s12, s13, s14, s15, s16, s17, s18, s19, s20, s21⟩
           go_simp
           with_reducible rfl
          rotate_left
          ·simp only [Act.put, List.setIfInBounds_toArray, List.set_cons_zero, List.set_cons_succ, i64_w, i32_w]
           rfl
          refine take_ (i := 7) (N := some 33) (v := ?_) (a' := ?_) #[true, true, true, true, true, true, true, true, true, false, false, true, true, true, false, false, true, false, false, false, false] rfl rfl (take_ofW HT_.out HW_.out (by kernel_rfl)) (fun _ _ _ h => h) (Or.inl ⟨by rfl, ?_⟩) hHeld ?_ ?_
          rotate_left
          ·rintro w' ⟨s0, s1, s2, s3, s4, s5, s6, s7, s8, s9, s10, s11, s12, s13, s14, s15, s16, s17, s18, s19, s20, s21⟩
           go_simp
           with_reducible rfl
          rotate_left
          ·simp only [Act.put, List.setIfInBounds_toArray, List.set_cons_zero, List.set_cons_succ, i64_w, i32_w]
           rfl
          refine take_ (i := 14) (N := some 40) (v := ?_) (a' := ?_) #[true, true, true, true, true, true, true, true, true, false, false, true, true, true, true, false, true, false, false, false, false] rfl rfl (take_ofW HT_.out HW_.out (by kernel_rfl)) (fun _ _ _ h => h) (Or.inl ⟨by rfl, ?_⟩) hHeld ?_ ?_
          rotate_left
          ·rintro w' ⟨s0, s1, s2, s3, s4, s5, s6, s7, s8, s9, s10, s11, s12, s13, s14, s15, s16, s17, s18, s19, s20, s21⟩
           go_simp
           with_reducible rfl
          rotate_left
          ·simp only [Act.put, List.setIfInBounds_toArray, List.set_cons_zero, List.set_cons_succ, i64_w, i32_w]
           rfl
          refine take_ (i := 15) (N := some 41) (v := ?_) (a' := ?_) #[true, true, true, true, true, true, true, true, true, false, false, true, true, true, true, true, true, false, false, false, false] rfl rfl (take_ofW HT_.out HW_.out (by kernel_rfl)) (fun _ _ _ h => h) (Or.inl ⟨by rfl, ?_⟩) hHeld ?_ ?_
          rotate_left
          ·rintro w' ⟨s0, s1, s2, s3, s4, s5, s6, s7, s8, s9, s10, s11, s12, s13, s14, s15, s16, s17, s18, s19, s20, s21⟩
           go_simp
           with_reducible rfl
          rotate_left
          ·simp only [Act.put, List.setIfInBounds_toArray, List.set_cons_zero, List.set_cons_succ, i64_w, i32_w]
           rfl
          refine one_ (i := 9) (N := some 35) #[true, true, true, true, true, true, true, true, true, true, false, true, true, true, true, true, true, false, false, false, false] rfl rfl (one_of HT_.out (by kernel_rfl)) (by decide) (fun K hK => ?_)
          refine goes_ Try.func20 (by kernel_rfl) rfl #[.agg #[.int .i64 a1_0, .int .i64 a1_1, .int .i64 a1_2, .int .i64 a1_3, .int .i64 a1_4, .int .i64 a1_5], .int .i64 a2] (by rfl) rfl rfl (by (try simp only [List.map_toArray, List.map_cons, List.map_nil]); first | done | rfl | (simp only [List.length_drop, List.length_take]; rfl)) ?_
          with_reducible refine (gangsawref29_Area.calls a1_0 a1_1 a1_2 a1_3 a1_4 a1_5 a2 t212 _ A14.out).mono ?_
          rintro e w31 ⟨rfl, hb⟩
          refine ⟨_, rfl, ?_⟩
          have n0_ := Aside0.mk (blk_below (g := gb208) (o := .cells #[.int .i64 a1_0, .int .i64 a1_1, .int .i64 a1_2, .int .i64 a1_3, .int .i64 a1_4, .int .i64 a1_5] 30 (0, 0)) (by (with_reducible repeat (first | refine blk_drewN ?_ _ | refine blk_drew ?_ | refine blk_alloc ?_ _)); exact BK208.out) hb)
          have n1_ := Aside0.mk (below_step (by repeat (first | (with_reducible first | exact HB.out | apply below_alloc | apply pw_below_drewN | apply below_drew1 | refine below_set ?_ GE208.out) | exact HB.out)) hb)
          clear BK208
          clear HB
          have BK208 := n0_
          have HB := n1_
          clear n0_ n1_
          (try clear hb)
          (try clear hb2)
          (try clear hk)
          (try clear hi)
          refine hK.out _ _ ⟨(blk_cell BK208.out 0).trans rfl, (blk_cell BK208.out 1).trans rfl, (blk_cell BK208.out 2).trans rfl, (blk_cell BK208.out 3).trans rfl, (blk_cell BK208.out 4).trans rfl, (blk_cell BK208.out 5).trans rfl, ((HB.out.cell (World.block_lt_of_cell? w _ hw211_0)).trans hw211_0), ((HB.out.cell (World.block_lt_of_cell? w _ hw211_1)).trans hw211_1), ((HB.out.cell (World.block_lt_of_cell? w _ hw211_2)).trans hw211_2), ((HB.out.cell (World.block_lt_of_cell? w _ hw211_3)).trans hw211_3), ((HB.out.cell (World.block_lt_of_cell? w _ hw211_4)).trans hw211_4), ((HB.out.cell (World.block_lt_of_cell? w _ hw211_5)).trans hw211_5), ((HB.out.cell (World.block_lt_of_cell? w _ hw211_6)).trans hw211_6), ((HB.out.cell (World.block_lt_of_cell? w _ hw211_7)).trans hw211_7), ((HB.out.cell (World.block_lt_of_cell? w _ hw214_0)).trans hw214_0), ((HB.out.cell (World.block_lt_of_cell? w _ hw214_1)).trans hw214_1), ((HB.out.cell (World.block_lt_of_cell? w _ hw214_2)).trans hw214_2), ((HB.out.cell (World.block_lt_of_cell? w _ hw214_3)).trans hw214_3), ((HB.out.cell (World.block_lt_of_cell? w _ hw214_4)).trans hw214_4), ((HB.out.cell (World.block_lt_of_cell? w _ hw214_5)).trans hw214_5), ((HB.out.cell (World.block_lt_of_cell? w _ hw214_6)).trans hw214_6), ((HB.out.cell (World.block_lt_of_cell? w _ hw214_7)).trans hw214_7)⟩ (fun hHeld => ?_)
          clear hK K
          refine norm_ (a' := ?_) ?_ ?_
          rotate_left
          ·show Act.put _ (some 35) _ = _
           simp only [Act.put, List.setIfInBounds_toArray, List.set_cons_zero, List.set_cons_succ, i64_w, i32_w]
           rfl
          refine one_ (i := 10) (N := some 36) #[true, true, true, true, true, true, true, true, true, true, true, true, true, true, true, true, true, false, false, false, false] rfl rfl (one_of HT_.out (by kernel_rfl)) (by decide) (fun K hK => ?_)
          refine goes_ Try.func34 (by kernel_rfl) rfl #[.agg #[.string ((rd_T37 l0 x10_1).f0), .int .i64 ((rd_T37 l0 x10_1).f1), .int .i64 ((rd_T37 l0 x10_1).f2.f0), .int .i64 ((rd_T37 l0 x10_1).f2.f1), .int .i64 ((rd_T37 l0 x10_1).f2.f2), .int .i64 ((rd_T37 l0 x10_1).f3), .int .i64 ((rd_T37 l0 x10_1).f4), .int .i64 ((rd_T37 l0 x10_1).f5)], .int .i64 t212] (by rfl) rfl rfl (by (try simp only [List.map_toArray, List.map_cons, List.map_nil]); first | done | rfl | (simp only [List.length_drop, List.length_take]; rfl)) ?_
          with_reducible refine (gangsawref29_minutes.calls ((rd_T37 l0 x10_1).f0) ((rd_T37 l0 x10_1).f1) ((rd_T37 l0 x10_1).f2.f0) ((rd_T37 l0 x10_1).f2.f1) ((rd_T37 l0 x10_1).f2.f2) ((rd_T37 l0 x10_1).f3) ((rd_T37 l0 x10_1).f4) ((rd_T37 l0 x10_1).f5) t212 t213 _ A15.out).mono ?_
          rintro e w32 ⟨rfl, hb⟩
          refine ⟨_, rfl, ?_⟩
          have n0_ := Aside0.mk (blk_below (g := gb208) (o := .cells #[.int .i64 a1_0, .int .i64 a1_1, .int .i64 a1_2, .int .i64 a1_3, .int .i64 a1_4, .int .i64 a1_5] 30 (0, 0)) (by (with_reducible repeat (first | refine blk_drewN ?_ _ | refine blk_drew ?_ | refine blk_alloc ?_ _)); exact BK208.out) hb)
          have n1_ := Aside0.mk (below_step (by repeat (first | (with_reducible first | exact HB.out | apply below_alloc | apply pw_below_drewN | apply below_drew1 | refine below_set ?_ GE208.out) | exact HB.out)) hb)
          clear BK208
          clear HB
          have BK208 := n0_
          have HB := n1_
          clear n0_ n1_
          (try clear hb)
          (try clear hb2)
          (try clear hk)
          (try clear hi)
          refine hK.out _ _ ⟨(blk_cell BK208.out 0).trans rfl, (blk_cell BK208.out 1).trans rfl, (blk_cell BK208.out 2).trans rfl, (blk_cell BK208.out 3).trans rfl, (blk_cell BK208.out 4).trans rfl, (blk_cell BK208.out 5).trans rfl, ((HB.out.cell (World.block_lt_of_cell? w _ hw211_0)).trans hw211_0), ((HB.out.cell (World.block_lt_of_cell? w _ hw211_1)).trans hw211_1), ((HB.out.cell (World.block_lt_of_cell? w _ hw211_2)).trans hw211_2), ((HB.out.cell (World.block_lt_of_cell? w _ hw211_3)).trans hw211_3), ((HB.out.cell (World.block_lt_of_cell? w _ hw211_4)).trans hw211_4), ((HB.out.cell (World.block_lt_of_cell? w _ hw211_5)).trans hw211_5), ((HB.out.cell (World.block_lt_of_cell? w _ hw211_6)).trans hw211_6), ((HB.out.cell (World.block_lt_of_cell? w _ hw211_7)).trans hw211_7), ((HB.out.cell (World.block_lt_of_cell? w _ hw214_0)).trans hw214_0), ((HB.out.cell (World.block_lt_of_cell? w _ hw214_1)).trans hw214_1), ((HB.out.cell (World.block_lt_of_cell? w _ hw214_2)).trans hw214_2), ((HB.out.cell (World.block_lt_of_cell? w _ hw214_3)).trans hw214_3), ((HB.out.cell (World.block_lt_of_cell? w _ hw214_4)).trans hw214_4), ((HB.out.cell (World.block_lt_of_cell? w _ hw214_5)).trans hw214_5), ((HB.out.cell (World.block_lt_of_cell? w _ hw214_6)).trans hw214_6), ((HB.out.cell (World.block_lt_of_cell? w _ hw214_7)).trans hw214_7)⟩ (fun hHeld => ?_)
          clear hK K
          refine norm_ (a' := ?_) ?_ ?_
          rotate_left
          ·show Act.put _ (some 36) _ = _
           simp only [Act.put, List.setIfInBounds_toArray, List.set_cons_zero, List.set_cons_succ, i64_w, i32_w]
           rfl
          refine one_ (i := 17) (N := some 43) #[true, true, true, true, true, true, true, true, true, true, true, true, true, true, true, true, true, true, false, false, false] rfl rfl (one_of HT_.out (by kernel_rfl)) (by decide) (fun K hK => ?_)
          refine goes_ Try.func20 (by kernel_rfl) rfl #[.agg #[.int .i64 a1_0, .int .i64 a1_1, .int .i64 a1_2, .int .i64 a1_3, .int .i64 a1_4, .int .i64 a1_5], .int .i64 a2] (by rfl) rfl rfl (by (try simp only [List.map_toArray, List.map_cons, List.map_nil]); first | done | rfl | (simp only [List.length_drop, List.length_take]; rfl)) ?_
          with_reducible refine (gangsawref29_Area.calls a1_0 a1_1 a1_2 a1_3 a1_4 a1_5 a2 t215 _ A18.out).mono ?_
          rintro e w33 ⟨rfl, hb⟩
          refine ⟨_, rfl, ?_⟩
          have n0_ := Aside0.mk (blk_below (g := gb208) (o := .cells #[.int .i64 a1_0, .int .i64 a1_1, .int .i64 a1_2, .int .i64 a1_3, .int .i64 a1_4, .int .i64 a1_5] 30 (0, 0)) (by (with_reducible repeat (first | refine blk_drewN ?_ _ | refine blk_drew ?_ | refine blk_alloc ?_ _)); exact BK208.out) hb)
          have n1_ := Aside0.mk (below_step (by repeat (first | (with_reducible first | exact HB.out | apply below_alloc | apply pw_below_drewN | apply below_drew1 | refine below_set ?_ GE208.out) | exact HB.out)) hb)
          clear BK208
          clear HB
          have BK208 := n0_
          have HB := n1_
          clear n0_ n1_
          (try clear hb)
          (try clear hb2)
          (try clear hk)
          (try clear hi)
          refine hK.out _ _ ⟨(blk_cell BK208.out 0).trans rfl, (blk_cell BK208.out 1).trans rfl, (blk_cell BK208.out 2).trans rfl, (blk_cell BK208.out 3).trans rfl, (blk_cell BK208.out 4).trans rfl, (blk_cell BK208.out 5).trans rfl, ((HB.out.cell (World.block_lt_of_cell? w _ hw211_0)).trans hw211_0), ((HB.out.cell (World.block_lt_of_cell? w _ hw211_1)).trans hw211_1), ((HB.out.cell (World.block_lt_of_cell? w _ hw211_2)).trans hw211_2), ((HB.out.cell (World.block_lt_of_cell? w _ hw211_3)).trans hw211_3), ((HB.out.cell (World.block_lt_of_cell? w _ hw211_4)).trans hw211_4), ((HB.out.cell (World.block_lt_of_cell? w _ hw211_5)).trans hw211_5), ((HB.out.cell (World.block_lt_of_cell? w _ hw211_6)).trans hw211_6), ((HB.out.cell (World.block_lt_of_cell? w _ hw211_7)).trans hw211_7), ((HB.out.cell (World.block_lt_of_cell? w _ hw214_0)).trans hw214_0), ((HB.out.cell (World.block_lt_of_cell? w _ hw214_1)).trans hw214_1), ((HB.out.cell (World.block_lt_of_cell? w _ hw214_2)).trans hw214_2), ((HB.out.cell (World.block_lt_of_cell? w _ hw214_3)).trans hw214_3), ((HB.out.cell (World.block_lt_of_cell? w _ hw214_4)).trans hw214_4), ((HB.out.cell (World.block_lt_of_cell? w _ hw214_5)).trans hw214_5), ((HB.out.cell (World.block_lt_of_cell? w _ hw214_6)).trans hw214_6), ((HB.out.cell (World.block_lt_of_cell? w _ hw214_7)).trans hw214_7)⟩ (fun hHeld => ?_)
          clear hK K
          refine norm_ (a' := ?_) ?_ ?_
          rotate_left
          ·show Act.put _ (some 43) _ = _
           simp only [Act.put, List.setIfInBounds_toArray, List.set_cons_zero, List.set_cons_succ, i64_w, i32_w]
           rfl
          refine one_ (i := 18) (N := some 44) #[true, true, true, true, true, true, true, true, true, true, true, true, true, true, true, true, true, true, true, false, false] rfl rfl (one_of HT_.out (by kernel_rfl)) (by decide) (fun K hK => ?_)
          refine goes_ Try.func34 (by kernel_rfl) rfl #[.agg #[.string ((rd_T37 l0 x9_1).f0), .int .i64 ((rd_T37 l0 x9_1).f1), .int .i64 ((rd_T37 l0 x9_1).f2.f0), .int .i64 ((rd_T37 l0 x9_1).f2.f1), .int .i64 ((rd_T37 l0 x9_1).f2.f2), .int .i64 ((rd_T37 l0 x9_1).f3), .int .i64 ((rd_T37 l0 x9_1).f4), .int .i64 ((rd_T37 l0 x9_1).f5)], .int .i64 t215] (by rfl) rfl rfl (by (try simp only [List.map_toArray, List.map_cons, List.map_nil]); first | done | rfl | (simp only [List.length_drop, List.length_take]; rfl)) ?_
          with_reducible refine (gangsawref29_minutes.calls ((rd_T37 l0 x9_1).f0) ((rd_T37 l0 x9_1).f1) ((rd_T37 l0 x9_1).f2.f0) ((rd_T37 l0 x9_1).f2.f1) ((rd_T37 l0 x9_1).f2.f2) ((rd_T37 l0 x9_1).f3) ((rd_T37 l0 x9_1).f4) ((rd_T37 l0 x9_1).f5) t215 t216 _ A19.out).mono ?_
          rintro e w34 ⟨rfl, hb⟩
          refine ⟨_, rfl, ?_⟩
          have n0_ := Aside0.mk (blk_below (g := gb208) (o := .cells #[.int .i64 a1_0, .int .i64 a1_1, .int .i64 a1_2, .int .i64 a1_3, .int .i64 a1_4, .int .i64 a1_5] 30 (0, 0)) (by (with_reducible repeat (first | refine blk_drewN ?_ _ | refine blk_drew ?_ | refine blk_alloc ?_ _)); exact BK208.out) hb)
          have n1_ := Aside0.mk (below_step (by repeat (first | (with_reducible first | exact HB.out | apply below_alloc | apply pw_below_drewN | apply below_drew1 | refine below_set ?_ GE208.out) | exact HB.out)) hb)
          clear BK208
          clear HB
          have BK208 := n0_
          have HB := n1_
          clear n0_ n1_
          (try clear hb)
          (try clear hb2)
          (try clear hk)
          (try clear hi)
          refine hK.out _ _ ⟨(blk_cell BK208.out 0).trans rfl, (blk_cell BK208.out 1).trans rfl, (blk_cell BK208.out 2).trans rfl, (blk_cell BK208.out 3).trans rfl, (blk_cell BK208.out 4).trans rfl, (blk_cell BK208.out 5).trans rfl, ((HB.out.cell (World.block_lt_of_cell? w _ hw211_0)).trans hw211_0), ((HB.out.cell (World.block_lt_of_cell? w _ hw211_1)).trans hw211_1), ((HB.out.cell (World.block_lt_of_cell? w _ hw211_2)).trans hw211_2), ((HB.out.cell (World.block_lt_of_cell? w _ hw211_3)).trans hw211_3), ((HB.out.cell (World.block_lt_of_cell? w _ hw211_4)).trans hw211_4), ((HB.out.cell (World.block_lt_of_cell? w _ hw211_5)).trans hw211_5), ((HB.out.cell (World.block_lt_of_cell? w _ hw211_6)).trans hw211_6), ((HB.out.cell (World.block_lt_of_cell? w _ hw211_7)).trans hw211_7), ((HB.out.cell (World.block_lt_of_cell? w _ hw214_0)).trans hw214_0), ((HB.out.cell (World.block_lt_of_cell? w _ hw214_1)).trans hw214_1), ((HB.out.cell (World.block_lt_of_cell? w _ hw214_2)).trans hw214_2), ((HB.out.cell (World.block_lt_of_cell? w _ hw214_3)).trans hw214_3), ((HB.out.cell (World.block_lt_of_cell? w _ hw214_4)).trans hw214_4), ((HB.out.cell (World.block_lt_of_cell? w _ hw214_5)).trans hw214_5), ((HB.out.cell (World.block_lt_of_cell? w _ hw214_6)).trans hw214_6), ((HB.out.cell (World.block_lt_of_cell? w _ hw214_7)).trans hw214_7)⟩ (fun hHeld => ?_)
          clear hK K
          refine norm_ (a' := ?_) ?_ ?_
          rotate_left
          ·show Act.put _ (some 44) _ = _
           simp only [Act.put, List.setIfInBounds_toArray, List.set_cons_zero, List.set_cons_succ, i64_w, i32_w]
           rfl
          refine pure_ (i := 19) (N := some 45) (v := ?_) (a' := ?_) #[true, true, true, true, true, true, true, true, true, true, true, true, true, true, true, true, true, true, true, true, false] rfl rfl (any_of HT_.out (by kernel_rfl)) (fun _ _ _ h => h) (Or.inl ⟨by rfl, ?_⟩) ?_ ?_
          rotate_left
          ·intro w'
           go_simp
           with_reducible rfl
          rotate_left
          ·simp only [Act.put, List.setIfInBounds_toArray, List.set_cons_zero, List.set_cons_succ, i64_w, i32_w]
           rfl
          refine pure_ (i := 20) (N := some 46) (v := ?_) (a' := ?_) #[true, true, true, true, true, true, true, true, true, true, true, true, true, true, true, true, true, true, true, true, true] rfl rfl (any_of HT_.out (by kernel_rfl)) (fun _ _ _ h => h) (Or.inl ⟨by rfl, ?_⟩) ?_ ?_
          rotate_left
          ·intro w'
           go_simp
           with_reducible rfl
          rotate_left
          ·simp only [Act.put, List.setIfInBounds_toArray, List.set_cons_zero, List.set_cons_succ, i64_w, i32_w]
           rfl
          refine done_ (done_of HT_.out (by kernel_rfl)) ?_
          try go_wp2
          go_roundg k1
          case measure => have := HK1.out; omega
          case rel => exact ⟨(x9_1), (wrap64 (x10_1 + 1)), (by first | rfl | (simp; done) | (simp [*]; done)), (by first | rfl | (simp; done) | (simp [*]; done)), H', ⟨by have := HK1.out; omega⟩, ⟨by (with_reducible repeat (first | refine blk_drewN ?_ _ | refine blk_drew ?_ | refine blk_alloc ?_ _)); exact BK208.out⟩, ⟨by repeat (first | (with_reducible first | exact HB.out | apply below_alloc | apply pw_below_drewN | apply below_drew1 | refine below_set ?_ GE208.out) | exact HB.out)⟩⟩
        ·rw [if_neg c17] at H
         exact absurd H (by simp)
       ·rw [if_neg c16] at H
        exact absurd H (by simp)
     ·rw [if_neg c9] at H
      have c9b0 : (t210 == 0) = false := beq_eq_false_iff_ne.mpr c9
      have c9b1 : (t210 != 0) = true := bne_iff_ne.mpr c9
      have H' := Aside0.mk H
      clear H
      try go_wp2
      have n0_ := Aside0.mk (blk_drew BK208.out)
      have n1_ := Aside0.mk (below_drew1 HB.out)
      clear BK208
      clear HB
      have BK208 := n0_
      have HB := n1_
      clear n0_ n1_
      have p209 : 0 ≤ (x10_1 : Int) := of_decide_eq_true (by first | (with_reducible assumption) | assumption)
      have q209 : x10_1 < (l0.length : Int) := of_decide_eq_true (by first | (with_reducible assumption) | assumption)
      obtain ⟨ad209, e209, hx209_0, hx209_1, hx209_2, hx209_3, hx209_4, hx209_5, hx209_6, hx209_7⟩ := at_T37 HR0.out x10_1 p209 q209
      have hw209_7 := hx209_7
      have hw209_6 := hx209_6
      have hw209_5 := hx209_5
      have hw209_4 := hx209_4
      have hw209_3 := hx209_3
      have hw209_2 := hx209_2
      have hw209_1 := hx209_1
      have hw209_0 := hx209_0
      cases e209
      replace hx209_0 := (HB.out.cell (World.block_lt_of_cell? w _ hx209_0)).trans hx209_0
      replace hx209_1 := (HB.out.cell (World.block_lt_of_cell? w _ hx209_1)).trans hx209_1
      replace hx209_2 := (HB.out.cell (World.block_lt_of_cell? w _ hx209_2)).trans hx209_2
      replace hx209_3 := (HB.out.cell (World.block_lt_of_cell? w _ hx209_3)).trans hx209_3
      replace hx209_4 := (HB.out.cell (World.block_lt_of_cell? w _ hx209_4)).trans hx209_4
      replace hx209_5 := (HB.out.cell (World.block_lt_of_cell? w _ hx209_5)).trans hx209_5
      replace hx209_6 := (HB.out.cell (World.block_lt_of_cell? w _ hx209_6)).trans hx209_6
      replace hx209_7 := (HB.out.cell (World.block_lt_of_cell? w _ hx209_7)).trans hx209_7
      replace p209 := eq_true p209
      replace q209 := eq_true q209
      refine start_ (n := 9) (S := fun w' => w'.cell? ⟨gb208, 0, none⟩ = some (.int .i64 a1_0) ∧ w'.cell? ⟨gb208, 1, none⟩ = some (.int .i64 a1_1) ∧ w'.cell? ⟨gb208, 2, none⟩ = some (.int .i64 a1_2) ∧ w'.cell? ⟨gb208, 3, none⟩ = some (.int .i64 a1_3) ∧ w'.cell? ⟨gb208, 4, none⟩ = some (.int .i64 a1_4) ∧ w'.cell? ⟨gb208, 5, none⟩ = some (.int .i64 a1_5) ∧ w'.cell? (ad209.add ((x10_1).toNat * 8)) = some (.string ((rd_T37 l0 x10_1).f0)) ∧ w'.cell? ⟨(ad209.add ((x10_1).toNat * 8)).block, (ad209.add ((x10_1).toNat * 8)).off + 1, none⟩ = some (.int .i64 ((rd_T37 l0 x10_1).f1)) ∧ w'.cell? ⟨(ad209.add ((x10_1).toNat * 8)).block, (ad209.add ((x10_1).toNat * 8)).off + 2, none⟩ = some (.int .i64 ((rd_T37 l0 x10_1).f2.f0)) ∧ w'.cell? ⟨(ad209.add ((x10_1).toNat * 8)).block, (ad209.add ((x10_1).toNat * 8)).off + 3, none⟩ = some (.int .i64 ((rd_T37 l0 x10_1).f2.f1)) ∧ w'.cell? ⟨(ad209.add ((x10_1).toNat * 8)).block, (ad209.add ((x10_1).toNat * 8)).off + 4, none⟩ = some (.int .i64 ((rd_T37 l0 x10_1).f2.f2)) ∧ w'.cell? ⟨(ad209.add ((x10_1).toNat * 8)).block, (ad209.add ((x10_1).toNat * 8)).off + 5, none⟩ = some (.int .i64 ((rd_T37 l0 x10_1).f3)) ∧ w'.cell? ⟨(ad209.add ((x10_1).toNat * 8)).block, (ad209.add ((x10_1).toNat * 8)).off + 6, none⟩ = some (.int .i64 ((rd_T37 l0 x10_1).f4)) ∧ w'.cell? ⟨(ad209.add ((x10_1).toNat * 8)).block, (ad209.add ((x10_1).toNat * 8)).off + 7, none⟩ = some (.int .i64 ((rd_T37 l0 x10_1).f5))) (ds := []) #[false, false, false, false, false, false, false, false, false] (by kernel_rfl) rfl rfl ⟨(blk_cell BK208.out 0).trans rfl, (blk_cell BK208.out 1).trans rfl, (blk_cell BK208.out 2).trans rfl, (blk_cell BK208.out 3).trans rfl, (blk_cell BK208.out 4).trans rfl, (blk_cell BK208.out 5).trans rfl, ((HB.out.cell (World.block_lt_of_cell? w _ hw209_0)).trans hw209_0), ((HB.out.cell (World.block_lt_of_cell? w _ hw209_1)).trans hw209_1), ((HB.out.cell (World.block_lt_of_cell? w _ hw209_2)).trans hw209_2), ((HB.out.cell (World.block_lt_of_cell? w _ hw209_3)).trans hw209_3), ((HB.out.cell (World.block_lt_of_cell? w _ hw209_4)).trans hw209_4), ((HB.out.cell (World.block_lt_of_cell? w _ hw209_5)).trans hw209_5), ((HB.out.cell (World.block_lt_of_cell? w _ hw209_6)).trans hw209_6), ((HB.out.cell (World.block_lt_of_cell? w _ hw209_7)).trans hw209_7)⟩ (fun hHeld => ?_); refine with_tabW gangsawref29_Choose.tab5 gangsawref29_Choose.bits5 (fun HT_ HW_ => ?_)
      generalize wr.drew = w35 at BK208 HB hx209_0 hx209_1 hx209_2 hx209_3 hx209_4 hx209_5 hx209_6 hx209_7 hHeld ⊢
      refine pure_ (i := 0) (N := some 17) (v := ?_) (a' := ?_) #[true, false, false, false, false, false, false, false, false] rfl rfl (any_of HT_.out (by kernel_rfl)) (fun _ _ _ h => h) (Or.inl ⟨by rfl, ?_⟩) ?_ ?_
      rotate_left
      ·intro w'
       go_simp
       with_reducible rfl
      rotate_left
      ·simp only [Act.put, List.setIfInBounds_toArray, List.set_cons_zero, List.set_cons_succ, i64_w, i32_w]
       rfl
      refine pure_ (i := 1) (N := some 18) (v := ?_) (a' := ?_) #[true, true, false, false, false, false, false, false, false] rfl rfl (any_of HT_.out (by kernel_rfl)) (fun _ _ _ h => h) (Or.inl ⟨by rfl, ?_⟩) ?_ ?_
      rotate_left
      ·intro w'
       go_simp
       with_reducible rfl
      rotate_left
      ·simp only [Act.put, List.setIfInBounds_toArray, List.set_cons_zero, List.set_cons_succ, i64_w, i32_w]
       rfl
      refine pure_ (i := 2) (N := some 19) (v := ?_) (a' := ?_) #[true, true, true, false, false, false, false, false, false] rfl rfl (any_of HT_.out (by kernel_rfl)) (fun _ _ _ h => h) (Or.inl ⟨by rfl, ?_⟩) ?_ ?_
      rotate_left
      ·intro w'
       go_simp
       with_reducible rfl
      rotate_left
      ·simp only [Act.put, List.setIfInBounds_toArray, List.set_cons_zero, List.set_cons_succ, i64_w, i32_w]
       rfl
      refine pure_ (i := 5) (N := some 22) (v := ?_) (a' := ?_) #[true, true, true, false, false, true, false, false, false] rfl rfl (any_of HT_.out (by kernel_rfl)) (fun _ _ _ h => h) (Or.inl ⟨by rfl, ?_⟩) ?_ ?_
      rotate_left
      ·intro w'
       go_simp
       with_reducible rfl
      rotate_left
      ·simp only [Act.put, List.setIfInBounds_toArray, List.set_cons_zero, List.set_cons_succ, i64_w, i32_w]
       rfl
      refine pure_ (i := 6) (N := some 23) (v := ?_) (a' := ?_) #[true, true, true, false, false, true, true, false, false] rfl rfl (any_of HT_.out (by kernel_rfl)) (fun _ _ _ h => h) (Or.inl ⟨by rfl, ?_⟩) ?_ ?_
      rotate_left
      ·intro w'
       go_simp
       with_reducible rfl
      rotate_left
      ·simp only [Act.put, List.setIfInBounds_toArray, List.set_cons_zero, List.set_cons_succ, i64_w, i32_w]
       rfl
      refine take_ (i := 3) (N := some 20) (v := ?_) (a' := ?_) #[true, true, true, true, false, true, true, false, false] rfl rfl (take_ofW HT_.out HW_.out (by kernel_rfl)) (fun _ _ _ h => h) (Or.inl ⟨by rfl, ?_⟩) hHeld ?_ ?_
      rotate_left
      ·rintro w' ⟨s0, s1, s2, s3, s4, s5, s6, s7, s8, s9, s10, s11, s12, s13⟩
       go_simp
       with_reducible rfl
      rotate_left
      ·simp only [Act.put, List.setIfInBounds_toArray, List.set_cons_zero, List.set_cons_succ, i64_w, i32_w]
       rfl
      refine take_ (i := 4) (N := some 21) (v := ?_) (a' := ?_) #[true, true, true, true, true, true, true, false, false] rfl rfl (take_ofW HT_.out HW_.out (by kernel_rfl)) (fun _ _ _ h => h) (Or.inl ⟨by rfl, ?_⟩) hHeld ?_ ?_
      rotate_left
      ·rintro w' ⟨s0, s1, s2, s3, s4, s5, s6, s7, s8, s9, s10, s11, s12, s13⟩
       go_simp
       with_reducible rfl
      rotate_left
      ·simp only [Act.put, List.setIfInBounds_toArray, List.set_cons_zero, List.set_cons_succ, i64_w, i32_w]
       rfl
      refine one_ (i := 7) (N := some 24) #[true, true, true, true, true, true, true, true, false] rfl rfl (one_of HT_.out (by kernel_rfl)) (by decide) (fun K hK => ?_)
      refine goes_ Try.func33 (by kernel_rfl) rfl #[.agg #[.string ((rd_T37 l0 x10_1).f0), .int .i64 ((rd_T37 l0 x10_1).f1), .int .i64 ((rd_T37 l0 x10_1).f2.f0), .int .i64 ((rd_T37 l0 x10_1).f2.f1), .int .i64 ((rd_T37 l0 x10_1).f2.f2), .int .i64 ((rd_T37 l0 x10_1).f3), .int .i64 ((rd_T37 l0 x10_1).f4), .int .i64 ((rd_T37 l0 x10_1).f5)], .agg #[.int .i64 a1_0, .int .i64 a1_1, .int .i64 a1_2, .int .i64 a1_3, .int .i64 a1_4, .int .i64 a1_5], .int .i64 a2, .int .i64 a3] (by rfl) rfl rfl (by (try simp only [List.map_toArray, List.map_cons, List.map_nil]); first | done | rfl | (simp only [List.length_drop, List.length_take]; rfl)) ?_
      with_reducible refine (gangsawref29_able.calls ((rd_T37 l0 x10_1).f0) ((rd_T37 l0 x10_1).f1) ((rd_T37 l0 x10_1).f2.f0) ((rd_T37 l0 x10_1).f2.f1) ((rd_T37 l0 x10_1).f2.f2) ((rd_T37 l0 x10_1).f3) ((rd_T37 l0 x10_1).f4) ((rd_T37 l0 x10_1).f5) a1_0 a1_1 a1_2 a1_3 a1_4 a1_5 a2 a3 t210 _ A8.out).mono ?_
      rintro e w36 ⟨rfl, hb⟩
      refine ⟨_, rfl, ?_⟩
      have n0_ := Aside0.mk (blk_below (g := gb208) (o := .cells #[.int .i64 a1_0, .int .i64 a1_1, .int .i64 a1_2, .int .i64 a1_3, .int .i64 a1_4, .int .i64 a1_5] 30 (0, 0)) (by (with_reducible repeat (first | refine blk_drewN ?_ _ | refine blk_drew ?_ | refine blk_alloc ?_ _)); exact BK208.out) hb)
      have n1_ := Aside0.mk (below_step (by repeat (first | (with_reducible first | exact HB.out | apply below_alloc | apply pw_below_drewN | apply below_drew1 | refine below_set ?_ GE208.out) | exact HB.out)) hb)
      clear BK208
      clear HB
      have BK208 := n0_
      have HB := n1_
      clear n0_ n1_
      (try clear hb)
      (try clear hb2)
      (try clear hk)
      (try clear hi)
      refine hK.out _ _ ⟨(blk_cell BK208.out 0).trans rfl, (blk_cell BK208.out 1).trans rfl, (blk_cell BK208.out 2).trans rfl, (blk_cell BK208.out 3).trans rfl, (blk_cell BK208.out 4).trans rfl, (blk_cell BK208.out 5).trans rfl, ((HB.out.cell (World.block_lt_of_cell? w _ hw209_0)).trans hw209_0), ((HB.out.cell (World.block_lt_of_cell? w _ hw209_1)).trans hw209_1), ((HB.out.cell (World.block_lt_of_cell? w _ hw209_2)).trans hw209_2), ((HB.out.cell (World.block_lt_of_cell? w _ hw209_3)).trans hw209_3), ((HB.out.cell (World.block_lt_of_cell? w _ hw209_4)).trans hw209_4), ((HB.out.cell (World.block_lt_of_cell? w _ hw209_5)).trans hw209_5), ((HB.out.cell (World.block_lt_of_cell? w _ hw209_6)).trans hw209_6), ((HB.out.cell (World.block_lt_of_cell? w _ hw209_7)).trans hw209_7)⟩ (fun hHeld => ?_)
      clear hK K
      refine norm_ (a' := ?_) ?_ ?_
      rotate_left
      ·show Act.put _ (some 24) _ = _
       simp only [Act.put, List.setIfInBounds_toArray, List.set_cons_zero, List.set_cons_succ, i64_w, i32_w]
       rfl
      refine pure_ (i := 8) (N := some 25) (v := ?_) (a' := ?_) #[true, true, true, true, true, true, true, true, true] rfl rfl (any_of HT_.out (by kernel_rfl)) (fun _ _ _ h => h) (Or.inl ⟨by rfl, ?_⟩) ?_ ?_
      rotate_left
      ·intro w'
       go_simp
       with_reducible rfl
      rotate_left
      ·simp only [Act.put, List.setIfInBounds_toArray, List.set_cons_zero, List.set_cons_succ, i64_w, i32_w]
       rfl
      refine done_ (done_of HT_.out (by kernel_rfl)) ?_
      try go_wp2
      go_roundg k1
      case measure => have := HK1.out; omega
      case rel => exact ⟨(x9_1), (wrap64 (x10_1 + 1)), (by first | rfl | (simp; done) | (simp [*]; done)), (by first | rfl | (simp; done) | (simp [*]; done)), H', ⟨by have := HK1.out; omega⟩, ⟨by (with_reducible repeat (first | refine blk_drewN ?_ _ | refine blk_drew ?_ | refine blk_alloc ?_ _)); exact BK208.out⟩, ⟨by repeat (first | (with_reducible first | exact HB.out | apply below_alloc | apply pw_below_drewN | apply below_drew1 | refine below_set ?_ GE208.out) | exact HB.out)⟩⟩
    ·rw [if_neg c7] at H
     exact absurd H (by simp)
   ·rw [if_neg c6] at H
    have c6b0 : decide (x10_1 < (l0.length : Int)) = false := decide_eq_false c6
    clear c6
    obtain rfl := Option.some.inj H
    simp only [Option.some.injEq, Prod.mk.injEq] at H
    obtain ⟨rfl⟩ := H
    go_wp2
    go_ret
    exact ⟨by first | rfl | (simp [errW_none, errW_some] <;> rfl) | (simp [*, errW_none, errW_some] <;> rfl), by repeat (first | (with_reducible first | exact HB.out | apply below_alloc | apply pw_below_drewN | apply below_drew1 | refine below_set ?_ GE208.out) | exact HB.out)⟩

end Go.Proofs.Ytlbpdhjdlnhciaa.P
