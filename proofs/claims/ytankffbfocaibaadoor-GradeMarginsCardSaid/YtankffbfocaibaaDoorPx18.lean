/- What functions of the program return: each contract says so of one function, for every input at which its pure function yields. -/
import Derived.Test.YtankffbfocaibaaDoorPx0
import Derived.Test.YtankffbfocaibaaDoorPx13
import Derived.Test.YtankffbfocaibaaDoorPx15
import Derived.Test.YtankffbfocaibaaDoorPx17
import Derived.Test.YtankffbfocaibaaDoorAwk
namespace Go.Proofs.YtankffbfocaibaaDoor.P
open Go.RowKit Go.Proofs.YtankffbfocaibaaDoorW.PrintWords Go.Proofs.YtankffbfocaibaaDoorW.PrintLast Go.Proofs.YtankffbfocaibaaDoorW.PrintMore
attribute [local go_sem] max2_int min2_int max_two min_two max_three min_three max_four min_four   -- for this text's walks alone
set_option linter.unusedVariables false
set_option linter.unusedSimpArgs false

open Go.Proofs.YtankffbfocaibaaDoor.Awk
mutual
def gangsawlaw34_GradeMargins.j0 : Nat → List (S46) → Bool → ByteArray → Int → Int → Int → Option (Bool)
 | 0, _, _, _, _, _, _ => none
 | k + 1, x1, x30, x287000, x287001, x287002, x287003 => if x30 = true then (some true) else ((grade_Fails.f k x287000 x287001 x287002 x287003 x1).bind fun bt288 => ((gangsawref34_Fails.f k x287000 x287001 x287002 x287003 x1).bind fun bt292 => ((grade_Margin.f k x287000 x287001 x287002 x287003 x1).bind fun bt296 => ((gangsawref34_Margin.f k x287000 x287001 x287002 x287003 x1).bind fun bt299 => (if bt288.2 = bt292.2 then (if bt296.2.2 = bt299.2.2 then (if bt296.1 = bt299.1 then (if bt296.2.1 = bt299.2.1 then (gangsawlaw34_GradeMargins.j1 k bt288.1 bt292.1 ((bt288.1.length : Int) != (bt292.1.length : Int))) else (gangsawlaw34_GradeMargins.j1 k bt288.1 bt292.1 true)) else (gangsawlaw34_GradeMargins.j1 k bt288.1 bt292.1 true)) else (gangsawlaw34_GradeMargins.j1 k bt288.1 bt292.1 true)) else (gangsawlaw34_GradeMargins.j1 k bt288.1 bt292.1 true))))))
def gangsawlaw34_GradeMargins.j1 : Nat → List Int → List Int → Bool → Option (Bool)
 | 0, _, _, _ => none
 | k + 1, x5, x7, x81 => if x81 = true then (some false) else (gangsawlaw34_GradeMargins.l0 k x5 x7 0)
def gangsawlaw34_GradeMargins.l0 : Nat → List Int → List Int → Int → Option (Bool)
 | 0, _, _, _ => none
 | k + 1, x5, x7, x15 => if x15 < (x5.length : Int) then (if 0 ≤ x15 then (if x15 < (x7.length : Int) then (if (rd x5 x15) = (rd x7 x15) then (gangsawlaw34_GradeMargins.l0 k x5 x7 (wrap64 (x15 + 1))) else (some false)) else (none)) else (none)) else (some true)
end
def gangsawlaw34_GradeMargins.f (k : Nat) (a0_0 : ByteArray) (a0_1 : Int) (a0_2 : Int) (a0_3 : Int) (l1 : List (S46)) : Option (Bool) := (gangsawlaw34_awake.f).bind fun t287 => (if t287 = true then (if (l1.length : Int) > 40 then (if (l1.length : Int) ≤ 256 then (gangsawlaw34_GradeMargins.j0 k l1 true a0_0 a0_1 a0_2 a0_3) else (gangsawlaw34_GradeMargins.j0 k l1 (decide ((l1.length : Int) > 300)) a0_0 a0_1 a0_2 a0_3)) else (gangsawlaw34_GradeMargins.j0 k l1 (decide ((l1.length : Int) > 300)) a0_0 a0_1 a0_2 a0_3)) else (some false))
theorem gangsawlaw34_GradeMargins.mono_l : ∀ k, (∀ y0 y1 y2 y3 y4 y5, LeO (gangsawlaw34_GradeMargins.j0 k y0 y1 y2 y3 y4 y5) (gangsawlaw34_GradeMargins.j0 (k + 1) y0 y1 y2 y3 y4 y5)) ∧ (∀ y0 y1 y2, LeO (gangsawlaw34_GradeMargins.j1 k y0 y1 y2) (gangsawlaw34_GradeMargins.j1 (k + 1) y0 y1 y2)) ∧ (∀ y0 y1 y2, LeO (gangsawlaw34_GradeMargins.l0 k y0 y1 y2) (gangsawlaw34_GradeMargins.l0 (k + 1) y0 y1 y2))
 | 0 => ⟨fun _ _ _ _ _ _ r h => by simp [gangsawlaw34_GradeMargins.j0] at h, fun _ _ _ r h => by simp [gangsawlaw34_GradeMargins.j1] at h, fun _ _ _ r h => by simp [gangsawlaw34_GradeMargins.l0] at h⟩
 | k + 1 => by
  obtain ⟨ih0, ih1, ih2⟩ := gangsawlaw34_GradeMargins.mono_l k
  refine ⟨?_, ?_, ?_⟩
  ·intro y0 y1 y2 y3 y4 y5
   unfold gangsawlaw34_GradeMargins.j0
   repeat' first
   | (with_reducible exact ih0 _ _ _ _ _ _)
   | (with_reducible exact ih1 _ _ _)
   | (with_reducible exact ih2 _ _ _)
   | (with_reducible exact gangsawref34_Fails.mono _ _ _ _ _ _)
   | (with_reducible exact gangsawref34_Margin.mono _ _ _ _ _ _)
   | (with_reducible exact grade_Fails.mono _ _ _ _ _ _)
   | (with_reducible exact grade_Margin.mono _ _ _ _ _ _)
   | (with_reducible refine contains32.mono2 (fun x_ => ?_))
   | (with_reducible refine contains46.mono2 (fun x_ => ?_))
   | (with_reducible refine index32.mono2 (fun x_ => ?_))
   | (with_reducible refine index46.mono2 (fun x_ => ?_))
   | (with_reducible exact LeO.refl _)
   | (with_reducible exact LeO.none _)
   | (with_reducible refine LeO.ite ?_ ?_)
   | (with_reducible refine LeO.bind ?_ (fun _ => ?_))
   | exact ih0 _ _ _ _ _ _
   | exact ih1 _ _ _
   | exact ih2 _ _ _
   | exact gangsawref34_Fails.mono _ _ _ _ _ _
   | exact gangsawref34_Margin.mono _ _ _ _ _ _
   | exact grade_Fails.mono _ _ _ _ _ _
   | exact grade_Margin.mono _ _ _ _ _ _
   | exact LeO.none _
   | refine LeO.ite ?_ ?_
   | refine LeO.bind ?_ (fun _ => ?_)
  ·intro y0 y1 y2
   unfold gangsawlaw34_GradeMargins.j1
   repeat' first
   | (with_reducible exact ih0 _ _ _ _ _ _)
   | (with_reducible exact ih1 _ _ _)
   | (with_reducible exact ih2 _ _ _)
   | (with_reducible exact gangsawref34_Fails.mono _ _ _ _ _ _)
   | (with_reducible exact gangsawref34_Margin.mono _ _ _ _ _ _)
   | (with_reducible exact grade_Fails.mono _ _ _ _ _ _)
   | (with_reducible exact grade_Margin.mono _ _ _ _ _ _)
   | (with_reducible refine contains32.mono2 (fun x_ => ?_))
   | (with_reducible refine contains46.mono2 (fun x_ => ?_))
   | (with_reducible refine index32.mono2 (fun x_ => ?_))
   | (with_reducible refine index46.mono2 (fun x_ => ?_))
   | (with_reducible exact LeO.refl _)
   | (with_reducible exact LeO.none _)
   | (with_reducible refine LeO.ite ?_ ?_)
   | (with_reducible refine LeO.bind ?_ (fun _ => ?_))
   | exact ih0 _ _ _ _ _ _
   | exact ih1 _ _ _
   | exact ih2 _ _ _
   | exact gangsawref34_Fails.mono _ _ _ _ _ _
   | exact gangsawref34_Margin.mono _ _ _ _ _ _
   | exact grade_Fails.mono _ _ _ _ _ _
   | exact grade_Margin.mono _ _ _ _ _ _
   | exact LeO.none _
   | refine LeO.ite ?_ ?_
   | refine LeO.bind ?_ (fun _ => ?_)
  ·intro y0 y1 y2
   unfold gangsawlaw34_GradeMargins.l0
   repeat' first
   | (with_reducible exact ih0 _ _ _ _ _ _)
   | (with_reducible exact ih1 _ _ _)
   | (with_reducible exact ih2 _ _ _)
   | (with_reducible exact gangsawref34_Fails.mono _ _ _ _ _ _)
   | (with_reducible exact gangsawref34_Margin.mono _ _ _ _ _ _)
   | (with_reducible exact grade_Fails.mono _ _ _ _ _ _)
   | (with_reducible exact grade_Margin.mono _ _ _ _ _ _)
   | (with_reducible refine contains32.mono2 (fun x_ => ?_))
   | (with_reducible refine contains46.mono2 (fun x_ => ?_))
   | (with_reducible refine index32.mono2 (fun x_ => ?_))
   | (with_reducible refine index46.mono2 (fun x_ => ?_))
   | (with_reducible exact LeO.refl _)
   | (with_reducible exact LeO.none _)
   | (with_reducible refine LeO.ite ?_ ?_)
   | (with_reducible refine LeO.bind ?_ (fun _ => ?_))
   | exact ih0 _ _ _ _ _ _
   | exact ih1 _ _ _
   | exact ih2 _ _ _
   | exact gangsawref34_Fails.mono _ _ _ _ _ _
   | exact gangsawref34_Margin.mono _ _ _ _ _ _
   | exact grade_Fails.mono _ _ _ _ _ _
   | exact grade_Margin.mono _ _ _ _ _ _
   | exact LeO.none _
   | refine LeO.ite ?_ ?_
   | refine LeO.bind ?_ (fun _ => ?_)
theorem gangsawlaw34_GradeMargins.mono : ∀ a0 a1 a2 a3 a4 k, LeO (gangsawlaw34_GradeMargins.f k a0 a1 a2 a3 a4) (gangsawlaw34_GradeMargins.f (k + 1) a0 a1 a2 a3 a4) := by
 intro a0 a1 a2 a3 a4 k
 obtain ⟨ih0, ih1, ih2⟩ := gangsawlaw34_GradeMargins.mono_l k
 unfold gangsawlaw34_GradeMargins.f
 repeat' first
   | (with_reducible exact ih0 _ _ _ _ _ _)
   | (with_reducible exact ih1 _ _ _)
   | (with_reducible exact ih2 _ _ _)
   | (with_reducible exact gangsawref34_Fails.mono _ _ _ _ _ _)
   | (with_reducible exact gangsawref34_Margin.mono _ _ _ _ _ _)
   | (with_reducible exact grade_Fails.mono _ _ _ _ _ _)
   | (with_reducible exact grade_Margin.mono _ _ _ _ _ _)
   | (with_reducible refine contains32.mono2 (fun x_ => ?_))
   | (with_reducible refine contains46.mono2 (fun x_ => ?_))
   | (with_reducible refine index32.mono2 (fun x_ => ?_))
   | (with_reducible refine index46.mono2 (fun x_ => ?_))
   | (with_reducible exact LeO.refl _)
   | (with_reducible exact LeO.none _)
   | (with_reducible refine LeO.ite ?_ ?_)
   | (with_reducible refine LeO.bind ?_ (fun _ => ?_))
   | exact ih0 _ _ _ _ _ _
   | exact ih1 _ _ _
   | exact ih2 _ _ _
   | exact gangsawref34_Fails.mono _ _ _ _ _ _
   | exact gangsawref34_Margin.mono _ _ _ _ _ _
   | exact grade_Fails.mono _ _ _ _ _ _
   | exact grade_Margin.mono _ _ _ _ _ _
   | exact LeO.none _
   | refine LeO.ite ?_ ?_
   | refine LeO.bind ?_ (fun _ => ?_)
set_option maxHeartbeats 8000000 in
set_option maxRecDepth 100000 in
theorem gangsawlaw34_GradeMargins.calls (k : Nat) (a0_0 : ByteArray) (a0_1 : Int) (a0_2 : Int) (a0_3 : Int) (A1 : Option Addr) (c1 : Nat) (l1 : List (S46)) (r : Bool) (w : World) (hr1 : Kd.C k46 w A1 l1.length l1) (hc1 : l1.length ≤ c1) (h : gangsawlaw34_GradeMargins.f k a0_0 a0_1 a0_2 a0_3 l1 = some r) (hr : r = true) (hld : FormAt w) :
  Calls Tryd.prog 4 #[.agg #[.string a0_0, .int .i64 a0_1, .int .i64 a0_2, .int .i64 a0_3], .slice A1 l1.length c1] w fun e w' => e = .returned (.bool r) ∧ Below w.heap.size w w' := by
 have HLD := Aside0.mk hld
 clear hld
 have hu32 := Tryd.underlying32
 have HR1 := Aside0.mk hr1
 have HC1 := Aside0.mk hc1
 clear hr1 hc1
 have HB := Aside0.mk (Below.refl w.heap.size w)
 have H : ((gangsawlaw34_awake.f).bind fun t287 => (if t287 = true then (if (l1.length : Int) > 40 then (if (l1.length : Int) ≤ 256 then (gangsawlaw34_GradeMargins.j0 k l1 true a0_0 a0_1 a0_2 a0_3) else (gangsawlaw34_GradeMargins.j0 k l1 (decide ((l1.length : Int) > 300)) a0_0 a0_1 a0_2 a0_3)) else (gangsawlaw34_GradeMargins.j0 k l1 (decide ((l1.length : Int) > 300)) a0_0 a0_1 a0_2 a0_3)) else (some false))) = some r := h
 clear h
 replace H := Option.bind_eq_some_iff.mp H
 obtain ⟨t287, A30, H⟩ := H
 replace H : (if t287 = true then (if (l1.length : Int) > 40 then (if (l1.length : Int) ≤ 256 then (gangsawlaw34_GradeMargins.j0 k l1 true a0_0 a0_1 a0_2 a0_3) else (gangsawlaw34_GradeMargins.j0 k l1 (decide ((l1.length : Int) > 300)) a0_0 a0_1 a0_2 a0_3)) else (gangsawlaw34_GradeMargins.j0 k l1 (decide ((l1.length : Int) > 300)) a0_0 a0_1 a0_2 a0_3)) else (some false)) = some r := H
 have A3 := Aside0.mk A30
 clear A30
 by_cases c4 : t287 = true
 ·subst c4
  have H1 : (if (l1.length : Int) > 40 then (if (l1.length : Int) ≤ 256 then (gangsawlaw34_GradeMargins.j0 k l1 true a0_0 a0_1 a0_2 a0_3) else (gangsawlaw34_GradeMargins.j0 k l1 (decide ((l1.length : Int) > 300)) a0_0 a0_1 a0_2 a0_3)) else (gangsawlaw34_GradeMargins.j0 k l1 (decide ((l1.length : Int) > 300)) a0_0 a0_1 a0_2 a0_3)) = some r := by rw [if_pos rfl] at H; exact H
  clear H
  have H := H1
  clear H1
  have HC5 := Aside0.mk H
  clear H
  go_enter Tryd.func4, Tryd.ntmps4
  go_upto_region 3 with (first | ((with_reducible refine gate_dst (N := 2) rfl ?_); (try (refine gate_guard (by rfl) ?_; dsimp only)); refine box_event ?hg (N := 2) ?hd (cs := #[.string a0_0, .int .i64 a0_1, .int .i64 a0_2, .int .i64 a0_3]) (t := 32) ?hr ?_; (case hd => rfl); (case hg => rfl); (case hr => first | (go_simp; done) | (go_simp; rfl)); intro gb286 hg w6 hbox hb; have n0_ := Aside0.mk (below_step (by repeat (first | (with_reducible first | exact HB.out | apply below_alloc | apply pw_below_drewN | apply below_drew1) | exact HB.out)) hb); have n1_ := Aside0.mk (hbox); have n2_ := Aside0.mk ((by rw [hg]; exact (below_size (by repeat (first | (with_reducible first | exact HB.out | apply below_alloc | apply pw_below_drewN | apply below_drew1) | exact HB.out))) : w.heap.size ≤ gb286)); have n3_ := Aside0.mk ((by rw [hg]; exact (below_size (by repeat (first | (with_reducible first | exact HB.out | apply below_alloc | apply pw_below_drewN | apply below_drew1) | exact HB.out))) : w.heap.size ≤ gb286)); clear HB; have HB := n0_; have BK286 := n1_; have GW286 := n2_; have GE286 := n3_; clear n0_ n1_ n2_ n3_; clear hb hbox hg) | (go_at_call 9; (with_reducible refine (gangsawlaw34_awake.callsL HLD.out true _ (by repeat (first | (with_reducible first | exact HB.out | apply below_alloc | apply pw_below_drewN | apply below_drew1) | exact HB.out)) A3.out).mono ?_); rintro e w7 ⟨rfl, hb⟩; have n0_ := Aside0.mk (blk_below (g := gb286) (o := .cells #[.string a0_0, .int .i64 a0_1, .int .i64 a0_2, .int .i64 a0_3] 32 (0, 0)) (by (with_reducible repeat (first | refine blk_drewN ?_ _ | refine blk_drew ?_ | refine blk_alloc ?_ _)); exact BK286.out) hb); have n1_ := Aside0.mk (below_step (by repeat (first | (with_reducible first | exact HB.out | apply below_alloc | apply pw_below_drewN | apply below_drew1 | refine below_set ?_ GE286.out) | exact HB.out)) hb); clear BK286; clear HB; have BK286 := n0_; have HB := n1_; clear n0_ n1_; (try clear hb); (try clear hb2); (try clear hk); (try clear hi)))
  (try simp only [Act.put, List.setIfInBounds_toArray, List.set_cons_zero, List.set_cons_succ])
  go_cut [30] (fun v30 wc => ∃ (kq : Nat) (x30_4 : Bool), v30 = .bool x30_4 ∧ Aside0 (gangsawlaw34_GradeMargins.j0 kq l1 x30_4 a0_0 a0_1 a0_2 a0_3 = some r) ∧ Aside0 (kq ≤ k) ∧ Aside0 (wc.heap[gb286]? = some (.cells #[.string a0_0, .int .i64 a0_1, .int .i64 a0_2, .int .i64 a0_3] 32 (0, 0))) ∧ Aside0 (Below w.heap.size w wc))
  case first =>
   have H := HC5.out
   clear HC5
   by_cases c8 : (l1.length : Int) > 40
   ·rw [if_pos c8] at H
    have c8b0 : decide (40 < (l1.length : Int)) = true := decide_eq_true c8
    have c8b1 : decide (40 < l1.length) = true := decide_eq_true (by omega)
    clear c8
    (first | rw [c8b0] | (simp only [i64_w, i32_w]; rw [c8b0]) | skip)
    by_cases c9 : (l1.length : Int) ≤ 256
    ·rw [if_pos c9] at H
     have c9b0 : decide ((l1.length : Int) ≤ 256) = true := decide_eq_true c9
     have c9b1 : decide (l1.length ≤ 256) = true := decide_eq_true (by omega)
     clear c9
     have H' := Aside0.mk H
     clear H
     go_wp2
     go_meet
     case rel => exact ⟨_, (true), (by first | rfl | (simp; done) | (simp [*]; done)), H', ⟨by first | omega | exact Nat.le_refl _⟩, ⟨by (with_reducible repeat (first | refine blk_drewN ?_ _ | refine blk_drew ?_ | refine blk_alloc ?_ _)); exact BK286.out⟩, ⟨by repeat (first | (with_reducible first | exact HB.out | apply below_alloc | apply pw_below_drewN | apply below_drew1 | refine below_set ?_ GE286.out) | exact HB.out)⟩⟩
    ·rw [if_neg c9] at H
     have c9b0 : decide ((l1.length : Int) ≤ 256) = false := decide_eq_false c9
     have c9b1 : decide (l1.length ≤ 256) = false := decide_eq_false (by omega)
     clear c9
     have H' := Aside0.mk H
     clear H
     go_wp2
     go_meet
     case rel => exact ⟨_, (decide ((l1.length : Int) > 300)), (by first | rfl | (simp; done) | (simp [*]; done)), H', ⟨by first | omega | exact Nat.le_refl _⟩, ⟨by (with_reducible repeat (first | refine blk_drewN ?_ _ | refine blk_drew ?_ | refine blk_alloc ?_ _)); exact BK286.out⟩, ⟨by repeat (first | (with_reducible first | exact HB.out | apply below_alloc | apply pw_below_drewN | apply below_drew1 | refine below_set ?_ GE286.out) | exact HB.out)⟩⟩
   ·rw [if_neg c8] at H
    have c8b0 : decide (40 < (l1.length : Int)) = false := decide_eq_false c8
    have c8b1 : decide (40 < l1.length) = false := decide_eq_false (by omega)
    clear c8
    (first | rw [c8b0] | (simp only [i64_w, i32_w]; rw [c8b0]) | skip)
    have H' := Aside0.mk H
    clear H
    go_wp2
    go_meet
    case rel => exact ⟨_, (decide ((l1.length : Int) > 300)), (by first | rfl | (simp; done) | (simp [*]; done)), H', ⟨by first | omega | exact Nat.le_refl _⟩, ⟨by (with_reducible repeat (first | refine blk_drewN ?_ _ | refine blk_drew ?_ | refine blk_alloc ?_ _)); exact BK286.out⟩, ⟨by repeat (first | (with_reducible first | exact HB.out | apply below_alloc | apply pw_below_drewN | apply below_drew1 | refine below_set ?_ GE286.out) | exact HB.out)⟩⟩
  case rest =>
   clear HC5
   try clear c1
   try clear p2
   try clear c4
   try clear c8
   try clear c8b0
   try clear c8b1
   try clear c9
   try clear c9b0
   try clear c9b1
   obtain ⟨kq, x30_4, rfl, HA, HJ4, BK286, HB⟩ := hcut
   cases kq with
   | zero => exact absurd HA.out (by simp [gangsawlaw34_GradeMargins.j0])
   | succ kj4 =>
    have H := HA.out
    clear HA
    simp only [gangsawlaw34_GradeMargins.j0] at H
    by_cases c10 : x30_4 = true
    ·subst c10
     have H1 : (some true) = some r := by rw [if_pos rfl] at H; exact H
     clear H
     have H := H1
     clear H1
     obtain rfl := Option.some.inj H
     simp only [Option.some.injEq, Prod.mk.injEq] at H
     obtain ⟨rfl⟩ := H
     go_wp2
     go_ret
     exact ⟨by first | rfl | (simp [errW_none, errW_some] <;> rfl) | (simp [*, errW_none, errW_some] <;> rfl), by repeat (first | (with_reducible first | exact HB.out | apply below_alloc | apply pw_below_drewN | apply below_drew1 | refine below_set ?_ GE286.out) | exact HB.out)⟩
    ·replace c10 := Bool.eq_false_iff.mpr c10
     subst c10
     have H1 : ((grade_Fails.f kj4 a0_0 a0_1 a0_2 a0_3 l1).bind fun bt288 => ((gangsawref34_Fails.f kj4 a0_0 a0_1 a0_2 a0_3 l1).bind fun bt292 => ((grade_Margin.f kj4 a0_0 a0_1 a0_2 a0_3 l1).bind fun bt296 => ((gangsawref34_Margin.f kj4 a0_0 a0_1 a0_2 a0_3 l1).bind fun bt299 => (if bt288.2 = bt292.2 then (if bt296.2.2 = bt299.2.2 then (if bt296.1 = bt299.1 then (if bt296.2.1 = bt299.2.1 then (gangsawlaw34_GradeMargins.j1 kj4 bt288.1 bt292.1 ((bt288.1.length : Int) != (bt292.1.length : Int))) else (gangsawlaw34_GradeMargins.j1 kj4 bt288.1 bt292.1 true)) else (gangsawlaw34_GradeMargins.j1 kj4 bt288.1 bt292.1 true)) else (gangsawlaw34_GradeMargins.j1 kj4 bt288.1 bt292.1 true)) else (gangsawlaw34_GradeMargins.j1 kj4 bt288.1 bt292.1 true)))))) = some r := by rw [if_neg (show ¬ (false = true) by decide)] at H; exact H
     clear H
     have H := H1
     clear H1
     replace H := Option.bind_eq_some_iff.mp H
     obtain ⟨⟨t288, t291⟩, A110, H⟩ := H
     replace H : ((gangsawref34_Fails.f kj4 a0_0 a0_1 a0_2 a0_3 l1).bind fun bt292 => ((grade_Margin.f kj4 a0_0 a0_1 a0_2 a0_3 l1).bind fun bt296 => ((gangsawref34_Margin.f kj4 a0_0 a0_1 a0_2 a0_3 l1).bind fun bt299 => (if t291 = bt292.2 then (if bt296.2.2 = bt299.2.2 then (if bt296.1 = bt299.1 then (if bt296.2.1 = bt299.2.1 then (gangsawlaw34_GradeMargins.j1 kj4 t288 bt292.1 ((t288.length : Int) != (bt292.1.length : Int))) else (gangsawlaw34_GradeMargins.j1 kj4 t288 bt292.1 true)) else (gangsawlaw34_GradeMargins.j1 kj4 t288 bt292.1 true)) else (gangsawlaw34_GradeMargins.j1 kj4 t288 bt292.1 true)) else (gangsawlaw34_GradeMargins.j1 kj4 t288 bt292.1 true))))) = some r := H
     have A11 := Aside0.mk A110
     clear A110
     replace H := Option.bind_eq_some_iff.mp H
     obtain ⟨⟨t292, t295⟩, A120, H⟩ := H
     replace H : ((grade_Margin.f kj4 a0_0 a0_1 a0_2 a0_3 l1).bind fun bt296 => ((gangsawref34_Margin.f kj4 a0_0 a0_1 a0_2 a0_3 l1).bind fun bt299 => (if t291 = t295 then (if bt296.2.2 = bt299.2.2 then (if bt296.1 = bt299.1 then (if bt296.2.1 = bt299.2.1 then (gangsawlaw34_GradeMargins.j1 kj4 t288 t292 ((t288.length : Int) != (t292.length : Int))) else (gangsawlaw34_GradeMargins.j1 kj4 t288 t292 true)) else (gangsawlaw34_GradeMargins.j1 kj4 t288 t292 true)) else (gangsawlaw34_GradeMargins.j1 kj4 t288 t292 true)) else (gangsawlaw34_GradeMargins.j1 kj4 t288 t292 true)))) = some r := H
     have A12 := Aside0.mk A120
     clear A120
     replace H := Option.bind_eq_some_iff.mp H
     obtain ⟨⟨t296, t297, t298⟩, A130, H⟩ := H
     replace H : ((gangsawref34_Margin.f kj4 a0_0 a0_1 a0_2 a0_3 l1).bind fun bt299 => (if t291 = t295 then (if t298 = bt299.2.2 then (if t296 = bt299.1 then (if t297 = bt299.2.1 then (gangsawlaw34_GradeMargins.j1 kj4 t288 t292 ((t288.length : Int) != (t292.length : Int))) else (gangsawlaw34_GradeMargins.j1 kj4 t288 t292 true)) else (gangsawlaw34_GradeMargins.j1 kj4 t288 t292 true)) else (gangsawlaw34_GradeMargins.j1 kj4 t288 t292 true)) else (gangsawlaw34_GradeMargins.j1 kj4 t288 t292 true))) = some r := H
     have A13 := Aside0.mk A130
     clear A130
     replace H := Option.bind_eq_some_iff.mp H
     obtain ⟨⟨t299, t300, t301⟩, A140, H⟩ := H
     replace H : (if t291 = t295 then (if t298 = t301 then (if t296 = t299 then (if t297 = t300 then (gangsawlaw34_GradeMargins.j1 kj4 t288 t292 ((t288.length : Int) != (t292.length : Int))) else (gangsawlaw34_GradeMargins.j1 kj4 t288 t292 true)) else (gangsawlaw34_GradeMargins.j1 kj4 t288 t292 true)) else (gangsawlaw34_GradeMargins.j1 kj4 t288 t292 true)) else (gangsawlaw34_GradeMargins.j1 kj4 t288 t292 true)) = some r := H
     have A14 := Aside0.mk A140
     clear A140
     have HC15 := Aside0.mk H
     clear H
     have hcz16_0 : wc.cell? ⟨gb286, 0, none⟩ = some (.string a0_0) := (blk_cell BK286.out 0).trans rfl
     have hcz16_1 : wc.cell? ⟨gb286, 1, none⟩ = some (.int .i64 a0_1) := (blk_cell BK286.out 1).trans rfl
     have hcz16_2 : wc.cell? ⟨gb286, 2, none⟩ = some (.int .i64 a0_2) := (blk_cell BK286.out 2).trans rfl
     have hcz16_3 : wc.cell? ⟨gb286, 3, none⟩ = some (.int .i64 a0_3) := (blk_cell BK286.out 3).trans rfl
     have hfz16_0 := blk_frozen BK286.out 0
     have hfz16_1 := blk_frozen BK286.out 1
     have hfz16_2 := blk_frozen BK286.out 2
     have hfz16_3 := blk_frozen BK286.out 3
     go_upto_region 9 with (first | (go_at_call 16; (with_reducible refine (grade_Fails.calls kj4 a0_0 a0_1 a0_2 a0_3 _ _ l1 t288 t291 _ ?side1 ?side2 A11.out).mono ?_); (case side1 => repeat (first | exact (Kd.C_below HR1.out HB.out) | (with_reducible refine Kd.C_alloc ?_ _) | (with_reducible refine Kd.C_drewN ?_ _) | (with_reducible refine Kd.C_drew ?_))); (case side2 => exact HC1.out); rintro e w17 ⟨v289, rfl, ho0, hb⟩; have n0_ := Aside0.mk (Kd.R_lower ho0 (below_size (by repeat (first | (with_reducible first | exact HB.out | apply below_alloc | apply pw_below_drewN | apply below_drew1 | refine below_set ?_ GE286.out) | exact HB.out)))); have n1_ := Aside0.mk (blk_below (g := gb286) (o := .cells #[.string a0_0, .int .i64 a0_1, .int .i64 a0_2, .int .i64 a0_3] 32 (0, 0)) (by (with_reducible repeat (first | refine blk_drewN ?_ _ | refine blk_drew ?_ | refine blk_alloc ?_ _)); exact BK286.out) hb); have n2_ := Aside0.mk (below_step (by repeat (first | (with_reducible first | exact HB.out | apply below_alloc | apply pw_below_drewN | apply below_drew1 | refine below_set ?_ GE286.out) | exact HB.out)) hb); clear BK286; clear HB; have HO290 := n0_; have BK286 := n1_; have HB := n2_; clear n0_ n1_ n2_; (try clear hb); (try clear hb2); (try clear hk); (try clear hi); (try clear ho0); have hcz18_0 : w17.cell? ⟨gb286, 0, none⟩ = some (.string a0_0) := (blk_cell BK286.out 0).trans rfl; have hcz18_1 : w17.cell? ⟨gb286, 1, none⟩ = some (.int .i64 a0_1) := (blk_cell BK286.out 1).trans rfl; have hcz18_2 : w17.cell? ⟨gb286, 2, none⟩ = some (.int .i64 a0_2) := (blk_cell BK286.out 2).trans rfl; have hcz18_3 : w17.cell? ⟨gb286, 3, none⟩ = some (.int .i64 a0_3) := (blk_cell BK286.out 3).trans rfl; have hfz18_0 := blk_frozen BK286.out 0; have hfz18_1 := blk_frozen BK286.out 1; have hfz18_2 := blk_frozen BK286.out 2; have hfz18_3 := blk_frozen BK286.out 3) | (go_at_call 17; (with_reducible refine (gangsawref34_Fails.calls kj4 a0_0 a0_1 a0_2 a0_3 _ _ l1 t292 t295 _ ?side1 ?side2 A12.out).mono ?_); (case side1 => repeat (first | exact (Kd.C_below HR1.out HB.out) | (with_reducible refine Kd.C_alloc ?_ _) | (with_reducible refine Kd.C_drewN ?_ _) | (with_reducible refine Kd.C_drew ?_))); (case side2 => exact HC1.out); rintro e w19 ⟨v293, rfl, ho0, hb⟩; have n0_ := Aside0.mk (Kd.R_elder' (by (with_reducible repeat (first | apply Kd.R_alloc | apply Kd.R_drewN | apply Kd.R_drew)); exact HO290.out) (Kd.R_base ho0) hb); have n1_ := Aside0.mk (Kd.R_lower (Kd.R_new' ho0 (Kd.R_lt (by (with_reducible repeat (first | apply Kd.R_alloc | apply Kd.R_drewN | apply Kd.R_drew)); exact HO290.out))) (below_size (by repeat (first | (with_reducible first | exact HB.out | apply below_alloc | apply pw_below_drewN | apply below_drew1 | refine below_set ?_ GE286.out) | exact HB.out)))); have n2_ := Aside0.mk (blk_below (g := gb286) (o := .cells #[.string a0_0, .int .i64 a0_1, .int .i64 a0_2, .int .i64 a0_3] 32 (0, 0)) (by (with_reducible repeat (first | refine blk_drewN ?_ _ | refine blk_drew ?_ | refine blk_alloc ?_ _)); exact BK286.out) hb); have n3_ := Aside0.mk (below_step (by repeat (first | (with_reducible first | exact HB.out | apply below_alloc | apply pw_below_drewN | apply below_drew1 | refine below_set ?_ GE286.out) | exact HB.out)) hb); clear HO290; clear BK286; clear HB; have HO290 := n0_; have HO294 := n1_; have BK286 := n2_; have HB := n3_; clear n0_ n1_ n2_ n3_; (try clear hb); (try clear hb2); (try clear hk); (try clear hi); (try clear ho0); have hcz20_0 : w19.cell? ⟨gb286, 0, none⟩ = some (.string a0_0) := (blk_cell BK286.out 0).trans rfl; have hcz20_1 : w19.cell? ⟨gb286, 1, none⟩ = some (.int .i64 a0_1) := (blk_cell BK286.out 1).trans rfl; have hcz20_2 : w19.cell? ⟨gb286, 2, none⟩ = some (.int .i64 a0_2) := (blk_cell BK286.out 2).trans rfl; have hcz20_3 : w19.cell? ⟨gb286, 3, none⟩ = some (.int .i64 a0_3) := (blk_cell BK286.out 3).trans rfl; have hfz20_0 := blk_frozen BK286.out 0; have hfz20_1 := blk_frozen BK286.out 1; have hfz20_2 := blk_frozen BK286.out 2; have hfz20_3 := blk_frozen BK286.out 3) | (go_at_call 18; (with_reducible refine (grade_Margin.calls kj4 a0_0 a0_1 a0_2 a0_3 _ _ l1 t296 t297 t298 _ ?side1 ?side2 A13.out).mono ?_); (case side1 => repeat (first | exact (Kd.C_below HR1.out HB.out) | (with_reducible refine Kd.C_alloc ?_ _) | (with_reducible refine Kd.C_drewN ?_ _) | (with_reducible refine Kd.C_drew ?_))); (case side2 => exact HC1.out); rintro e w21 ⟨rfl, hb⟩; have n0_ := Aside0.mk (Kd.R_below (by (with_reducible repeat (first | apply Kd.R_alloc | apply Kd.R_drewN | apply Kd.R_drew)); exact HO290.out) hb); have n1_ := Aside0.mk (Kd.R_below (by (with_reducible repeat (first | apply Kd.R_alloc | apply Kd.R_drewN | apply Kd.R_drew)); exact HO294.out) hb); have n2_ := Aside0.mk (blk_below (g := gb286) (o := .cells #[.string a0_0, .int .i64 a0_1, .int .i64 a0_2, .int .i64 a0_3] 32 (0, 0)) (by (with_reducible repeat (first | refine blk_drewN ?_ _ | refine blk_drew ?_ | refine blk_alloc ?_ _)); exact BK286.out) hb); have n3_ := Aside0.mk (below_step (by repeat (first | (with_reducible first | exact HB.out | apply below_alloc | apply pw_below_drewN | apply below_drew1 | refine below_set ?_ GE286.out) | exact HB.out)) hb); clear HO290; clear HO294; clear BK286; clear HB; have HO290 := n0_; have HO294 := n1_; have BK286 := n2_; have HB := n3_; clear n0_ n1_ n2_ n3_; (try clear hb); (try clear hb2); (try clear hk); (try clear hi); have hcz22_0 : w21.cell? ⟨gb286, 0, none⟩ = some (.string a0_0) := (blk_cell BK286.out 0).trans rfl; have hcz22_1 : w21.cell? ⟨gb286, 1, none⟩ = some (.int .i64 a0_1) := (blk_cell BK286.out 1).trans rfl; have hcz22_2 : w21.cell? ⟨gb286, 2, none⟩ = some (.int .i64 a0_2) := (blk_cell BK286.out 2).trans rfl; have hcz22_3 : w21.cell? ⟨gb286, 3, none⟩ = some (.int .i64 a0_3) := (blk_cell BK286.out 3).trans rfl; have hfz22_0 := blk_frozen BK286.out 0; have hfz22_1 := blk_frozen BK286.out 1; have hfz22_2 := blk_frozen BK286.out 2; have hfz22_3 := blk_frozen BK286.out 3) | (go_at_call 19; (with_reducible refine (gangsawref34_Margin.calls kj4 a0_0 a0_1 a0_2 a0_3 _ _ l1 t299 t300 t301 _ ?side1 ?side2 A14.out).mono ?_); (case side1 => repeat (first | exact (Kd.C_below HR1.out HB.out) | (with_reducible refine Kd.C_alloc ?_ _) | (with_reducible refine Kd.C_drewN ?_ _) | (with_reducible refine Kd.C_drew ?_))); (case side2 => exact HC1.out); rintro e w23 ⟨rfl, hb⟩; have n0_ := Aside0.mk (Kd.R_below (by (with_reducible repeat (first | apply Kd.R_alloc | apply Kd.R_drewN | apply Kd.R_drew)); exact HO290.out) hb); have n1_ := Aside0.mk (Kd.R_below (by (with_reducible repeat (first | apply Kd.R_alloc | apply Kd.R_drewN | apply Kd.R_drew)); exact HO294.out) hb); have n2_ := Aside0.mk (blk_below (g := gb286) (o := .cells #[.string a0_0, .int .i64 a0_1, .int .i64 a0_2, .int .i64 a0_3] 32 (0, 0)) (by (with_reducible repeat (first | refine blk_drewN ?_ _ | refine blk_drew ?_ | refine blk_alloc ?_ _)); exact BK286.out) hb); have n3_ := Aside0.mk (below_step (by repeat (first | (with_reducible first | exact HB.out | apply below_alloc | apply pw_below_drewN | apply below_drew1 | refine below_set ?_ GE286.out) | exact HB.out)) hb); clear HO290; clear HO294; clear BK286; clear HB; have HO290 := n0_; have HO294 := n1_; have BK286 := n2_; have HB := n3_; clear n0_ n1_ n2_ n3_; (try clear hb); (try clear hb2); (try clear hk); (try clear hi)))
     (try simp only [Act.put, List.setIfInBounds_toArray, List.set_cons_zero, List.set_cons_succ])
     go_cut [81] (fun v81 wc => ∃ (kq : Nat) (x81_14 : Bool), v81 = .bool x81_14 ∧ Aside0 (gangsawlaw34_GradeMargins.j1 kq t288 t292 x81_14 = some r) ∧ Aside0 (kq ≤ kj4) ∧ Aside0 (Kd.R (Kd.int .i64) 3 wc w.heap.size (fun k_ => some k_ ≠ (v293 : Value).ownBlock) v289 t288) ∧ Aside0 (Kd.R (Kd.int .i64) 3 wc w.heap.size (fun k_ => some k_ ≠ (v289 : Value).ownBlock) v293 t292) ∧ Aside0 (wc.heap[gb286]? = some (.cells #[.string a0_0, .int .i64 a0_1, .int .i64 a0_2, .int .i64 a0_3] 32 (0, 0))) ∧ Aside0 (Below w.heap.size w wc))
     case first =>
      have H := HC15.out
      clear HC15
      by_cases c24 : t291 = t295
      ·rw [if_pos c24] at H
       have c24b0 : (t291 == t295) = true := beq_iff_eq.mpr c24
       have c24b1 : (t291 != t295) = false := bne_eq_false_iff_eq.mpr c24
       clear c24
       (first | rw [c24b0] | (simp only [i64_w, i32_w]; rw [c24b0]) | skip)
       by_cases c25 : t298 = t301
       ·rw [if_pos c25] at H
        have c25b0 : (t298 == t301) = true := beq_iff_eq.mpr c25
        have c25b1 : (t298 != t301) = false := bne_eq_false_iff_eq.mpr c25
        clear c25
        by_cases c26 : t296 = t299
        ·rw [if_pos c26] at H
         have c26b0 : (t296 == t299) = true := beq_iff_eq.mpr c26
         have c26b1 : (t296 != t299) = false := bne_eq_false_iff_eq.mpr c26
         clear c26
         by_cases c27 : t297 = t300
         ·rw [if_pos c27] at H
          have c27b0 : (t297 == t300) = true := beq_iff_eq.mpr c27
          have c27b1 : (t297 != t300) = false := bne_eq_false_iff_eq.mpr c27
          clear c27
          have H' := Aside0.mk H
          clear H
          obtain ⟨Ao28, co28, eo28⟩ := Kd.R_slice HO290.out
          subst eo28
          obtain ⟨Ao29, co29, eo29⟩ := Kd.R_slice HO294.out
          subst eo29
          go_wp2
          go_meet
          case rel => exact ⟨_, (((t288.length : Int) != (t292.length : Int))), (by first | rfl | (simp; done) | (simp [*]; done)), H', ⟨by have := HJ4.out; first | omega | exact Nat.le_refl _⟩, ⟨by (with_reducible repeat (first | apply Kd.R_alloc | apply Kd.R_drewN | apply Kd.R_drew)); exact Kd.R_mono HO290.out (fun _ hk => hk.2)⟩, ⟨by (with_reducible repeat (first | apply Kd.R_alloc | apply Kd.R_drewN | apply Kd.R_drew)); exact Kd.R_mono HO294.out (fun _ hk => hk.2)⟩, ⟨by (with_reducible repeat (first | refine blk_drewN ?_ _ | refine blk_drew ?_ | refine blk_alloc ?_ _)); exact BK286.out⟩, ⟨by repeat (first | (with_reducible first | exact HB.out | apply below_alloc | apply pw_below_drewN | apply below_drew1 | refine below_set ?_ GE286.out) | exact HB.out)⟩⟩
         ·rw [if_neg c27] at H
          have c27b0 : (t297 == t300) = false := beq_eq_false_iff_ne.mpr c27
          have c27b1 : (t297 != t300) = true := bne_iff_ne.mpr c27
          have H' := Aside0.mk H
          clear H
          go_wp2
          go_meet
          case rel => exact ⟨_, (true), (by first | rfl | (simp; done) | (simp [*]; done)), H', ⟨by have := HJ4.out; first | omega | exact Nat.le_refl _⟩, ⟨by (with_reducible repeat (first | apply Kd.R_alloc | apply Kd.R_drewN | apply Kd.R_drew)); exact Kd.R_mono HO290.out (fun _ hk => hk.2)⟩, ⟨by (with_reducible repeat (first | apply Kd.R_alloc | apply Kd.R_drewN | apply Kd.R_drew)); exact Kd.R_mono HO294.out (fun _ hk => hk.2)⟩, ⟨by (with_reducible repeat (first | refine blk_drewN ?_ _ | refine blk_drew ?_ | refine blk_alloc ?_ _)); exact BK286.out⟩, ⟨by repeat (first | (with_reducible first | exact HB.out | apply below_alloc | apply pw_below_drewN | apply below_drew1 | refine below_set ?_ GE286.out) | exact HB.out)⟩⟩
        ·rw [if_neg c26] at H
         have c26b0 : (t296 == t299) = false := beq_eq_false_iff_ne.mpr c26
         have c26b1 : (t296 != t299) = true := bne_iff_ne.mpr c26
         have H' := Aside0.mk H
         clear H
         go_wp2
         go_meet
         case rel => exact ⟨_, (true), (by first | rfl | (simp; done) | (simp [*]; done)), H', ⟨by have := HJ4.out; first | omega | exact Nat.le_refl _⟩, ⟨by (with_reducible repeat (first | apply Kd.R_alloc | apply Kd.R_drewN | apply Kd.R_drew)); exact Kd.R_mono HO290.out (fun _ hk => hk.2)⟩, ⟨by (with_reducible repeat (first | apply Kd.R_alloc | apply Kd.R_drewN | apply Kd.R_drew)); exact Kd.R_mono HO294.out (fun _ hk => hk.2)⟩, ⟨by (with_reducible repeat (first | refine blk_drewN ?_ _ | refine blk_drew ?_ | refine blk_alloc ?_ _)); exact BK286.out⟩, ⟨by repeat (first | (with_reducible first | exact HB.out | apply below_alloc | apply pw_below_drewN | apply below_drew1 | refine below_set ?_ GE286.out) | exact HB.out)⟩⟩
       ·rw [if_neg c25] at H
        have c25b0 : (t298 == t301) = false := beq_eq_false_iff_ne.mpr c25
        have c25b1 : (t298 != t301) = true := bne_iff_ne.mpr c25
        have H' := Aside0.mk H
        clear H
        go_wp2
        go_meet
        case rel => exact ⟨_, (true), (by first | rfl | (simp; done) | (simp [*]; done)), H', ⟨by have := HJ4.out; first | omega | exact Nat.le_refl _⟩, ⟨by (with_reducible repeat (first | apply Kd.R_alloc | apply Kd.R_drewN | apply Kd.R_drew)); exact Kd.R_mono HO290.out (fun _ hk => hk.2)⟩, ⟨by (with_reducible repeat (first | apply Kd.R_alloc | apply Kd.R_drewN | apply Kd.R_drew)); exact Kd.R_mono HO294.out (fun _ hk => hk.2)⟩, ⟨by (with_reducible repeat (first | refine blk_drewN ?_ _ | refine blk_drew ?_ | refine blk_alloc ?_ _)); exact BK286.out⟩, ⟨by repeat (first | (with_reducible first | exact HB.out | apply below_alloc | apply pw_below_drewN | apply below_drew1 | refine below_set ?_ GE286.out) | exact HB.out)⟩⟩
      ·rw [if_neg c24] at H
       have c24b0 : (t291 == t295) = false := beq_eq_false_iff_ne.mpr c24
       have c24b1 : (t291 != t295) = true := bne_iff_ne.mpr c24
       (first | rw [c24b0] | (simp only [i64_w, i32_w]; rw [c24b0]) | skip)
       have H' := Aside0.mk H
       clear H
       go_wp2
       go_meet
       case rel => exact ⟨_, (true), (by first | rfl | (simp; done) | (simp [*]; done)), H', ⟨by have := HJ4.out; first | omega | exact Nat.le_refl _⟩, ⟨by (with_reducible repeat (first | apply Kd.R_alloc | apply Kd.R_drewN | apply Kd.R_drew)); exact Kd.R_mono HO290.out (fun _ hk => hk.2)⟩, ⟨by (with_reducible repeat (first | apply Kd.R_alloc | apply Kd.R_drewN | apply Kd.R_drew)); exact Kd.R_mono HO294.out (fun _ hk => hk.2)⟩, ⟨by (with_reducible repeat (first | refine blk_drewN ?_ _ | refine blk_drew ?_ | refine blk_alloc ?_ _)); exact BK286.out⟩, ⟨by repeat (first | (with_reducible first | exact HB.out | apply below_alloc | apply pw_below_drewN | apply below_drew1 | refine below_set ?_ GE286.out) | exact HB.out)⟩⟩
     case rest =>
      clear HC15
      try clear c1
      try clear c2
      try clear p2
      try clear c4
      try clear c8
      try clear c8b0
      try clear c8b1
      try clear c9
      try clear c9b0
      try clear c9b1
      try clear c10
      try clear c24
      try clear c24b0
      try clear c24b1
      try clear c25
      try clear c25b0
      try clear c25b1
      try clear c26
      try clear c26b0
      try clear c26b1
      try clear c27
      try clear c27b0
      try clear c27b1
      try clear hcz16_0
      try clear hcz16_1
      try clear hcz16_2
      try clear hcz16_3
      try clear hcz18_0
      try clear hcz18_1
      try clear hcz18_2
      try clear hcz18_3
      try clear hcz20_0
      try clear hcz20_1
      try clear hcz20_2
      try clear hcz20_3
      try clear hcz22_0
      try clear hcz22_1
      try clear hcz22_2
      try clear hcz22_3
      try clear hfz16_0
      try clear hfz16_1
      try clear hfz16_2
      try clear hfz16_3
      try clear hfz18_0
      try clear hfz18_1
      try clear hfz18_2
      try clear hfz18_3
      try clear hfz20_0
      try clear hfz20_1
      try clear hfz20_2
      try clear hfz20_3
      try clear hfz22_0
      try clear hfz22_1
      try clear hfz22_2
      try clear hfz22_3
      try clear p2
      obtain ⟨kq, x81_14, rfl, HA, HJ14, HO_5, HO_7, BK286, HB⟩ := hcut
      cases kq with
      | zero => exact absurd HA.out (by simp [gangsawlaw34_GradeMargins.j1])
      | succ kj14 =>
       have H := HA.out
       clear HA
       simp only [gangsawlaw34_GradeMargins.j1] at H
       by_cases c30 : x81_14 = true
       ·subst c30
        have H1 : (some false) = some r := by rw [if_pos rfl] at H; exact H
        clear H
        have H := H1
        clear H1
        obtain rfl := Option.some.inj H
        exact absurd hr (by decide)
       ·replace c30 := Bool.eq_false_iff.mpr c30
        subst c30
        have H1 : (gangsawlaw34_GradeMargins.l0 kj14 t288 t292 0) = some r := by rw [if_neg (show ¬ (false = true) by decide)] at H; exact H
        clear H
        have H := H1
        clear H1
        have H' := Aside0.mk H
        clear H
        go_wp2
        go_loopg [15] kj14 (fun kq v15 w' => ∃ (x15_3 : Int), v15 = .int .i64 x15_3 ∧ Aside0 (gangsawlaw34_GradeMargins.l0 kq t288 t292 x15_3 = some r) ∧ Aside0 (kq ≤ kj14) ∧ Aside0 (Kd.R (Kd.int .i64) 3 w' w.heap.size (fun k_ => some k_ ≠ (v293 : Value).ownBlock) v289 t288) ∧ Aside0 (Kd.R (Kd.int .i64) 3 w' w.heap.size (fun k_ => some k_ ≠ (v289 : Value).ownBlock) v293 t292) ∧ Aside0 (w'.heap[gb286]? = some (.cells #[.string a0_0, .int .i64 a0_1, .int .i64 a0_2, .int .i64 a0_3] 32 (0, 0))) ∧ Aside0 (Below w.heap.size w w'))
        case atStart => exact ⟨(0), (by first | rfl | (simp; done) | (simp [*]; done)), H', ⟨Nat.le_refl _⟩, ⟨by (with_reducible repeat (first | apply Kd.R_alloc | apply Kd.R_drewN | apply Kd.R_drew)); exact HO_5.out⟩, ⟨by (with_reducible repeat (first | apply Kd.R_alloc | apply Kd.R_drewN | apply Kd.R_drew)); exact HO_7.out⟩, ⟨by (with_reducible repeat (first | refine blk_drewN ?_ _ | refine blk_drew ?_ | refine blk_alloc ?_ _)); exact BK286.out⟩, ⟨by repeat (first | (with_reducible first | exact HB.out | apply below_alloc | apply pw_below_drewN | apply below_drew1 | refine below_set ?_ GE286.out) | exact HB.out)⟩⟩
        case round =>
         clear H'
         try clear c1
         try clear c2
         try clear p2
         try clear c3
         try clear c4
         try clear c8
         try clear c8b0
         try clear c8b1
         try clear c9
         try clear c9b0
         try clear c9b1
         try clear c10
         try clear c24
         try clear c24b0
         try clear c24b1
         try clear c25
         try clear c25b0
         try clear c25b1
         try clear c26
         try clear c26b0
         try clear c26b1
         try clear c27
         try clear c27b0
         try clear c27b1
         try clear c30
         try clear hcz16_0
         try clear hcz16_1
         try clear hcz16_2
         try clear hcz16_3
         try clear hcz18_0
         try clear hcz18_1
         try clear hcz18_2
         try clear hcz18_3
         try clear hcz20_0
         try clear hcz20_1
         try clear hcz20_2
         try clear hcz20_3
         try clear hcz22_0
         try clear hcz22_1
         try clear hcz22_2
         try clear hcz22_3
         try clear hfz16_0
         try clear hfz16_1
         try clear hfz16_2
         try clear hfz16_3
         try clear hfz18_0
         try clear hfz18_1
         try clear hfz18_2
         try clear hfz18_3
         try clear hfz20_0
         try clear hfz20_1
         try clear hfz20_2
         try clear hfz20_3
         try clear hfz22_0
         try clear hfz22_1
         try clear hfz22_2
         try clear hfz22_3
         try clear p2
         obtain ⟨x15_3, rfl, HA, HK3, HO_5, HO_7, BK286, HB⟩ := hrel
         cases gk with
         | zero => exact absurd HA.out (by simp [gangsawlaw34_GradeMargins.l0])
         | succ k3 =>
          have H := HA.out
          clear HA
          simp only [gangsawlaw34_GradeMargins.l0] at H
          by_cases c31 : x15_3 < (t288.length : Int)
          ·rw [if_pos c31] at H
           have c31b0 : decide (x15_3 < (t288.length : Int)) = true := decide_eq_true c31
           clear c31
           by_cases c32 : 0 ≤ x15_3
           ·rw [if_pos c32] at H
            have c32b0 : decide (0 ≤ x15_3) = true := decide_eq_true c32
            clear c32
            by_cases c33 : x15_3 < (t292.length : Int)
            ·rw [if_pos c33] at H
             have c33b0 : decide (x15_3 < (t292.length : Int)) = true := decide_eq_true c33
             clear c33
             by_cases c34 : (rd t288 x15_3) = (rd t292 x15_3)
             ·rw [if_pos c34] at H
              have c34b0 : ((rd t288 x15_3) == (rd t292 x15_3)) = true := beq_iff_eq.mpr c34
              have c34b1 : ((rd t288 x15_3) != (rd t292 x15_3)) = false := bne_eq_false_iff_eq.mpr c34
              clear c34
              have H' := Aside0.mk H
              clear H
              obtain ⟨Ao35, co35, eo35⟩ := Kd.R_slice HO_5.out
              subst eo35
              have p302 : 0 ≤ (x15_3 : Int) := of_decide_eq_true (by first | (with_reducible assumption) | assumption)
              have q302 : x15_3 < (t288.length : Int) := of_decide_eq_true (by first | (with_reducible assumption) | assumption)
              obtain ⟨ad302, e302, hx302_0⟩ := Kd.at_int (Kd.R_reads' HO_5.out).2.2 x15_3 p302 q302
              cases e302
              replace p302 := eq_true p302
              replace q302 := eq_true q302
              obtain ⟨Ao36, co36, eo36⟩ := Kd.R_slice HO_7.out
              subst eo36
              have p303 : 0 ≤ (x15_3 : Int) := of_decide_eq_true (by first | (with_reducible assumption) | assumption)
              have q303 : x15_3 < (t292.length : Int) := of_decide_eq_true (by first | (with_reducible assumption) | assumption)
              obtain ⟨ad303, e303, hx303_0⟩ := Kd.at_int (Kd.R_reads' HO_7.out).2.2 x15_3 p303 q303
              cases e303
              replace p303 := eq_true p303
              replace q303 := eq_true q303
              go_wp2
              repeat (go_quiet (fail); try go_wp2)
              go_roundg k3
              case measure => have := HJ4.out; have := HJ14.out; have := HK3.out; omega
              case rel => exact ⟨(wrap64 (x15_3 + 1)), (by first | rfl | (simp; done) | (simp [*]; done)), H', ⟨by have := HJ4.out; have := HJ14.out; have := HK3.out; omega⟩, ⟨by (with_reducible repeat (first | apply Kd.R_alloc | apply Kd.R_drewN | apply Kd.R_drew)); exact HO_5.out⟩, ⟨by (with_reducible repeat (first | apply Kd.R_alloc | apply Kd.R_drewN | apply Kd.R_drew)); exact HO_7.out⟩, ⟨by (with_reducible repeat (first | refine blk_drewN ?_ _ | refine blk_drew ?_ | refine blk_alloc ?_ _)); exact BK286.out⟩, ⟨by repeat (first | (with_reducible first | exact HB.out | apply below_alloc | apply pw_below_drewN | apply below_drew1 | refine below_set ?_ GE286.out) | exact HB.out)⟩⟩
             ·rw [if_neg c34] at H
              have c34b0 : ((rd t288 x15_3) == (rd t292 x15_3)) = false := beq_eq_false_iff_ne.mpr c34
              have c34b1 : ((rd t288 x15_3) != (rd t292 x15_3)) = true := bne_iff_ne.mpr c34
              obtain rfl := Option.some.inj H
              exact absurd hr (by decide)
            ·rw [if_neg c33] at H
             exact absurd H (by simp)
           ·rw [if_neg c32] at H
            exact absurd H (by simp)
          ·rw [if_neg c31] at H
           have c31b0 : decide (x15_3 < (t288.length : Int)) = false := decide_eq_false c31
           clear c31
           obtain rfl := Option.some.inj H
           simp only [Option.some.injEq, Prod.mk.injEq] at H
           obtain ⟨rfl⟩ := H
           obtain ⟨Ao37, co37, eo37⟩ := Kd.R_slice HO_5.out
           subst eo37
           go_wp2
           go_ret
           exact ⟨by first | rfl | (simp [errW_none, errW_some] <;> rfl) | (simp [*, errW_none, errW_some] <;> rfl), by repeat (first | (with_reducible first | exact HB.out | apply below_alloc | apply pw_below_drewN | apply below_drew1 | refine below_set ?_ GE286.out) | exact HB.out)⟩
 ·replace c4 := Bool.eq_false_iff.mpr c4
  subst c4
  have H1 : (some false) = some r := by rw [if_neg (show ¬ (false = true) by decide)] at H; exact H
  clear H
  have H := H1
  clear H1
  obtain rfl := Option.some.inj H
  exact absurd hr (by decide)

end Go.Proofs.YtankffbfocaibaaDoor.P
