/- What functions of the program return: each contract says so of one function, for every input at which its pure function yields. -/
import Derived.Test.YtpfggghpkdnppaaPx0
import Derived.Test.YtpfggghpkdnppaaPx3
import Derived.Test.YtpfggghpkdnppaaPx9
import Derived.Test.YtpfggghpkdnppaaPx11
import Derived.Test.YtpfggghpkdnppaaPx14
namespace Go.Proofs.Ytpfggghpkdnppaa.P
open Go.RowKit Go.Proofs.YtpfggghpkdnppaaW.PrintWords Go.Proofs.YtpfggghpkdnppaaW.PrintLast Go.Proofs.YtpfggghpkdnppaaW.PrintMore
attribute [local go_sem] max2_int min2_int max_two min_two max_three min_three max_four min_four   -- for this text's walks alone
set_option linter.unusedVariables false
set_option linter.unusedSimpArgs false

def gangsawlaw49_MachineMinutes.j0 : Nat → Bool → ByteArray → ByteArray → Int → ByteArray → Int → Int → Option (Bool)
  | 0, _, _, _, _, _, _, _ => none
  | k + 1, x30, x286000, x286001, x286002, x287000, x287001, x287002 => if x30 = true then (some true) else ((machine_Minutes.f k x286000 x286001 x286002 x287000 x287001 x287002 true).bind fun bt288 => ((machine_Minutes.f k x286000 x286001 x286002 x287000 x287001 x287002 false).bind fun bt290 => ((gangsawref49_Minutes.f k x286000 x286001 x286002 x287000 x287001 x287002 true).bind fun bt292 => ((gangsawref49_Minutes.f k x286000 x286001 x286002 x287000 x287001 x287002 false).bind fun bt294 => (if bt288.1 = bt292.1 then (if bt288.2 = bt292.2 then (if bt290.1 = bt294.1 then (if bt290.2 = bt294.2 then (some (decide (bt288.1 ≥ bt290.1))) else (some false)) else (some false)) else (some false)) else (some false))))))
def gangsawlaw49_MachineMinutes.f (k : Nat) (a0_0 : ByteArray) (a0_1 : ByteArray) (a0_2 : Int) (a1_0 : ByteArray) (a1_1 : Int) (a1_2 : Int) : Option (Bool) := (gangsawlaw49_awake_N.f).bind fun t287 => (if t287 = true then (if (a0_0.size : Int) > 100 then (gangsawlaw49_MachineMinutes.j0 k true a0_0 a0_1 a0_2 a1_0 a1_1 a1_2) else (if (a0_1.size : Int) > 100 then (gangsawlaw49_MachineMinutes.j0 k true a0_0 a0_1 a0_2 a1_0 a1_1 a1_2) else (gangsawlaw49_MachineMinutes.j0 k (decide ((a1_0.size : Int) > 100)) a0_0 a0_1 a0_2 a1_0 a1_1 a1_2))) else (some false))
set_option maxHeartbeats 8000000 in
set_option maxRecDepth 100000 in
theorem gangsawlaw49_MachineMinutes.calls (k : Nat) (a0_0 : ByteArray) (a0_1 : ByteArray) (a0_2 : Int) (a1_0 : ByteArray) (a1_1 : Int) (a1_2 : Int) (r : Bool) (w : World) (h : gangsawlaw49_MachineMinutes.f k a0_0 a0_1 a0_2 a1_0 a1_1 a1_2 = some r) (hr : r = true) :
    Calls Try.prog 4 #[.agg #[.string a0_0, .string a0_1, .int .i64 a0_2], .agg #[.string a1_0, .int .i64 a1_1, .int .i64 a1_2]] w fun e w' => e = .returned (.bool r) ∧ Below w.heap.size w w' := by
  have hu34 := Try.underlying34
  have hu36 := Try.underlying36
  have HB := Aside0.mk (Below.refl w.heap.size w)
  have H : ((gangsawlaw49_awake_N.f).bind fun t287 => (if t287 = true then (if (a0_0.size : Int) > 100 then (gangsawlaw49_MachineMinutes.j0 k true a0_0 a0_1 a0_2 a1_0 a1_1 a1_2) else (if (a0_1.size : Int) > 100 then (gangsawlaw49_MachineMinutes.j0 k true a0_0 a0_1 a0_2 a1_0 a1_1 a1_2) else (gangsawlaw49_MachineMinutes.j0 k (decide ((a1_0.size : Int) > 100)) a0_0 a0_1 a0_2 a1_0 a1_1 a1_2))) else (some false))) = some r := h
  clear h
  replace H := Option.bind_eq_some_iff.mp H
  obtain ⟨t287, A30, H⟩ := H
  replace H : (if t287 = true then (if (a0_0.size : Int) > 100 then (gangsawlaw49_MachineMinutes.j0 k true a0_0 a0_1 a0_2 a1_0 a1_1 a1_2) else (if (a0_1.size : Int) > 100 then (gangsawlaw49_MachineMinutes.j0 k true a0_0 a0_1 a0_2 a1_0 a1_1 a1_2) else (gangsawlaw49_MachineMinutes.j0 k (decide ((a1_0.size : Int) > 100)) a0_0 a0_1 a0_2 a1_0 a1_1 a1_2))) else (some false)) = some r := H
  have A3 := Aside0.mk A30
  clear A30
  by_cases c4 : t287 = true
  · subst c4
    have H1 : (if (a0_0.size : Int) > 100 then (gangsawlaw49_MachineMinutes.j0 k true a0_0 a0_1 a0_2 a1_0 a1_1 a1_2) else (if (a0_1.size : Int) > 100 then (gangsawlaw49_MachineMinutes.j0 k true a0_0 a0_1 a0_2 a1_0 a1_1 a1_2) else (gangsawlaw49_MachineMinutes.j0 k (decide ((a1_0.size : Int) > 100)) a0_0 a0_1 a0_2 a1_0 a1_1 a1_2))) = some r := by rw [if_pos rfl] at H; exact H
    clear H
    have H := H1
    clear H1
    have HC5 := Aside0.mk H
    clear H
    go_enter Try.func4, Try.ntmps4
    go_upto_region 3 with (first | ((with_reducible refine gate_dst (N := 2) rfl ?_); (try (refine gate_guard (by rfl) ?_; dsimp only)); refine box_event ?hg (N := 2) ?hd (cs := #[.string a0_0, .string a0_1, .int .i64 a0_2]) (t := 34) ?hr ?_; (case hd => rfl); (case hg => rfl); (case hr => first | (go_simp; done) | (go_simp; rfl)); intro gb285 hg w6 hbox hb; have n0_ := Aside0.mk (below_step (by repeat (first | (with_reducible first | exact HB.out | apply below_alloc | apply pw_below_drewN | apply below_drew1) | exact HB.out)) hb); have n1_ := Aside0.mk (hbox); have n2_ := Aside0.mk ((by rw [hg]; exact (below_size (by repeat (first | (with_reducible first | exact HB.out | apply below_alloc | apply pw_below_drewN | apply below_drew1) | exact HB.out))) : w.heap.size ≤ gb285)); have n3_ := Aside0.mk ((by rw [hg]; exact (below_size (by repeat (first | (with_reducible first | exact HB.out | apply below_alloc | apply pw_below_drewN | apply below_drew1) | exact HB.out))) : w.heap.size ≤ gb285)); clear HB; have HB := n0_; have BK285 := n1_; have GW285 := n2_; have GE285 := n3_; clear n0_ n1_ n2_ n3_; clear hb hbox hg) | ((with_reducible refine gate_dst (N := 3) rfl ?_); (try (refine gate_guard (by rfl) ?_; dsimp only)); refine box_event ?hg (N := 3) ?hd (cs := #[.string a1_0, .int .i64 a1_1, .int .i64 a1_2]) (t := 36) ?hr ?_; (case hd => rfl); (case hg => rfl); (case hr => first | (go_simp; done) | (go_simp; rfl)); intro gb286 hg w7 hbox hb; have n0_ := Aside0.mk (blk_below (g := gb285) (o := .cells #[.string a0_0, .string a0_1, .int .i64 a0_2] 34 (0, 0)) (by (with_reducible repeat (first | refine blk_drewN ?_ _ | refine blk_drew ?_ | refine blk_alloc ?_ _)); exact BK285.out) hb); have n1_ := Aside0.mk (below_step (by repeat (first | (with_reducible first | exact HB.out | apply below_alloc | apply pw_below_drewN | apply below_drew1 | refine below_set ?_ GE285.out) | exact HB.out)) hb); have n2_ := Aside0.mk (hbox); have n3_ := Aside0.mk ((by rw [hg]; exact (below_size (by repeat (first | (with_reducible first | exact HB.out | apply below_alloc | apply pw_below_drewN | apply below_drew1 | refine below_set ?_ GE285.out) | exact HB.out))) : w.heap.size ≤ gb286)); have n4_ := Aside0.mk ((by rw [hg]; exact (below_size (by repeat (first | (with_reducible first | exact HB.out | apply below_alloc | apply pw_below_drewN | apply below_drew1 | refine below_set ?_ GE285.out) | exact HB.out))) : w.heap.size ≤ gb286)); have n5_ := Aside0.mk ((by rw [hg]; exact Nat.ne_of_lt (blk_lt (g := gb285) (o := .cells #[.string a0_0, .string a0_1, .int .i64 a0_2] 34 (0, 0)) (by (with_reducible repeat (first | refine blk_drewN ?_ _ | refine blk_drew ?_ | refine blk_alloc ?_ _)); exact BK285.out)) : gb285 ≠ gb286)); have n6_ := Aside0.mk ((by rw [hg]; exact Nat.ne_of_gt (blk_lt (g := gb285) (o := .cells #[.string a0_0, .string a0_1, .int .i64 a0_2] 34 (0, 0)) (by (with_reducible repeat (first | refine blk_drewN ?_ _ | refine blk_drew ?_ | refine blk_alloc ?_ _)); exact BK285.out)) : gb286 ≠ gb285)); clear BK285; clear HB; have BK285 := n0_; have HB := n1_; have BK286 := n2_; have GW286 := n3_; have GE286 := n4_; have NB285_286 := n5_; have NB286_285 := n6_; clear n0_ n1_ n2_ n3_ n4_ n5_ n6_; clear hb hbox hg) | ((with_reducible refine gate_callee (f := 9) rfl ?_); refine goesL_ (some 13) rfl rfl Try.func9 (by kernel_rfl) rfl #[] rfl (by (try simp only [List.map_toArray, List.map_cons, List.map_nil]); first | done | rfl | (simp only [List.length_drop, List.length_take]; rfl)) ?_; (with_reducible refine (gangsawlaw49_awake_N.calls  true _ A3.out).mono ?_); rintro e w8 ⟨rfl, hb⟩; refine ⟨_, rfl, ?_⟩; have n0_ := Aside0.mk (blk_below (g := gb285) (o := .cells #[.string a0_0, .string a0_1, .int .i64 a0_2] 34 (0, 0)) (by (with_reducible repeat (first | refine blk_drewN ?_ _ | refine blk_drew ?_ | refine blk_alloc ?_ _)); exact BK285.out) hb); have n1_ := Aside0.mk (blk_below (g := gb286) (o := .cells #[.string a1_0, .int .i64 a1_1, .int .i64 a1_2] 36 (0, 0)) (by (with_reducible repeat (first | refine blk_drewN ?_ _ | refine blk_drew ?_ | refine blk_alloc ?_ _)); exact BK286.out) hb); have n2_ := Aside0.mk (below_step (by repeat (first | (with_reducible first | exact HB.out | apply below_alloc | apply pw_below_drewN | apply below_drew1 | refine below_set ?_ GE285.out | refine below_set ?_ GE286.out) | exact HB.out)) hb); clear BK285; clear BK286; clear HB; have BK285 := n0_; have BK286 := n1_; have HB := n2_; clear n0_ n1_ n2_; (try clear hb); (try clear hb2); (try clear hk); (try clear hi)))
    (try simp only [Act.put, List.setIfInBounds_toArray, List.set_cons_zero, List.set_cons_succ])
    go_cut [30] (fun v30 wc => ∃ (kq : Nat) (x30_4 : Bool), v30 = .bool x30_4 ∧ Aside0 (gangsawlaw49_MachineMinutes.j0 kq x30_4 a0_0 a0_1 a0_2 a1_0 a1_1 a1_2 = some r) ∧ Aside0 (kq ≤ k) ∧ Aside0 (wc.heap[gb285]? = some (.cells #[.string a0_0, .string a0_1, .int .i64 a0_2] 34 (0, 0))) ∧ Aside0 (wc.heap[gb286]? = some (.cells #[.string a1_0, .int .i64 a1_1, .int .i64 a1_2] 36 (0, 0))) ∧ Aside0 (Below w.heap.size w wc))
    case first =>
      have H := HC5.out
      clear HC5
      by_cases c9 : (a0_0.size : Int) > 100
      · rw [if_pos c9] at H
        have c9b0 : decide (100 < (a0_0.size : Int)) = true := decide_eq_true c9
        have c9b1 : decide (100 < a0_0.size) = true := decide_eq_true (by omega)
        clear c9
        (first | rw [c9b0] | (simp only [i64_w, i32_w]; rw [c9b0]) | skip)
        have H' := Aside0.mk H
        clear H
        have hnb10 := NB285_286.out
        have hnc10 := NB286_285.out
        have hcz11_0 : w8.cell? ⟨gb285, 0, none⟩ = some (.string a0_0) := (blk_cell BK285.out 0).trans rfl
        have hcz11_1 : w8.cell? ⟨gb285, 1, none⟩ = some (.string a0_1) := (blk_cell BK285.out 1).trans rfl
        have hcz11_2 : w8.cell? ⟨gb285, 2, none⟩ = some (.int .i64 a0_2) := (blk_cell BK285.out 2).trans rfl
        have hfz11_0 := blk_frozen BK285.out 0
        have hfz11_1 := blk_frozen BK285.out 1
        have hfz11_2 := blk_frozen BK285.out 2
        go_wp2
        go_meet
        case rel => exact ⟨_, (true), (by first | rfl | (simp; done) | (simp [*]; done)), H', ⟨by first | omega | exact Nat.le_refl _⟩, ⟨by (with_reducible repeat (first | refine blk_drewN ?_ _ | refine blk_drew ?_ | refine blk_alloc ?_ _)); exact BK285.out⟩, ⟨by (with_reducible repeat (first | refine blk_drewN ?_ _ | refine blk_drew ?_ | refine blk_alloc ?_ _)); exact BK286.out⟩, ⟨by repeat (first | (with_reducible first | exact HB.out | apply below_alloc | apply pw_below_drewN | apply below_drew1 | refine below_set ?_ GE285.out | refine below_set ?_ GE286.out) | exact HB.out)⟩⟩
      · rw [if_neg c9] at H
        have c9b0 : decide (100 < (a0_0.size : Int)) = false := decide_eq_false c9
        have c9b1 : decide (100 < a0_0.size) = false := decide_eq_false (by omega)
        clear c9
        (first | rw [c9b0] | (simp only [i64_w, i32_w]; rw [c9b0]) | skip)
        by_cases c12 : (a0_1.size : Int) > 100
        · rw [if_pos c12] at H
          have c12b0 : decide (100 < (a0_1.size : Int)) = true := decide_eq_true c12
          have c12b1 : decide (100 < a0_1.size) = true := decide_eq_true (by omega)
          clear c12
          have H' := Aside0.mk H
          clear H
          have hnb13 := NB285_286.out
          have hnc13 := NB286_285.out
          have hcz14_0 : w8.cell? ⟨gb285, 0, none⟩ = some (.string a0_0) := (blk_cell BK285.out 0).trans rfl
          have hcz14_1 : w8.cell? ⟨gb285, 1, none⟩ = some (.string a0_1) := (blk_cell BK285.out 1).trans rfl
          have hcz14_2 : w8.cell? ⟨gb285, 2, none⟩ = some (.int .i64 a0_2) := (blk_cell BK285.out 2).trans rfl
          have hfz14_0 := blk_frozen BK285.out 0
          have hfz14_1 := blk_frozen BK285.out 1
          have hfz14_2 := blk_frozen BK285.out 2
          go_wp2
          go_meet
          case rel => exact ⟨_, (true), (by first | rfl | (simp; done) | (simp [*]; done)), H', ⟨by first | omega | exact Nat.le_refl _⟩, ⟨by (with_reducible repeat (first | refine blk_drewN ?_ _ | refine blk_drew ?_ | refine blk_alloc ?_ _)); exact BK285.out⟩, ⟨by (with_reducible repeat (first | refine blk_drewN ?_ _ | refine blk_drew ?_ | refine blk_alloc ?_ _)); exact BK286.out⟩, ⟨by repeat (first | (with_reducible first | exact HB.out | apply below_alloc | apply pw_below_drewN | apply below_drew1 | refine below_set ?_ GE285.out | refine below_set ?_ GE286.out) | exact HB.out)⟩⟩
        · rw [if_neg c12] at H
          have c12b0 : decide (100 < (a0_1.size : Int)) = false := decide_eq_false c12
          have c12b1 : decide (100 < a0_1.size) = false := decide_eq_false (by omega)
          clear c12
          have H' := Aside0.mk H
          clear H
          have hnb15 := NB285_286.out
          have hnc15 := NB286_285.out
          have hcz16_0 : w8.cell? ⟨gb285, 0, none⟩ = some (.string a0_0) := (blk_cell BK285.out 0).trans rfl
          have hcz16_1 : w8.cell? ⟨gb285, 1, none⟩ = some (.string a0_1) := (blk_cell BK285.out 1).trans rfl
          have hcz16_2 : w8.cell? ⟨gb285, 2, none⟩ = some (.int .i64 a0_2) := (blk_cell BK285.out 2).trans rfl
          have hfz16_0 := blk_frozen BK285.out 0
          have hfz16_1 := blk_frozen BK285.out 1
          have hfz16_2 := blk_frozen BK285.out 2
          have hcz17_0 : w8.cell? ⟨gb286, 0, none⟩ = some (.string a1_0) := (blk_cell BK286.out 0).trans rfl
          have hcz17_1 : w8.cell? ⟨gb286, 1, none⟩ = some (.int .i64 a1_1) := (blk_cell BK286.out 1).trans rfl
          have hcz17_2 : w8.cell? ⟨gb286, 2, none⟩ = some (.int .i64 a1_2) := (blk_cell BK286.out 2).trans rfl
          have hfz17_0 := blk_frozen BK286.out 0
          have hfz17_1 := blk_frozen BK286.out 1
          have hfz17_2 := blk_frozen BK286.out 2
          go_wp2
          go_meet
          case rel => exact ⟨_, (decide ((a1_0.size : Int) > 100)), (by first | rfl | (simp; done) | (simp [*]; done)), H', ⟨by first | omega | exact Nat.le_refl _⟩, ⟨by (with_reducible repeat (first | refine blk_drewN ?_ _ | refine blk_drew ?_ | refine blk_alloc ?_ _)); exact BK285.out⟩, ⟨by (with_reducible repeat (first | refine blk_drewN ?_ _ | refine blk_drew ?_ | refine blk_alloc ?_ _)); exact BK286.out⟩, ⟨by repeat (first | (with_reducible first | exact HB.out | apply below_alloc | apply pw_below_drewN | apply below_drew1 | refine below_set ?_ GE285.out | refine below_set ?_ GE286.out) | exact HB.out)⟩⟩
    case rest =>
      clear HC5
      try clear c1
      try clear p2
      try clear c4
      try clear c9
      try clear c9b0
      try clear c9b1
      try clear c10
      try clear c12
      try clear c12b0
      try clear c12b1
      try clear c13
      try clear c15
      try clear hcz11_0
      try clear hcz11_1
      try clear hcz11_2
      try clear hcz14_0
      try clear hcz14_1
      try clear hcz14_2
      try clear hcz16_0
      try clear hcz16_1
      try clear hcz16_2
      try clear hcz17_0
      try clear hcz17_1
      try clear hcz17_2
      try clear hfz11_0
      try clear hfz11_1
      try clear hfz11_2
      try clear hfz14_0
      try clear hfz14_1
      try clear hfz14_2
      try clear hfz16_0
      try clear hfz16_1
      try clear hfz16_2
      try clear hfz17_0
      try clear hfz17_1
      try clear hfz17_2
      obtain ⟨kq, x30_4, rfl, HA, HJ4, BK285, BK286, HB⟩ := hcut
      cases kq with
      | zero => exact absurd HA.out (by simp [gangsawlaw49_MachineMinutes.j0])
      | succ kj4 =>
        have H := HA.out
        clear HA
        simp only [gangsawlaw49_MachineMinutes.j0] at H
        by_cases c18 : x30_4 = true
        · subst c18
          have H1 : (some true) = some r := by rw [if_pos rfl] at H; exact H
          clear H
          have H := H1
          clear H1
          obtain rfl := Option.some.inj H
          simp only [Option.some.injEq, Prod.mk.injEq] at H
          obtain ⟨rfl⟩ := H
          go_wp2
          go_ret
          exact ⟨by first | rfl | (simp [errW_none, errW_some] <;> rfl) | (simp [*, errW_none, errW_some] <;> rfl), by repeat (first | (with_reducible first | exact HB.out | apply below_alloc | apply pw_below_drewN | apply below_drew1 | refine below_set ?_ GE285.out | refine below_set ?_ GE286.out) | exact HB.out)⟩
        · replace c18 := Bool.eq_false_iff.mpr c18
          subst c18
          have H1 : ((machine_Minutes.f kj4 a0_0 a0_1 a0_2 a1_0 a1_1 a1_2 true).bind fun bt288 => ((machine_Minutes.f kj4 a0_0 a0_1 a0_2 a1_0 a1_1 a1_2 false).bind fun bt290 => ((gangsawref49_Minutes.f kj4 a0_0 a0_1 a0_2 a1_0 a1_1 a1_2 true).bind fun bt292 => ((gangsawref49_Minutes.f kj4 a0_0 a0_1 a0_2 a1_0 a1_1 a1_2 false).bind fun bt294 => (if bt288.1 = bt292.1 then (if bt288.2 = bt292.2 then (if bt290.1 = bt294.1 then (if bt290.2 = bt294.2 then (some (decide (bt288.1 ≥ bt290.1))) else (some false)) else (some false)) else (some false)) else (some false)))))) = some r := by rw [if_neg (show ¬ (false = true) by decide)] at H; exact H
          clear H
          have H := H1
          clear H1
          replace H := Option.bind_eq_some_iff.mp H
          obtain ⟨⟨t288, t289⟩, A190, H⟩ := H
          replace H : ((machine_Minutes.f kj4 a0_0 a0_1 a0_2 a1_0 a1_1 a1_2 false).bind fun bt290 => ((gangsawref49_Minutes.f kj4 a0_0 a0_1 a0_2 a1_0 a1_1 a1_2 true).bind fun bt292 => ((gangsawref49_Minutes.f kj4 a0_0 a0_1 a0_2 a1_0 a1_1 a1_2 false).bind fun bt294 => (if t288 = bt292.1 then (if t289 = bt292.2 then (if bt290.1 = bt294.1 then (if bt290.2 = bt294.2 then (some (decide (t288 ≥ bt290.1))) else (some false)) else (some false)) else (some false)) else (some false))))) = some r := H
          have A19 := Aside0.mk A190
          clear A190
          replace H := Option.bind_eq_some_iff.mp H
          obtain ⟨⟨t290, t291⟩, A200, H⟩ := H
          replace H : ((gangsawref49_Minutes.f kj4 a0_0 a0_1 a0_2 a1_0 a1_1 a1_2 true).bind fun bt292 => ((gangsawref49_Minutes.f kj4 a0_0 a0_1 a0_2 a1_0 a1_1 a1_2 false).bind fun bt294 => (if t288 = bt292.1 then (if t289 = bt292.2 then (if t290 = bt294.1 then (if t291 = bt294.2 then (some (decide (t288 ≥ t290))) else (some false)) else (some false)) else (some false)) else (some false)))) = some r := H
          have A20 := Aside0.mk A200
          clear A200
          replace H := Option.bind_eq_some_iff.mp H
          obtain ⟨⟨t292, t293⟩, A210, H⟩ := H
          replace H : ((gangsawref49_Minutes.f kj4 a0_0 a0_1 a0_2 a1_0 a1_1 a1_2 false).bind fun bt294 => (if t288 = t292 then (if t289 = t293 then (if t290 = bt294.1 then (if t291 = bt294.2 then (some (decide (t288 ≥ t290))) else (some false)) else (some false)) else (some false)) else (some false))) = some r := H
          have A21 := Aside0.mk A210
          clear A210
          replace H := Option.bind_eq_some_iff.mp H
          obtain ⟨⟨t294, t295⟩, A220, H⟩ := H
          replace H : (if t288 = t292 then (if t289 = t293 then (if t290 = t294 then (if t291 = t295 then (some (decide (t288 ≥ t290))) else (some false)) else (some false)) else (some false)) else (some false)) = some r := H
          have A22 := Aside0.mk A220
          clear A220
          by_cases c23 : t288 = t292
          · rw [if_pos c23] at H
            have c23b0 : (t288 == t292) = true := beq_iff_eq.mpr c23
            have c23b1 : (t288 != t292) = false := bne_eq_false_iff_eq.mpr c23
            clear c23
            by_cases c24 : t289 = t293
            · rw [if_pos c24] at H
              have c24b0 : (t289 == t293) = true := beq_iff_eq.mpr c24
              have c24b1 : (t289 != t293) = false := bne_eq_false_iff_eq.mpr c24
              clear c24
              by_cases c25 : t290 = t294
              · rw [if_pos c25] at H
                have c25b0 : (t290 == t294) = true := beq_iff_eq.mpr c25
                have c25b1 : (t290 != t294) = false := bne_eq_false_iff_eq.mpr c25
                clear c25
                by_cases c26 : t291 = t295
                · rw [if_pos c26] at H
                  have c26b0 : (t291 == t295) = true := beq_iff_eq.mpr c26
                  have c26b1 : (t291 != t295) = false := bne_eq_false_iff_eq.mpr c26
                  clear c26
                  obtain rfl := Option.some.inj H
                  simp only [Option.some.injEq, Prod.mk.injEq] at H
                  obtain ⟨rfl⟩ := H
                  have hnb27 := NB285_286.out
                  have hnc27 := NB286_285.out
                  have hcz28_0 : wc.cell? ⟨gb285, 0, none⟩ = some (.string a0_0) := (blk_cell BK285.out 0).trans rfl
                  have hcz28_1 : wc.cell? ⟨gb285, 1, none⟩ = some (.string a0_1) := (blk_cell BK285.out 1).trans rfl
                  have hcz28_2 : wc.cell? ⟨gb285, 2, none⟩ = some (.int .i64 a0_2) := (blk_cell BK285.out 2).trans rfl
                  have hfz28_0 := blk_frozen BK285.out 0
                  have hfz28_1 := blk_frozen BK285.out 1
                  have hfz28_2 := blk_frozen BK285.out 2
                  have hcz29_0 : wc.cell? ⟨gb286, 0, none⟩ = some (.string a1_0) := (blk_cell BK286.out 0).trans rfl
                  have hcz29_1 : wc.cell? ⟨gb286, 1, none⟩ = some (.int .i64 a1_1) := (blk_cell BK286.out 1).trans rfl
                  have hcz29_2 : wc.cell? ⟨gb286, 2, none⟩ = some (.int .i64 a1_2) := (blk_cell BK286.out 2).trans rfl
                  have hfz29_0 := blk_frozen BK286.out 0
                  have hfz29_1 := blk_frozen BK286.out 1
                  have hfz29_2 := blk_frozen BK286.out 2
                  go_wp2_with (first | ((with_reducible refine gate_callee (f := 15) rfl ?_); refine goesL_ (some 34) rfl rfl Try.func15 (by kernel_rfl) rfl #[.agg #[.string a0_0, .string a0_1, .int .i64 a0_2], .agg #[.string a1_0, .int .i64 a1_1, .int .i64 a1_2], .bool true] rfl (by (try simp only [List.map_toArray, List.map_cons, List.map_nil]); first | done | rfl | (simp only [List.length_drop, List.length_take]; rfl)) ?_; (with_reducible refine (machine_Minutes.calls kj4 a0_0 a0_1 a0_2 a1_0 a1_1 a1_2 true t288 t289 _ A19.out).mono ?_); rintro e w30 ⟨rfl, hb⟩; refine ⟨_, rfl, ?_⟩; have n0_ := Aside0.mk (blk_below (g := gb285) (o := .cells #[.string a0_0, .string a0_1, .int .i64 a0_2] 34 (0, 0)) (by (with_reducible repeat (first | refine blk_drewN ?_ _ | refine blk_drew ?_ | refine blk_alloc ?_ _)); exact BK285.out) hb); have n1_ := Aside0.mk (blk_below (g := gb286) (o := .cells #[.string a1_0, .int .i64 a1_1, .int .i64 a1_2] 36 (0, 0)) (by (with_reducible repeat (first | refine blk_drewN ?_ _ | refine blk_drew ?_ | refine blk_alloc ?_ _)); exact BK286.out) hb); have n2_ := Aside0.mk (below_step (by repeat (first | (with_reducible first | exact HB.out | apply below_alloc | apply pw_below_drewN | apply below_drew1 | refine below_set ?_ GE285.out | refine below_set ?_ GE286.out) | exact HB.out)) hb); clear BK285; clear BK286; clear HB; have BK285 := n0_; have BK286 := n1_; have HB := n2_; clear n0_ n1_ n2_; (try clear hb); (try clear hb2); (try clear hk); (try clear hi); have hcz31_0 : w30.cell? ⟨gb285, 0, none⟩ = some (.string a0_0) := (blk_cell BK285.out 0).trans rfl; have hcz31_1 : w30.cell? ⟨gb285, 1, none⟩ = some (.string a0_1) := (blk_cell BK285.out 1).trans rfl; have hcz31_2 : w30.cell? ⟨gb285, 2, none⟩ = some (.int .i64 a0_2) := (blk_cell BK285.out 2).trans rfl; have hfz31_0 := blk_frozen BK285.out 0; have hfz31_1 := blk_frozen BK285.out 1; have hfz31_2 := blk_frozen BK285.out 2; have hcz32_0 : w30.cell? ⟨gb286, 0, none⟩ = some (.string a1_0) := (blk_cell BK286.out 0).trans rfl; have hcz32_1 : w30.cell? ⟨gb286, 1, none⟩ = some (.int .i64 a1_1) := (blk_cell BK286.out 1).trans rfl; have hcz32_2 : w30.cell? ⟨gb286, 2, none⟩ = some (.int .i64 a1_2) := (blk_cell BK286.out 2).trans rfl; have hfz32_0 := blk_frozen BK286.out 0; have hfz32_1 := blk_frozen BK286.out 1; have hfz32_2 := blk_frozen BK286.out 2) | ((with_reducible refine gate_callee (f := 15) rfl ?_); refine goesL_ (some 40) rfl rfl Try.func15 (by kernel_rfl) rfl #[.agg #[.string a0_0, .string a0_1, .int .i64 a0_2], .agg #[.string a1_0, .int .i64 a1_1, .int .i64 a1_2], .bool false] rfl (by (try simp only [List.map_toArray, List.map_cons, List.map_nil]); first | done | rfl | (simp only [List.length_drop, List.length_take]; rfl)) ?_; (with_reducible refine (machine_Minutes.calls kj4 a0_0 a0_1 a0_2 a1_0 a1_1 a1_2 false t290 t291 _ A20.out).mono ?_); rintro e w33 ⟨rfl, hb⟩; refine ⟨_, rfl, ?_⟩; have n0_ := Aside0.mk (blk_below (g := gb285) (o := .cells #[.string a0_0, .string a0_1, .int .i64 a0_2] 34 (0, 0)) (by (with_reducible repeat (first | refine blk_drewN ?_ _ | refine blk_drew ?_ | refine blk_alloc ?_ _)); exact BK285.out) hb); have n1_ := Aside0.mk (blk_below (g := gb286) (o := .cells #[.string a1_0, .int .i64 a1_1, .int .i64 a1_2] 36 (0, 0)) (by (with_reducible repeat (first | refine blk_drewN ?_ _ | refine blk_drew ?_ | refine blk_alloc ?_ _)); exact BK286.out) hb); have n2_ := Aside0.mk (below_step (by repeat (first | (with_reducible first | exact HB.out | apply below_alloc | apply pw_below_drewN | apply below_drew1 | refine below_set ?_ GE285.out | refine below_set ?_ GE286.out) | exact HB.out)) hb); clear BK285; clear BK286; clear HB; have BK285 := n0_; have BK286 := n1_; have HB := n2_; clear n0_ n1_ n2_; (try clear hb); (try clear hb2); (try clear hk); (try clear hi); have hcz34_0 : w33.cell? ⟨gb285, 0, none⟩ = some (.string a0_0) := (blk_cell BK285.out 0).trans rfl; have hcz34_1 : w33.cell? ⟨gb285, 1, none⟩ = some (.string a0_1) := (blk_cell BK285.out 1).trans rfl; have hcz34_2 : w33.cell? ⟨gb285, 2, none⟩ = some (.int .i64 a0_2) := (blk_cell BK285.out 2).trans rfl; have hfz34_0 := blk_frozen BK285.out 0; have hfz34_1 := blk_frozen BK285.out 1; have hfz34_2 := blk_frozen BK285.out 2; have hcz35_0 : w33.cell? ⟨gb286, 0, none⟩ = some (.string a1_0) := (blk_cell BK286.out 0).trans rfl; have hcz35_1 : w33.cell? ⟨gb286, 1, none⟩ = some (.int .i64 a1_1) := (blk_cell BK286.out 1).trans rfl; have hcz35_2 : w33.cell? ⟨gb286, 2, none⟩ = some (.int .i64 a1_2) := (blk_cell BK286.out 2).trans rfl; have hfz35_0 := blk_frozen BK286.out 0; have hfz35_1 := blk_frozen BK286.out 1; have hfz35_2 := blk_frozen BK286.out 2) | ((with_reducible refine gate_callee (f := 16) rfl ?_); refine goesL_ (some 46) rfl rfl Try.func16 (by kernel_rfl) rfl #[.agg #[.string a0_0, .string a0_1, .int .i64 a0_2], .agg #[.string a1_0, .int .i64 a1_1, .int .i64 a1_2], .bool true] rfl (by (try simp only [List.map_toArray, List.map_cons, List.map_nil]); first | done | rfl | (simp only [List.length_drop, List.length_take]; rfl)) ?_; (with_reducible refine (gangsawref49_Minutes.calls kj4 a0_0 a0_1 a0_2 a1_0 a1_1 a1_2 true t292 t293 _ A21.out).mono ?_); rintro e w36 ⟨rfl, hb⟩; refine ⟨_, rfl, ?_⟩; have n0_ := Aside0.mk (blk_below (g := gb285) (o := .cells #[.string a0_0, .string a0_1, .int .i64 a0_2] 34 (0, 0)) (by (with_reducible repeat (first | refine blk_drewN ?_ _ | refine blk_drew ?_ | refine blk_alloc ?_ _)); exact BK285.out) hb); have n1_ := Aside0.mk (blk_below (g := gb286) (o := .cells #[.string a1_0, .int .i64 a1_1, .int .i64 a1_2] 36 (0, 0)) (by (with_reducible repeat (first | refine blk_drewN ?_ _ | refine blk_drew ?_ | refine blk_alloc ?_ _)); exact BK286.out) hb); have n2_ := Aside0.mk (below_step (by repeat (first | (with_reducible first | exact HB.out | apply below_alloc | apply pw_below_drewN | apply below_drew1 | refine below_set ?_ GE285.out | refine below_set ?_ GE286.out) | exact HB.out)) hb); clear BK285; clear BK286; clear HB; have BK285 := n0_; have BK286 := n1_; have HB := n2_; clear n0_ n1_ n2_; (try clear hb); (try clear hb2); (try clear hk); (try clear hi); have hcz37_0 : w36.cell? ⟨gb285, 0, none⟩ = some (.string a0_0) := (blk_cell BK285.out 0).trans rfl; have hcz37_1 : w36.cell? ⟨gb285, 1, none⟩ = some (.string a0_1) := (blk_cell BK285.out 1).trans rfl; have hcz37_2 : w36.cell? ⟨gb285, 2, none⟩ = some (.int .i64 a0_2) := (blk_cell BK285.out 2).trans rfl; have hfz37_0 := blk_frozen BK285.out 0; have hfz37_1 := blk_frozen BK285.out 1; have hfz37_2 := blk_frozen BK285.out 2; have hcz38_0 : w36.cell? ⟨gb286, 0, none⟩ = some (.string a1_0) := (blk_cell BK286.out 0).trans rfl; have hcz38_1 : w36.cell? ⟨gb286, 1, none⟩ = some (.int .i64 a1_1) := (blk_cell BK286.out 1).trans rfl; have hcz38_2 : w36.cell? ⟨gb286, 2, none⟩ = some (.int .i64 a1_2) := (blk_cell BK286.out 2).trans rfl; have hfz38_0 := blk_frozen BK286.out 0; have hfz38_1 := blk_frozen BK286.out 1; have hfz38_2 := blk_frozen BK286.out 2) | ((with_reducible refine gate_callee (f := 16) rfl ?_); refine goesL_ (some 52) rfl rfl Try.func16 (by kernel_rfl) rfl #[.agg #[.string a0_0, .string a0_1, .int .i64 a0_2], .agg #[.string a1_0, .int .i64 a1_1, .int .i64 a1_2], .bool false] rfl (by (try simp only [List.map_toArray, List.map_cons, List.map_nil]); first | done | rfl | (simp only [List.length_drop, List.length_take]; rfl)) ?_; (with_reducible refine (gangsawref49_Minutes.calls kj4 a0_0 a0_1 a0_2 a1_0 a1_1 a1_2 false t294 t295 _ A22.out).mono ?_); rintro e w39 ⟨rfl, hb⟩; refine ⟨_, rfl, ?_⟩; have n0_ := Aside0.mk (blk_below (g := gb285) (o := .cells #[.string a0_0, .string a0_1, .int .i64 a0_2] 34 (0, 0)) (by (with_reducible repeat (first | refine blk_drewN ?_ _ | refine blk_drew ?_ | refine blk_alloc ?_ _)); exact BK285.out) hb); have n1_ := Aside0.mk (blk_below (g := gb286) (o := .cells #[.string a1_0, .int .i64 a1_1, .int .i64 a1_2] 36 (0, 0)) (by (with_reducible repeat (first | refine blk_drewN ?_ _ | refine blk_drew ?_ | refine blk_alloc ?_ _)); exact BK286.out) hb); have n2_ := Aside0.mk (below_step (by repeat (first | (with_reducible first | exact HB.out | apply below_alloc | apply pw_below_drewN | apply below_drew1 | refine below_set ?_ GE285.out | refine below_set ?_ GE286.out) | exact HB.out)) hb); clear BK285; clear BK286; clear HB; have BK285 := n0_; have BK286 := n1_; have HB := n2_; clear n0_ n1_ n2_; (try clear hb); (try clear hb2); (try clear hk); (try clear hi)))
                  go_ret
                  exact ⟨by first | rfl | (simp [errW_none, errW_some] <;> rfl) | (simp [*, errW_none, errW_some] <;> rfl), by repeat (first | (with_reducible first | exact HB.out | apply below_alloc | apply pw_below_drewN | apply below_drew1 | refine below_set ?_ GE285.out | refine below_set ?_ GE286.out) | exact HB.out)⟩
                · rw [if_neg c26] at H
                  have c26b0 : (t291 == t295) = false := beq_eq_false_iff_ne.mpr c26
                  have c26b1 : (t291 != t295) = true := bne_iff_ne.mpr c26
                  obtain rfl := Option.some.inj H
                  exact absurd hr (by decide)
              · rw [if_neg c25] at H
                have c25b0 : (t290 == t294) = false := beq_eq_false_iff_ne.mpr c25
                have c25b1 : (t290 != t294) = true := bne_iff_ne.mpr c25
                obtain rfl := Option.some.inj H
                exact absurd hr (by decide)
            · rw [if_neg c24] at H
              have c24b0 : (t289 == t293) = false := beq_eq_false_iff_ne.mpr c24
              have c24b1 : (t289 != t293) = true := bne_iff_ne.mpr c24
              obtain rfl := Option.some.inj H
              exact absurd hr (by decide)
          · rw [if_neg c23] at H
            have c23b0 : (t288 == t292) = false := beq_eq_false_iff_ne.mpr c23
            have c23b1 : (t288 != t292) = true := bne_iff_ne.mpr c23
            obtain rfl := Option.some.inj H
            exact absurd hr (by decide)
  · replace c4 := Bool.eq_false_iff.mpr c4
    subst c4
    have H1 : (some false) = some r := by rw [if_neg (show ¬ (false = true) by decide)] at H; exact H
    clear H
    have H := H1
    clear H1
    obtain rfl := Option.some.inj H
    exact absurd hr (by decide)

end Go.Proofs.Ytpfggghpkdnppaa.P
