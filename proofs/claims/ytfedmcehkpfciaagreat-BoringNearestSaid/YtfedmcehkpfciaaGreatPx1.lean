/- What functions of the program return: each contract says so of one function, for every input at which its pure function yields. -/
import Derived.Test.YtfedmcehkpfciaaGreatPx0
import Derived.Test.YtfedmcehkpfciaaGreatHof
namespace Go.Proofs.YtfedmcehkpfciaaGreat.P
open Go.RowKit Go.Proofs.YtfedmcehkpfciaaGreatW.PrintWords Go.Proofs.YtfedmcehkpfciaaGreatW.PrintLast Go.Proofs.YtfedmcehkpfciaaGreatW.PrintMore
attribute [local go_sem] max2_int min2_int max_two min_two max_three min_three max_four min_four   -- for this text's walks alone
set_option linter.unusedVariables false
set_option linter.unusedSimpArgs false

open Go.Proofs.YtfedmcehkpfciaaGreat.Hof
def boring_in.f (a0 : Int) : Option (Bool) := if a0 ≥ (-1000000) then (some (decide (a0 ≤ 1000000))) else (some false)
set_option maxHeartbeats 8000000 in
set_option maxRecDepth 100000 in
theorem boring_in.calls (a0 : Int) (r : Bool) (w : World) (h : boring_in.f a0 = some r) :
  Calls Tryz.prog 67 #[.int .i64 a0] w fun e w' => e = .returned (.bool r) ∧ Drawn0 w w' := by
 have H : (if a0 ≥ (-1000000) then (some (decide (a0 ≤ 1000000))) else (some false)) = some r := h
 clear h
 by_cases c2 : a0 ≥ (-1000000)
 ·rw [if_pos c2] at H
  have c2b0 : decide ((-1000000) ≤ a0) = true := decide_eq_true c2
  clear c2
  obtain rfl := Option.some.inj H
  simp only [Option.some.injEq, Prod.mk.injEq] at H
  obtain ⟨rfl⟩ := H
  go_enter Tryz.func67, Tryz.ntmps67
  go_wp2
  go_ret
  exact ⟨by first | rfl | (simp; done) | (simp [*]; done), by repeat (first | exact Drawn0.refl _ | apply Drawn0.step)⟩
 ·rw [if_neg c2] at H
  have c2b0 : decide ((-1000000) ≤ a0) = false := decide_eq_false c2
  clear c2
  obtain rfl := Option.some.inj H
  simp only [Option.some.injEq, Prod.mk.injEq] at H
  obtain ⟨rfl⟩ := H
  go_enter Tryz.func67, Tryz.ntmps67
  go_wp2
  go_ret
  exact ⟨by first | rfl | (simp; done) | (simp [*]; done), by repeat (first | exact Drawn0.refl _ | apply Drawn0.step)⟩

def boring_Nearest_1.f (a0_0 : Int) (a0_1 : Int) : Option (Bool) := (boring_in.f a0_0).bind fun t102 => (if t102 = true then ((boring_in.f a0_1).bind fun t103 => (some t103)) else (some false))
set_option maxHeartbeats 8000000 in
set_option maxRecDepth 100000 in
theorem boring_Nearest_1.calls (a0_0 : Int) (a0_1 : Int) (r : Bool) (w : World) (h : boring_Nearest_1.f a0_0 a0_1 = some r) :
  Calls Tryz.prog 66 #[.agg #[.int .i64 a0_0, .int .i64 a0_1]] w fun e w' => e = .returned (.bool r) ∧ Below w.heap.size w w' := by
 have hu30 := Tryz.underlying30
 have HB := Aside0.mk (Below.refl w.heap.size w)
 have H : ((boring_in.f a0_0).bind fun t102 => (if t102 = true then ((boring_in.f a0_1).bind fun t103 => (some t103)) else (some false))) = some r := h
 clear h
 replace H := Option.bind_eq_some_iff.mp H
 obtain ⟨t102, A20, H⟩ := H
 replace H : (if t102 = true then ((boring_in.f a0_1).bind fun t103 => (some t103)) else (some false)) = some r := H
 have A2 := Aside0.mk A20
 clear A20
 by_cases c3 : t102 = true
 ·subst c3
  have H1 : ((boring_in.f a0_1).bind fun t103 => (some t103)) = some r := by rw [if_pos rfl] at H; exact H
  clear H
  have H := H1
  clear H1
  replace H := Option.bind_eq_some_iff.mp H
  obtain ⟨t103, A40, H⟩ := H
  replace H : (some t103) = some r := H
  have A4 := Aside0.mk A40
  clear A40
  obtain rfl := Option.some.inj H
  simp only [Option.some.injEq, Prod.mk.injEq] at H
  obtain ⟨rfl⟩ := H
  go_enter Tryz.func66, Tryz.ntmps66
  go_wp2_with (first | ((with_reducible refine gate_dst (N := 1) rfl ?_); refine box_event ?hg (N := 1) ?hd (cs := #[.int .i64 a0_0, .int .i64 a0_1]) (t := 30) ?hr ?_; (case hd => rfl); (case hg => rfl); (case hr => first | (go_simp; done) | (go_simp; rfl)); intro gb101 hg w5 hbox hb; have n0_ := Aside0.mk (below_step (by repeat (first | (with_reducible first | exact HB.out | apply below_alloc | apply pw_below_drewN | apply below_drew1) | exact HB.out)) hb); have n1_ := Aside0.mk (hbox); have n2_ := Aside0.mk ((by rw [hg]; exact (below_size (by repeat (first | (with_reducible first | exact HB.out | apply below_alloc | apply pw_below_drewN | apply below_drew1) | exact HB.out))) : w.heap.size ≤ gb101)); have n3_ := Aside0.mk ((by rw [hg]; exact (below_size (by repeat (first | (with_reducible first | exact HB.out | apply below_alloc | apply pw_below_drewN | apply below_drew1) | exact HB.out))) : w.heap.size ≤ gb101)); clear HB; have HB := n0_; have BK101 := n1_; have GW101 := n2_; have GE101 := n3_; clear n0_ n1_ n2_ n3_; clear hb hbox hg; have hcz6_0 : w5.cell? ⟨gb101, 0, none⟩ = some (.int .i64 a0_0) := (blk_cell BK101.out 0).trans rfl; have hcz6_1 : w5.cell? ⟨gb101, 1, none⟩ = some (.int .i64 a0_1) := (blk_cell BK101.out 1).trans rfl; have hfz6_0 := blk_frozen BK101.out 0; have hfz6_1 := blk_frozen BK101.out 1) | ((with_reducible refine gate_callee (f := 67) rfl ?_); refine goesL_ (some 5) rfl rfl Tryz.func67 (by kernel_rfl) rfl #[.int .i64 a0_0] rfl (by (try simp only [List.map_toArray, List.map_cons, List.map_nil]); first | done | rfl | (simp only [List.length_drop, List.length_take]; rfl)) ?_; (with_reducible refine (boring_in.calls a0_0 true _ A2.out).mono ?_); rintro e w' ⟨rfl, ⟨nd, rfl⟩⟩; refine ⟨_, rfl, ?_⟩) | (go_at_call 67; (with_reducible refine (boring_in.calls a0_1 t103 _ A4.out).mono ?_); rintro e w' ⟨rfl, ⟨nd, rfl⟩⟩))
  go_ret
  exact ⟨by first | rfl | (simp [errW_none, errW_some] <;> rfl) | (simp [*, errW_none, errW_some] <;> rfl), by repeat (first | (with_reducible first | exact HB.out | apply below_alloc | apply pw_below_drewN | apply below_drew1 | refine below_set ?_ GE101.out) | exact HB.out)⟩
 ·replace c3 := Bool.eq_false_iff.mpr c3
  subst c3
  have H1 : (some false) = some r := by rw [if_neg (show ¬ (false = true) by decide)] at H; exact H
  clear H
  have H := H1
  clear H1
  obtain rfl := Option.some.inj H
  simp only [Option.some.injEq, Prod.mk.injEq] at H
  obtain ⟨rfl⟩ := H
  go_enter Tryz.func66, Tryz.ntmps66
  go_wp2_with (first | ((with_reducible refine gate_dst (N := 1) rfl ?_); refine box_event ?hg (N := 1) ?hd (cs := #[.int .i64 a0_0, .int .i64 a0_1]) (t := 30) ?hr ?_; (case hd => rfl); (case hg => rfl); (case hr => first | (go_simp; done) | (go_simp; rfl)); intro gb101 hg w7 hbox hb; have n0_ := Aside0.mk (below_step (by repeat (first | (with_reducible first | exact HB.out | apply below_alloc | apply pw_below_drewN | apply below_drew1) | exact HB.out)) hb); have n1_ := Aside0.mk (hbox); have n2_ := Aside0.mk ((by rw [hg]; exact (below_size (by repeat (first | (with_reducible first | exact HB.out | apply below_alloc | apply pw_below_drewN | apply below_drew1) | exact HB.out))) : w.heap.size ≤ gb101)); have n3_ := Aside0.mk ((by rw [hg]; exact (below_size (by repeat (first | (with_reducible first | exact HB.out | apply below_alloc | apply pw_below_drewN | apply below_drew1) | exact HB.out))) : w.heap.size ≤ gb101)); clear HB; have HB := n0_; have BK101 := n1_; have GW101 := n2_; have GE101 := n3_; clear n0_ n1_ n2_ n3_; clear hb hbox hg; have hcz8_0 : w7.cell? ⟨gb101, 0, none⟩ = some (.int .i64 a0_0) := (blk_cell BK101.out 0).trans rfl; have hcz8_1 : w7.cell? ⟨gb101, 1, none⟩ = some (.int .i64 a0_1) := (blk_cell BK101.out 1).trans rfl; have hfz8_0 := blk_frozen BK101.out 0; have hfz8_1 := blk_frozen BK101.out 1) | ((with_reducible refine gate_callee (f := 67) rfl ?_); refine goesL_ (some 5) rfl rfl Tryz.func67 (by kernel_rfl) rfl #[.int .i64 a0_0] rfl (by (try simp only [List.map_toArray, List.map_cons, List.map_nil]); first | done | rfl | (simp only [List.length_drop, List.length_take]; rfl)) ?_; (with_reducible refine (boring_in.calls a0_0 false _ A2.out).mono ?_); rintro e w' ⟨rfl, ⟨nd, rfl⟩⟩; refine ⟨_, rfl, ?_⟩))
  go_ret
  exact ⟨by first | rfl | (simp [errW_none, errW_some] <;> rfl) | (simp [*, errW_none, errW_some] <;> rfl), by repeat (first | (with_reducible first | exact HB.out | apply below_alloc | apply pw_below_drewN | apply below_drew1 | refine below_set ?_ GE101.out) | exact HB.out)⟩
theorem boring_Nearest_1.fn  (w : World)  : FnE Tryz.prog k30 vAgg Value.bool (.func (.func 66) #[] #[]) (fun x_ => boring_Nearest_1.f x_.f0 x_.f1) w :=
 ⟨66, _, rfl, enters_of Tryz.func66 (by kernel_rfl) rfl, fun W x cs r hW hk0 h => by
  obtain rfl := k30_open hk0
  exact (boring_Nearest_1.calls (a0_0 := x.f0) (a0_1 := x.f1)  (r := r) (w := W) (h := h)).mono fun e w' ⟨he, hb⟩ => ⟨he, hb⟩⟩

def boring_Nearest_2.f (a0_0 : ByteArray) (a0_1 : Int) (a0_2 : Int) (l0_3 : List (S48)) (p1_0 : (S30 → Option Bool)) : Option (Bool) := (p1_0 (⟨a0_1, a0_2⟩ : S30)).bind fun t105 => (some (!t105))
set_option maxHeartbeats 8000000 in
set_option maxRecDepth 100000 in
theorem boring_Nearest_2.calls (a0_0 : ByteArray) (a0_1 : Int) (a0_2 : Int) (A0_3 : Option Addr) (c0_3 : Nat) (l0_3 : List (S48)) (gb51 : Nat) (V1_0 : Value) (p1_0 : (S30 → Option Bool)) (r : Bool) (w : World) (hr0_3 : Kd.C k48 w A0_3 l0_3.length l0_3) (hc0_3 : l0_3.length ≤ c0_3) (hx51 : w.heap[gb51]? = some (.cells #[V1_0] 117 (0, 0))) (hf1_0 : FnE Tryz.prog k30 vAgg Value.bool V1_0 p1_0 w) (h : boring_Nearest_2.f a0_0 a0_1 a0_2 l0_3 p1_0 = some r) :
  Calls Tryz.prog 68 #[.agg #[.string a0_0, .int .i64 a0_1, .int .i64 a0_2, .slice A0_3 l0_3.length c0_3], .pointer (some ⟨gb51, 0, none⟩)] w fun e w' => e = .returned (.bool r) ∧ Below w.heap.size w w' := by
 have hu33 := Tryz.underlying33
 have hu117 := Tryz.underlying117
 have hu30 := Tryz.underlying30
 have HR0_3 := Aside0.mk hr0_3
 have HC0_3 := Aside0.mk hc0_3
 clear hr0_3 hc0_3
 obtain ⟨gf1_0, lf1_0, rfl, ef1_0, hp1_0⟩ := hf1_0
 have HF1_0 := Aside0.mk (show FnE Tryz.prog k30 vAgg Value.bool (.func (.func gf1_0) #[] lf1_0) p1_0 w from ⟨gf1_0, lf1_0, rfl, ef1_0, hp1_0⟩)
 have HP1_0 := Aside0.mk hp1_0
 clear hp1_0
 have BK51 := Aside0.mk hx51
 clear hx51
 have HB := Aside0.mk (Below.refl w.heap.size w)
 have H : ((p1_0 (⟨a0_1, a0_2⟩ : S30)).bind fun t105 => (some (!t105))) = some r := h
 clear h
 replace H := Option.bind_eq_some_iff.mp H
 obtain ⟨t105, A30, H⟩ := H
 replace H : (some (!t105)) = some r := H
 have A3 := Aside0.mk A30
 clear A30
 obtain rfl := Option.some.inj H
 simp only [Option.some.injEq, Prod.mk.injEq] at H
 obtain ⟨rfl⟩ := H
 go_enter Tryz.func68, Tryz.ntmps68
 go_wp2_with (first | ((with_reducible refine gate_dst (N := 2) rfl ?_); refine box_event ?hg (N := 2) ?hd (cs := #[.string a0_0, .int .i64 a0_1, .int .i64 a0_2, .slice A0_3 l0_3.length c0_3]) (t := 33) ?hr ?_; (case hd => rfl); (case hg => rfl); (case hr => first | (go_simp; done) | (go_simp; rfl)); intro gb104 hg w4 hbox hb; have n0_ := Aside0.mk (blk_below (g := gb51) (o := .cells #[.func (.func gf1_0) #[] lf1_0] 117 (0, 0)) (by (with_reducible repeat (first | refine blk_drewN ?_ _ | refine blk_drew ?_ | refine blk_alloc ?_ _)); exact BK51.out) hb); have n1_ := Aside0.mk (below_step (by repeat (first | (with_reducible first | exact HB.out | apply below_alloc | apply pw_below_drewN | apply below_drew1 | refine below_set ?_ GE51.out) | exact HB.out)) hb); have n2_ := Aside0.mk (hbox); have n3_ := Aside0.mk ((by rw [hg]; exact (below_size (by repeat (first | (with_reducible first | exact HB.out | apply below_alloc | apply pw_below_drewN | apply below_drew1 | refine below_set ?_ GE51.out) | exact HB.out))) : w.heap.size ≤ gb104)); have n4_ := Aside0.mk ((by rw [hg]; exact (below_size (by repeat (first | (with_reducible first | exact HB.out | apply below_alloc | apply pw_below_drewN | apply below_drew1 | refine below_set ?_ GE51.out) | exact HB.out))) : w.heap.size ≤ gb104)); have n5_ := Aside0.mk ((by rw [hg]; exact Nat.ne_of_lt (blk_lt (g := gb51) (o := .cells #[.func (.func gf1_0) #[] lf1_0] 117 (0, 0)) (by (with_reducible repeat (first | refine blk_drewN ?_ _ | refine blk_drew ?_ | refine blk_alloc ?_ _)); exact BK51.out)) : gb51 ≠ gb104)); have n6_ := Aside0.mk ((by rw [hg]; exact Nat.ne_of_gt (blk_lt (g := gb51) (o := .cells #[.func (.func gf1_0) #[] lf1_0] 117 (0, 0)) (by (with_reducible repeat (first | refine blk_drewN ?_ _ | refine blk_drew ?_ | refine blk_alloc ?_ _)); exact BK51.out)) : gb104 ≠ gb51)); clear BK51; clear HB; have BK51 := n0_; have HB := n1_; have BK104 := n2_; have GW104 := n3_; have GE104 := n4_; have NB51_104 := n5_; have NB104_51 := n6_; clear n0_ n1_ n2_ n3_ n4_ n5_ n6_; clear hb hbox hg; have hnb5 := NB51_104.out; have hnc5 := NB104_51.out; have hcz6_0 : w4.cell? ⟨gb51, 0, none⟩ = some (.func (.func gf1_0) #[] lf1_0) := (blk_cell BK51.out 0).trans rfl; have hfz6_0 := blk_frozen BK51.out 0; have hcz7_0 : w4.cell? ⟨gb104, 0, none⟩ = some (.string a0_0) := (blk_cell BK104.out 0).trans rfl; have hcz7_1 : w4.cell? ⟨gb104, 1, none⟩ = some (.int .i64 a0_1) := (blk_cell BK104.out 1).trans rfl; have hcz7_2 : w4.cell? ⟨gb104, 2, none⟩ = some (.int .i64 a0_2) := (blk_cell BK104.out 2).trans rfl; have hcz7_3 : w4.cell? ⟨gb104, 3, none⟩ = some (.slice A0_3 l0_3.length c0_3) := (blk_cell BK104.out 3).trans rfl; have hfz7_0 := blk_frozen BK104.out 0; have hfz7_1 := blk_frozen BK104.out 1; have hfz7_2 := blk_frozen BK104.out 2; have hfz7_3 := blk_frozen BK104.out 3) | (go_at_fn gf1_0; (refine (HP1_0.out _ (⟨a0_1, a0_2⟩ : S30) [.int .i64 a0_1, .int .i64 a0_2] t105 ?side1 (k30_mk _ _ ) A3.out).mono ?_); (case side1 => repeat (first | (with_reducible first | exact HB.out | apply below_alloc | apply pw_below_drewN | apply below_drew1 | refine below_set ?_ GE51.out | refine below_set ?_ GE104.out) | exact HB.out)); rintro e w8 ⟨rfl, hb⟩; have n0_ := Aside0.mk (blk_below (g := gb51) (o := .cells #[.func (.func gf1_0) #[] lf1_0] 117 (0, 0)) (by (with_reducible repeat (first | refine blk_drewN ?_ _ | refine blk_drew ?_ | refine blk_alloc ?_ _)); exact BK51.out) hb); have n1_ := Aside0.mk (blk_below (g := gb104) (o := .cells #[.string a0_0, .int .i64 a0_1, .int .i64 a0_2, .slice A0_3 l0_3.length c0_3] 33 (0, 0)) (by (with_reducible repeat (first | refine blk_drewN ?_ _ | refine blk_drew ?_ | refine blk_alloc ?_ _)); exact BK104.out) hb); have n2_ := Aside0.mk (below_step (by repeat (first | (with_reducible first | exact HB.out | apply below_alloc | apply pw_below_drewN | apply below_drew1 | refine below_set ?_ GE51.out | refine below_set ?_ GE104.out) | exact HB.out)) hb); clear BK51; clear BK104; clear HB; have BK51 := n0_; have BK104 := n1_; have HB := n2_; clear n0_ n1_ n2_; (try clear hb)))
 go_ret
 exact ⟨by first | rfl | (simp [errW_none, errW_some] <;> rfl) | (simp [*, errW_none, errW_some] <;> rfl), by repeat (first | (with_reducible first | exact HB.out | apply below_alloc | apply pw_below_drewN | apply below_drew1 | refine below_set ?_ GE51.out | refine below_set ?_ GE104.out) | exact HB.out)⟩
theorem boring_Nearest_2.fn (gb51 : Nat) (V1_0 : Value) (p1_0 : (S30 → Option Bool)) (w : World) (hx51 : w.heap[gb51]? = some (.cells #[V1_0] 117 (0, 0))) (hf1_0 : FnE Tryz.prog k30 vAgg Value.bool V1_0 p1_0 w) : FnE Tryz.prog k33 vAgg Value.bool (.func (.func 68) #[] #[.pointer (some ⟨gb51, 0, none⟩)]) (fun x_ => boring_Nearest_2.f x_.f0 x_.f1.f0 x_.f1.f1 x_.f2 p1_0) w :=
 ⟨68, _, rfl, enters_of Tryz.func68 (by kernel_rfl) rfl, fun W x cs r hW hk0 h => by
  obtain ⟨Z0_3, z0_3, rfl, zl0_3, zg0_3⟩ := k33_open hk0
  exact (boring_Nearest_2.calls (a0_0 := x.f0) (a0_1 := x.f1.f0) (a0_2 := x.f1.f1) (A0_3 := Z0_3) (c0_3 := z0_3) (l0_3 := x.f2) (hr0_3 := zg0_3) (hc0_3 := zl0_3) (gb51 := gb51) (V1_0 := V1_0) (p1_0 := p1_0) (hf1_0 := FnE.below hf1_0 hW) (hx51 := blk_below hx51 hW) (r := r) (w := W) (h := h)).mono fun e w' ⟨he, hb⟩ => ⟨he, hb⟩⟩

def boring_Nearest_3.f (a0 : Int) (l1_0 : List (S33)) (a2_0 : Int) (a2_1 : Int) : Option (Int) := if 0 ≤ a0 then (if a0 < (l1_0.length : Int) then (some (wrap64 ((wrap64 ((wrap64 (((rd_T33 l1_0 a0).f1.f0) - a2_0)) * (wrap64 (((rd_T33 l1_0 a0).f1.f0) - a2_0)))) + (wrap64 ((wrap64 (((rd_T33 l1_0 a0).f1.f1) - a2_1)) * (wrap64 (((rd_T33 l1_0 a0).f1.f1) - a2_1))))))) else (none)) else (none)
set_option maxHeartbeats 8000000 in
set_option maxRecDepth 100000 in
theorem boring_Nearest_3.calls (a0 : Int) (gb51 : Nat) (A1_0 : Option Addr) (c1_0 : Nat) (l1_0 : List (S33)) (gb52 : Nat) (a2_0 : Int) (a2_1 : Int) (r : Int) (w : World) (hx51 : w.heap[gb51]? = some (.cells #[.slice A1_0 l1_0.length c1_0] 22 (0, 0))) (hr1_0 : Kd.C k33 w A1_0 l1_0.length l1_0) (hc1_0 : l1_0.length ≤ c1_0) (hx52 : w.heap[gb52]? = some (.cells #[.int .i64 a2_0, .int .i64 a2_1] 30 (0, 0))) (h : boring_Nearest_3.f a0 l1_0 a2_0 a2_1 = some r) :
  Calls Tryz.prog 69 #[.int .i64 a0, .pointer (some ⟨gb51, 0, none⟩), .pointer (some ⟨gb52, 0, none⟩)] w fun e w' => e = .returned (.int .i64 r) ∧ Drawn0 w w' := by
 have hu22 := Tryz.underlying22
 have hu3 := Tryz.underlying3
 have HR1_0 := Aside0.mk hr1_0
 have HC1_0 := Aside0.mk hc1_0
 clear hr1_0 hc1_0
 have BK51 := Aside0.mk hx51
 clear hx51
 have BK52 := Aside0.mk hx52
 clear hx52
 have H : (if 0 ≤ a0 then (if a0 < (l1_0.length : Int) then (some (wrap64 ((wrap64 ((wrap64 (((rd_T33 l1_0 a0).f1.f0) - a2_0)) * (wrap64 (((rd_T33 l1_0 a0).f1.f0) - a2_0)))) + (wrap64 ((wrap64 (((rd_T33 l1_0 a0).f1.f1) - a2_1)) * (wrap64 (((rd_T33 l1_0 a0).f1.f1) - a2_1))))))) else (none)) else (none)) = some r := h
 clear h
 by_cases c4 : 0 ≤ a0
 ·rw [if_pos c4] at H
  have c4b0 : decide (0 ≤ a0) = true := decide_eq_true c4
  clear c4
  by_cases c5 : a0 < (l1_0.length : Int)
  ·rw [if_pos c5] at H
   have c5b0 : decide (a0 < (l1_0.length : Int)) = true := decide_eq_true c5
   clear c5
   obtain rfl := Option.some.inj H
   simp only [Option.some.injEq, Prod.mk.injEq] at H
   obtain ⟨rfl⟩ := H
   have hcz6_0 : w.cell? ⟨gb51, 0, none⟩ = some (.slice A1_0 l1_0.length c1_0) := (blk_cell BK51.out 0).trans rfl
   have hfz6_0 := blk_frozen BK51.out 0
   have p106 : 0 ≤ (a0 : Int) := of_decide_eq_true (by first | (with_reducible assumption) | assumption)
   have q106 : a0 < (l1_0.length : Int) := of_decide_eq_true (by first | (with_reducible assumption) | assumption)
   obtain ⟨ad106, A106_3, c106_3, e106, hx106_0, hx106_1, hx106_2, hx106_3, hl106_3, hi106_3⟩ := at_T33 HR1_0.out a0 p106 q106
   cases e106
   have HR106_3 := Aside0.mk hi106_3
   have HC106_3 := Aside0.mk hl106_3
   clear hi106_3 hl106_3
   replace p106 := eq_true p106
   replace q106 := eq_true q106
   have hcz7_0 : w.cell? ⟨gb52, 0, none⟩ = some (.int .i64 a2_0) := (blk_cell BK52.out 0).trans rfl
   have hcz7_1 : w.cell? ⟨gb52, 1, none⟩ = some (.int .i64 a2_1) := (blk_cell BK52.out 1).trans rfl
   have hfz7_0 := blk_frozen BK52.out 0
   have hfz7_1 := blk_frozen BK52.out 1
   have p107 : 0 ≤ (a0 : Int) := of_decide_eq_true (by first | (with_reducible assumption) | assumption)
   have q107 : a0 < (l1_0.length : Int) := of_decide_eq_true (by first | (with_reducible assumption) | assumption)
   obtain ⟨ad107, A107_3, c107_3, e107, hx107_0, hx107_1, hx107_2, hx107_3, hl107_3, hi107_3⟩ := at_T33 HR1_0.out a0 p107 q107
   obtain rfl : ad106 = ad107 := (by injection e107)
   have HR107_3 := Aside0.mk hi107_3
   have HC107_3 := Aside0.mk hl107_3
   clear hi107_3 hl107_3
   replace p107 := eq_true p107
   replace q107 := eq_true q107
   have ea_ := Option.some.inj (hx106_3.symm.trans hx107_3)
   injection ea_ with ea_ en_ ec_
   subst ea_
   subst ec_
   clear en_
   go_enter Tryz.func69, Tryz.ntmps69
   go_wp2
   repeat (go_quiet (fail); try go_wp2)
   go_ret
   exact ⟨by first | rfl | (simp; done) | (simp [*]; done), by repeat (first | exact Drawn0.refl _ | apply Drawn0.step)⟩
  ·rw [if_neg c5] at H
   exact absurd H (by simp)
 ·rw [if_neg c4] at H
  exact absurd H (by simp)
end Go.Proofs.YtfedmcehkpfciaaGreat.P
