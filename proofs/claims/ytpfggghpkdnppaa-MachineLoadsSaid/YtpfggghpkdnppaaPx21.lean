/- What functions of the program return: each contract says so of one function, for every input at which its pure function yields. -/
import Derived.Test.YtpfggghpkdnppaaPx0
import Derived.Test.YtpfggghpkdnppaaPx12
import Derived.Test.YtpfggghpkdnppaaPx18
namespace Go.Proofs.Ytpfggghpkdnppaa.P
open Go.RowKit Go.Proofs.YtpfggghpkdnppaaW.PrintWords Go.Proofs.YtpfggghpkdnppaaW.PrintLast Go.Proofs.YtpfggghpkdnppaaW.PrintMore
attribute [local go_sem] max2_int min2_int max_two min_two max_three min_three max_four min_four   -- for this text's walks alone
set_option linter.unusedVariables false
set_option linter.unusedSimpArgs false

def gangsawref49_CheckJob.f (k : Nat) (l0 : List (S34)) (a1_0 : ByteArray) (l1_1 : List (S36)) (a1_2 : Int) (a1_3 : Int) (a1_4 : Int) : Option (Int) := (gangsawref49_Check.f k l0).bind fun t416 => (if t416 = 0 then ((gangsawref49_each.f k l0 (([(⟨a1_0, l1_1, a1_2, a1_3, a1_4⟩ : S47)] : List (S47))) false).bind fun t420 => (some t420)) else (some t416))
set_option maxHeartbeats 8000000 in
set_option maxRecDepth 100000 in
theorem gangsawref49_CheckJob.calls (k : Nat) (A0 : Option Addr) (c0 : Nat) (l0 : List (S34)) (a1_0 : ByteArray) (P1_1_ : Nat → Prop) (A1_1 : Option Addr) (c1_1 : Nat) (l1_1 : List (S36)) (a1_2 : Int) (a1_3 : Int) (a1_4 : Int) (r : Int) (w : World) (hr0 : Kd.C k34 w A0 l0.length l0) (hc0 : l0.length ≤ c0) (hs1_1 : Kd.V k36 36 w w.heap.size (fun k_ => P1_1_ k_) (.slice A1_1 l1_1.length c1_1) l1_1) (h : gangsawref49_CheckJob.f k l0 a1_0 l1_1 a1_2 a1_3 a1_4 = some r) :
  Calls Try.prog 21 #[.slice A0 l0.length c0, .agg #[.string a1_0, .slice A1_1 l1_1.length c1_1, .int .i64 a1_2, .int .i64 a1_3, .int .i64 a1_4]] w fun e w' => e = .returned (.int .i64 r) ∧ Below w.heap.size w w' := by
 have hu47 := Try.underlying47
 have HR0 := Aside0.mk hr0
 have HC0 := Aside0.mk hc0
 clear hr0 hc0
 have HO1_1 := Aside0.mk (show Kd.V k36 36 w w.heap.size (fun k_ => (P1_1_ k_ ∨ w.heap.size ≤ k_)) (.slice A1_1 l1_1.length c1_1) l1_1 from Kd.V_mono hs1_1 (fun k_ hk => .inl hk))
 have HB := Aside0.mk (Below.refl w.heap.size w)
 have H : ((gangsawref49_Check.f k l0).bind fun t416 => (if t416 = 0 then ((gangsawref49_each.f k l0 (([(⟨a1_0, l1_1, a1_2, a1_3, a1_4⟩ : S47)] : List (S47))) false).bind fun t420 => (some t420)) else (some t416))) = some r := h
 clear h
 replace H := Option.bind_eq_some_iff.mp H
 obtain ⟨t416, A30, H⟩ := H
 replace H : (if t416 = 0 then ((gangsawref49_each.f k l0 (([(⟨a1_0, l1_1, a1_2, a1_3, a1_4⟩ : S47)] : List (S47))) false).bind fun t420 => (some t420)) else (some t416)) = some r := H
 have A3 := Aside0.mk A30
 clear A30
 by_cases c4 : t416 = 0
 ·rw [if_pos c4] at H
  have c4b0 : (t416 == 0) = true := beq_iff_eq.mpr c4
  have c4b1 : (t416 != 0) = false := bne_eq_false_iff_eq.mpr c4
  clear c4
  obtain ⟨y417, hy417⟩ : ∃ y_ : List (S47), y_ = (([(⟨a1_0, l1_1, a1_2, a1_3, a1_4⟩ : S47)] : List (S47))) := ⟨_, rfl⟩
  replace H : ((gangsawref49_each.f k l0 y417 false).bind fun t420 => (some t420)) = some r := by first | (rw [hy417]; with_reducible exact H) | (have H2_ := (Option.bind_some _ _).symm.trans H; rw [hy417]; with_reducible exact H2_) | (have H2_ := (Option.bind_some _ _).symm.trans H; with_reducible exact H2_) | with_reducible exact H | (rw [hy417]; exact H) | exact H
  have Ny417 := Aside0.mk hy417
  clear hy417
  replace H := Option.bind_eq_some_iff.mp H
  obtain ⟨t420, A50, H⟩ := H
  replace H : (some t420) = some r := H
  have A5 := Aside0.mk A50
  clear A50
  obtain rfl := Option.some.inj H
  simp only [Option.some.injEq, Prod.mk.injEq] at H
  obtain ⟨rfl⟩ := H
  go_enter Try.func21, Try.ntmps21
  go_wp2_with (first | ((with_reducible refine gate_dst (N := 3) rfl ?_); refine box_event ?hg (N := 3) ?hd (cs := #[.string a1_0, .slice A1_1 l1_1.length c1_1, .int .i64 a1_2, .int .i64 a1_3, .int .i64 a1_4]) (t := 47) ?hr ?_; (case hd => rfl); (case hg => rfl); (case hr => first | (go_simp; done) | (go_simp; rfl)); intro gb415 hg w6 hbox hb; have n0_ := Aside0.mk (Kd.V_below (Kd.V_elderB (by (with_reducible repeat (first | apply Kd.V_alloc | apply Kd.V_drewN | apply Kd.V_drew)); exact HO1_1.out) gb415 (Nat.le_of_eq hg.symm)) hb); have n1_ := Aside0.mk (below_step (by repeat (first | (with_reducible first | exact HB.out | apply below_alloc | apply pw_below_drewN | apply below_drew1) | exact HB.out)) hb); have n2_ := Aside0.mk (hbox); have n3_ := Aside0.mk ((by rw [hg]; exact (below_size (by repeat (first | (with_reducible first | exact HB.out | apply below_alloc | apply pw_below_drewN | apply below_drew1) | exact HB.out))) : w.heap.size ≤ gb415)); have n4_ := Aside0.mk ((by rw [hg]; exact (below_size (by repeat (first | (with_reducible first | exact HB.out | apply below_alloc | apply pw_below_drewN | apply below_drew1) | exact HB.out))) : w.heap.size ≤ gb415)); clear HO1_1; clear HB; have HO1_1 := n0_; have HB := n1_; have BK415 := n2_; have GW415 := n3_; have GE415 := n4_; clear n0_ n1_ n2_ n3_ n4_; clear hb hbox hg) | ((with_reducible refine gate_callee (f := 12) rfl ?_); refine goesL_ (some 7) rfl rfl Try.func12 (by kernel_rfl) rfl #[.slice A0 l0.length c0] rfl (by (try simp only [List.map_toArray, List.map_cons, List.map_nil]); first | done | rfl | (simp only [List.length_drop, List.length_take]; rfl)) ?_; (with_reducible refine (gangsawref49_Check.calls k _ _ l0 t416 _ ?side1 ?side2 A3.out).mono ?_); (case side1 => repeat (first | exact (Kd.C_below HR0.out HB.out) | (with_reducible refine Kd.C_alloc ?_ _) | (with_reducible refine Kd.C_drewN ?_ _) | (with_reducible refine Kd.C_drew ?_))); (case side2 => exact HC0.out); rintro e w7 ⟨rfl, hb⟩; refine ⟨_, rfl, ?_⟩; have n0_ := Aside0.mk (Kd.V_below (by (with_reducible repeat (first | apply Kd.V_alloc | apply Kd.V_drewN | apply Kd.V_drew)); exact HO1_1.out) hb); have n1_ := Aside0.mk (blk_below (g := gb415) (o := .cells #[.string a1_0, .slice A1_1 l1_1.length c1_1, .int .i64 a1_2, .int .i64 a1_3, .int .i64 a1_4] 47 (0, 0)) (by (with_reducible repeat (first | refine blk_drewN ?_ _ | refine blk_drew ?_ | refine blk_alloc ?_ _)); exact BK415.out) hb); have n2_ := Aside0.mk (below_step (by repeat (first | (with_reducible first | exact HB.out | apply below_alloc | apply pw_below_drewN | apply below_drew1 | refine below_set ?_ GE415.out) | exact HB.out)) hb); clear HO1_1; clear BK415; clear HB; have HO1_1 := n0_; have BK415 := n1_; have HB := n2_; clear n0_ n1_ n2_; (try clear hb); (try clear hb2); (try clear hk); (try clear hi); have hcz8_0 : w7.cell? ⟨gb415, 0, none⟩ = some (.string a1_0) := (blk_cell BK415.out 0).trans rfl; have hcz8_1 : w7.cell? ⟨gb415, 1, none⟩ = some (.slice A1_1 l1_1.length c1_1) := (blk_cell BK415.out 1).trans rfl; have hcz8_2 : w7.cell? ⟨gb415, 2, none⟩ = some (.int .i64 a1_2) := (blk_cell BK415.out 2).trans rfl; have hcz8_3 : w7.cell? ⟨gb415, 3, none⟩ = some (.int .i64 a1_3) := (blk_cell BK415.out 3).trans rfl; have hcz8_4 : w7.cell? ⟨gb415, 4, none⟩ = some (.int .i64 a1_4) := (blk_cell BK415.out 4).trans rfl; have hfz8_0 := blk_frozen BK415.out 0; have hfz8_1 := blk_frozen BK415.out 1; have hfz8_2 := blk_frozen BK415.out 2; have hfz8_3 := blk_frozen BK415.out 3; have hfz8_4 := blk_frozen BK415.out 4) | ((with_reducible refine gate_dst (N := 13) rfl ?_); refine Kd.N_lit k47 _ 47 ?hg (N' := 13) ?hd (xs := ([(⟨a1_0, l1_1, a1_2, a1_3, a1_4⟩ : S47)] : List (S47))) (inner := [.string a1_0, .slice A1_1 l1_1.length c1_1, .int .i64 a1_2, .int .i64 a1_3, .int .i64 a1_4]) (ok := (fun k_ => (P1_1_ k_ ∨ w.heap.size ≤ k_) ∧ k_ ≠ gb415)) (okp := (fun k_ => (P1_1_ k_ ∨ w.heap.size ≤ k_) ∧ k_ ≠ gb415)) ?hr ?hp (fun _ hk => hk) ((show ∀ k_, w7.heap.size ≤ k_ → (fun k_ => (P1_1_ k_ ∨ w.heap.size ≤ k_) ∧ k_ ≠ gb415) k_ from fun k_ hk => ⟨(.inr (Nat.le_trans (below_size (by repeat (first | (with_reducible first | exact HB.out | apply below_alloc | apply pw_below_drewN | apply below_drew1 | refine below_set ?_ GE415.out) | exact HB.out))) hk)), Kd.freshB (g := gb415) (o := .cells #[.string a1_0, .slice A1_1 l1_1.length c1_1, .int .i64 a1_2, .int .i64 a1_3, .int .i64 a1_4] 47 (0, 0)) (by (with_reducible repeat (first | refine blk_drewN ?_ _ | refine blk_drew ?_ | refine blk_alloc ?_ _)); exact BK415.out) k_ hk⟩) _ (Nat.le_refl _)) (Below.refl _ _) (Nat.le_refl _) (by simp) ?_; (case hd => rfl); (case hg => rfl); (case hr => first | (go_simp; done) | (go_simp; rfl)); (case hp => exact (Reps.c5 (show Kd.FK k47 _ _ (⟨a1_0, l1_1, a1_2, a1_3, a1_4⟩ : S47) [.string a1_0, .slice A1_1 l1_1.length c1_1, .int .i64 a1_2, .int .i64 a1_3, .int .i64 a1_4] from (k47_mkF _ _ (⟨a1_0, l1_1, a1_2, a1_3, a1_4⟩ : S47) (Kd.V_reads' (Kd.V_mono (ok' := (fun k_ => (P1_1_ k_ ∨ w.heap.size ≤ k_) ∧ k_ ≠ gb415)) (HO1_1.out) (fun k_ hk => ⟨hk.1, hk.2⟩))).2.1 (Kd.V_F (Kd.V_mono (ok' := (fun k_ => (P1_1_ k_ ∨ w.heap.size ≤ k_) ∧ k_ ≠ gb415)) (HO1_1.out) (fun k_ hk => ⟨hk.1, hk.2⟩))))) (Reps.none _ _))); intro v418 w9 ho10 hb hg_ hnew_; clear hg_ hnew_; (first | rw [← Ny417.out] at ho10 | (simp only [Int.reduceToNat] at ho10; rw [← Ny417.out] at ho10)); have n0_ := Aside0.mk (Kd.V_elder' (by (with_reducible repeat (first | apply Kd.V_alloc | apply Kd.V_drewN | apply Kd.V_drew)); exact HO1_1.out) (Kd.N_base ho10) hb); have n1_ := Aside0.mk (Kd.N_lower ho10 (below_size (by repeat (first | (with_reducible first | exact HB.out | apply below_alloc | apply pw_below_drewN | apply below_drew1 | refine below_set ?_ GE415.out) | exact HB.out)))); have n2_ := Aside0.mk (blk_below (g := gb415) (o := .cells #[.string a1_0, .slice A1_1 l1_1.length c1_1, .int .i64 a1_2, .int .i64 a1_3, .int .i64 a1_4] 47 (0, 0)) (by (with_reducible repeat (first | refine blk_drewN ?_ _ | refine blk_drew ?_ | refine blk_alloc ?_ _)); exact BK415.out) hb); have n3_ := Aside0.mk (below_step (by repeat (first | (with_reducible first | exact HB.out | apply below_alloc | apply pw_below_drewN | apply below_drew1 | refine below_set ?_ GE415.out) | exact HB.out)) hb); clear HO1_1; clear BK415; clear HB; have HO1_1 := n0_; have HO419 := n1_; have BK415 := n2_; have HB := n3_; clear n0_ n1_ n2_ n3_; clear hb ho10; obtain ⟨Ao11, co11, eo11⟩ := Kd.N_slice HO419.out; subst eo11) | ((with_reducible refine gate_callee (f := 36) rfl ?_); refine goesL_ (some 14) rfl rfl Try.func36 (by kernel_rfl) rfl #[.slice A0 l0.length c0, .slice Ao11 y417.length co11, .bool false] rfl (by (try simp only [List.map_toArray, List.map_cons, List.map_nil]); first | done | rfl | (simp only [List.length_drop, List.length_take]; rfl)) ?_; (with_reducible refine (gangsawref49_each.calls k _ _ l0 _ _ y417 false t420 _ ?side1 ?side2 ?side3 ?side4 A5.out).mono ?_); (case side1 => repeat (first | exact (Kd.C_below HR0.out HB.out) | (with_reducible refine Kd.C_alloc ?_ _) | (with_reducible refine Kd.C_drewN ?_ _) | (with_reducible refine Kd.C_drew ?_))); (case side2 => exact HC0.out); (case side3 => repeat (first | exact (Kd.N_reads' HO419.out).2.2 | (with_reducible refine Kd.C_alloc ?_ _) | (with_reducible refine Kd.C_drewN ?_ _) | (with_reducible refine Kd.C_drew ?_))); (case side4 => exact (Kd.N_reads' HO419.out).2.1); rintro e w12 ⟨rfl, hb⟩; refine ⟨_, rfl, ?_⟩; have n0_ := Aside0.mk (Kd.V_below (by (with_reducible repeat (first | apply Kd.V_alloc | apply Kd.V_drewN | apply Kd.V_drew)); exact HO1_1.out) hb); have n1_ := Aside0.mk (Kd.N_below (by (with_reducible repeat (first | apply Kd.N_alloc | apply Kd.N_drewN | apply Kd.N_drew)); exact HO419.out) hb); have n2_ := Aside0.mk (blk_below (g := gb415) (o := .cells #[.string a1_0, .slice A1_1 l1_1.length c1_1, .int .i64 a1_2, .int .i64 a1_3, .int .i64 a1_4] 47 (0, 0)) (by (with_reducible repeat (first | refine blk_drewN ?_ _ | refine blk_drew ?_ | refine blk_alloc ?_ _)); exact BK415.out) hb); have n3_ := Aside0.mk (below_step (by repeat (first | (with_reducible first | exact HB.out | apply below_alloc | apply pw_below_drewN | apply below_drew1 | refine below_set ?_ GE415.out) | exact HB.out)) hb); clear HO1_1; clear HO419; clear BK415; clear HB; have HO1_1 := n0_; have HO419 := n1_; have BK415 := n2_; have HB := n3_; clear n0_ n1_ n2_ n3_; (try clear hb); (try clear hb2); (try clear hk); (try clear hi)))
  go_ret
  exact ⟨by first | rfl | (simp [errW_none, errW_some] <;> rfl) | (simp [*, errW_none, errW_some] <;> rfl), by repeat (first | (with_reducible first | exact HB.out | apply below_alloc | apply pw_below_drewN | apply below_drew1 | refine below_set ?_ GE415.out) | exact HB.out)⟩
 ·rw [if_neg c4] at H
  have c4b0 : (t416 == 0) = false := beq_eq_false_iff_ne.mpr c4
  have c4b1 : (t416 != 0) = true := bne_iff_ne.mpr c4
  obtain rfl := Option.some.inj H
  simp only [Option.some.injEq, Prod.mk.injEq] at H
  obtain ⟨rfl⟩ := H
  go_enter Try.func21, Try.ntmps21
  go_wp2_with (first | ((with_reducible refine gate_dst (N := 3) rfl ?_); refine box_event ?hg (N := 3) ?hd (cs := #[.string a1_0, .slice A1_1 l1_1.length c1_1, .int .i64 a1_2, .int .i64 a1_3, .int .i64 a1_4]) (t := 47) ?hr ?_; (case hd => rfl); (case hg => rfl); (case hr => first | (go_simp; done) | (go_simp; rfl)); intro gb415 hg w13 hbox hb; have n0_ := Aside0.mk (Kd.V_below (Kd.V_elderB (by (with_reducible repeat (first | apply Kd.V_alloc | apply Kd.V_drewN | apply Kd.V_drew)); exact HO1_1.out) gb415 (Nat.le_of_eq hg.symm)) hb); have n1_ := Aside0.mk (below_step (by repeat (first | (with_reducible first | exact HB.out | apply below_alloc | apply pw_below_drewN | apply below_drew1) | exact HB.out)) hb); have n2_ := Aside0.mk (hbox); have n3_ := Aside0.mk ((by rw [hg]; exact (below_size (by repeat (first | (with_reducible first | exact HB.out | apply below_alloc | apply pw_below_drewN | apply below_drew1) | exact HB.out))) : w.heap.size ≤ gb415)); have n4_ := Aside0.mk ((by rw [hg]; exact (below_size (by repeat (first | (with_reducible first | exact HB.out | apply below_alloc | apply pw_below_drewN | apply below_drew1) | exact HB.out))) : w.heap.size ≤ gb415)); clear HO1_1; clear HB; have HO1_1 := n0_; have HB := n1_; have BK415 := n2_; have GW415 := n3_; have GE415 := n4_; clear n0_ n1_ n2_ n3_ n4_; clear hb hbox hg) | ((with_reducible refine gate_callee (f := 12) rfl ?_); refine goesL_ (some 7) rfl rfl Try.func12 (by kernel_rfl) rfl #[.slice A0 l0.length c0] rfl (by (try simp only [List.map_toArray, List.map_cons, List.map_nil]); first | done | rfl | (simp only [List.length_drop, List.length_take]; rfl)) ?_; (with_reducible refine (gangsawref49_Check.calls k _ _ l0 t416 _ ?side1 ?side2 A3.out).mono ?_); (case side1 => repeat (first | exact (Kd.C_below HR0.out HB.out) | (with_reducible refine Kd.C_alloc ?_ _) | (with_reducible refine Kd.C_drewN ?_ _) | (with_reducible refine Kd.C_drew ?_))); (case side2 => exact HC0.out); rintro e w14 ⟨rfl, hb⟩; refine ⟨_, rfl, ?_⟩; have n0_ := Aside0.mk (Kd.V_below (by (with_reducible repeat (first | apply Kd.V_alloc | apply Kd.V_drewN | apply Kd.V_drew)); exact HO1_1.out) hb); have n1_ := Aside0.mk (blk_below (g := gb415) (o := .cells #[.string a1_0, .slice A1_1 l1_1.length c1_1, .int .i64 a1_2, .int .i64 a1_3, .int .i64 a1_4] 47 (0, 0)) (by (with_reducible repeat (first | refine blk_drewN ?_ _ | refine blk_drew ?_ | refine blk_alloc ?_ _)); exact BK415.out) hb); have n2_ := Aside0.mk (below_step (by repeat (first | (with_reducible first | exact HB.out | apply below_alloc | apply pw_below_drewN | apply below_drew1 | refine below_set ?_ GE415.out) | exact HB.out)) hb); clear HO1_1; clear BK415; clear HB; have HO1_1 := n0_; have BK415 := n1_; have HB := n2_; clear n0_ n1_ n2_; (try clear hb); (try clear hb2); (try clear hk); (try clear hi)))
  go_ret
  exact ⟨by first | rfl | (simp [errW_none, errW_some] <;> rfl) | (simp [*, errW_none, errW_some] <;> rfl), by repeat (first | (with_reducible first | exact HB.out | apply below_alloc | apply pw_below_drewN | apply below_drew1 | refine below_set ?_ GE415.out) | exact HB.out)⟩

def gangsawref49_Chain.l0 : Nat → Int → Int → ByteArray → List (S36) → Int → Int → Int → Option (Int)
 | 0, _, _, _, _, _, _, _ => none
 | k + 1, x3, x4, x422000, x422001, x422002, x422003, x422004 => if x4 < (x422001.length : Int) then (if 0 ≤ x4 then (gangsawref49_Chain.l0 k (wrap64 (x3 + (wrap64 (((rd_T36 x422001 x4).f1) + ((rd_T36 x422001 x4).f2))))) (wrap64 (x4 + 1)) x422000 x422001 x422002 x422003 x422004) else (none)) else (some x3)
def gangsawref49_Chain.f (k : Nat) (a0_0 : ByteArray) (l0_1 : List (S36)) (a0_2 : Int) (a0_3 : Int) (a0_4 : Int) : Option (Int) := gangsawref49_Chain.l0 k 0 0 a0_0 l0_1 a0_2 a0_3 a0_4
set_option maxHeartbeats 8000000 in
set_option maxRecDepth 100000 in
theorem gangsawref49_Chain.calls (k : Nat) (a0_0 : ByteArray) (A0_1 : Option Addr) (c0_1 : Nat) (l0_1 : List (S36)) (a0_2 : Int) (a0_3 : Int) (a0_4 : Int) (r : Int) (w : World) (hr0_1 : Kd.C k36 w A0_1 l0_1.length l0_1) (hc0_1 : l0_1.length ≤ c0_1) (h : gangsawref49_Chain.f k a0_0 l0_1 a0_2 a0_3 a0_4 = some r) :
  Calls Try.prog 22 #[.agg #[.string a0_0, .slice A0_1 l0_1.length c0_1, .int .i64 a0_2, .int .i64 a0_3, .int .i64 a0_4]] w fun e w' => e = .returned (.int .i64 r) ∧ Below w.heap.size w w' := by
 have hu47 := Try.underlying47
 have HR0_1 := Aside0.mk hr0_1
 have HC0_1 := Aside0.mk hc0_1
 clear hr0_1 hc0_1
 have HB := Aside0.mk (Below.refl w.heap.size w)
 have H : (gangsawref49_Chain.l0 k 0 0 a0_0 l0_1 a0_2 a0_3 a0_4) = some r := h
 clear h
 have H' := Aside0.mk H
 clear H
 go_enter Try.func22, Try.ntmps22
 go_wp2_with (first | ((with_reducible refine gate_dst (N := 1) rfl ?_); refine box_event ?hg (N := 1) ?hd (cs := #[.string a0_0, .slice A0_1 l0_1.length c0_1, .int .i64 a0_2, .int .i64 a0_3, .int .i64 a0_4]) (t := 47) ?hr ?_; (case hd => rfl); (case hg => rfl); (case hr => first | (go_simp; done) | (go_simp; rfl)); intro gb421 hg w2 hbox hb; have n0_ := Aside0.mk (below_step (by repeat (first | (with_reducible first | exact HB.out | apply below_alloc | apply pw_below_drewN | apply below_drew1) | exact HB.out)) hb); have n1_ := Aside0.mk (hbox); have n2_ := Aside0.mk ((by rw [hg]; exact (below_size (by repeat (first | (with_reducible first | exact HB.out | apply below_alloc | apply pw_below_drewN | apply below_drew1) | exact HB.out))) : w.heap.size ≤ gb421)); have n3_ := Aside0.mk ((by rw [hg]; exact (below_size (by repeat (first | (with_reducible first | exact HB.out | apply below_alloc | apply pw_below_drewN | apply below_drew1) | exact HB.out))) : w.heap.size ≤ gb421)); clear HB; have HB := n0_; have BK421 := n1_; have GW421 := n2_; have GE421 := n3_; clear n0_ n1_ n2_ n3_; clear hb hbox hg))
 go_loopg [3, 4] k (fun kq v3 v4 w' => ∃ (x3_1 : Int) (x4_1 : Int), v3 = .int .i64 x3_1 ∧ v4 = .int .i64 x4_1 ∧ Aside0 (gangsawref49_Chain.l0 kq x3_1 x4_1 a0_0 l0_1 a0_2 a0_3 a0_4 = some r) ∧ Aside0 (kq ≤ k) ∧ Aside0 (w'.heap[gb421]? = some (.cells #[.string a0_0, (.slice A0_1 l0_1.length c0_1), .int .i64 a0_2, .int .i64 a0_3, .int .i64 a0_4] 47 (0, 0))) ∧ Aside0 (Below w.heap.size w w'))
 case atStart => exact ⟨(0), (0), (by first | rfl | (simp; done) | (simp [*]; done)), (by first | rfl | (simp; done) | (simp [*]; done)), H', ⟨Nat.le_refl _⟩, ⟨by (with_reducible repeat (first | refine blk_drewN ?_ _ | refine blk_drew ?_ | refine blk_alloc ?_ _)); exact BK421.out⟩, ⟨by repeat (first | (with_reducible first | exact HB.out | apply below_alloc | apply pw_below_drewN | apply below_drew1 | refine below_set ?_ GE421.out) | exact HB.out)⟩⟩
 case round =>
  clear H'
  try clear c2
  try clear p2
  obtain ⟨x3_1, x4_1, rfl, rfl, HA, HK1, BK421, HB⟩ := hrel
  cases gk with
  | zero => exact absurd HA.out (by simp [gangsawref49_Chain.l0])
  | succ k1 =>
   have H := HA.out
   clear HA
   simp only [gangsawref49_Chain.l0] at H
   by_cases c3 : x4_1 < (l0_1.length : Int)
   ·rw [if_pos c3] at H
    have c3b0 : decide (x4_1 < (l0_1.length : Int)) = true := decide_eq_true c3
    clear c3
    by_cases c4 : 0 ≤ x4_1
    ·rw [if_pos c4] at H
     have c4b0 : decide (0 ≤ x4_1) = true := decide_eq_true c4
     clear c4
     have H' := Aside0.mk H
     clear H
     have hcz5_0 : wr.cell? ⟨gb421, 0, none⟩ = some (.string a0_0) := (blk_cell BK421.out 0).trans rfl
     have hcz5_1 : wr.cell? ⟨gb421, 1, none⟩ = some (.slice A0_1 l0_1.length c0_1) := (blk_cell BK421.out 1).trans rfl
     have hcz5_2 : wr.cell? ⟨gb421, 2, none⟩ = some (.int .i64 a0_2) := (blk_cell BK421.out 2).trans rfl
     have hcz5_3 : wr.cell? ⟨gb421, 3, none⟩ = some (.int .i64 a0_3) := (blk_cell BK421.out 3).trans rfl
     have hcz5_4 : wr.cell? ⟨gb421, 4, none⟩ = some (.int .i64 a0_4) := (blk_cell BK421.out 4).trans rfl
     have hfz5_0 := blk_frozen BK421.out 0
     have hfz5_1 := blk_frozen BK421.out 1
     have hfz5_2 := blk_frozen BK421.out 2
     have hfz5_3 := blk_frozen BK421.out 3
     have hfz5_4 := blk_frozen BK421.out 4
     have p422 : 0 ≤ (x4_1 : Int) := of_decide_eq_true (by first | (with_reducible assumption) | assumption)
     have q422 : x4_1 < (l0_1.length : Int) := of_decide_eq_true (by first | (with_reducible assumption) | assumption)
     obtain ⟨ad422, e422, hx422_0, hx422_1, hx422_2⟩ := at_T36 HR0_1.out x4_1 p422 q422
     cases e422
     replace hx422_0 := (HB.out.cell (World.block_lt_of_cell? w _ hx422_0)).trans hx422_0
     replace hx422_1 := (HB.out.cell (World.block_lt_of_cell? w _ hx422_1)).trans hx422_1
     replace hx422_2 := (HB.out.cell (World.block_lt_of_cell? w _ hx422_2)).trans hx422_2
     replace p422 := eq_true p422
     replace q422 := eq_true q422
     have p423 : 0 ≤ (x4_1 : Int) := of_decide_eq_true (by first | (with_reducible assumption) | assumption)
     have q423 : x4_1 < (l0_1.length : Int) := of_decide_eq_true (by first | (with_reducible assumption) | assumption)
     obtain ⟨ad423, e423, hx423_0, hx423_1, hx423_2⟩ := at_T36 HR0_1.out x4_1 p423 q423
     obtain rfl : ad422 = ad423 := (by injection e423)
     replace hx423_0 := (HB.out.cell (World.block_lt_of_cell? w _ hx423_0)).trans hx423_0
     replace hx423_1 := (HB.out.cell (World.block_lt_of_cell? w _ hx423_1)).trans hx423_1
     replace hx423_2 := (HB.out.cell (World.block_lt_of_cell? w _ hx423_2)).trans hx423_2
     replace p423 := eq_true p423
     replace q423 := eq_true q423
     go_wp2
     repeat (go_quiet (fail); try go_wp2)
     go_roundg k1
     case measure => have := HK1.out; omega
     case rel => exact ⟨(wrap64 (x3_1 + (wrap64 (((rd_T36 l0_1 x4_1).f1) + ((rd_T36 l0_1 x4_1).f2))))), (wrap64 (x4_1 + 1)), (by first | rfl | (simp; done) | (simp [*]; done)), (by first | rfl | (simp; done) | (simp [*]; done)), H', ⟨by have := HK1.out; omega⟩, ⟨by (with_reducible repeat (first | refine blk_drewN ?_ _ | refine blk_drew ?_ | refine blk_alloc ?_ _)); exact BK421.out⟩, ⟨by repeat (first | (with_reducible first | exact HB.out | apply below_alloc | apply pw_below_drewN | apply below_drew1 | refine below_set ?_ GE421.out) | exact HB.out)⟩⟩
    ·rw [if_neg c4] at H
     exact absurd H (by simp)
   ·rw [if_neg c3] at H
    have c3b0 : decide (x4_1 < (l0_1.length : Int)) = false := decide_eq_false c3
    clear c3
    obtain rfl := Option.some.inj H
    simp only [Option.some.injEq, Prod.mk.injEq] at H
    obtain ⟨rfl⟩ := H
    have hcz6_0 : wr.cell? ⟨gb421, 0, none⟩ = some (.string a0_0) := (blk_cell BK421.out 0).trans rfl
    have hcz6_1 : wr.cell? ⟨gb421, 1, none⟩ = some (.slice A0_1 l0_1.length c0_1) := (blk_cell BK421.out 1).trans rfl
    have hcz6_2 : wr.cell? ⟨gb421, 2, none⟩ = some (.int .i64 a0_2) := (blk_cell BK421.out 2).trans rfl
    have hcz6_3 : wr.cell? ⟨gb421, 3, none⟩ = some (.int .i64 a0_3) := (blk_cell BK421.out 3).trans rfl
    have hcz6_4 : wr.cell? ⟨gb421, 4, none⟩ = some (.int .i64 a0_4) := (blk_cell BK421.out 4).trans rfl
    have hfz6_0 := blk_frozen BK421.out 0
    have hfz6_1 := blk_frozen BK421.out 1
    have hfz6_2 := blk_frozen BK421.out 2
    have hfz6_3 := blk_frozen BK421.out 3
    have hfz6_4 := blk_frozen BK421.out 4
    go_wp2
    go_ret
    exact ⟨by first | rfl | (simp [errW_none, errW_some] <;> rfl) | (simp [*, errW_none, errW_some] <;> rfl), by repeat (first | (with_reducible first | exact HB.out | apply below_alloc | apply pw_below_drewN | apply below_drew1 | refine below_set ?_ GE421.out) | exact HB.out)⟩

end Go.Proofs.Ytpfggghpkdnppaa.P
