/- What functions of the program return: each contract says so of one function, for every input at which its pure function yields. -/
import Derived.Test.YtfedmcehkpfciaaGreatPx0
import Derived.Test.YtfedmcehkpfciaaGreatPx6
import Derived.Test.YtfedmcehkpfciaaGreatPx11
import Derived.Test.YtfedmcehkpfciaaGreatHof
namespace Go.Proofs.YtfedmcehkpfciaaGreat.P
open Go.RowKit Go.Proofs.YtfedmcehkpfciaaGreatW.PrintWords Go.Proofs.YtfedmcehkpfciaaGreatW.PrintLast Go.Proofs.YtfedmcehkpfciaaGreatW.PrintMore
attribute [local go_sem] max2_int min2_int max_two min_two max_three min_three max_four min_four   -- for this text's walks alone
set_option linter.unusedVariables false
set_option linter.unusedSimpArgs false

open Go.Proofs.YtfedmcehkpfciaaGreat.Hof
def gangsawref14_Check.f (k : Nat) (a0_0 : ByteArray) (a0_1 : Int) (a0_2 : Int) (l0_3 : List (S48)) (a1_0 : Int) (a1_1 : Int) (a1_2 : Int) (a1_3 : Int) (a1_4 : Int) (a1_5 : Int) : Option (Int) := (gangsawref06_Check.f k a1_0 a1_1 a1_2 a1_3 a1_4 a1_5).bind fun t152 => (if t152 = 0 then ((gangsawref14_all.f k (([(⟨a0_0, (⟨a0_1, a0_2⟩ : S30), l0_3⟩ : S33)] : List (S33))) a1_0 a1_1 a1_2 a1_3 a1_4 a1_5).bind fun t156 => (some t156)) else (some t152))
theorem gangsawref14_Check.mono : ∀ a0 a1 a2 a3 a4 a5 a6 a7 a8 a9 k, LeO (gangsawref14_Check.f k a0 a1 a2 a3 a4 a5 a6 a7 a8 a9) (gangsawref14_Check.f (k + 1) a0 a1 a2 a3 a4 a5 a6 a7 a8 a9) := by
 intro a0 a1 a2 a3 a4 a5 a6 a7 a8 a9 k
 unfold gangsawref14_Check.f
 repeat' first
   | (with_reducible exact gangsawref06_Check.mono _ _ _ _ _ _ _)
   | (with_reducible exact gangsawref14_all.mono _ _ _ _ _ _ _ _)
   | (with_reducible refine contains3.mono2 (fun x_ => ?_))
   | (with_reducible refine contains33.mono2 (fun x_ => ?_))
   | (with_reducible refine contains48.mono2 (fun x_ => ?_))
   | (with_reducible refine contains9.mono2 (fun x_ => ?_))
   | (with_reducible refine index3.mono2 (fun x_ => ?_))
   | (with_reducible refine index33.mono2 (fun x_ => ?_))
   | (with_reducible refine index48.mono2 (fun x_ => ?_))
   | (with_reducible refine index9.mono2 (fun x_ => ?_))
   | (with_reducible exact LeO.refl _)
   | (with_reducible exact LeO.none _)
   | (with_reducible refine LeO.ite ?_ ?_)
   | (with_reducible refine LeO.bind ?_ (fun _ => ?_))
   | exact gangsawref06_Check.mono _ _ _ _ _ _ _
   | exact gangsawref14_all.mono _ _ _ _ _ _ _ _
   | exact LeO.none _
   | refine LeO.ite ?_ ?_
   | refine LeO.bind ?_ (fun _ => ?_)
set_option maxHeartbeats 8000000 in
set_option maxRecDepth 100000 in
theorem gangsawref14_Check.calls (k : Nat) (a0_0 : ByteArray) (a0_1 : Int) (a0_2 : Int) (P0_3_ : Nat → Prop) (A0_3 : Option Addr) (c0_3 : Nat) (l0_3 : List (S48)) (a1_0 : Int) (a1_1 : Int) (a1_2 : Int) (a1_3 : Int) (a1_4 : Int) (a1_5 : Int) (r : Int) (w : World) (hs0_3 : Kd.V k48 48 w w.heap.size (fun k_ => P0_3_ k_) (.slice A0_3 l0_3.length c0_3) l0_3) (h : gangsawref14_Check.f k a0_0 a0_1 a0_2 l0_3 a1_0 a1_1 a1_2 a1_3 a1_4 a1_5 = some r) :
  Calls Tryz.prog 14 #[.agg #[.string a0_0, .int .i64 a0_1, .int .i64 a0_2, .slice A0_3 l0_3.length c0_3], .agg #[.int .i64 a1_0, .int .i64 a1_1, .int .i64 a1_2, .int .i64 a1_3, .int .i64 a1_4, .int .i64 a1_5]] w fun e w' => e = .returned (.int .i64 r) ∧ Below w.heap.size w w' := by
 have hu33 := Tryz.underlying33
 have hu26 := Tryz.underlying26
 have HO0_3 := aK (show Kd.V k48 48 w w.heap.size (fun k_ => (P0_3_ k_ ∨ w.heap.size ≤ k_)) (.slice A0_3 l0_3.length c0_3) l0_3 from Kd.V_mono hs0_3 (fun k_ hk => .inl hk))
 have HB := aK (Below.refl w.heap.size w)
 have H : ((gangsawref06_Check.f k a1_0 a1_1 a1_2 a1_3 a1_4 a1_5).bind fun t152 => (if t152 = 0 then ((gangsawref14_all.f k (([(⟨a0_0, (⟨a0_1, a0_2⟩ : S30), l0_3⟩ : S33)] : List (S33))) a1_0 a1_1 a1_2 a1_3 a1_4 a1_5).bind fun t156 => (some t156)) else (some t152))) = some r := h
 clear h
 replace H := Option.bind_eq_some_iff.mp H
 obtain ⟨t152, A30, H⟩ := H
 replace H : (if t152 = 0 then ((gangsawref14_all.f k (([(⟨a0_0, (⟨a0_1, a0_2⟩ : S30), l0_3⟩ : S33)] : List (S33))) a1_0 a1_1 a1_2 a1_3 a1_4 a1_5).bind fun t156 => (some t156)) else (some t152)) = some r := H
 have A3 := aK A30
 clear A30
 by_cases c4 : t152 = 0
 ·rw [if_pos c4] at H
  have c4b0 : (t152 == 0) = true := beq_iff_eq.mpr c4
  have c4b1 : (t152 != 0) = false := bne_eq_false_iff_eq.mpr c4
  clear c4
  obtain ⟨y153, hy153⟩ : ∃ y_ : List (S33), y_ = (([(⟨a0_0, (⟨a0_1, a0_2⟩ : S30), l0_3⟩ : S33)] : List (S33))) := ⟨_, rfl⟩
  replace H : ((gangsawref14_all.f k y153 a1_0 a1_1 a1_2 a1_3 a1_4 a1_5).bind fun t156 => (some t156)) = some r := by first | (rw [hy153]; with_reducible exact H) | (have H2_ := (Option.bind_some _ _).symm.trans H; rw [hy153]; with_reducible exact H2_) | (have H2_ := (Option.bind_some _ _).symm.trans H; with_reducible exact H2_) | with_reducible exact H | (rw [hy153]; exact H) | exact H
  have Ny153 := aK hy153
  clear hy153
  replace H := Option.bind_eq_some_iff.mp H
  obtain ⟨t156, A50, H⟩ := H
  replace H : (some t156) = some r := H
  have A5 := aK A50
  clear A50
  obtain rfl := Option.some.inj H
  simp only [Option.some.injEq, Prod.mk.injEq] at H
  obtain ⟨rfl⟩ := H
  go_enter Tryz.func14, Tryz.ntmps14
  go_wp2_with (first | ((with_reducible refine gate_dst (N := 2) rfl ?_); refine box_event ?hg (N := 2) ?hd (cs := #[.string a0_0, .int .i64 a0_1, .int .i64 a0_2, .slice A0_3 l0_3.length c0_3]) (t := 33) ?hr ?_; (case hd => rfl); (case hg => rfl); (case hr => first | (go_simp; done) | (go_simp; rfl)); intro gb150 hg w6 hbox hb; have n0_ := aK (Kd.V_below (Kd.V_elderB (by (with_reducible repeat (first | apply Kd.V_alloc | apply Kd.V_drewN | apply Kd.V_drew)); exact HO0_3.out) gb150 (Nat.le_of_eq hg.symm)) hb); have ⟨n1_, n3_⟩ := zV (w := w) hb hg (by repeat (first | (with_reducible first | exact HB.out | apply yA | apply yN | apply yD) | exact HB.out)); have n2_ := aK (hbox); have n4_ := n3_; clear HO0_3; clear HB; have HO0_3 := n0_; have HB := n1_; have BK150 := n2_; have GW150 := n3_; have GE150 := n4_; clear n0_ n1_ n2_ n3_ n4_; clear hb hbox hg) | ((with_reducible refine gate_dst (N := 3) rfl ?_); refine box_event ?hg (N := 3) ?hd (cs := #[.int .i64 a1_0, .int .i64 a1_1, .int .i64 a1_2, .int .i64 a1_3, .int .i64 a1_4, .int .i64 a1_5]) (t := 26) ?hr ?_; (case hd => rfl); (case hg => rfl); (case hr => first | (go_simp; done) | (go_simp; rfl)); intro gb151 hg w7 hbox hb; have n0_ := aK (Kd.V_below (Kd.V_elderB (by (with_reducible repeat (first | apply Kd.V_alloc | apply Kd.V_drewN | apply Kd.V_drew)); exact HO0_3.out) gb151 (Nat.le_of_eq hg.symm)) hb); have n1_ := zG BK150 hb (fun h => by (with_reducible repeat (first | refine zN ?_ _ | refine zD ?_ | refine zA ?_ _)); exact h); have ⟨n2_, n4_⟩ := zV (w := w) hb hg (by repeat (first | (with_reducible first | exact HB.out | apply yA | apply yN | apply yD | refine yS ?_ GE150.out) | exact HB.out)); have n3_ := aK (hbox); have n5_ := n4_; have n6_ := aK ((by rw [hg]; exact Nat.ne_of_lt (blk_lt (g := gb150) (o := .cells #[.string a0_0, .int .i64 a0_1, .int .i64 a0_2, .slice A0_3 l0_3.length c0_3] 33 (0, 0)) (by (with_reducible repeat (first | refine zN ?_ _ | refine zD ?_ | refine zA ?_ _)); exact BK150.out)) : gb150 ≠ gb151)); have n7_ := aK ((by rw [hg]; exact Nat.ne_of_gt (blk_lt (g := gb150) (o := .cells #[.string a0_0, .int .i64 a0_1, .int .i64 a0_2, .slice A0_3 l0_3.length c0_3] 33 (0, 0)) (by (with_reducible repeat (first | refine zN ?_ _ | refine zD ?_ | refine zA ?_ _)); exact BK150.out)) : gb151 ≠ gb150)); clear HO0_3; clear BK150; clear HB; have HO0_3 := n0_; have BK150 := n1_; have HB := n2_; have BK151 := n3_; have GW151 := n4_; have GE151 := n5_; have NB150_151 := n6_; have NB151_150 := n7_; clear n0_ n1_ n2_ n3_ n4_ n5_ n6_ n7_; clear hb hbox hg; have hnb8 := NB151_150.out; have hnc8 := NB150_151.out; have hcz9_0 := zI BK151 0 rfl; have hcz9_1 := zI BK151 1 rfl; have hcz9_2 := zI BK151 2 rfl; have hcz9_3 := zI BK151 3 rfl; have hcz9_4 := zI BK151 4 rfl; have hcz9_5 := zI BK151 5 rfl; have hfz9_0 := zF BK151.out 0; have hfz9_1 := zF BK151.out 1; have hfz9_2 := zF BK151.out 2; have hfz9_3 := zF BK151.out 3; have hfz9_4 := zF BK151.out 4; have hfz9_5 := zF BK151.out 5) | ((with_reducible refine gate_callee (f := 42) rfl ?_); refine goesL_ (some 7) rfl rfl Tryz.func42 (by kernel_rfl) rfl #[.agg #[.int .i64 a1_0, .int .i64 a1_1, .int .i64 a1_2, .int .i64 a1_3, .int .i64 a1_4, .int .i64 a1_5]] rfl (by (try simp only [List.map_toArray, List.map_cons, List.map_nil]); first | done | rfl | (simp only [List.length_drop, List.length_take]; rfl)) ?_; (with_reducible refine (gangsawref06_Check.calls k a1_0 a1_1 a1_2 a1_3 a1_4 a1_5 t152 _ A3.out).mono ?_); rintro e w10 ⟨rfl, hb⟩; refine ⟨_, rfl, ?_⟩; have n0_ := aK (Kd.V_below (by (with_reducible repeat (first | apply Kd.V_alloc | apply Kd.V_drewN | apply Kd.V_drew)); exact HO0_3.out) hb); have n1_ := zG BK150 hb (fun h => by (with_reducible repeat (first | refine zN ?_ _ | refine zD ?_ | refine zA ?_ _)); exact h); have n2_ := zG BK151 hb (fun h => by (with_reducible repeat (first | refine zN ?_ _ | refine zD ?_ | refine zA ?_ _)); exact h); have n3_ := aK (yT (by repeat (first | (with_reducible first | exact HB.out | apply yA | apply yN | apply yD | refine yS ?_ GE150.out | refine yS ?_ GE151.out) | exact HB.out)) hb); clear HO0_3; clear BK150; clear BK151; clear HB; have HO0_3 := n0_; have BK150 := n1_; have BK151 := n2_; have HB := n3_; clear n0_ n1_ n2_ n3_; (try clear hb); (try clear hb2); (try clear hk); (try clear hi); have hcz11_0 := zI BK150 0 rfl; have hcz11_1 := zI BK150 1 rfl; have hcz11_2 := zI BK150 2 rfl; have hcz11_3 := zI BK150 3 rfl; have hfz11_0 := zF BK150.out 0; have hfz11_1 := zF BK150.out 1; have hfz11_2 := zF BK150.out 2; have hfz11_3 := zF BK150.out 3) | ((with_reducible refine gate_dst (N := 12) rfl ?_); refine Kd.N_lit k33 _ 33 ?hg (N' := 12) ?hd (xs := ([(⟨a0_0, (⟨a0_1, a0_2⟩ : S30), l0_3⟩ : S33)] : List (S33))) (inner := [.string a0_0, .int .i64 a0_1, .int .i64 a0_2, .slice A0_3 l0_3.length c0_3]) (ok := (fun k_ => (P0_3_ k_ ∨ w.heap.size ≤ k_) ∧ k_ ≠ gb150 ∧ k_ ≠ gb151)) (okp := (fun k_ => (P0_3_ k_ ∨ w.heap.size ≤ k_) ∧ k_ ≠ gb150 ∧ k_ ≠ gb151)) ?hr ?hp (fun _ hk => hk) ((show ∀ k_, w10.heap.size ≤ k_ → (fun k_ => (P0_3_ k_ ∨ w.heap.size ≤ k_) ∧ k_ ≠ gb150 ∧ k_ ≠ gb151) k_ from fun k_ hk => ⟨(.inr (Nat.le_trans (yZ (by repeat (first | (with_reducible first | exact HB.out | apply yA | apply yN | apply yD | refine yS ?_ GE150.out | refine yS ?_ GE151.out) | exact HB.out))) hk)), Kd.freshB (g := gb150) (o := .cells #[.string a0_0, .int .i64 a0_1, .int .i64 a0_2, .slice A0_3 l0_3.length c0_3] 33 (0, 0)) (by (with_reducible repeat (first | refine zN ?_ _ | refine zD ?_ | refine zA ?_ _)); exact BK150.out) k_ hk, Kd.freshB (g := gb151) (o := .cells #[.int .i64 a1_0, .int .i64 a1_1, .int .i64 a1_2, .int .i64 a1_3, .int .i64 a1_4, .int .i64 a1_5] 26 (0, 0)) (by (with_reducible repeat (first | refine zN ?_ _ | refine zD ?_ | refine zA ?_ _)); exact BK151.out) k_ hk⟩) _ (Nat.le_refl _)) (Below.refl _ _) (Nat.le_refl _) (by simp) ?_; (case hd => rfl); (case hg => rfl); (case hr => first | (go_simp; done) | (go_simp; rfl)); (case hp => exact (Reps.c4 (show Kd.FK k33 _ _ (⟨a0_0, (⟨a0_1, a0_2⟩ : S30), l0_3⟩ : S33) [.string a0_0, .int .i64 a0_1, .int .i64 a0_2, .slice A0_3 l0_3.length c0_3] from (k33_mkF _ _ (⟨a0_0, (⟨a0_1, a0_2⟩ : S30), l0_3⟩ : S33) (Kd.V_reads' (Kd.V_mono (ok' := (fun k_ => (P0_3_ k_ ∨ w.heap.size ≤ k_) ∧ k_ ≠ gb150 ∧ k_ ≠ gb151)) (HO0_3.out) (fun k_ hk => ⟨hk.1.1, ⟨hk.1.2, hk.2⟩⟩))).2.1 (Kd.V_F (Kd.V_mono (ok' := (fun k_ => (P0_3_ k_ ∨ w.heap.size ≤ k_) ∧ k_ ≠ gb150 ∧ k_ ≠ gb151)) (HO0_3.out) (fun k_ hk => ⟨hk.1.1, ⟨hk.1.2, hk.2⟩⟩))))) (Reps.none _ _))); intro v154 w12 ho13 hb hg_ hnew_; clear hg_ hnew_; (first | rw [← Ny153.out] at ho13 | (simp only [Int.reduceToNat] at ho13; rw [← Ny153.out] at ho13)); have n0_ := aK (Kd.V_elder' (by (with_reducible repeat (first | apply Kd.V_alloc | apply Kd.V_drewN | apply Kd.V_drew)); exact HO0_3.out) (Kd.N_base ho13) hb); have n1_ := aK (Kd.N_lower ho13 (yZ (by repeat (first | (with_reducible first | exact HB.out | apply yA | apply yN | apply yD | refine yS ?_ GE150.out | refine yS ?_ GE151.out) | exact HB.out)))); have n2_ := zG BK150 hb (fun h => by (with_reducible repeat (first | refine zN ?_ _ | refine zD ?_ | refine zA ?_ _)); exact h); have n3_ := zG BK151 hb (fun h => by (with_reducible repeat (first | refine zN ?_ _ | refine zD ?_ | refine zA ?_ _)); exact h); have n4_ := aK (yT (by repeat (first | (with_reducible first | exact HB.out | apply yA | apply yN | apply yD | refine yS ?_ GE150.out | refine yS ?_ GE151.out) | exact HB.out)) hb); clear HO0_3; clear BK150; clear BK151; clear HB; have HO0_3 := n0_; have HO155 := n1_; have BK150 := n2_; have BK151 := n3_; have HB := n4_; clear n0_ n1_ n2_ n3_ n4_; clear hb ho13; have hcz14_0 := zI BK151 0 rfl; have hcz14_1 := zI BK151 1 rfl; have hcz14_2 := zI BK151 2 rfl; have hcz14_3 := zI BK151 3 rfl; have hcz14_4 := zI BK151 4 rfl; have hcz14_5 := zI BK151 5 rfl; have hfz14_0 := zF BK151.out 0; have hfz14_1 := zF BK151.out 1; have hfz14_2 := zF BK151.out 2; have hfz14_3 := zF BK151.out 3; have hfz14_4 := zF BK151.out 4; have hfz14_5 := zF BK151.out 5; obtain ⟨Ao15, co15, eo15⟩ := Kd.N_slice HO155.out; subst eo15) | ((with_reducible refine gate_callee (f := 43) rfl ?_); refine goesL_ (some 14) rfl rfl Tryz.func43 (by kernel_rfl) rfl #[.slice Ao15 y153.length co15, .agg #[.int .i64 a1_0, .int .i64 a1_1, .int .i64 a1_2, .int .i64 a1_3, .int .i64 a1_4, .int .i64 a1_5]] rfl (by (try simp only [List.map_toArray, List.map_cons, List.map_nil]); first | done | rfl | (simp only [List.length_drop, List.length_take]; rfl)) ?_; (with_reducible refine (gangsawref14_all.calls k _ _ y153 a1_0 a1_1 a1_2 a1_3 a1_4 a1_5 t156 _ ?side1 ?side2 A5.out).mono ?_); (case side1 => repeat (first | exact (Kd.N_reads' HO155.out).2.2 | (with_reducible refine Kd.C_alloc ?_ _) | (with_reducible refine Kd.C_drewN ?_ _) | (with_reducible refine Kd.C_drew ?_))); (case side2 => exact (Kd.N_reads' HO155.out).2.1); rintro e w16 ⟨rfl, hb⟩; refine ⟨_, rfl, ?_⟩; have n0_ := aK (Kd.V_below (by (with_reducible repeat (first | apply Kd.V_alloc | apply Kd.V_drewN | apply Kd.V_drew)); exact HO0_3.out) hb); have n1_ := aK (Kd.N_below (by (with_reducible repeat (first | apply Kd.N_alloc | apply Kd.N_drewN | apply Kd.N_drew)); exact HO155.out) hb); have n2_ := zG BK150 hb (fun h => by (with_reducible repeat (first | refine zN ?_ _ | refine zD ?_ | refine zA ?_ _)); exact h); have n3_ := zG BK151 hb (fun h => by (with_reducible repeat (first | refine zN ?_ _ | refine zD ?_ | refine zA ?_ _)); exact h); have n4_ := aK (yT (by repeat (first | (with_reducible first | exact HB.out | apply yA | apply yN | apply yD | refine yS ?_ GE150.out | refine yS ?_ GE151.out) | exact HB.out)) hb); clear HO0_3; clear HO155; clear BK150; clear BK151; clear HB; have HO0_3 := n0_; have HO155 := n1_; have BK150 := n2_; have BK151 := n3_; have HB := n4_; clear n0_ n1_ n2_ n3_ n4_; (try clear hb); (try clear hb2); (try clear hk); (try clear hi)))
  go_ret
  exact ⟨by first | rfl | (simp [errW_none, errW_some] <;> rfl) | (simp [*, errW_none, errW_some] <;> rfl), by repeat (first | (with_reducible first | exact HB.out | apply yA | apply yN | apply yD | refine yS ?_ GE150.out | refine yS ?_ GE151.out) | exact HB.out)⟩
 ·rw [if_neg c4] at H
  have c4b0 : (t152 == 0) = false := beq_eq_false_iff_ne.mpr c4
  have c4b1 : (t152 != 0) = true := bne_iff_ne.mpr c4
  obtain rfl := Option.some.inj H
  simp only [Option.some.injEq, Prod.mk.injEq] at H
  obtain ⟨rfl⟩ := H
  go_enter Tryz.func14, Tryz.ntmps14
  go_wp2_with (first | ((with_reducible refine gate_dst (N := 2) rfl ?_); refine box_event ?hg (N := 2) ?hd (cs := #[.string a0_0, .int .i64 a0_1, .int .i64 a0_2, .slice A0_3 l0_3.length c0_3]) (t := 33) ?hr ?_; (case hd => rfl); (case hg => rfl); (case hr => first | (go_simp; done) | (go_simp; rfl)); intro gb150 hg w17 hbox hb; have n0_ := aK (Kd.V_below (Kd.V_elderB (by (with_reducible repeat (first | apply Kd.V_alloc | apply Kd.V_drewN | apply Kd.V_drew)); exact HO0_3.out) gb150 (Nat.le_of_eq hg.symm)) hb); have ⟨n1_, n3_⟩ := zV (w := w) hb hg (by repeat (first | (with_reducible first | exact HB.out | apply yA | apply yN | apply yD) | exact HB.out)); have n2_ := aK (hbox); have n4_ := n3_; clear HO0_3; clear HB; have HO0_3 := n0_; have HB := n1_; have BK150 := n2_; have GW150 := n3_; have GE150 := n4_; clear n0_ n1_ n2_ n3_ n4_; clear hb hbox hg) | ((with_reducible refine gate_dst (N := 3) rfl ?_); refine box_event ?hg (N := 3) ?hd (cs := #[.int .i64 a1_0, .int .i64 a1_1, .int .i64 a1_2, .int .i64 a1_3, .int .i64 a1_4, .int .i64 a1_5]) (t := 26) ?hr ?_; (case hd => rfl); (case hg => rfl); (case hr => first | (go_simp; done) | (go_simp; rfl)); intro gb151 hg w18 hbox hb; have n0_ := aK (Kd.V_below (Kd.V_elderB (by (with_reducible repeat (first | apply Kd.V_alloc | apply Kd.V_drewN | apply Kd.V_drew)); exact HO0_3.out) gb151 (Nat.le_of_eq hg.symm)) hb); have n1_ := zG BK150 hb (fun h => by (with_reducible repeat (first | refine zN ?_ _ | refine zD ?_ | refine zA ?_ _)); exact h); have ⟨n2_, n4_⟩ := zV (w := w) hb hg (by repeat (first | (with_reducible first | exact HB.out | apply yA | apply yN | apply yD | refine yS ?_ GE150.out) | exact HB.out)); have n3_ := aK (hbox); have n5_ := n4_; have n6_ := aK ((by rw [hg]; exact Nat.ne_of_lt (blk_lt (g := gb150) (o := .cells #[.string a0_0, .int .i64 a0_1, .int .i64 a0_2, .slice A0_3 l0_3.length c0_3] 33 (0, 0)) (by (with_reducible repeat (first | refine zN ?_ _ | refine zD ?_ | refine zA ?_ _)); exact BK150.out)) : gb150 ≠ gb151)); have n7_ := aK ((by rw [hg]; exact Nat.ne_of_gt (blk_lt (g := gb150) (o := .cells #[.string a0_0, .int .i64 a0_1, .int .i64 a0_2, .slice A0_3 l0_3.length c0_3] 33 (0, 0)) (by (with_reducible repeat (first | refine zN ?_ _ | refine zD ?_ | refine zA ?_ _)); exact BK150.out)) : gb151 ≠ gb150)); clear HO0_3; clear BK150; clear HB; have HO0_3 := n0_; have BK150 := n1_; have HB := n2_; have BK151 := n3_; have GW151 := n4_; have GE151 := n5_; have NB150_151 := n6_; have NB151_150 := n7_; clear n0_ n1_ n2_ n3_ n4_ n5_ n6_ n7_; clear hb hbox hg; have hnb19 := NB151_150.out; have hnc19 := NB150_151.out; have hcz20_0 := zI BK151 0 rfl; have hcz20_1 := zI BK151 1 rfl; have hcz20_2 := zI BK151 2 rfl; have hcz20_3 := zI BK151 3 rfl; have hcz20_4 := zI BK151 4 rfl; have hcz20_5 := zI BK151 5 rfl; have hfz20_0 := zF BK151.out 0; have hfz20_1 := zF BK151.out 1; have hfz20_2 := zF BK151.out 2; have hfz20_3 := zF BK151.out 3; have hfz20_4 := zF BK151.out 4; have hfz20_5 := zF BK151.out 5) | ((with_reducible refine gate_callee (f := 42) rfl ?_); refine goesL_ (some 7) rfl rfl Tryz.func42 (by kernel_rfl) rfl #[.agg #[.int .i64 a1_0, .int .i64 a1_1, .int .i64 a1_2, .int .i64 a1_3, .int .i64 a1_4, .int .i64 a1_5]] rfl (by (try simp only [List.map_toArray, List.map_cons, List.map_nil]); first | done | rfl | (simp only [List.length_drop, List.length_take]; rfl)) ?_; (with_reducible refine (gangsawref06_Check.calls k a1_0 a1_1 a1_2 a1_3 a1_4 a1_5 t152 _ A3.out).mono ?_); rintro e w21 ⟨rfl, hb⟩; refine ⟨_, rfl, ?_⟩; have n0_ := aK (Kd.V_below (by (with_reducible repeat (first | apply Kd.V_alloc | apply Kd.V_drewN | apply Kd.V_drew)); exact HO0_3.out) hb); have n1_ := zG BK150 hb (fun h => by (with_reducible repeat (first | refine zN ?_ _ | refine zD ?_ | refine zA ?_ _)); exact h); have n2_ := zG BK151 hb (fun h => by (with_reducible repeat (first | refine zN ?_ _ | refine zD ?_ | refine zA ?_ _)); exact h); have n3_ := aK (yT (by repeat (first | (with_reducible first | exact HB.out | apply yA | apply yN | apply yD | refine yS ?_ GE150.out | refine yS ?_ GE151.out) | exact HB.out)) hb); clear HO0_3; clear BK150; clear BK151; clear HB; have HO0_3 := n0_; have BK150 := n1_; have BK151 := n2_; have HB := n3_; clear n0_ n1_ n2_ n3_; (try clear hb); (try clear hb2); (try clear hk); (try clear hi)))
  go_ret
  exact ⟨by first | rfl | (simp [errW_none, errW_some] <;> rfl) | (simp [*, errW_none, errW_some] <;> rfl), by repeat (first | (with_reducible first | exact HB.out | apply yA | apply yN | apply yD | refine yS ?_ GE150.out | refine yS ?_ GE151.out) | exact HB.out)⟩

def boring_CheckAll_1.f (a0_0 : ByteArray) (a0_1 : Int) (a0_2 : Int) (l0_3 : List (S48)) (a1_0 : ByteArray) (a1_1 : Int) (a1_2 : Int) (l1_3 : List (S48)) : Option (Bool) := some (a0_0.toList == a1_0.toList)
set_option maxHeartbeats 8000000 in
set_option maxRecDepth 100000 in
theorem boring_CheckAll_1.calls (a0_0 : ByteArray) (a0_1 : Int) (a0_2 : Int) (A0_3 : Option Addr) (c0_3 : Nat) (l0_3 : List (S48)) (gb51 : Nat) (a1_0 : ByteArray) (a1_1 : Int) (a1_2 : Int) (A1_3 : Option Addr) (c1_3 : Nat) (l1_3 : List (S48)) (r : Bool) (w : World) (hr0_3 : Kd.C k48 w A0_3 l0_3.length l0_3) (hc0_3 : l0_3.length ≤ c0_3) (hx51 : w.heap[gb51]? = some (.cells #[.string a1_0, .int .i64 a1_1, .int .i64 a1_2, .slice A1_3 l1_3.length c1_3] 33 (0, 0))) (hr1_3 : Kd.C k48 w A1_3 l1_3.length l1_3) (hc1_3 : l1_3.length ≤ c1_3) (h : boring_CheckAll_1.f a0_0 a0_1 a0_2 l0_3 a1_0 a1_1 a1_2 l1_3 = some r) :
  Calls Tryz.prog 45 #[.agg #[.string a0_0, .int .i64 a0_1, .int .i64 a0_2, .slice A0_3 l0_3.length c0_3], .pointer (some ⟨gb51, 0, none⟩)] w fun e w' => e = .returned (.bool r) ∧ Below w.heap.size w w' := by
 have hu33 := Tryz.underlying33
 have hu9 := Tryz.underlying9
 have HR0_3 := aK hr0_3
 have HC0_3 := aK hc0_3
 clear hr0_3 hc0_3
 have HR1_3 := aK hr1_3
 have HC1_3 := aK hc1_3
 clear hr1_3 hc1_3
 have BK51 := aK hx51
 clear hx51
 have HB := aK (Below.refl w.heap.size w)
 have H : (some (a0_0.toList == a1_0.toList)) = some r := h
 clear h
 obtain rfl := Option.some.inj H
 simp only [Option.some.injEq, Prod.mk.injEq] at H
 obtain ⟨rfl⟩ := H
 go_enter Tryz.func45, Tryz.ntmps45
 go_wp2_with (first | ((with_reducible refine gate_dst (N := 2) rfl ?_); refine box_event ?hg (N := 2) ?hd (cs := #[.string a0_0, .int .i64 a0_1, .int .i64 a0_2, .slice A0_3 l0_3.length c0_3]) (t := 33) ?hr ?_; (case hd => rfl); (case hg => rfl); (case hr => first | (go_simp; done) | (go_simp; rfl)); intro gb157 hg w3 hbox hb; have n0_ := zG BK51 hb (fun h => by (with_reducible repeat (first | refine zN ?_ _ | refine zD ?_ | refine zA ?_ _)); exact h); have ⟨n1_, n3_⟩ := zV (w := w) hb hg (by repeat (first | (with_reducible first | exact HB.out | apply yA | apply yN | apply yD | refine yS ?_ GE51.out) | exact HB.out)); have n2_ := aK (hbox); have n4_ := n3_; have n5_ := aK ((by rw [hg]; exact Nat.ne_of_lt (blk_lt (g := gb51) (o := .cells #[.string a1_0, .int .i64 a1_1, .int .i64 a1_2, .slice A1_3 l1_3.length c1_3] 33 (0, 0)) (by (with_reducible repeat (first | refine zN ?_ _ | refine zD ?_ | refine zA ?_ _)); exact BK51.out)) : gb51 ≠ gb157)); have n6_ := aK ((by rw [hg]; exact Nat.ne_of_gt (blk_lt (g := gb51) (o := .cells #[.string a1_0, .int .i64 a1_1, .int .i64 a1_2, .slice A1_3 l1_3.length c1_3] 33 (0, 0)) (by (with_reducible repeat (first | refine zN ?_ _ | refine zD ?_ | refine zA ?_ _)); exact BK51.out)) : gb157 ≠ gb51)); clear BK51; clear HB; have BK51 := n0_; have HB := n1_; have BK157 := n2_; have GW157 := n3_; have GE157 := n4_; have NB51_157 := n5_; have NB157_51 := n6_; clear n0_ n1_ n2_ n3_ n4_ n5_ n6_; clear hb hbox hg; have hnb4 := NB157_51.out; have hnc4 := NB51_157.out; have hcz5_0 := zI BK157 0 rfl; have hcz5_1 := zI BK157 1 rfl; have hcz5_2 := zI BK157 2 rfl; have hcz5_3 := zI BK157 3 rfl; have hfz5_0 := zF BK157.out 0; have hfz5_1 := zF BK157.out 1; have hfz5_2 := zF BK157.out 2; have hfz5_3 := zF BK157.out 3; have hcz6_0 := zI BK51 0 rfl; have hcz6_1 := zI BK51 1 rfl; have hcz6_2 := zI BK51 2 rfl; have hcz6_3 := zI BK51 3 rfl; have hfz6_0 := zF BK51.out 0; have hfz6_1 := zF BK51.out 1; have hfz6_2 := zF BK51.out 2; have hfz6_3 := zF BK51.out 3))
 go_ret
 exact ⟨by first | rfl | (simp [errW_none, errW_some] <;> rfl) | (simp [*, errW_none, errW_some] <;> rfl), by repeat (first | (with_reducible first | exact HB.out | apply yA | apply yN | apply yD | refine yS ?_ GE51.out | refine yS ?_ GE157.out) | exact HB.out)⟩
theorem boring_CheckAll_1.fn (gb51 : Nat) (a1_0 : ByteArray) (a1_1 : Int) (a1_2 : Int) (A1_3 : Option Addr) (c1_3 : Nat) (l1_3 : List (S48)) (w : World) (hx51 : w.heap[gb51]? = some (.cells #[.string a1_0, .int .i64 a1_1, .int .i64 a1_2, .slice A1_3 l1_3.length c1_3] 33 (0, 0))) (hr1_3 : Kd.C k48 w A1_3 l1_3.length l1_3) (hc1_3 : l1_3.length ≤ c1_3) : FnE Tryz.prog k33 vAgg Value.bool (.func (.func 45) #[] #[.pointer (some ⟨gb51, 0, none⟩)]) (fun x_ => boring_CheckAll_1.f x_.f0 x_.f1.f0 x_.f1.f1 x_.f2 a1_0 a1_1 a1_2 l1_3) w :=
 ⟨45, _, rfl, enters_of Tryz.func45 (by kernel_rfl) rfl, fun W x cs r hW hk0 h => by
  obtain ⟨Z0_3, z0_3, rfl, zl0_3, zg0_3⟩ := k33_open hk0
  exact (boring_CheckAll_1.calls (a0_0 := x.f0) (a0_1 := x.f1.f0) (a0_2 := x.f1.f1) (A0_3 := Z0_3) (c0_3 := z0_3) (l0_3 := x.f2) (hr0_3 := zg0_3) (hc0_3 := zl0_3) (gb51 := gb51) (a1_0 := a1_0) (a1_1 := a1_1) (a1_2 := a1_2) (A1_3 := A1_3) (c1_3 := c1_3) (l1_3 := l1_3) (hr1_3 := Kd.C_below hr1_3 hW) (hc1_3 := hc1_3) (hx51 := zB hx51 hW) (r := r) (w := W) (h := h)).mono fun e w' ⟨he, hb⟩ => ⟨he, hb⟩⟩

mutual
def gangsawref14_CheckAll.l0 : Nat → List (S33) → Int → Option (Int)
 | 0, _, _ => none
 | k + 1, x0, x7 => if x7 < (x0.length : Int) then (gangsawref14_CheckAll.l1 k x0 x7 0) else (some 0)
def gangsawref14_CheckAll.l1 : Nat → List (S33) → Int → Int → Option (Int)
 | 0, _, _, _ => none
 | k + 1, x0, x7, x8 => if x8 < x7 then (if 0 ≤ x7 then (if x7 < (x0.length : Int) then (if 0 ≤ x8 then (if x8 < (x0.length : Int) then (if ((rd_T33 x0 x7).f0).toList = ((rd_T33 x0 x8).f0).toList then (some 5) else (gangsawref14_CheckAll.l1 k x0 x7 (wrap64 (x8 + 1)))) else (none)) else (none)) else (none)) else (none)) else (gangsawref14_CheckAll.l0 k x0 (wrap64 (x7 + 1)))
end
def gangsawref14_CheckAll.f (k : Nat) (l0 : List (S33)) (a1_0 : Int) (a1_1 : Int) (a1_2 : Int) (a1_3 : Int) (a1_4 : Int) (a1_5 : Int) : Option (Int) := if (l0.length : Int) > 64 then (some 7) else ((gangsawref06_Check.f k a1_0 a1_1 a1_2 a1_3 a1_4 a1_5).bind fun t159 => (if t159 = 0 then ((gangsawref14_all.f k l0 a1_0 a1_1 a1_2 a1_3 a1_4 a1_5).bind fun t160 => (if t160 = 0 then (gangsawref14_CheckAll.l0 k l0 0) else (some t160))) else (some t159)))
theorem gangsawref14_CheckAll.mono_l : ∀ k, (∀ y0 y1, LeO (gangsawref14_CheckAll.l0 k y0 y1) (gangsawref14_CheckAll.l0 (k + 1) y0 y1)) ∧ (∀ y0 y1 y2, LeO (gangsawref14_CheckAll.l1 k y0 y1 y2) (gangsawref14_CheckAll.l1 (k + 1) y0 y1 y2))
 | 0 => ⟨fun _ _ r h => by simp [gangsawref14_CheckAll.l0] at h, fun _ _ _ r h => by simp [gangsawref14_CheckAll.l1] at h⟩
 | k + 1 => by
  obtain ⟨ih0, ih1⟩ := gangsawref14_CheckAll.mono_l k
  refine ⟨?_, ?_⟩
  ·intro y0 y1
   unfold gangsawref14_CheckAll.l0
   repeat' first
   | (with_reducible exact ih0 _ _)
   | (with_reducible exact ih1 _ _ _)
   | (with_reducible exact gangsawref06_Check.mono _ _ _ _ _ _ _)
   | (with_reducible exact gangsawref14_all.mono _ _ _ _ _ _ _ _)
   | (with_reducible refine contains3.mono2 (fun x_ => ?_))
   | (with_reducible refine contains33.mono2 (fun x_ => ?_))
   | (with_reducible refine contains48.mono2 (fun x_ => ?_))
   | (with_reducible refine contains9.mono2 (fun x_ => ?_))
   | (with_reducible refine index3.mono2 (fun x_ => ?_))
   | (with_reducible refine index33.mono2 (fun x_ => ?_))
   | (with_reducible refine index48.mono2 (fun x_ => ?_))
   | (with_reducible refine index9.mono2 (fun x_ => ?_))
   | (with_reducible exact LeO.refl _)
   | (with_reducible exact LeO.none _)
   | (with_reducible refine LeO.ite ?_ ?_)
   | (with_reducible refine LeO.bind ?_ (fun _ => ?_))
   | exact ih0 _ _
   | exact ih1 _ _ _
   | exact gangsawref06_Check.mono _ _ _ _ _ _ _
   | exact gangsawref14_all.mono _ _ _ _ _ _ _ _
   | exact LeO.none _
   | refine LeO.ite ?_ ?_
   | refine LeO.bind ?_ (fun _ => ?_)
  ·intro y0 y1 y2
   unfold gangsawref14_CheckAll.l1
   repeat' first
   | (with_reducible exact ih0 _ _)
   | (with_reducible exact ih1 _ _ _)
   | (with_reducible exact gangsawref06_Check.mono _ _ _ _ _ _ _)
   | (with_reducible exact gangsawref14_all.mono _ _ _ _ _ _ _ _)
   | (with_reducible refine contains3.mono2 (fun x_ => ?_))
   | (with_reducible refine contains33.mono2 (fun x_ => ?_))
   | (with_reducible refine contains48.mono2 (fun x_ => ?_))
   | (with_reducible refine contains9.mono2 (fun x_ => ?_))
   | (with_reducible refine index3.mono2 (fun x_ => ?_))
   | (with_reducible refine index33.mono2 (fun x_ => ?_))
   | (with_reducible refine index48.mono2 (fun x_ => ?_))
   | (with_reducible refine index9.mono2 (fun x_ => ?_))
   | (with_reducible exact LeO.refl _)
   | (with_reducible exact LeO.none _)
   | (with_reducible refine LeO.ite ?_ ?_)
   | (with_reducible refine LeO.bind ?_ (fun _ => ?_))
   | exact ih0 _ _
   | exact ih1 _ _ _
   | exact gangsawref06_Check.mono _ _ _ _ _ _ _
   | exact gangsawref14_all.mono _ _ _ _ _ _ _ _
   | exact LeO.none _
   | refine LeO.ite ?_ ?_
   | refine LeO.bind ?_ (fun _ => ?_)
theorem gangsawref14_CheckAll.mono : ∀ a0 a1 a2 a3 a4 a5 a6 k, LeO (gangsawref14_CheckAll.f k a0 a1 a2 a3 a4 a5 a6) (gangsawref14_CheckAll.f (k + 1) a0 a1 a2 a3 a4 a5 a6) := by
 intro a0 a1 a2 a3 a4 a5 a6 k
 obtain ⟨ih0, ih1⟩ := gangsawref14_CheckAll.mono_l k
 unfold gangsawref14_CheckAll.f
 repeat' first
   | (with_reducible exact ih0 _ _)
   | (with_reducible exact ih1 _ _ _)
   | (with_reducible exact gangsawref06_Check.mono _ _ _ _ _ _ _)
   | (with_reducible exact gangsawref14_all.mono _ _ _ _ _ _ _ _)
   | (with_reducible refine contains3.mono2 (fun x_ => ?_))
   | (with_reducible refine contains33.mono2 (fun x_ => ?_))
   | (with_reducible refine contains48.mono2 (fun x_ => ?_))
   | (with_reducible refine contains9.mono2 (fun x_ => ?_))
   | (with_reducible refine index3.mono2 (fun x_ => ?_))
   | (with_reducible refine index33.mono2 (fun x_ => ?_))
   | (with_reducible refine index48.mono2 (fun x_ => ?_))
   | (with_reducible refine index9.mono2 (fun x_ => ?_))
   | (with_reducible exact LeO.refl _)
   | (with_reducible exact LeO.none _)
   | (with_reducible refine LeO.ite ?_ ?_)
   | (with_reducible refine LeO.bind ?_ (fun _ => ?_))
   | exact ih0 _ _
   | exact ih1 _ _ _
   | exact gangsawref06_Check.mono _ _ _ _ _ _ _
   | exact gangsawref14_all.mono _ _ _ _ _ _ _ _
   | exact LeO.none _
   | refine LeO.ite ?_ ?_
   | refine LeO.bind ?_ (fun _ => ?_)
set_option maxHeartbeats 8000000 in
set_option maxRecDepth 100000 in
theorem gangsawref14_CheckAll.calls (k : Nat) (A0 : Option Addr) (c0 : Nat) (l0 : List (S33)) (a1_0 : Int) (a1_1 : Int) (a1_2 : Int) (a1_3 : Int) (a1_4 : Int) (a1_5 : Int) (r : Int) (w : World) (hr0 : Kd.C k33 w A0 l0.length l0) (hc0 : l0.length ≤ c0) (h : gangsawref14_CheckAll.f k l0 a1_0 a1_1 a1_2 a1_3 a1_4 a1_5 = some r) :
  Calls Tryz.prog 16 #[.slice A0 l0.length c0, .agg #[.int .i64 a1_0, .int .i64 a1_1, .int .i64 a1_2, .int .i64 a1_3, .int .i64 a1_4, .int .i64 a1_5]] w fun e w' => e = .returned (.int .i64 r) ∧ Below w.heap.size w w' := by
 have hu26 := Tryz.underlying26
 have HR0 := aK hr0
 have HC0 := aK hc0
 clear hr0 hc0
 have HB := aK (Below.refl w.heap.size w)
 have H : (if (l0.length : Int) > 64 then (some 7) else ((gangsawref06_Check.f k a1_0 a1_1 a1_2 a1_3 a1_4 a1_5).bind fun t159 => (if t159 = 0 then ((gangsawref14_all.f k l0 a1_0 a1_1 a1_2 a1_3 a1_4 a1_5).bind fun t160 => (if t160 = 0 then (gangsawref14_CheckAll.l0 k l0 0) else (some t160))) else (some t159)))) = some r := h
 clear h
 by_cases c3 : (l0.length : Int) > 64
 ·rw [if_pos c3] at H
  have c3b0 : decide (64 < (l0.length : Int)) = true := decide_eq_true c3
  have c3b1 : decide (64 < l0.length) = true := decide_eq_true (by omega)
  clear c3
  obtain rfl := Option.some.inj H
  simp only [Option.some.injEq, Prod.mk.injEq] at H
  obtain ⟨rfl⟩ := H
  go_enter Tryz.func16, Tryz.ntmps16
  go_wp2_with (first | ((with_reducible refine gate_dst (N := 3) rfl ?_); refine box_event ?hg (N := 3) ?hd (cs := #[.int .i64 a1_0, .int .i64 a1_1, .int .i64 a1_2, .int .i64 a1_3, .int .i64 a1_4, .int .i64 a1_5]) (t := 26) ?hr ?_; (case hd => rfl); (case hg => rfl); (case hr => first | (go_simp; done) | (go_simp; rfl)); intro gb158 hg w4 hbox hb; have ⟨n0_, n2_⟩ := zV (w := w) hb hg (by repeat (first | (with_reducible first | exact HB.out | apply yA | apply yN | apply yD) | exact HB.out)); have n1_ := aK (hbox); have n3_ := n2_; clear HB; have HB := n0_; have BK158 := n1_; have GW158 := n2_; have GE158 := n3_; clear n0_ n1_ n2_ n3_; clear hb hbox hg))
  go_ret
  exact ⟨by first | rfl | (simp [errW_none, errW_some] <;> rfl) | (simp [*, errW_none, errW_some] <;> rfl), by repeat (first | (with_reducible first | exact HB.out | apply yA | apply yN | apply yD | refine yS ?_ GE158.out) | exact HB.out)⟩
 ·rw [if_neg c3] at H
  have c3b0 : decide (64 < (l0.length : Int)) = false := decide_eq_false c3
  have c3b1 : decide (64 < l0.length) = false := decide_eq_false (by omega)
  clear c3
  replace H := Option.bind_eq_some_iff.mp H
  obtain ⟨t159, A50, H⟩ := H
  replace H : (if t159 = 0 then ((gangsawref14_all.f k l0 a1_0 a1_1 a1_2 a1_3 a1_4 a1_5).bind fun t160 => (if t160 = 0 then (gangsawref14_CheckAll.l0 k l0 0) else (some t160))) else (some t159)) = some r := H
  have A5 := aK A50
  clear A50
  by_cases c6 : t159 = 0
  ·rw [if_pos c6] at H
   have c6b0 : (t159 == 0) = true := beq_iff_eq.mpr c6
   have c6b1 : (t159 != 0) = false := bne_eq_false_iff_eq.mpr c6
   clear c6
   replace H := Option.bind_eq_some_iff.mp H
   obtain ⟨t160, A70, H⟩ := H
   replace H : (if t160 = 0 then (gangsawref14_CheckAll.l0 k l0 0) else (some t160)) = some r := H
   have A7 := aK A70
   clear A70
   by_cases c8 : t160 = 0
   ·rw [if_pos c8] at H
    have c8b0 : (t160 == 0) = true := beq_iff_eq.mpr c8
    have c8b1 : (t160 != 0) = false := bne_eq_false_iff_eq.mpr c8
    clear c8
    have H' := aK H
    clear H
    go_enter Tryz.func16, Tryz.ntmps16
    go_wp2_with (first | ((with_reducible refine gate_dst (N := 3) rfl ?_); refine box_event ?hg (N := 3) ?hd (cs := #[.int .i64 a1_0, .int .i64 a1_1, .int .i64 a1_2, .int .i64 a1_3, .int .i64 a1_4, .int .i64 a1_5]) (t := 26) ?hr ?_; (case hd => rfl); (case hg => rfl); (case hr => first | (go_simp; done) | (go_simp; rfl)); intro gb158 hg w9 hbox hb; have ⟨n0_, n2_⟩ := zV (w := w) hb hg (by repeat (first | (with_reducible first | exact HB.out | apply yA | apply yN | apply yD) | exact HB.out)); have n1_ := aK (hbox); have n3_ := n2_; clear HB; have HB := n0_; have BK158 := n1_; have GW158 := n2_; have GE158 := n3_; clear n0_ n1_ n2_ n3_; clear hb hbox hg; have hcz10_0 := zI BK158 0 rfl; have hcz10_1 := zI BK158 1 rfl; have hcz10_2 := zI BK158 2 rfl; have hcz10_3 := zI BK158 3 rfl; have hcz10_4 := zI BK158 4 rfl; have hcz10_5 := zI BK158 5 rfl; have hfz10_0 := zF BK158.out 0; have hfz10_1 := zF BK158.out 1; have hfz10_2 := zF BK158.out 2; have hfz10_3 := zF BK158.out 3; have hfz10_4 := zF BK158.out 4; have hfz10_5 := zF BK158.out 5) | (go_at_call 42; (with_reducible refine (gangsawref06_Check.calls k a1_0 a1_1 a1_2 a1_3 a1_4 a1_5 t159 _ A5.out).mono ?_); rintro e w11 ⟨rfl, hb⟩; have n0_ := zG BK158 hb (fun h => by (with_reducible repeat (first | refine zN ?_ _ | refine zD ?_ | refine zA ?_ _)); exact h); have n1_ := aK (yT (by repeat (first | (with_reducible first | exact HB.out | apply yA | apply yN | apply yD | refine yS ?_ GE158.out) | exact HB.out)) hb); clear BK158; clear HB; have BK158 := n0_; have HB := n1_; clear n0_ n1_; (try clear hb); (try clear hb2); (try clear hk); (try clear hi); have hcz12_0 := zI BK158 0 rfl; have hcz12_1 := zI BK158 1 rfl; have hcz12_2 := zI BK158 2 rfl; have hcz12_3 := zI BK158 3 rfl; have hcz12_4 := zI BK158 4 rfl; have hcz12_5 := zI BK158 5 rfl; have hfz12_0 := zF BK158.out 0; have hfz12_1 := zF BK158.out 1; have hfz12_2 := zF BK158.out 2; have hfz12_3 := zF BK158.out 3; have hfz12_4 := zF BK158.out 4; have hfz12_5 := zF BK158.out 5) | (go_at_call 43; (with_reducible refine (gangsawref14_all.calls k _ _ l0 a1_0 a1_1 a1_2 a1_3 a1_4 a1_5 t160 _ ?side1 ?side2 A7.out).mono ?_); (case side1 => repeat (first | exact (Kd.C_below HR0.out HB.out) | (with_reducible refine Kd.C_alloc ?_ _) | (with_reducible refine Kd.C_drewN ?_ _) | (with_reducible refine Kd.C_drew ?_))); (case side2 => exact HC0.out); rintro e w13 ⟨rfl, hb⟩; have n0_ := zG BK158 hb (fun h => by (with_reducible repeat (first | refine zN ?_ _ | refine zD ?_ | refine zA ?_ _)); exact h); have n1_ := aK (yT (by repeat (first | (with_reducible first | exact HB.out | apply yA | apply yN | apply yD | refine yS ?_ GE158.out) | exact HB.out)) hb); clear BK158; clear HB; have BK158 := n0_; have HB := n1_; clear n0_ n1_; (try clear hb); (try clear hb2); (try clear hk); (try clear hi)))
    go_loopg [7] k (fun kq v7 w' => ∃ (x7_1 : Int), v7 = .int .i64 x7_1 ∧ Aside0 (gangsawref14_CheckAll.l0 kq l0 x7_1 = some r) ∧ Aside0 (kq ≤ k) ∧ Aside0 (w'.heap[gb158]? = some (.cells #[.int .i64 a1_0, .int .i64 a1_1, .int .i64 a1_2, .int .i64 a1_3, .int .i64 a1_4, .int .i64 a1_5] 26 (0, 0))) ∧ Aside0 (Below w.heap.size w w'))
    case atStart => exact ⟨(0), (by first | rfl | (simp; done) | (simp [*]; done)), H', ⟨Nat.le_refl _⟩, ⟨by (with_reducible repeat (first | refine zN ?_ _ | refine zD ?_ | refine zA ?_ _)); exact BK158.out⟩, ⟨by repeat (first | (with_reducible first | exact HB.out | apply yA | apply yN | apply yD | refine yS ?_ GE158.out) | exact HB.out)⟩⟩
    case round =>
     clear H'
     try clear c1
     try clear p2
     try clear c3
     try clear c3b0
     try clear c3b1
     try clear c6
     try clear c6b0
     try clear c6b1
     try clear c8
     try clear c8b0
     try clear c8b1
     try clear hcz10_0
     try clear hcz10_1
     try clear hcz10_2
     try clear hcz10_3
     try clear hcz10_4
     try clear hcz10_5
     try clear hcz12_0
     try clear hcz12_1
     try clear hcz12_2
     try clear hcz12_3
     try clear hcz12_4
     try clear hcz12_5
     try clear hfz10_0
     try clear hfz10_1
     try clear hfz10_2
     try clear hfz10_3
     try clear hfz10_4
     try clear hfz10_5
     try clear hfz12_0
     try clear hfz12_1
     try clear hfz12_2
     try clear hfz12_3
     try clear hfz12_4
     try clear hfz12_5
     obtain ⟨x7_1, rfl, HA, HK1, BK158, HB⟩ := hrel
     cases gk with
     | zero => exact absurd HA.out (by simp [gangsawref14_CheckAll.l0])
     | succ k1 =>
      have H := HA.out
      clear HA
      simp only [gangsawref14_CheckAll.l0] at H
      by_cases c14 : x7_1 < (l0.length : Int)
      ·rw [if_pos c14] at H
       have c14b0 : decide (x7_1 < (l0.length : Int)) = true := decide_eq_true c14
       clear c14
       have H' := aK H
       clear H
       go_wp2
       go_loopg [8] k1 (fun kq v8 w' => ∃ (x8_2 : Int), v8 = .int .i64 x8_2 ∧ Aside0 (gangsawref14_CheckAll.l1 kq l0 x7_1 x8_2 = some r) ∧ Aside0 (kq ≤ k1) ∧ Aside0 (w'.heap[gb158]? = some (.cells #[.int .i64 a1_0, .int .i64 a1_1, .int .i64 a1_2, .int .i64 a1_3, .int .i64 a1_4, .int .i64 a1_5] 26 (0, 0))) ∧ Aside0 (Below w.heap.size w w'))
       case atStart => exact ⟨(0), (by first | rfl | (simp; done) | (simp [*]; done)), H', ⟨Nat.le_refl _⟩, ⟨by (with_reducible repeat (first | refine zN ?_ _ | refine zD ?_ | refine zA ?_ _)); exact BK158.out⟩, ⟨by repeat (first | (with_reducible first | exact HB.out | apply yA | apply yN | apply yD | refine yS ?_ GE158.out) | exact HB.out)⟩⟩
       case round =>
        clear H'
        try clear c1
        try clear p2
        try clear c3
        try clear c3b0
        try clear c3b1
        try clear c6
        try clear c6b0
        try clear c6b1
        try clear c8
        try clear c8b0
        try clear c8b1
        try clear c14
        try clear c14b0
        try clear hcz10_0
        try clear hcz10_1
        try clear hcz10_2
        try clear hcz10_3
        try clear hcz10_4
        try clear hcz10_5
        try clear hcz12_0
        try clear hcz12_1
        try clear hcz12_2
        try clear hcz12_3
        try clear hcz12_4
        try clear hcz12_5
        try clear hfz10_0
        try clear hfz10_1
        try clear hfz10_2
        try clear hfz10_3
        try clear hfz10_4
        try clear hfz10_5
        try clear hfz12_0
        try clear hfz12_1
        try clear hfz12_2
        try clear hfz12_3
        try clear hfz12_4
        try clear hfz12_5
        try clear p2
        obtain ⟨x8_2, rfl, HA, HK2, BK158, HB⟩ := hrel
        cases gk with
        | zero => exact absurd HA.out (by simp [gangsawref14_CheckAll.l1])
        | succ k2 =>
         have H := HA.out
         clear HA
         simp only [gangsawref14_CheckAll.l1] at H
         by_cases c15 : x8_2 < x7_1
         ·rw [if_pos c15] at H
          have c15b0 : decide (x8_2 < x7_1) = true := decide_eq_true c15
          clear c15
          by_cases c16 : 0 ≤ x7_1
          ·rw [if_pos c16] at H
           have c16b0 : decide (0 ≤ x7_1) = true := decide_eq_true c16
           clear c16
           by_cases c17 : x7_1 < (l0.length : Int)
           ·rw [if_pos c17] at H
            have c17b0 : decide (x7_1 < (l0.length : Int)) = true := decide_eq_true c17
            clear c17
            by_cases c18 : 0 ≤ x8_2
            ·rw [if_pos c18] at H
             have c18b0 : decide (0 ≤ x8_2) = true := decide_eq_true c18
             clear c18
             by_cases c19 : x8_2 < (l0.length : Int)
             ·rw [if_pos c19] at H
              have c19b0 : decide (x8_2 < (l0.length : Int)) = true := decide_eq_true c19
              clear c19
              by_cases c20 : ((rd_T33 l0 x7_1).f0).toList = ((rd_T33 l0 x8_2).f0).toList
              ·rw [if_pos c20] at H
               have c20b0 : (((rd_T33 l0 x7_1).f0).toList == ((rd_T33 l0 x8_2).f0).toList) = true := beq_iff_eq.mpr c20
               have c20b1 : (((rd_T33 l0 x7_1).f0).toList != ((rd_T33 l0 x8_2).f0).toList) = false := bne_eq_false_iff_eq.mpr c20
               clear c20
               obtain rfl := Option.some.inj H
               simp only [Option.some.injEq, Prod.mk.injEq] at H
               obtain ⟨rfl⟩ := H
               have p161 : 0 ≤ (x7_1 : Int) := of_decide_eq_true (by first | (with_reducible assumption) | assumption)
               have q161 : x7_1 < (l0.length : Int) := of_decide_eq_true (by first | (with_reducible assumption) | assumption)
               obtain ⟨ad161, A161_3, c161_3, e161, hx161_0, hx161_1, hx161_2, hx161_3, hl161_3, hi161_3⟩ := at_T33 HR0.out x7_1 p161 q161
               cases e161
               replace hx161_0 := (HB.out.cell (World.block_lt_of_cell? w _ hx161_0)).trans hx161_0
               replace hx161_1 := (HB.out.cell (World.block_lt_of_cell? w _ hx161_1)).trans hx161_1
               replace hx161_2 := (HB.out.cell (World.block_lt_of_cell? w _ hx161_2)).trans hx161_2
               replace hx161_3 := (HB.out.cell (World.block_lt_of_cell? w _ hx161_3)).trans hx161_3
               have HR161_3 := aK hi161_3
               have HC161_3 := aK hl161_3
               clear hi161_3 hl161_3
               replace p161 := eq_true p161
               replace q161 := eq_true q161
               have p162 : 0 ≤ (x8_2 : Int) := of_decide_eq_true (by first | (with_reducible assumption) | assumption)
               have q162 : x8_2 < (l0.length : Int) := of_decide_eq_true (by first | (with_reducible assumption) | assumption)
               obtain ⟨ad162, A162_3, c162_3, e162, hx162_0, hx162_1, hx162_2, hx162_3, hl162_3, hi162_3⟩ := at_T33 HR0.out x8_2 p162 q162
               obtain rfl : ad161 = ad162 := (by injection e162)
               replace hx162_0 := (HB.out.cell (World.block_lt_of_cell? w _ hx162_0)).trans hx162_0
               replace hx162_1 := (HB.out.cell (World.block_lt_of_cell? w _ hx162_1)).trans hx162_1
               replace hx162_2 := (HB.out.cell (World.block_lt_of_cell? w _ hx162_2)).trans hx162_2
               replace hx162_3 := (HB.out.cell (World.block_lt_of_cell? w _ hx162_3)).trans hx162_3
               have HR162_3 := aK hi162_3
               have HC162_3 := aK hl162_3
               clear hi162_3 hl162_3
               replace p162 := eq_true p162
               replace q162 := eq_true q162
               go_wp2
               repeat (go_quiet (fail); try go_wp2)
               go_ret
               exact ⟨by first | rfl | (simp [errW_none, errW_some] <;> rfl) | (simp [*, errW_none, errW_some] <;> rfl), by repeat (first | (with_reducible first | exact HB.out | apply yA | apply yN | apply yD | refine yS ?_ GE158.out) | exact HB.out)⟩
              ·rw [if_neg c20] at H
               have c20b0 : (((rd_T33 l0 x7_1).f0).toList == ((rd_T33 l0 x8_2).f0).toList) = false := beq_eq_false_iff_ne.mpr c20
               have c20b1 : (((rd_T33 l0 x7_1).f0).toList != ((rd_T33 l0 x8_2).f0).toList) = true := bne_iff_ne.mpr c20
               have H' := aK H
               clear H
               have p161 : 0 ≤ (x7_1 : Int) := of_decide_eq_true (by first | (with_reducible assumption) | assumption)
               have q161 : x7_1 < (l0.length : Int) := of_decide_eq_true (by first | (with_reducible assumption) | assumption)
               obtain ⟨ad161, A161_3, c161_3, e161, hx161_0, hx161_1, hx161_2, hx161_3, hl161_3, hi161_3⟩ := at_T33 HR0.out x7_1 p161 q161
               cases e161
               replace hx161_0 := (HB.out.cell (World.block_lt_of_cell? w _ hx161_0)).trans hx161_0
               replace hx161_1 := (HB.out.cell (World.block_lt_of_cell? w _ hx161_1)).trans hx161_1
               replace hx161_2 := (HB.out.cell (World.block_lt_of_cell? w _ hx161_2)).trans hx161_2
               replace hx161_3 := (HB.out.cell (World.block_lt_of_cell? w _ hx161_3)).trans hx161_3
               have HR161_3 := aK hi161_3
               have HC161_3 := aK hl161_3
               clear hi161_3 hl161_3
               replace p161 := eq_true p161
               replace q161 := eq_true q161
               have p162 : 0 ≤ (x8_2 : Int) := of_decide_eq_true (by first | (with_reducible assumption) | assumption)
               have q162 : x8_2 < (l0.length : Int) := of_decide_eq_true (by first | (with_reducible assumption) | assumption)
               obtain ⟨ad162, A162_3, c162_3, e162, hx162_0, hx162_1, hx162_2, hx162_3, hl162_3, hi162_3⟩ := at_T33 HR0.out x8_2 p162 q162
               obtain rfl : ad161 = ad162 := (by injection e162)
               replace hx162_0 := (HB.out.cell (World.block_lt_of_cell? w _ hx162_0)).trans hx162_0
               replace hx162_1 := (HB.out.cell (World.block_lt_of_cell? w _ hx162_1)).trans hx162_1
               replace hx162_2 := (HB.out.cell (World.block_lt_of_cell? w _ hx162_2)).trans hx162_2
               replace hx162_3 := (HB.out.cell (World.block_lt_of_cell? w _ hx162_3)).trans hx162_3
               have HR162_3 := aK hi162_3
               have HC162_3 := aK hl162_3
               clear hi162_3 hl162_3
               replace p162 := eq_true p162
               replace q162 := eq_true q162
               go_wp2
               repeat (go_quiet (fail); try go_wp2)
               go_roundg k2
               case measure => have := HK1.out; have := HK2.out; omega
               case rel => exact ⟨(wrap64 (x8_2 + 1)), (by first | rfl | (simp; done) | (simp [*]; done)), H', ⟨by have := HK1.out; have := HK2.out; omega⟩, ⟨by (with_reducible repeat (first | refine zN ?_ _ | refine zD ?_ | refine zA ?_ _)); exact BK158.out⟩, ⟨by repeat (first | (with_reducible first | exact HB.out | apply yA | apply yN | apply yD | refine yS ?_ GE158.out) | exact HB.out)⟩⟩
             ·rw [if_neg c19] at H
              exact absurd H (by simp)
            ·rw [if_neg c18] at H
             exact absurd H (by simp)
           ·rw [if_neg c17] at H
            exact absurd H (by simp)
          ·rw [if_neg c16] at H
           exact absurd H (by simp)
         ·rw [if_neg c15] at H
          have c15b0 : decide (x8_2 < x7_1) = false := decide_eq_false c15
          clear c15
          have H' := aK H
          clear H
          go_wp2
          go_roundg k2
          case measure => have := HK1.out; have := HK2.out; omega
          case rel => exact ⟨(wrap64 (x7_1 + 1)), (by first | rfl | (simp; done) | (simp [*]; done)), H', ⟨by have := HK1.out; have := HK2.out; omega⟩, ⟨by (with_reducible repeat (first | refine zN ?_ _ | refine zD ?_ | refine zA ?_ _)); exact BK158.out⟩, ⟨by repeat (first | (with_reducible first | exact HB.out | apply yA | apply yN | apply yD | refine yS ?_ GE158.out) | exact HB.out)⟩⟩
      ·rw [if_neg c14] at H
       have c14b0 : decide (x7_1 < (l0.length : Int)) = false := decide_eq_false c14
       clear c14
       obtain rfl := Option.some.inj H
       simp only [Option.some.injEq, Prod.mk.injEq] at H
       obtain ⟨rfl⟩ := H
       go_wp2
       go_ret
       exact ⟨by first | rfl | (simp [errW_none, errW_some] <;> rfl) | (simp [*, errW_none, errW_some] <;> rfl), by repeat (first | (with_reducible first | exact HB.out | apply yA | apply yN | apply yD | refine yS ?_ GE158.out) | exact HB.out)⟩
   ·rw [if_neg c8] at H
    have c8b0 : (t160 == 0) = false := beq_eq_false_iff_ne.mpr c8
    have c8b1 : (t160 != 0) = true := bne_iff_ne.mpr c8
    obtain rfl := Option.some.inj H
    simp only [Option.some.injEq, Prod.mk.injEq] at H
    obtain ⟨rfl⟩ := H
    go_enter Tryz.func16, Tryz.ntmps16
    go_wp2_with (first | ((with_reducible refine gate_dst (N := 3) rfl ?_); refine box_event ?hg (N := 3) ?hd (cs := #[.int .i64 a1_0, .int .i64 a1_1, .int .i64 a1_2, .int .i64 a1_3, .int .i64 a1_4, .int .i64 a1_5]) (t := 26) ?hr ?_; (case hd => rfl); (case hg => rfl); (case hr => first | (go_simp; done) | (go_simp; rfl)); intro gb158 hg w21 hbox hb; have ⟨n0_, n2_⟩ := zV (w := w) hb hg (by repeat (first | (with_reducible first | exact HB.out | apply yA | apply yN | apply yD) | exact HB.out)); have n1_ := aK (hbox); have n3_ := n2_; clear HB; have HB := n0_; have BK158 := n1_; have GW158 := n2_; have GE158 := n3_; clear n0_ n1_ n2_ n3_; clear hb hbox hg; have hcz22_0 := zI BK158 0 rfl; have hcz22_1 := zI BK158 1 rfl; have hcz22_2 := zI BK158 2 rfl; have hcz22_3 := zI BK158 3 rfl; have hcz22_4 := zI BK158 4 rfl; have hcz22_5 := zI BK158 5 rfl; have hfz22_0 := zF BK158.out 0; have hfz22_1 := zF BK158.out 1; have hfz22_2 := zF BK158.out 2; have hfz22_3 := zF BK158.out 3; have hfz22_4 := zF BK158.out 4; have hfz22_5 := zF BK158.out 5) | (go_at_call 42; (with_reducible refine (gangsawref06_Check.calls k a1_0 a1_1 a1_2 a1_3 a1_4 a1_5 t159 _ A5.out).mono ?_); rintro e w23 ⟨rfl, hb⟩; have n0_ := zG BK158 hb (fun h => by (with_reducible repeat (first | refine zN ?_ _ | refine zD ?_ | refine zA ?_ _)); exact h); have n1_ := aK (yT (by repeat (first | (with_reducible first | exact HB.out | apply yA | apply yN | apply yD | refine yS ?_ GE158.out) | exact HB.out)) hb); clear BK158; clear HB; have BK158 := n0_; have HB := n1_; clear n0_ n1_; (try clear hb); (try clear hb2); (try clear hk); (try clear hi); have hcz24_0 := zI BK158 0 rfl; have hcz24_1 := zI BK158 1 rfl; have hcz24_2 := zI BK158 2 rfl; have hcz24_3 := zI BK158 3 rfl; have hcz24_4 := zI BK158 4 rfl; have hcz24_5 := zI BK158 5 rfl; have hfz24_0 := zF BK158.out 0; have hfz24_1 := zF BK158.out 1; have hfz24_2 := zF BK158.out 2; have hfz24_3 := zF BK158.out 3; have hfz24_4 := zF BK158.out 4; have hfz24_5 := zF BK158.out 5) | (go_at_call 43; (with_reducible refine (gangsawref14_all.calls k _ _ l0 a1_0 a1_1 a1_2 a1_3 a1_4 a1_5 t160 _ ?side1 ?side2 A7.out).mono ?_); (case side1 => repeat (first | exact (Kd.C_below HR0.out HB.out) | (with_reducible refine Kd.C_alloc ?_ _) | (with_reducible refine Kd.C_drewN ?_ _) | (with_reducible refine Kd.C_drew ?_))); (case side2 => exact HC0.out); rintro e w25 ⟨rfl, hb⟩; have n0_ := zG BK158 hb (fun h => by (with_reducible repeat (first | refine zN ?_ _ | refine zD ?_ | refine zA ?_ _)); exact h); have n1_ := aK (yT (by repeat (first | (with_reducible first | exact HB.out | apply yA | apply yN | apply yD | refine yS ?_ GE158.out) | exact HB.out)) hb); clear BK158; clear HB; have BK158 := n0_; have HB := n1_; clear n0_ n1_; (try clear hb); (try clear hb2); (try clear hk); (try clear hi)))
    go_ret
    exact ⟨by first | rfl | (simp [errW_none, errW_some] <;> rfl) | (simp [*, errW_none, errW_some] <;> rfl), by repeat (first | (with_reducible first | exact HB.out | apply yA | apply yN | apply yD | refine yS ?_ GE158.out) | exact HB.out)⟩
  ·rw [if_neg c6] at H
   have c6b0 : (t159 == 0) = false := beq_eq_false_iff_ne.mpr c6
   have c6b1 : (t159 != 0) = true := bne_iff_ne.mpr c6
   obtain rfl := Option.some.inj H
   simp only [Option.some.injEq, Prod.mk.injEq] at H
   obtain ⟨rfl⟩ := H
   go_enter Tryz.func16, Tryz.ntmps16
   go_wp2_with (first | ((with_reducible refine gate_dst (N := 3) rfl ?_); refine box_event ?hg (N := 3) ?hd (cs := #[.int .i64 a1_0, .int .i64 a1_1, .int .i64 a1_2, .int .i64 a1_3, .int .i64 a1_4, .int .i64 a1_5]) (t := 26) ?hr ?_; (case hd => rfl); (case hg => rfl); (case hr => first | (go_simp; done) | (go_simp; rfl)); intro gb158 hg w26 hbox hb; have ⟨n0_, n2_⟩ := zV (w := w) hb hg (by repeat (first | (with_reducible first | exact HB.out | apply yA | apply yN | apply yD) | exact HB.out)); have n1_ := aK (hbox); have n3_ := n2_; clear HB; have HB := n0_; have BK158 := n1_; have GW158 := n2_; have GE158 := n3_; clear n0_ n1_ n2_ n3_; clear hb hbox hg; have hcz27_0 := zI BK158 0 rfl; have hcz27_1 := zI BK158 1 rfl; have hcz27_2 := zI BK158 2 rfl; have hcz27_3 := zI BK158 3 rfl; have hcz27_4 := zI BK158 4 rfl; have hcz27_5 := zI BK158 5 rfl; have hfz27_0 := zF BK158.out 0; have hfz27_1 := zF BK158.out 1; have hfz27_2 := zF BK158.out 2; have hfz27_3 := zF BK158.out 3; have hfz27_4 := zF BK158.out 4; have hfz27_5 := zF BK158.out 5) | (go_at_call 42; (with_reducible refine (gangsawref06_Check.calls k a1_0 a1_1 a1_2 a1_3 a1_4 a1_5 t159 _ A5.out).mono ?_); rintro e w28 ⟨rfl, hb⟩; have n0_ := zG BK158 hb (fun h => by (with_reducible repeat (first | refine zN ?_ _ | refine zD ?_ | refine zA ?_ _)); exact h); have n1_ := aK (yT (by repeat (first | (with_reducible first | exact HB.out | apply yA | apply yN | apply yD | refine yS ?_ GE158.out) | exact HB.out)) hb); clear BK158; clear HB; have BK158 := n0_; have HB := n1_; clear n0_ n1_; (try clear hb); (try clear hb2); (try clear hk); (try clear hi)))
   go_ret
   exact ⟨by first | rfl | (simp [errW_none, errW_some] <;> rfl) | (simp [*, errW_none, errW_some] <;> rfl), by repeat (first | (with_reducible first | exact HB.out | apply yA | apply yN | apply yD | refine yS ?_ GE158.out) | exact HB.out)⟩

end Go.Proofs.YtfedmcehkpfciaaGreat.P
