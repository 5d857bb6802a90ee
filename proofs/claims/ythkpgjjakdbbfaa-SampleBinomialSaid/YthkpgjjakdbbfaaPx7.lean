/- What functions of the program return: each contract says so of one function, for every input at which its pure function yields. -/
import Derived.Test.YthkpgjjakdbbfaaPx0
import Derived.Test.YthkpgjjakdbbfaaPx3
import Derived.Test.YthkpgjjakdbbfaaPx4
import Derived.Test.YthkpgjjakdbbfaaPx6
namespace Go.Proofs.Ythkpgjjakdbbfaa.P
open Go.RowKit Go.Proofs.YthkpgjjakdbbfaaW.PrintWords Go.Proofs.YthkpgjjakdbbfaaW.PrintLast Go.Proofs.YthkpgjjakdbbfaaW.PrintMore
attribute [local go_sem] max2_int min2_int max_two min_two max_three min_three max_four min_four   -- for this text's walks alone
set_option linter.unusedVariables false
set_option linter.unusedSimpArgs false

def sample_Confidence.f (k : Nat) (a0 : Int) (a1 : Int) (a2_0 : Int) (a2_1 : Int) : Option (Int × Int × Int) := (sample_chance.f k a2_0 a2_1).bind fun t153 => (if t153 = true then (if a0 < 1 then (some (0, 0, 1)) else (if a0 > 59 then (some (0, 0, 1)) else (if a1 < 0 then (some (0, 0, 1)) else (if a1 > a0 then (some (0, 0, 1)) else ((sample_confidence.f k a0 a1 a2_0 a2_1).bind fun bt154 => (some (bt154.1, bt154.2.1, bt154.2.2))))))) else (some (0, 0, 1)))
set_option maxHeartbeats 8000000 in
set_option maxRecDepth 100000 in
theorem sample_Confidence.calls (k : Nat) (a0 : Int) (a1 : Int) (a2_0 : Int) (a2_1 : Int) (r1 : Int) (r2 : Int) (r3 : Int) (w : World) (h : sample_Confidence.f k a0 a1 a2_0 a2_1 = some (r1, r2, r3)) :
  Calls Try.prog 20 #[.int .i64 a0, .int .i64 a1, .agg #[.int .i64 a2_0, .int .i64 a2_1]] w fun e w' => e = .returned (.tuple #[.agg #[.int .i64 r1, .int .i64 r2], .int .i64 r3]) ∧ Below w.heap.size w w' := by
 have hu33 := Try.underlying33
 have HB := aK (Below.refl w.heap.size w)
 have H : ((sample_chance.f k a2_0 a2_1).bind fun t153 => (if t153 = true then (if a0 < 1 then (some (0, 0, 1)) else (if a0 > 59 then (some (0, 0, 1)) else (if a1 < 0 then (some (0, 0, 1)) else (if a1 > a0 then (some (0, 0, 1)) else ((sample_confidence.f k a0 a1 a2_0 a2_1).bind fun bt154 => (some (bt154.1, bt154.2.1, bt154.2.2))))))) else (some (0, 0, 1)))) = some (r1, r2, r3) := h
 clear h
 replace H := Option.bind_eq_some_iff.mp H
 obtain ⟨t153, A40, H⟩ := H
 replace H : (if t153 = true then (if a0 < 1 then (some (0, 0, 1)) else (if a0 > 59 then (some (0, 0, 1)) else (if a1 < 0 then (some (0, 0, 1)) else (if a1 > a0 then (some (0, 0, 1)) else ((sample_confidence.f k a0 a1 a2_0 a2_1).bind fun bt154 => (some (bt154.1, bt154.2.1, bt154.2.2))))))) else (some (0, 0, 1))) = some (r1, r2, r3) := H
 have A4 := aK A40
 clear A40
 by_cases c5 : t153 = true
 rotate_left
 ·replace c5 := Bool.eq_false_iff.mpr c5
  subst c5
  have H1 : (some (0, 0, 1)) = some (r1, r2, r3) := by rw [if_neg (show ¬ (false = true) by decide)] at H; exact H
  clear H
  have H := H1
  clear H1
  simp only [Option.some.injEq, Prod.mk.injEq] at H
  obtain ⟨rfl, rfl, rfl⟩ := H
  go_enter Try.func20, Try.ntmps20
  go_wp2_with (first | ((with_reducible refine gate_dst (N := 5) rfl ?_); refine box_event ?hg (N := 5) ?hd (cs := #[.int .i64 a2_0, .int .i64 a2_1]) (t := 33) ?hr ?_; (case hd => rfl); (case hg => rfl); (case hr => first | (go_simp; done) | (go_simp; rfl)); intro gb151 hg w43 hbox hb; have ⟨n0_, n2_⟩ := zV (w := w) hb hg (by repeat (first | (with_reducible first | exact HB.out | apply yA | apply yN | apply yD) | exact HB.out)); have n1_ := aK (hbox); have n3_ := n2_; clear HB; have HB := n0_; have BK151 := n1_; have GW151 := n2_; have GE151 := n3_; clear n0_ n1_ n2_ n3_; clear hb hbox hg) | ((with_reducible refine gate_dst (N := 6) rfl ?_); refine box_event ?hg (N := 6) ?hd (cs := #[.int .i64 0, .int .i64 0]) (t := 33) ?hr ?_; (case hd => rfl); (case hg => rfl); (case hr => first | (go_simp; done) | (go_simp; rfl)); intro gb152 hg w44 hbox hb; have n0_ := aK (zB (g := gb151) (o := .cells #[.int .i64 a2_0, .int .i64 a2_1] 33 (0, 0)) (BK151.out) hb); have ⟨n1_, n3_⟩ := zV (w := w) hb hg (by repeat (first | (with_reducible first | exact HB.out | apply yA | apply yN | apply yD | refine yS ?_ GE151.out) | exact HB.out)); have n2_ := aK (hbox); have n4_ := n3_; have n5_ := aK ((by rw [hg]; exact Nat.ne_of_lt (blk_lt (g := gb151) (o := .cells #[.int .i64 a2_0, .int .i64 a2_1] 33 (0, 0)) (BK151.out)) : gb151 ≠ gb152)); have n6_ := aK ((by rw [hg]; exact Nat.ne_of_gt (blk_lt (g := gb151) (o := .cells #[.int .i64 a2_0, .int .i64 a2_1] 33 (0, 0)) (BK151.out)) : gb152 ≠ gb151)); clear BK151; clear HB; have BK151 := n0_; have HB := n1_; have BK152 := n2_; have GW152 := n3_; have GE152 := n4_; have NB151_152 := n5_; have NB152_151 := n6_; clear n0_ n1_ n2_ n3_ n4_ n5_ n6_; clear hb hbox hg; have hnb45 := NB151_152.out; have hnc45 := NB152_151.out; have hcz46_0 := zI BK151 0 rfl; have hcz46_1 := zI BK151 1 rfl; have hfz46_0 := zF BK151.out 0; have hfz46_1 := zF BK151.out 1) | ((with_reducible refine gate_callee (f := 44) rfl ?_); refine goesL_ (some 9) rfl rfl Try.func44 (by kernel_rfl) rfl #[.agg #[.int .i64 a2_0, .int .i64 a2_1]] rfl (by (try simp only [List.map_toArray, List.map_cons, List.map_nil]); first | done | rfl | (simp only [List.length_drop, List.length_take]; rfl)) ?_; (with_reducible refine (sample_chance.calls k a2_0 a2_1 false _ A4.out).mono ?_); rintro e w47 ⟨rfl, hb⟩; refine ⟨_, rfl, ?_⟩; have n0_ := aK (zB (g := gb151) (o := .cells #[.int .i64 a2_0, .int .i64 a2_1] 33 (0, 0)) (BK151.out) hb); have n1_ := aK (zB (g := gb152) (o := .cells #[.int .i64 0, .int .i64 0] 33 (0, 0)) (BK152.out) hb); have n2_ := aK (yT (by repeat (first | (with_reducible first | exact HB.out | apply yA | apply yN | apply yD | refine yS ?_ GE151.out | refine yS ?_ GE152.out) | exact HB.out)) hb); clear BK151; clear BK152; clear HB; have BK151 := n0_; have BK152 := n1_; have HB := n2_; clear n0_ n1_ n2_; (try clear hb); have hcz48_0 := zI BK152 0 rfl; have hcz48_1 := zI BK152 1 rfl; have hfz48_0 := zF BK152.out 0; have hfz48_1 := zF BK152.out 1))
  refine bodyPost_ret (results_ct rfl _ _ gb152 33 #[.int .i64 0, .int .i64 0] (0, 0) _ rfl (by refine blk_put (cs := #[.int .i64 0, .int .i64 0]) ?_ 1 _ rfl; refine blk_put (cs := #[.int .i64 0, .int .i64 0]) ?_ 0 _ rfl; exact BK152.out) Try.underlying33 rfl (by kernel_rfl)) rfl ?_
  exact ⟨rfl, by repeat (first | (with_reducible first | exact HB.out | apply yA | apply yN | apply yD | refine yS ?_ GE151.out | refine yS ?_ GE152.out) | exact HB.out)⟩
 subst c5
 have H1 : (if a0 < 1 then (some (0, 0, 1)) else (if a0 > 59 then (some (0, 0, 1)) else (if a1 < 0 then (some (0, 0, 1)) else (if a1 > a0 then (some (0, 0, 1)) else ((sample_confidence.f k a0 a1 a2_0 a2_1).bind fun bt154 => (some (bt154.1, bt154.2.1, bt154.2.2))))))) = some (r1, r2, r3) := by rw [if_pos rfl] at H; exact H
 clear H
 have H := H1
 clear H1
 by_cases c6 : a0 < 1
 ·rw [if_pos c6] at H
  have c6b0 : decide (a0 < 1) = true := decide_eq_true c6
  clear c6
  simp only [Option.some.injEq, Prod.mk.injEq] at H
  obtain ⟨rfl, rfl, rfl⟩ := H
  go_enter Try.func20, Try.ntmps20
  go_wp2_with (first | ((with_reducible refine gate_dst (N := 5) rfl ?_); refine box_event ?hg (N := 5) ?hd (cs := #[.int .i64 a2_0, .int .i64 a2_1]) (t := 33) ?hr ?_; (case hd => rfl); (case hg => rfl); (case hr => first | (go_simp; done) | (go_simp; rfl)); intro gb151 hg w7 hbox hb; have ⟨n0_, n2_⟩ := zV (w := w) hb hg (by repeat (first | (with_reducible first | exact HB.out | apply yA | apply yN | apply yD) | exact HB.out)); have n1_ := aK (hbox); have n3_ := n2_; clear HB; have HB := n0_; have BK151 := n1_; have GW151 := n2_; have GE151 := n3_; clear n0_ n1_ n2_ n3_; clear hb hbox hg) | ((with_reducible refine gate_dst (N := 6) rfl ?_); refine box_event ?hg (N := 6) ?hd (cs := #[.int .i64 0, .int .i64 0]) (t := 33) ?hr ?_; (case hd => rfl); (case hg => rfl); (case hr => first | (go_simp; done) | (go_simp; rfl)); intro gb152 hg w8 hbox hb; have n0_ := aK (zB (g := gb151) (o := .cells #[.int .i64 a2_0, .int .i64 a2_1] 33 (0, 0)) (BK151.out) hb); have ⟨n1_, n3_⟩ := zV (w := w) hb hg (by repeat (first | (with_reducible first | exact HB.out | apply yA | apply yN | apply yD | refine yS ?_ GE151.out) | exact HB.out)); have n2_ := aK (hbox); have n4_ := n3_; have n5_ := aK ((by rw [hg]; exact Nat.ne_of_lt (blk_lt (g := gb151) (o := .cells #[.int .i64 a2_0, .int .i64 a2_1] 33 (0, 0)) (BK151.out)) : gb151 ≠ gb152)); have n6_ := aK ((by rw [hg]; exact Nat.ne_of_gt (blk_lt (g := gb151) (o := .cells #[.int .i64 a2_0, .int .i64 a2_1] 33 (0, 0)) (BK151.out)) : gb152 ≠ gb151)); clear BK151; clear HB; have BK151 := n0_; have HB := n1_; have BK152 := n2_; have GW152 := n3_; have GE152 := n4_; have NB151_152 := n5_; have NB152_151 := n6_; clear n0_ n1_ n2_ n3_ n4_ n5_ n6_; clear hb hbox hg; have hnb9 := NB151_152.out; have hnc9 := NB152_151.out; have hcz10_0 := zI BK151 0 rfl; have hcz10_1 := zI BK151 1 rfl; have hfz10_0 := zF BK151.out 0; have hfz10_1 := zF BK151.out 1) | ((with_reducible refine gate_callee (f := 44) rfl ?_); refine goesL_ (some 9) rfl rfl Try.func44 (by kernel_rfl) rfl #[.agg #[.int .i64 a2_0, .int .i64 a2_1]] rfl (by (try simp only [List.map_toArray, List.map_cons, List.map_nil]); first | done | rfl | (simp only [List.length_drop, List.length_take]; rfl)) ?_; (with_reducible refine (sample_chance.calls k a2_0 a2_1 true _ A4.out).mono ?_); rintro e w11 ⟨rfl, hb⟩; refine ⟨_, rfl, ?_⟩; have n0_ := aK (zB (g := gb151) (o := .cells #[.int .i64 a2_0, .int .i64 a2_1] 33 (0, 0)) (BK151.out) hb); have n1_ := aK (zB (g := gb152) (o := .cells #[.int .i64 0, .int .i64 0] 33 (0, 0)) (BK152.out) hb); have n2_ := aK (yT (by repeat (first | (with_reducible first | exact HB.out | apply yA | apply yN | apply yD | refine yS ?_ GE151.out | refine yS ?_ GE152.out) | exact HB.out)) hb); clear BK151; clear BK152; clear HB; have BK151 := n0_; have BK152 := n1_; have HB := n2_; clear n0_ n1_ n2_; (try clear hb); have hcz12_0 := zI BK152 0 rfl; have hcz12_1 := zI BK152 1 rfl; have hfz12_0 := zF BK152.out 0; have hfz12_1 := zF BK152.out 1))
  refine bodyPost_ret (results_ct rfl _ _ gb152 33 #[.int .i64 0, .int .i64 0] (0, 0) _ rfl (by refine blk_put (cs := #[.int .i64 0, .int .i64 0]) ?_ 1 _ rfl; refine blk_put (cs := #[.int .i64 0, .int .i64 0]) ?_ 0 _ rfl; exact BK152.out) Try.underlying33 rfl (by kernel_rfl)) rfl ?_
  exact ⟨rfl, by repeat (first | (with_reducible first | exact HB.out | apply yA | apply yN | apply yD | refine yS ?_ GE151.out | refine yS ?_ GE152.out) | exact HB.out)⟩
 rw [if_neg c6] at H
 have c6b0 : decide (a0 < 1) = false := decide_eq_false c6
 clear c6
 by_cases c13 : a0 > 59
 ·rw [if_pos c13] at H
  have c13b0 : decide (59 < a0) = true := decide_eq_true c13
  clear c13
  simp only [Option.some.injEq, Prod.mk.injEq] at H
  obtain ⟨rfl, rfl, rfl⟩ := H
  go_enter Try.func20, Try.ntmps20
  go_wp2_with (first | ((with_reducible refine gate_dst (N := 5) rfl ?_); refine box_event ?hg (N := 5) ?hd (cs := #[.int .i64 a2_0, .int .i64 a2_1]) (t := 33) ?hr ?_; (case hd => rfl); (case hg => rfl); (case hr => first | (go_simp; done) | (go_simp; rfl)); intro gb151 hg w14 hbox hb; have ⟨n0_, n2_⟩ := zV (w := w) hb hg (by repeat (first | (with_reducible first | exact HB.out | apply yA | apply yN | apply yD) | exact HB.out)); have n1_ := aK (hbox); have n3_ := n2_; clear HB; have HB := n0_; have BK151 := n1_; have GW151 := n2_; have GE151 := n3_; clear n0_ n1_ n2_ n3_; clear hb hbox hg) | ((with_reducible refine gate_dst (N := 6) rfl ?_); refine box_event ?hg (N := 6) ?hd (cs := #[.int .i64 0, .int .i64 0]) (t := 33) ?hr ?_; (case hd => rfl); (case hg => rfl); (case hr => first | (go_simp; done) | (go_simp; rfl)); intro gb152 hg w15 hbox hb; have n0_ := aK (zB (g := gb151) (o := .cells #[.int .i64 a2_0, .int .i64 a2_1] 33 (0, 0)) (BK151.out) hb); have ⟨n1_, n3_⟩ := zV (w := w) hb hg (by repeat (first | (with_reducible first | exact HB.out | apply yA | apply yN | apply yD | refine yS ?_ GE151.out) | exact HB.out)); have n2_ := aK (hbox); have n4_ := n3_; have n5_ := aK ((by rw [hg]; exact Nat.ne_of_lt (blk_lt (g := gb151) (o := .cells #[.int .i64 a2_0, .int .i64 a2_1] 33 (0, 0)) (BK151.out)) : gb151 ≠ gb152)); have n6_ := aK ((by rw [hg]; exact Nat.ne_of_gt (blk_lt (g := gb151) (o := .cells #[.int .i64 a2_0, .int .i64 a2_1] 33 (0, 0)) (BK151.out)) : gb152 ≠ gb151)); clear BK151; clear HB; have BK151 := n0_; have HB := n1_; have BK152 := n2_; have GW152 := n3_; have GE152 := n4_; have NB151_152 := n5_; have NB152_151 := n6_; clear n0_ n1_ n2_ n3_ n4_ n5_ n6_; clear hb hbox hg; have hnb16 := NB151_152.out; have hnc16 := NB152_151.out; have hcz17_0 := zI BK151 0 rfl; have hcz17_1 := zI BK151 1 rfl; have hfz17_0 := zF BK151.out 0; have hfz17_1 := zF BK151.out 1) | ((with_reducible refine gate_callee (f := 44) rfl ?_); refine goesL_ (some 9) rfl rfl Try.func44 (by kernel_rfl) rfl #[.agg #[.int .i64 a2_0, .int .i64 a2_1]] rfl (by (try simp only [List.map_toArray, List.map_cons, List.map_nil]); first | done | rfl | (simp only [List.length_drop, List.length_take]; rfl)) ?_; (with_reducible refine (sample_chance.calls k a2_0 a2_1 true _ A4.out).mono ?_); rintro e w18 ⟨rfl, hb⟩; refine ⟨_, rfl, ?_⟩; have n0_ := aK (zB (g := gb151) (o := .cells #[.int .i64 a2_0, .int .i64 a2_1] 33 (0, 0)) (BK151.out) hb); have n1_ := aK (zB (g := gb152) (o := .cells #[.int .i64 0, .int .i64 0] 33 (0, 0)) (BK152.out) hb); have n2_ := aK (yT (by repeat (first | (with_reducible first | exact HB.out | apply yA | apply yN | apply yD | refine yS ?_ GE151.out | refine yS ?_ GE152.out) | exact HB.out)) hb); clear BK151; clear BK152; clear HB; have BK151 := n0_; have BK152 := n1_; have HB := n2_; clear n0_ n1_ n2_; (try clear hb); have hcz19_0 := zI BK152 0 rfl; have hcz19_1 := zI BK152 1 rfl; have hfz19_0 := zF BK152.out 0; have hfz19_1 := zF BK152.out 1))
  refine bodyPost_ret (results_ct rfl _ _ gb152 33 #[.int .i64 0, .int .i64 0] (0, 0) _ rfl (by refine blk_put (cs := #[.int .i64 0, .int .i64 0]) ?_ 1 _ rfl; refine blk_put (cs := #[.int .i64 0, .int .i64 0]) ?_ 0 _ rfl; exact BK152.out) Try.underlying33 rfl (by kernel_rfl)) rfl ?_
  exact ⟨rfl, by repeat (first | (with_reducible first | exact HB.out | apply yA | apply yN | apply yD | refine yS ?_ GE151.out | refine yS ?_ GE152.out) | exact HB.out)⟩
 rw [if_neg c13] at H
 have c13b0 : decide (59 < a0) = false := decide_eq_false c13
 clear c13
 by_cases c20 : a1 < 0
 ·rw [if_pos c20] at H
  have c20b0 : decide (a1 < 0) = true := decide_eq_true c20
  clear c20
  simp only [Option.some.injEq, Prod.mk.injEq] at H
  obtain ⟨rfl, rfl, rfl⟩ := H
  go_enter Try.func20, Try.ntmps20
  go_wp2_with (first | ((with_reducible refine gate_dst (N := 5) rfl ?_); refine box_event ?hg (N := 5) ?hd (cs := #[.int .i64 a2_0, .int .i64 a2_1]) (t := 33) ?hr ?_; (case hd => rfl); (case hg => rfl); (case hr => first | (go_simp; done) | (go_simp; rfl)); intro gb151 hg w21 hbox hb; have ⟨n0_, n2_⟩ := zV (w := w) hb hg (by repeat (first | (with_reducible first | exact HB.out | apply yA | apply yN | apply yD) | exact HB.out)); have n1_ := aK (hbox); have n3_ := n2_; clear HB; have HB := n0_; have BK151 := n1_; have GW151 := n2_; have GE151 := n3_; clear n0_ n1_ n2_ n3_; clear hb hbox hg) | ((with_reducible refine gate_dst (N := 6) rfl ?_); refine box_event ?hg (N := 6) ?hd (cs := #[.int .i64 0, .int .i64 0]) (t := 33) ?hr ?_; (case hd => rfl); (case hg => rfl); (case hr => first | (go_simp; done) | (go_simp; rfl)); intro gb152 hg w22 hbox hb; have n0_ := aK (zB (g := gb151) (o := .cells #[.int .i64 a2_0, .int .i64 a2_1] 33 (0, 0)) (BK151.out) hb); have ⟨n1_, n3_⟩ := zV (w := w) hb hg (by repeat (first | (with_reducible first | exact HB.out | apply yA | apply yN | apply yD | refine yS ?_ GE151.out) | exact HB.out)); have n2_ := aK (hbox); have n4_ := n3_; have n5_ := aK ((by rw [hg]; exact Nat.ne_of_lt (blk_lt (g := gb151) (o := .cells #[.int .i64 a2_0, .int .i64 a2_1] 33 (0, 0)) (BK151.out)) : gb151 ≠ gb152)); have n6_ := aK ((by rw [hg]; exact Nat.ne_of_gt (blk_lt (g := gb151) (o := .cells #[.int .i64 a2_0, .int .i64 a2_1] 33 (0, 0)) (BK151.out)) : gb152 ≠ gb151)); clear BK151; clear HB; have BK151 := n0_; have HB := n1_; have BK152 := n2_; have GW152 := n3_; have GE152 := n4_; have NB151_152 := n5_; have NB152_151 := n6_; clear n0_ n1_ n2_ n3_ n4_ n5_ n6_; clear hb hbox hg; have hnb23 := NB151_152.out; have hnc23 := NB152_151.out; have hcz24_0 := zI BK151 0 rfl; have hcz24_1 := zI BK151 1 rfl; have hfz24_0 := zF BK151.out 0; have hfz24_1 := zF BK151.out 1) | ((with_reducible refine gate_callee (f := 44) rfl ?_); refine goesL_ (some 9) rfl rfl Try.func44 (by kernel_rfl) rfl #[.agg #[.int .i64 a2_0, .int .i64 a2_1]] rfl (by (try simp only [List.map_toArray, List.map_cons, List.map_nil]); first | done | rfl | (simp only [List.length_drop, List.length_take]; rfl)) ?_; (with_reducible refine (sample_chance.calls k a2_0 a2_1 true _ A4.out).mono ?_); rintro e w25 ⟨rfl, hb⟩; refine ⟨_, rfl, ?_⟩; have n0_ := aK (zB (g := gb151) (o := .cells #[.int .i64 a2_0, .int .i64 a2_1] 33 (0, 0)) (BK151.out) hb); have n1_ := aK (zB (g := gb152) (o := .cells #[.int .i64 0, .int .i64 0] 33 (0, 0)) (BK152.out) hb); have n2_ := aK (yT (by repeat (first | (with_reducible first | exact HB.out | apply yA | apply yN | apply yD | refine yS ?_ GE151.out | refine yS ?_ GE152.out) | exact HB.out)) hb); clear BK151; clear BK152; clear HB; have BK151 := n0_; have BK152 := n1_; have HB := n2_; clear n0_ n1_ n2_; (try clear hb); have hcz26_0 := zI BK152 0 rfl; have hcz26_1 := zI BK152 1 rfl; have hfz26_0 := zF BK152.out 0; have hfz26_1 := zF BK152.out 1))
  refine bodyPost_ret (results_ct rfl _ _ gb152 33 #[.int .i64 0, .int .i64 0] (0, 0) _ rfl (by refine blk_put (cs := #[.int .i64 0, .int .i64 0]) ?_ 1 _ rfl; refine blk_put (cs := #[.int .i64 0, .int .i64 0]) ?_ 0 _ rfl; exact BK152.out) Try.underlying33 rfl (by kernel_rfl)) rfl ?_
  exact ⟨rfl, by repeat (first | (with_reducible first | exact HB.out | apply yA | apply yN | apply yD | refine yS ?_ GE151.out | refine yS ?_ GE152.out) | exact HB.out)⟩
 rw [if_neg c20] at H
 have c20b0 : decide (a1 < 0) = false := decide_eq_false c20
 clear c20
 by_cases c27 : a1 > a0
 ·rw [if_pos c27] at H
  have c27b0 : decide (a0 < a1) = true := decide_eq_true c27
  clear c27
  simp only [Option.some.injEq, Prod.mk.injEq] at H
  obtain ⟨rfl, rfl, rfl⟩ := H
  go_enter Try.func20, Try.ntmps20
  go_wp2_with (first | ((with_reducible refine gate_dst (N := 5) rfl ?_); refine box_event ?hg (N := 5) ?hd (cs := #[.int .i64 a2_0, .int .i64 a2_1]) (t := 33) ?hr ?_; (case hd => rfl); (case hg => rfl); (case hr => first | (go_simp; done) | (go_simp; rfl)); intro gb151 hg w28 hbox hb; have ⟨n0_, n2_⟩ := zV (w := w) hb hg (by repeat (first | (with_reducible first | exact HB.out | apply yA | apply yN | apply yD) | exact HB.out)); have n1_ := aK (hbox); have n3_ := n2_; clear HB; have HB := n0_; have BK151 := n1_; have GW151 := n2_; have GE151 := n3_; clear n0_ n1_ n2_ n3_; clear hb hbox hg) | ((with_reducible refine gate_dst (N := 6) rfl ?_); refine box_event ?hg (N := 6) ?hd (cs := #[.int .i64 0, .int .i64 0]) (t := 33) ?hr ?_; (case hd => rfl); (case hg => rfl); (case hr => first | (go_simp; done) | (go_simp; rfl)); intro gb152 hg w29 hbox hb; have n0_ := aK (zB (g := gb151) (o := .cells #[.int .i64 a2_0, .int .i64 a2_1] 33 (0, 0)) (BK151.out) hb); have ⟨n1_, n3_⟩ := zV (w := w) hb hg (by repeat (first | (with_reducible first | exact HB.out | apply yA | apply yN | apply yD | refine yS ?_ GE151.out) | exact HB.out)); have n2_ := aK (hbox); have n4_ := n3_; have n5_ := aK ((by rw [hg]; exact Nat.ne_of_lt (blk_lt (g := gb151) (o := .cells #[.int .i64 a2_0, .int .i64 a2_1] 33 (0, 0)) (BK151.out)) : gb151 ≠ gb152)); have n6_ := aK ((by rw [hg]; exact Nat.ne_of_gt (blk_lt (g := gb151) (o := .cells #[.int .i64 a2_0, .int .i64 a2_1] 33 (0, 0)) (BK151.out)) : gb152 ≠ gb151)); clear BK151; clear HB; have BK151 := n0_; have HB := n1_; have BK152 := n2_; have GW152 := n3_; have GE152 := n4_; have NB151_152 := n5_; have NB152_151 := n6_; clear n0_ n1_ n2_ n3_ n4_ n5_ n6_; clear hb hbox hg; have hnb30 := NB151_152.out; have hnc30 := NB152_151.out; have hcz31_0 := zI BK151 0 rfl; have hcz31_1 := zI BK151 1 rfl; have hfz31_0 := zF BK151.out 0; have hfz31_1 := zF BK151.out 1) | ((with_reducible refine gate_callee (f := 44) rfl ?_); refine goesL_ (some 9) rfl rfl Try.func44 (by kernel_rfl) rfl #[.agg #[.int .i64 a2_0, .int .i64 a2_1]] rfl (by (try simp only [List.map_toArray, List.map_cons, List.map_nil]); first | done | rfl | (simp only [List.length_drop, List.length_take]; rfl)) ?_; (with_reducible refine (sample_chance.calls k a2_0 a2_1 true _ A4.out).mono ?_); rintro e w32 ⟨rfl, hb⟩; refine ⟨_, rfl, ?_⟩; have n0_ := aK (zB (g := gb151) (o := .cells #[.int .i64 a2_0, .int .i64 a2_1] 33 (0, 0)) (BK151.out) hb); have n1_ := aK (zB (g := gb152) (o := .cells #[.int .i64 0, .int .i64 0] 33 (0, 0)) (BK152.out) hb); have n2_ := aK (yT (by repeat (first | (with_reducible first | exact HB.out | apply yA | apply yN | apply yD | refine yS ?_ GE151.out | refine yS ?_ GE152.out) | exact HB.out)) hb); clear BK151; clear BK152; clear HB; have BK151 := n0_; have BK152 := n1_; have HB := n2_; clear n0_ n1_ n2_; (try clear hb); have hcz33_0 := zI BK152 0 rfl; have hcz33_1 := zI BK152 1 rfl; have hfz33_0 := zF BK152.out 0; have hfz33_1 := zF BK152.out 1))
  refine bodyPost_ret (results_ct rfl _ _ gb152 33 #[.int .i64 0, .int .i64 0] (0, 0) _ rfl (by refine blk_put (cs := #[.int .i64 0, .int .i64 0]) ?_ 1 _ rfl; refine blk_put (cs := #[.int .i64 0, .int .i64 0]) ?_ 0 _ rfl; exact BK152.out) Try.underlying33 rfl (by kernel_rfl)) rfl ?_
  exact ⟨rfl, by repeat (first | (with_reducible first | exact HB.out | apply yA | apply yN | apply yD | refine yS ?_ GE151.out | refine yS ?_ GE152.out) | exact HB.out)⟩
 rw [if_neg c27] at H
 have c27b0 : decide (a0 < a1) = false := decide_eq_false c27
 clear c27
 replace H := Option.bind_eq_some_iff.mp H
 obtain ⟨⟨t154, t155, t156⟩, A340, H⟩ := H
 replace H : (some (t154, t155, t156)) = some (r1, r2, r3) := H
 have A34 := aK A340
 clear A340
 simp only [Option.some.injEq, Prod.mk.injEq] at H
 obtain ⟨rfl, rfl, rfl⟩ := H
 go_enter Try.func20, Try.ntmps20
 go_wp2_with (first | ((with_reducible refine gate_dst (N := 5) rfl ?_); refine box_event ?hg (N := 5) ?hd (cs := #[.int .i64 a2_0, .int .i64 a2_1]) (t := 33) ?hr ?_; (case hd => rfl); (case hg => rfl); (case hr => first | (go_simp; done) | (go_simp; rfl)); intro gb151 hg w35 hbox hb; have ⟨n0_, n2_⟩ := zV (w := w) hb hg (by repeat (first | (with_reducible first | exact HB.out | apply yA | apply yN | apply yD) | exact HB.out)); have n1_ := aK (hbox); have n3_ := n2_; clear HB; have HB := n0_; have BK151 := n1_; have GW151 := n2_; have GE151 := n3_; clear n0_ n1_ n2_ n3_; clear hb hbox hg) | ((with_reducible refine gate_dst (N := 6) rfl ?_); refine box_event ?hg (N := 6) ?hd (cs := #[.int .i64 0, .int .i64 0]) (t := 33) ?hr ?_; (case hd => rfl); (case hg => rfl); (case hr => first | (go_simp; done) | (go_simp; rfl)); intro gb152 hg w36 hbox hb; have n0_ := aK (zB (g := gb151) (o := .cells #[.int .i64 a2_0, .int .i64 a2_1] 33 (0, 0)) (BK151.out) hb); have ⟨n1_, n3_⟩ := zV (w := w) hb hg (by repeat (first | (with_reducible first | exact HB.out | apply yA | apply yN | apply yD | refine yS ?_ GE151.out) | exact HB.out)); have n2_ := aK (hbox); have n4_ := n3_; have n5_ := aK ((by rw [hg]; exact Nat.ne_of_lt (blk_lt (g := gb151) (o := .cells #[.int .i64 a2_0, .int .i64 a2_1] 33 (0, 0)) (BK151.out)) : gb151 ≠ gb152)); have n6_ := aK ((by rw [hg]; exact Nat.ne_of_gt (blk_lt (g := gb151) (o := .cells #[.int .i64 a2_0, .int .i64 a2_1] 33 (0, 0)) (BK151.out)) : gb152 ≠ gb151)); clear BK151; clear HB; have BK151 := n0_; have HB := n1_; have BK152 := n2_; have GW152 := n3_; have GE152 := n4_; have NB151_152 := n5_; have NB152_151 := n6_; clear n0_ n1_ n2_ n3_ n4_ n5_ n6_; clear hb hbox hg; have hnb37 := NB151_152.out; have hnc37 := NB152_151.out; have hcz38_0 := zI BK151 0 rfl; have hcz38_1 := zI BK151 1 rfl; have hfz38_0 := zF BK151.out 0; have hfz38_1 := zF BK151.out 1) | ((with_reducible refine gate_callee (f := 44) rfl ?_); refine goesL_ (some 9) rfl rfl Try.func44 (by kernel_rfl) rfl #[.agg #[.int .i64 a2_0, .int .i64 a2_1]] rfl (by (try simp only [List.map_toArray, List.map_cons, List.map_nil]); first | done | rfl | (simp only [List.length_drop, List.length_take]; rfl)) ?_; (with_reducible refine (sample_chance.calls k a2_0 a2_1 true _ A4.out).mono ?_); rintro e w39 ⟨rfl, hb⟩; refine ⟨_, rfl, ?_⟩; have n0_ := aK (zB (g := gb151) (o := .cells #[.int .i64 a2_0, .int .i64 a2_1] 33 (0, 0)) (BK151.out) hb); have n1_ := aK (zB (g := gb152) (o := .cells #[.int .i64 0, .int .i64 0] 33 (0, 0)) (BK152.out) hb); have n2_ := aK (yT (by repeat (first | (with_reducible first | exact HB.out | apply yA | apply yN | apply yD | refine yS ?_ GE151.out | refine yS ?_ GE152.out) | exact HB.out)) hb); clear BK151; clear BK152; clear HB; have BK151 := n0_; have BK152 := n1_; have HB := n2_; clear n0_ n1_ n2_; (try clear hb); have hcz40_0 := zI BK151 0 rfl; have hcz40_1 := zI BK151 1 rfl; have hfz40_0 := zF BK151.out 0; have hfz40_1 := zF BK151.out 1) | ((with_reducible refine gate_callee (f := 45) rfl ?_); refine goesL_ (some 32) rfl rfl Try.func45 (by kernel_rfl) rfl #[.int .i64 a0, .int .i64 a1, .agg #[.int .i64 a2_0, .int .i64 a2_1]] rfl (by (try simp only [List.map_toArray, List.map_cons, List.map_nil]); first | done | rfl | (simp only [List.length_drop, List.length_take]; rfl)) ?_; (with_reducible refine (sample_confidence.calls k a0 a1 a2_0 a2_1 t154 t155 t156 _ A34.out).mono ?_); rintro e w41 ⟨rfl, hb⟩; refine ⟨_, rfl, ?_⟩; have n0_ := aK (zB (g := gb151) (o := .cells #[.int .i64 a2_0, .int .i64 a2_1] 33 (0, 0)) (BK151.out) hb); have n1_ := aK (zB (g := gb152) (o := .cells #[.int .i64 0, .int .i64 0] 33 (0, 0)) (BK152.out) hb); have n2_ := aK (yT (by repeat (first | (with_reducible first | exact HB.out | apply yA | apply yN | apply yD | refine yS ?_ GE151.out | refine yS ?_ GE152.out) | exact HB.out)) hb); clear BK151; clear BK152; clear HB; have BK151 := n0_; have BK152 := n1_; have HB := n2_; clear n0_ n1_ n2_; (try clear hb); have hcz42_0 := zI BK152 0 rfl; have hcz42_1 := zI BK152 1 rfl; have hfz42_0 := zF BK152.out 0; have hfz42_1 := zF BK152.out 1))
 refine bodyPost_ret (results_ct rfl _ _ gb152 33 #[.int .i64 t154, .int .i64 t155] (0, 0) _ rfl (by refine blk_put (cs := #[.int .i64 t154, .int .i64 0]) ?_ 1 _ rfl; refine blk_put (cs := #[.int .i64 0, .int .i64 0]) ?_ 0 _ rfl; exact BK152.out) Try.underlying33 rfl (by kernel_rfl)) rfl ?_
 exact ⟨rfl, by repeat (first | (with_reducible first | exact HB.out | apply yA | apply yN | apply yD | refine yS ?_ GE151.out | refine yS ?_ GE152.out) | exact HB.out)⟩

def fraction_valid.l0 : Nat → List (S33) → Int → Int → Option (Bool)
 | 0, _, _, _ => none
 | k + 1, x5, x6, x7 => if x7 < x6 then (if 0 ≤ x7 then (if x7 < (x5.length : Int) then ((fraction_Valid.f k ((rd_T33 x5 x7).f0) ((rd_T33 x5 x7).f1)).bind fun t159 => (if t159 = true then (fraction_valid.l0 k x5 x6 (wrap64 (x7 + 1))) else (some false))) else (none)) else (none)) else (some true)
def fraction_valid.f (k : Nat) (l0 : List (S33)) : Option (Bool) := fraction_valid.l0 k l0 (l0.length : Int) 0
set_option maxHeartbeats 8000000 in
set_option maxRecDepth 100000 in
theorem fraction_valid.calls (k : Nat) (A0 : Option Addr) (c0 : Nat) (l0 : List (S33)) (r : Bool) (w : World) (hr0 : Kd.C k33 w A0 l0.length l0) (hc0 : l0.length ≤ c0) (h : fraction_valid.f k l0 = some r) :
  Calls Try.prog 54 #[.slice A0 l0.length c0] w fun e w' => e = .returned (.bool r) ∧ Below w.heap.size w w' := by
 have hu33 := Try.underlying33
 have HR0 := aK hr0
 have HC0 := aK hc0
 clear hr0 hc0
 have HB := aK (Below.refl w.heap.size w)
 have H : (fraction_valid.l0 k l0 (l0.length : Int) 0) = some r := h
 clear h
 have H' := aK H
 clear H
 go_enter Try.func54, Try.ntmps54
 go_wp2
 go_loopg [7] k (fun kq v7 w' => ∃ (x7_1 : Int), v7 = .int .i64 x7_1 ∧ Aside0 (fraction_valid.l0 kq l0 (l0.length : Int) x7_1 = some r) ∧ Aside0 (kq ≤ k) ∧ Aside0 (Below w.heap.size w w'))
 case atStart => exact ⟨(0), (by first | rfl | (simp; done) | (simp [*]; done)), H', ⟨Nat.le_refl _⟩, ⟨HB.out⟩⟩
 case round =>
  clear H'
  obtain ⟨x7_1, rfl, HA, HK1, HB⟩ := hrel
  cases gk with
  | zero => exact absurd HA.out (by simp [fraction_valid.l0])
  | succ k1 =>
   have H := HA.out
   clear HA
   simp only [fraction_valid.l0] at H
   by_cases c2 : x7_1 < (l0.length : Int)
   rotate_left
   ·rw [if_neg c2] at H
    have c2b0 : decide (x7_1 < (l0.length : Int)) = false := decide_eq_false c2
    clear c2
    obtain rfl := Option.some.inj H
    simp only [Option.some.injEq, Prod.mk.injEq] at H
    obtain ⟨rfl⟩ := H
    go_wp2
    go_ret
    exact ⟨rfl, HB.out⟩
   rw [if_pos c2] at H
   have c2b0 : decide (x7_1 < (l0.length : Int)) = true := decide_eq_true c2
   clear c2
   by_cases c3 : 0 ≤ x7_1
   rotate_left
   ·rw [if_neg c3] at H
    exact absurd H (by simp)
   rw [if_pos c3] at H
   have c3b0 : decide (0 ≤ x7_1) = true := decide_eq_true c3
   clear c3
   by_cases c4 : x7_1 < (l0.length : Int)
   rotate_left
   ·rw [if_neg c4] at H
    exact absurd H (by simp)
   rw [if_pos c4] at H
   have c4b0 : decide (x7_1 < (l0.length : Int)) = true := decide_eq_true c4
   clear c4
   replace H := Option.bind_eq_some_iff.mp H
   obtain ⟨t159, A50, H⟩ := H
   replace H : (if t159 = true then (fraction_valid.l0 k1 l0 (l0.length : Int) (wrap64 (x7_1 + 1))) else (some false)) = some r := H
   have A5 := aK A50
   clear A50
   by_cases c6 : t159 = true
   ·subst c6
    have H1 : (fraction_valid.l0 k1 l0 (l0.length : Int) (wrap64 (x7_1 + 1))) = some r := by rw [if_pos rfl] at H; exact H
    clear H
    have H := H1
    clear H1
    have H' := aK H
    clear H
    have p157 : 0 ≤ (x7_1 : Int) := of_decide_eq_true (by assumption)
    have q157 : x7_1 < (l0.length : Int) := of_decide_eq_true (by assumption)
    obtain ⟨ad157, e157, hx157_0, hx157_1⟩ := at_T33 HR0.out x7_1 p157 q157
    cases e157
    replace hx157_0 := (HB.out.cell (World.block_lt_of_cell? w _ hx157_0)).trans hx157_0
    replace hx157_1 := (HB.out.cell (World.block_lt_of_cell? w _ hx157_1)).trans hx157_1
    replace p157 := eq_true p157
    replace q157 := eq_true q157
    go_wp2_with (first | ((with_reducible refine gate_dst (N := 4) rfl ?_); refine box_event ?hg (N := 4) ?hd (cs := #[.int .i64 0, .int .i64 0]) (t := 33) ?hr ?_; (case hd => rfl); (case hg => rfl); (case hr => first | (go_simp; done) | (go_simp; rfl)); intro gb158 hg w7 hbox hb; have ⟨n0_, n2_⟩ := zV (w := w) hb hg (by repeat (first | (with_reducible first | exact HB.out | apply yA | apply yN | apply yD) | exact HB.out)); have n1_ := aK (hbox); have n3_ := n2_; clear HB; have HB := n0_; have BK158 := n1_; have GW158 := n2_; have GE158 := n3_; clear n0_ n1_ n2_ n3_; clear hb hbox hg; have hcz8_0 := zI BK158 0 rfl; have hcz8_1 := zI BK158 1 rfl; have hfz8_0 := zF BK158.out 0; have hfz8_1 := zF BK158.out 1) | ((with_reducible refine gate_callee (f := 68) rfl ?_); refine goesL_ (some 12) rfl rfl Try.func68 (by kernel_rfl) rfl #[.agg #[.int .i64 ((rd_T33 l0 x7_1).f0), .int .i64 ((rd_T33 l0 x7_1).f1)]] rfl (by (try simp only [List.map_toArray, List.map_cons, List.map_nil]); first | done | rfl | (simp only [List.length_drop, List.length_take]; rfl)) ?_; (with_reducible refine (fraction_Valid.calls k1 ((rd_T33 l0 x7_1).f0) ((rd_T33 l0 x7_1).f1) true _ A5.out).mono ?_); rintro e w9 ⟨rfl, hb⟩; refine ⟨_, rfl, ?_⟩; have n0_ := aK (zB (g := gb158) (o := .cells #[.int .i64 ((rd_T33 l0 x7_1).f0), .int .i64 ((rd_T33 l0 x7_1).f1)] 33 (0, 0)) (by refine blk_put (cs := #[.int .i64 ((rd_T33 l0 x7_1).f0), .int .i64 0]) ?_ 1 _ rfl; refine blk_put (cs := #[.int .i64 0, .int .i64 0]) ?_ 0 _ rfl; exact BK158.out) hb); have n1_ := aK (yT (by repeat (first | (with_reducible first | exact HB.out | apply yA | apply yN | apply yD | refine yS ?_ GE158.out) | exact HB.out)) hb); clear BK158; clear HB; have BK158 := n0_; have HB := n1_; clear n0_ n1_; (try clear hb)))
    go_roundg k1
    case measure => have := HK1.out; omega
    case rel => exact ⟨(wrap64 (x7_1 + 1)), (by first | rfl | (simp; done) | (simp [*]; done)), H', ⟨by have := HK1.out; omega⟩, ⟨HB.out⟩⟩
   replace c6 := Bool.eq_false_iff.mpr c6
   subst c6
   have H1 : (some false) = some r := by rw [if_neg (show ¬ (false = true) by decide)] at H; exact H
   clear H
   have H := H1
   clear H1
   obtain rfl := Option.some.inj H
   simp only [Option.some.injEq, Prod.mk.injEq] at H
   obtain ⟨rfl⟩ := H
   have p157 : 0 ≤ (x7_1 : Int) := of_decide_eq_true (by assumption)
   have q157 : x7_1 < (l0.length : Int) := of_decide_eq_true (by assumption)
   obtain ⟨ad157, e157, hx157_0, hx157_1⟩ := at_T33 HR0.out x7_1 p157 q157
   cases e157
   replace hx157_0 := (HB.out.cell (World.block_lt_of_cell? w _ hx157_0)).trans hx157_0
   replace hx157_1 := (HB.out.cell (World.block_lt_of_cell? w _ hx157_1)).trans hx157_1
   replace p157 := eq_true p157
   replace q157 := eq_true q157
   go_wp2_with (first | ((with_reducible refine gate_dst (N := 4) rfl ?_); refine box_event ?hg (N := 4) ?hd (cs := #[.int .i64 0, .int .i64 0]) (t := 33) ?hr ?_; (case hd => rfl); (case hg => rfl); (case hr => first | (go_simp; done) | (go_simp; rfl)); intro gb158 hg w10 hbox hb; have ⟨n0_, n2_⟩ := zV (w := w) hb hg (by repeat (first | (with_reducible first | exact HB.out | apply yA | apply yN | apply yD) | exact HB.out)); have n1_ := aK (hbox); have n3_ := n2_; clear HB; have HB := n0_; have BK158 := n1_; have GW158 := n2_; have GE158 := n3_; clear n0_ n1_ n2_ n3_; clear hb hbox hg; have hcz11_0 := zI BK158 0 rfl; have hcz11_1 := zI BK158 1 rfl; have hfz11_0 := zF BK158.out 0; have hfz11_1 := zF BK158.out 1) | ((with_reducible refine gate_callee (f := 68) rfl ?_); refine goesL_ (some 12) rfl rfl Try.func68 (by kernel_rfl) rfl #[.agg #[.int .i64 ((rd_T33 l0 x7_1).f0), .int .i64 ((rd_T33 l0 x7_1).f1)]] rfl (by (try simp only [List.map_toArray, List.map_cons, List.map_nil]); first | done | rfl | (simp only [List.length_drop, List.length_take]; rfl)) ?_; (with_reducible refine (fraction_Valid.calls k1 ((rd_T33 l0 x7_1).f0) ((rd_T33 l0 x7_1).f1) false _ A5.out).mono ?_); rintro e w12 ⟨rfl, hb⟩; refine ⟨_, rfl, ?_⟩; have n0_ := aK (zB (g := gb158) (o := .cells #[.int .i64 ((rd_T33 l0 x7_1).f0), .int .i64 ((rd_T33 l0 x7_1).f1)] 33 (0, 0)) (by refine blk_put (cs := #[.int .i64 ((rd_T33 l0 x7_1).f0), .int .i64 0]) ?_ 1 _ rfl; refine blk_put (cs := #[.int .i64 0, .int .i64 0]) ?_ 0 _ rfl; exact BK158.out) hb); have n1_ := aK (yT (by repeat (first | (with_reducible first | exact HB.out | apply yA | apply yN | apply yD | refine yS ?_ GE158.out) | exact HB.out)) hb); clear BK158; clear HB; have BK158 := n0_; have HB := n1_; clear n0_ n1_; (try clear hb)))
   go_ret
   exact ⟨rfl, HB.out⟩

def bits_Mul64.f (a0 : Int) (a1 : Int) : Option (Int × Int) := some (IntKind.u64.wrap ((IntKind.u64.wrap ((IntKind.u64.wrap ((a0 / 4294967296) * (a1 / 4294967296))) + ((IntKind.u64.wrap ((IntKind.u64.wrap ((a0 / 4294967296) * (Go.bits .and .u64 a1 4294967295))) + ((IntKind.u64.wrap ((Go.bits .and .u64 a0 4294967295) * (Go.bits .and .u64 a1 4294967295))) / 4294967296))) / 4294967296))) + ((IntKind.u64.wrap ((Go.bits .and .u64 (IntKind.u64.wrap ((IntKind.u64.wrap ((a0 / 4294967296) * (Go.bits .and .u64 a1 4294967295))) + ((IntKind.u64.wrap ((Go.bits .and .u64 a0 4294967295) * (Go.bits .and .u64 a1 4294967295))) / 4294967296))) 4294967295) + (IntKind.u64.wrap ((Go.bits .and .u64 a0 4294967295) * (a1 / 4294967296))))) / 4294967296)), IntKind.u64.wrap (a0 * a1))
set_option maxHeartbeats 8000000 in
set_option maxRecDepth 100000 in
theorem bits_Mul64.calls (a0 : Int) (a1 : Int) (r1 : Int) (r2 : Int) (w : World) (h : bits_Mul64.f a0 a1 = some (r1, r2)) :
  Calls Try.prog 81 #[.int .u64 a0, .int .u64 a1] w fun e w' => e = .returned (.tuple #[.int .u64 r1, .int .u64 r2]) ∧ Drawn0 w w' := by
 have H : (some (IntKind.u64.wrap ((IntKind.u64.wrap ((IntKind.u64.wrap ((a0 / 4294967296) * (a1 / 4294967296))) + ((IntKind.u64.wrap ((IntKind.u64.wrap ((a0 / 4294967296) * (Go.bits .and .u64 a1 4294967295))) + ((IntKind.u64.wrap ((Go.bits .and .u64 a0 4294967295) * (Go.bits .and .u64 a1 4294967295))) / 4294967296))) / 4294967296))) + ((IntKind.u64.wrap ((Go.bits .and .u64 (IntKind.u64.wrap ((IntKind.u64.wrap ((a0 / 4294967296) * (Go.bits .and .u64 a1 4294967295))) + ((IntKind.u64.wrap ((Go.bits .and .u64 a0 4294967295) * (Go.bits .and .u64 a1 4294967295))) / 4294967296))) 4294967295) + (IntKind.u64.wrap ((Go.bits .and .u64 a0 4294967295) * (a1 / 4294967296))))) / 4294967296)), IntKind.u64.wrap (a0 * a1))) = some (r1, r2) := h
 clear h
 simp only [Option.some.injEq, Prod.mk.injEq] at H
 obtain ⟨rfl, rfl⟩ := H
 go_enter Try.func81, Try.ntmps81
 go_wp2
 go_ret2
 exact ⟨by first | rfl | (simp; done) | (simp [*]; done), by repeat (first | exact Drawn0.refl _ | apply Drawn0.step)⟩

def fraction_product.f (a0 : Int) (a1 : Int) : Option (Bool × Int × Int) := (fraction_size.f a0).bind fun t161 => ((fraction_size.f a1).bind fun t162 => ((bits_Mul64.f t161 t162).bind fun bt163 => (some (((decide (a0 < 0)) != (decide (a1 < 0))), bt163.1, bt163.2))))
set_option maxHeartbeats 8000000 in
set_option maxRecDepth 100000 in
theorem fraction_product.calls (a0 : Int) (a1 : Int) (r1 : Bool) (r2 : Int) (r3 : Int) (w : World) (h : fraction_product.f a0 a1 = some (r1, r2, r3)) :
  Calls Try.prog 56 #[.int .i64 a0, .int .i64 a1] w fun e w' => e = .returned (.agg #[.bool r1, .int .u64 r2, .int .u64 r3]) ∧ Below w.heap.size w w' := by
 have hu71 := Try.underlying71
 have HB := aK (Below.refl w.heap.size w)
 have H : ((fraction_size.f a0).bind fun t161 => ((fraction_size.f a1).bind fun t162 => ((bits_Mul64.f t161 t162).bind fun bt163 => (some (((decide (a0 < 0)) != (decide (a1 < 0))), bt163.1, bt163.2))))) = some (r1, r2, r3) := h
 clear h
 replace H := Option.bind_eq_some_iff.mp H
 obtain ⟨t161, A30, H⟩ := H
 replace H : ((fraction_size.f a1).bind fun t162 => ((bits_Mul64.f t161 t162).bind fun bt163 => (some (((decide (a0 < 0)) != (decide (a1 < 0))), bt163.1, bt163.2)))) = some (r1, r2, r3) := H
 have A3 := aK A30
 clear A30
 replace H := Option.bind_eq_some_iff.mp H
 obtain ⟨t162, A40, H⟩ := H
 replace H : ((bits_Mul64.f t161 t162).bind fun bt163 => (some (((decide (a0 < 0)) != (decide (a1 < 0))), bt163.1, bt163.2))) = some (r1, r2, r3) := H
 have A4 := aK A40
 clear A40
 replace H := Option.bind_eq_some_iff.mp H
 obtain ⟨⟨t163, t164⟩, A50, H⟩ := H
 replace H : (some (((decide (a0 < 0)) != (decide (a1 < 0))), t163, t164)) = some (r1, r2, r3) := H
 have A5 := aK A50
 clear A50
 simp only [Option.some.injEq, Prod.mk.injEq] at H
 obtain ⟨rfl, rfl, rfl⟩ := H
 go_enter Try.func56, Try.ntmps56
 go_wp2_with (first | ((with_reducible refine gate_dst (N := 4) rfl ?_); refine box_event ?hg (N := 4) ?hd (cs := #[.bool false, .int .u64 0, .int .u64 0]) (t := 71) ?hr ?_; (case hd => rfl); (case hg => rfl); (case hr => first | (go_simp; done) | (go_simp; rfl)); intro gb160 hg w6 hbox hb; have ⟨n0_, n2_⟩ := zV (w := w) hb hg (by repeat (first | (with_reducible first | exact HB.out | apply yA | apply yN | apply yD) | exact HB.out)); have n1_ := aK (hbox); have n3_ := n2_; clear HB; have HB := n0_; have BK160 := n1_; have GW160 := n2_; have GE160 := n3_; clear n0_ n1_ n2_ n3_; clear hb hbox hg) | ((with_reducible refine gate_callee (f := 51) rfl ?_); refine goesL_ (some 9) rfl rfl Try.func51 (by kernel_rfl) rfl #[.int .i64 a0] rfl (by (try simp only [List.map_toArray, List.map_cons, List.map_nil]); first | done | rfl | (simp only [List.length_drop, List.length_take]; rfl)) ?_; (with_reducible refine (fraction_size.calls a0 t161 _ A3.out).mono ?_); rintro e w' ⟨rfl, ⟨nd, rfl⟩⟩; refine ⟨_, rfl, ?_⟩; (try (rw [drewN_self w6]; generalize hq_ : World.drewN w6 _ = w6; have n0_ : Aside0 (w6.heap[gb160]? = some (.cells #[.bool false, .int .u64 0, .int .u64 0] 71 (0, 0))) := ⟨by rw [← hq_]; exact (BK160.out)⟩; have n1_ : Aside0 (Below w.heap.size w w6) := ⟨by rw [← hq_]; exact (by repeat (first | (with_reducible first | exact HB.out | apply yA | apply yN | apply yD | refine yS ?_ GE160.out) | exact HB.out))⟩; clear BK160 HB hq_; have BK160 := n0_; have HB := n1_; clear n0_ n1_))) | ((with_reducible refine gate_callee (f := 51) rfl ?_); refine goesL_ (some 11) rfl rfl Try.func51 (by kernel_rfl) rfl #[.int .i64 a1] rfl (by (try simp only [List.map_toArray, List.map_cons, List.map_nil]); first | done | rfl | (simp only [List.length_drop, List.length_take]; rfl)) ?_; (with_reducible refine (fraction_size.calls a1 t162 _ A4.out).mono ?_); rintro e w' ⟨rfl, ⟨nd, rfl⟩⟩; refine ⟨_, rfl, ?_⟩; (try (rw [drewN_self w6]; generalize hq_ : World.drewN w6 _ = w6; have n0_ : Aside0 (w6.heap[gb160]? = some (.cells #[.bool false, .int .u64 0, .int .u64 0] 71 (0, 0))) := ⟨by rw [← hq_]; exact (BK160.out)⟩; have n1_ : Aside0 (Below w.heap.size w w6) := ⟨by rw [← hq_]; exact (by repeat (first | (with_reducible first | exact HB.out | apply yA | apply yN | apply yD | refine yS ?_ GE160.out) | exact HB.out))⟩; clear BK160 HB hq_; have BK160 := n0_; have HB := n1_; clear n0_ n1_))) | ((with_reducible refine gate_callee (f := 81) rfl ?_); refine goesL_ (some 12) rfl rfl Try.func81 (by kernel_rfl) rfl #[.int .u64 t161, .int .u64 t162] rfl (by (try simp only [List.map_toArray, List.map_cons, List.map_nil]); first | done | rfl | (simp only [List.length_drop, List.length_take]; rfl)) ?_; (with_reducible refine (bits_Mul64.calls t161 t162 t163 t164 _ A5.out).mono ?_); rintro e w' ⟨rfl, ⟨nd, rfl⟩⟩; refine ⟨_, rfl, ?_⟩; (try (rw [drewN_self w6]; generalize hq_ : World.drewN w6 _ = w6; have n0_ : Aside0 (w6.heap[gb160]? = some (.cells #[.bool false, .int .u64 0, .int .u64 0] 71 (0, 0))) := ⟨by rw [← hq_]; exact (BK160.out)⟩; have n1_ : Aside0 (Below w.heap.size w w6) := ⟨by rw [← hq_]; exact (by repeat (first | (with_reducible first | exact HB.out | apply yA | apply yN | apply yD | refine yS ?_ GE160.out) | exact HB.out))⟩; clear BK160 HB hq_; have BK160 := n0_; have HB := n1_; clear n0_ n1_)); have hcz7_0 := zI BK160 0 rfl; have hcz7_1 := zI BK160 1 rfl; have hcz7_2 := zI BK160 2 rfl; have hfz7_0 := zF BK160.out 0; have hfz7_1 := zF BK160.out 1; have hfz7_2 := zF BK160.out 2))
 refine bodyPost_ret (results_cell_row rfl _ _ gb160 71 #[.bool ((decide (a0 < 0)) != (decide (a1 < 0))), .int .u64 t163, .int .u64 t164] (0, 0) _ rfl (by refine blk_put (cs := #[.bool ((decide (a0 < 0)) != (decide (a1 < 0))), .int .u64 t163, .int .u64 0]) ?_ 2 _ rfl; refine blk_put (cs := #[.bool ((decide (a0 < 0)) != (decide (a1 < 0))), .int .u64 0, .int .u64 0]) ?_ 1 _ rfl; refine blk_put (cs := #[.bool false, .int .u64 0, .int .u64 0]) ?_ 0 _ rfl; exact BK160.out) Try.underlying71 rfl (by kernel_rfl)) rfl ?_
 exact ⟨rfl, by repeat (first | (with_reducible first | exact HB.out | apply yA | apply yN | apply yD | refine yS ?_ GE160.out) | exact HB.out)⟩

def cmp_isNaN_int64.f (a0 : Int) : Option (Bool) := some (a0 != a0)
set_option maxHeartbeats 8000000 in
set_option maxRecDepth 100000 in
theorem cmp_isNaN_int64.calls (a0 : Int) (r : Bool) (w : World) (h : cmp_isNaN_int64.f a0 = some r) :
  Calls Try.prog 108 #[.int .i64 a0] w fun e w' => e = .returned (.bool r) ∧ Drawn0 w w' := by
 have H : (some (a0 != a0)) = some r := h
 clear h
 obtain rfl := Option.some.inj H
 simp only [Option.some.injEq, Prod.mk.injEq] at H
 obtain ⟨rfl⟩ := H
 go_enter Try.func108, Try.ntmps108
 go_wp2
 go_ret
 exact ⟨by first | rfl | (simp; done) | (simp [*]; done), by repeat (first | exact Drawn0.refl _ | apply Drawn0.step)⟩

def cmp_Compare_int64.f (a0 : Int) (a1 : Int) : Option (Int) := (cmp_isNaN_int64.f a0).bind fun t165 => ((cmp_isNaN_int64.f a1).bind fun t166 => (if t165 = true then (if t166 = true then (some 0) else (some (-1))) else (if t166 = true then (some 1) else (if a0 < a1 then (some (-1)) else (if a0 > a1 then (some 1) else (some 0))))))
set_option maxHeartbeats 8000000 in
set_option maxRecDepth 100000 in
theorem cmp_Compare_int64.calls (a0 : Int) (a1 : Int) (r : Int) (w : World) (h : cmp_Compare_int64.f a0 a1 = some r) :
  Calls Try.prog 82 #[.int .i64 a0, .int .i64 a1] w fun e w' => e = .returned (.int .i64 r) ∧ Drawn0 w w' := by
 have H : ((cmp_isNaN_int64.f a0).bind fun t165 => ((cmp_isNaN_int64.f a1).bind fun t166 => (if t165 = true then (if t166 = true then (some 0) else (some (-1))) else (if t166 = true then (some 1) else (if a0 < a1 then (some (-1)) else (if a0 > a1 then (some 1) else (some 0))))))) = some r := h
 clear h
 replace H := Option.bind_eq_some_iff.mp H
 obtain ⟨t165, A30, H⟩ := H
 replace H : ((cmp_isNaN_int64.f a1).bind fun t166 => (if t165 = true then (if t166 = true then (some 0) else (some (-1))) else (if t166 = true then (some 1) else (if a0 < a1 then (some (-1)) else (if a0 > a1 then (some 1) else (some 0)))))) = some r := H
 have A3 := aK A30
 clear A30
 replace H := Option.bind_eq_some_iff.mp H
 obtain ⟨t166, A40, H⟩ := H
 replace H : (if t165 = true then (if t166 = true then (some 0) else (some (-1))) else (if t166 = true then (some 1) else (if a0 < a1 then (some (-1)) else (if a0 > a1 then (some 1) else (some 0))))) = some r := H
 have A4 := aK A40
 clear A40
 by_cases c5 : t165 = true
 ·subst c5
  have H1 : (if t166 = true then (some 0) else (some (-1))) = some r := by rw [if_pos rfl] at H; exact H
  clear H
  have H := H1
  clear H1
  by_cases c6 : t166 = true
  ·subst c6
   have H1 : (some 0) = some r := by rw [if_pos rfl] at H; exact H
   clear H
   have H := H1
   clear H1
   obtain rfl := Option.some.inj H
   simp only [Option.some.injEq, Prod.mk.injEq] at H
   obtain ⟨rfl⟩ := H
   go_enter Try.func82, Try.ntmps82
   go_wp2_with (first | ((with_reducible refine gate_callee (f := 108) rfl ?_); refine goesL_ (some 8) rfl rfl Try.func108 (by kernel_rfl) rfl #[.int .i64 a0] rfl (by (try simp only [List.map_toArray, List.map_cons, List.map_nil]); first | done | rfl | (simp only [List.length_drop, List.length_take]; rfl)) ?_; (with_reducible refine (cmp_isNaN_int64.calls a0 true _ A3.out).mono ?_); rintro e w' ⟨rfl, ⟨nd, rfl⟩⟩; refine ⟨_, rfl, ?_⟩) | ((with_reducible refine gate_callee (f := 108) rfl ?_); refine goesL_ (some 10) rfl rfl Try.func108 (by kernel_rfl) rfl #[.int .i64 a1] rfl (by (try simp only [List.map_toArray, List.map_cons, List.map_nil]); first | done | rfl | (simp only [List.length_drop, List.length_take]; rfl)) ?_; (with_reducible refine (cmp_isNaN_int64.calls a1 true _ A4.out).mono ?_); rintro e w' ⟨rfl, ⟨nd, rfl⟩⟩; refine ⟨_, rfl, ?_⟩))
   go_ret
   exact ⟨by first | rfl | (simp; done) | (simp [*]; done), by repeat (first | exact Drawn0.refl _ | apply Drawn0.step)⟩
  replace c6 := Bool.eq_false_iff.mpr c6
  subst c6
  have H1 : (some (-1)) = some r := by rw [if_neg (show ¬ (false = true) by decide)] at H; exact H
  clear H
  have H := H1
  clear H1
  obtain rfl := Option.some.inj H
  simp only [Option.some.injEq, Prod.mk.injEq] at H
  obtain ⟨rfl⟩ := H
  go_enter Try.func82, Try.ntmps82
  go_wp2_with (first | ((with_reducible refine gate_callee (f := 108) rfl ?_); refine goesL_ (some 8) rfl rfl Try.func108 (by kernel_rfl) rfl #[.int .i64 a0] rfl (by (try simp only [List.map_toArray, List.map_cons, List.map_nil]); first | done | rfl | (simp only [List.length_drop, List.length_take]; rfl)) ?_; (with_reducible refine (cmp_isNaN_int64.calls a0 true _ A3.out).mono ?_); rintro e w' ⟨rfl, ⟨nd, rfl⟩⟩; refine ⟨_, rfl, ?_⟩) | ((with_reducible refine gate_callee (f := 108) rfl ?_); refine goesL_ (some 10) rfl rfl Try.func108 (by kernel_rfl) rfl #[.int .i64 a1] rfl (by (try simp only [List.map_toArray, List.map_cons, List.map_nil]); first | done | rfl | (simp only [List.length_drop, List.length_take]; rfl)) ?_; (with_reducible refine (cmp_isNaN_int64.calls a1 false _ A4.out).mono ?_); rintro e w' ⟨rfl, ⟨nd, rfl⟩⟩; refine ⟨_, rfl, ?_⟩))
  go_ret
  exact ⟨by first | rfl | (simp; done) | (simp [*]; done), by repeat (first | exact Drawn0.refl _ | apply Drawn0.step)⟩
 replace c5 := Bool.eq_false_iff.mpr c5
 subst c5
 have H1 : (if t166 = true then (some 1) else (if a0 < a1 then (some (-1)) else (if a0 > a1 then (some 1) else (some 0)))) = some r := by rw [if_neg (show ¬ (false = true) by decide)] at H; exact H
 clear H
 have H := H1
 clear H1
 by_cases c7 : t166 = true
 ·subst c7
  have H1 : (some 1) = some r := by rw [if_pos rfl] at H; exact H
  clear H
  have H := H1
  clear H1
  obtain rfl := Option.some.inj H
  simp only [Option.some.injEq, Prod.mk.injEq] at H
  obtain ⟨rfl⟩ := H
  go_enter Try.func82, Try.ntmps82
  go_wp2_with (first | ((with_reducible refine gate_callee (f := 108) rfl ?_); refine goesL_ (some 8) rfl rfl Try.func108 (by kernel_rfl) rfl #[.int .i64 a0] rfl (by (try simp only [List.map_toArray, List.map_cons, List.map_nil]); first | done | rfl | (simp only [List.length_drop, List.length_take]; rfl)) ?_; (with_reducible refine (cmp_isNaN_int64.calls a0 false _ A3.out).mono ?_); rintro e w' ⟨rfl, ⟨nd, rfl⟩⟩; refine ⟨_, rfl, ?_⟩) | ((with_reducible refine gate_callee (f := 108) rfl ?_); refine goesL_ (some 10) rfl rfl Try.func108 (by kernel_rfl) rfl #[.int .i64 a1] rfl (by (try simp only [List.map_toArray, List.map_cons, List.map_nil]); first | done | rfl | (simp only [List.length_drop, List.length_take]; rfl)) ?_; (with_reducible refine (cmp_isNaN_int64.calls a1 true _ A4.out).mono ?_); rintro e w' ⟨rfl, ⟨nd, rfl⟩⟩; refine ⟨_, rfl, ?_⟩))
  go_ret
  exact ⟨by first | rfl | (simp; done) | (simp [*]; done), by repeat (first | exact Drawn0.refl _ | apply Drawn0.step)⟩
 replace c7 := Bool.eq_false_iff.mpr c7
 subst c7
 have H1 : (if a0 < a1 then (some (-1)) else (if a0 > a1 then (some 1) else (some 0))) = some r := by rw [if_neg (show ¬ (false = true) by decide)] at H; exact H
 clear H
 have H := H1
 clear H1
 by_cases c8 : a0 < a1
 ·rw [if_pos c8] at H
  have c8b0 : decide (a0 < a1) = true := decide_eq_true c8
  clear c8
  obtain rfl := Option.some.inj H
  simp only [Option.some.injEq, Prod.mk.injEq] at H
  obtain ⟨rfl⟩ := H
  go_enter Try.func82, Try.ntmps82
  go_wp2_with (first | ((with_reducible refine gate_callee (f := 108) rfl ?_); refine goesL_ (some 8) rfl rfl Try.func108 (by kernel_rfl) rfl #[.int .i64 a0] rfl (by (try simp only [List.map_toArray, List.map_cons, List.map_nil]); first | done | rfl | (simp only [List.length_drop, List.length_take]; rfl)) ?_; (with_reducible refine (cmp_isNaN_int64.calls a0 false _ A3.out).mono ?_); rintro e w' ⟨rfl, ⟨nd, rfl⟩⟩; refine ⟨_, rfl, ?_⟩) | ((with_reducible refine gate_callee (f := 108) rfl ?_); refine goesL_ (some 10) rfl rfl Try.func108 (by kernel_rfl) rfl #[.int .i64 a1] rfl (by (try simp only [List.map_toArray, List.map_cons, List.map_nil]); first | done | rfl | (simp only [List.length_drop, List.length_take]; rfl)) ?_; (with_reducible refine (cmp_isNaN_int64.calls a1 false _ A4.out).mono ?_); rintro e w' ⟨rfl, ⟨nd, rfl⟩⟩; refine ⟨_, rfl, ?_⟩))
  go_ret
  exact ⟨by first | rfl | (simp; done) | (simp [*]; done), by repeat (first | exact Drawn0.refl _ | apply Drawn0.step)⟩
 rw [if_neg c8] at H
 have c8b0 : decide (a0 < a1) = false := decide_eq_false c8
 clear c8
 by_cases c9 : a0 > a1
 ·rw [if_pos c9] at H
  have c9b0 : decide (a1 < a0) = true := decide_eq_true c9
  clear c9
  obtain rfl := Option.some.inj H
  simp only [Option.some.injEq, Prod.mk.injEq] at H
  obtain ⟨rfl⟩ := H
  go_enter Try.func82, Try.ntmps82
  go_wp2_with (first | ((with_reducible refine gate_callee (f := 108) rfl ?_); refine goesL_ (some 8) rfl rfl Try.func108 (by kernel_rfl) rfl #[.int .i64 a0] rfl (by (try simp only [List.map_toArray, List.map_cons, List.map_nil]); first | done | rfl | (simp only [List.length_drop, List.length_take]; rfl)) ?_; (with_reducible refine (cmp_isNaN_int64.calls a0 false _ A3.out).mono ?_); rintro e w' ⟨rfl, ⟨nd, rfl⟩⟩; refine ⟨_, rfl, ?_⟩) | ((with_reducible refine gate_callee (f := 108) rfl ?_); refine goesL_ (some 10) rfl rfl Try.func108 (by kernel_rfl) rfl #[.int .i64 a1] rfl (by (try simp only [List.map_toArray, List.map_cons, List.map_nil]); first | done | rfl | (simp only [List.length_drop, List.length_take]; rfl)) ?_; (with_reducible refine (cmp_isNaN_int64.calls a1 false _ A4.out).mono ?_); rintro e w' ⟨rfl, ⟨nd, rfl⟩⟩; refine ⟨_, rfl, ?_⟩))
  go_ret
  exact ⟨by first | rfl | (simp; done) | (simp [*]; done), by repeat (first | exact Drawn0.refl _ | apply Drawn0.step)⟩
 rw [if_neg c9] at H
 have c9b0 : decide (a1 < a0) = false := decide_eq_false c9
 clear c9
 obtain rfl := Option.some.inj H
 simp only [Option.some.injEq, Prod.mk.injEq] at H
 obtain ⟨rfl⟩ := H
 go_enter Try.func82, Try.ntmps82
 go_wp2_with (first | ((with_reducible refine gate_callee (f := 108) rfl ?_); refine goesL_ (some 8) rfl rfl Try.func108 (by kernel_rfl) rfl #[.int .i64 a0] rfl (by (try simp only [List.map_toArray, List.map_cons, List.map_nil]); first | done | rfl | (simp only [List.length_drop, List.length_take]; rfl)) ?_; (with_reducible refine (cmp_isNaN_int64.calls a0 false _ A3.out).mono ?_); rintro e w' ⟨rfl, ⟨nd, rfl⟩⟩; refine ⟨_, rfl, ?_⟩) | ((with_reducible refine gate_callee (f := 108) rfl ?_); refine goesL_ (some 10) rfl rfl Try.func108 (by kernel_rfl) rfl #[.int .i64 a1] rfl (by (try simp only [List.map_toArray, List.map_cons, List.map_nil]); first | done | rfl | (simp only [List.length_drop, List.length_take]; rfl)) ?_; (with_reducible refine (cmp_isNaN_int64.calls a1 false _ A4.out).mono ?_); rintro e w' ⟨rfl, ⟨nd, rfl⟩⟩; refine ⟨_, rfl, ?_⟩))
 go_ret
 exact ⟨by first | rfl | (simp; done) | (simp [*]; done), by repeat (first | exact Drawn0.refl _ | apply Drawn0.step)⟩

def fraction_sign.f (a0_0 : Int) (a0_1 : Int) : Option (Int) := (cmp_Compare_int64.f a0_0 0).bind fun t168 => (some t168)
set_option maxHeartbeats 8000000 in
set_option maxRecDepth 100000 in
theorem fraction_sign.calls (a0_0 : Int) (a0_1 : Int) (r : Int) (w : World) (h : fraction_sign.f a0_0 a0_1 = some r) :
  Calls Try.prog 57 #[.agg #[.int .i64 a0_0, .int .i64 a0_1]] w fun e w' => e = .returned (.int .i64 r) ∧ Below w.heap.size w w' := by
 have hu33 := Try.underlying33
 have HB := aK (Below.refl w.heap.size w)
 have H : ((cmp_Compare_int64.f a0_0 0).bind fun t168 => (some t168)) = some r := h
 clear h
 replace H := Option.bind_eq_some_iff.mp H
 obtain ⟨t168, A20, H⟩ := H
 replace H : (some t168) = some r := H
 have A2 := aK A20
 clear A20
 obtain rfl := Option.some.inj H
 simp only [Option.some.injEq, Prod.mk.injEq] at H
 obtain ⟨rfl⟩ := H
 go_enter Try.func57, Try.ntmps57
 go_wp2_with (first | ((with_reducible refine gate_dst (N := 1) rfl ?_); refine box_event ?hg (N := 1) ?hd (cs := #[.int .i64 a0_0, .int .i64 a0_1]) (t := 33) ?hr ?_; (case hd => rfl); (case hg => rfl); (case hr => first | (go_simp; done) | (go_simp; rfl)); intro gb167 hg w3 hbox hb; have ⟨n0_, n2_⟩ := zV (w := w) hb hg (by repeat (first | (with_reducible first | exact HB.out | apply yA | apply yN | apply yD) | exact HB.out)); have n1_ := aK (hbox); have n3_ := n2_; clear HB; have HB := n0_; have BK167 := n1_; have GW167 := n2_; have GE167 := n3_; clear n0_ n1_ n2_ n3_; clear hb hbox hg; have hcz4_0 := zI BK167 0 rfl; have hcz4_1 := zI BK167 1 rfl; have hfz4_0 := zF BK167.out 0; have hfz4_1 := zF BK167.out 1) | ((with_reducible refine gate_callee (f := 82) rfl ?_); refine goesL_ (some 5) rfl rfl Try.func82 (by kernel_rfl) rfl #[.int .i64 a0_0, .int .i64 0] rfl (by (try simp only [List.map_toArray, List.map_cons, List.map_nil]); first | done | rfl | (simp only [List.length_drop, List.length_take]; rfl)) ?_; (with_reducible refine (cmp_Compare_int64.calls a0_0 0 t168 _ A2.out).mono ?_); rintro e w' ⟨rfl, ⟨nd, rfl⟩⟩; refine ⟨_, rfl, ?_⟩))
 go_ret
 exact ⟨rfl, by repeat (first | (with_reducible first | exact HB.out | apply yA | apply yN | apply yD | refine yS ?_ GE167.out) | exact HB.out)⟩

def cmp_isNaN_int.f (a0 : Int) : Option (Bool) := some (a0 != a0)
set_option maxHeartbeats 8000000 in
set_option maxRecDepth 100000 in
theorem cmp_isNaN_int.calls (a0 : Int) (r : Bool) (w : World) (h : cmp_isNaN_int.f a0 = some r) :
  Calls Try.prog 83 #[.int .i64 a0] w fun e w' => e = .returned (.bool r) ∧ Drawn0 w w' := by
 have H : (some (a0 != a0)) = some r := h
 clear h
 obtain rfl := Option.some.inj H
 simp only [Option.some.injEq, Prod.mk.injEq] at H
 obtain ⟨rfl⟩ := H
 go_enter Try.func83, Try.ntmps83
 go_wp2
 go_ret
 exact ⟨by first | rfl | (simp; done) | (simp [*]; done), by repeat (first | exact Drawn0.refl _ | apply Drawn0.step)⟩

end Go.Proofs.Ythkpgjjakdbbfaa.P
