/- What functions of the program return: each contract says so of one function, for every input at which its pure function yields. -/
import Derived.Test.YthkpgjjakdbbfaaPx0
import Derived.Test.YthkpgjjakdbbfaaPx1
import Derived.Test.YthkpgjjakdbbfaaPx7
import Derived.Test.YthkpgjjakdbbfaaPx12
import Derived.Test.YthkpgjjakdbbfaaPx28
namespace Go.Proofs.Ythkpgjjakdbbfaa.P
open Go.RowKit Go.Proofs.YthkpgjjakdbbfaaW.PrintWords Go.Proofs.YthkpgjjakdbbfaaW.PrintLast Go.Proofs.YthkpgjjakdbbfaaW.PrintMore
attribute [local go_sem] max2_int min2_int max_two min_two max_three min_three max_four min_four   -- for this text's walks alone
set_option linter.unusedVariables false
set_option linter.unusedSimpArgs false

attribute [local go_sem high] eqA33
def gangsawlaw33_SampleConfidences.f (k : Nat) (a0 : Int) (a1 : Int) (a2_0 : Int) (a2_1 : Int) : Option (Bool) := (gangsawlaw33_awake_N.f).bind fun t565 => (if t565 = true then ((sample_Confidence.f k a0 a1 a2_0 a2_1).bind fun bt566 => ((gangsawref33_Confidence.f k a0 a1 a2_0 a2_1).bind fun bt570 => (if (bt566.1 == bt570.1 && (bt566.2.1 == bt570.2.1)) = true then (some (bt566.2.2 == bt570.2.2)) else (some false)))) else (some false))
set_option maxHeartbeats 8000000 in
set_option maxRecDepth 100000 in
theorem gangsawlaw33_SampleConfidences.calls (k : Nat) (a0 : Int) (a1 : Int) (a2_0 : Int) (a2_1 : Int) (r : Bool) (w : World) (h : gangsawlaw33_SampleConfidences.f k a0 a1 a2_0 a2_1 = some r) (hr : r = true) :
  Calls Try.prog 5 #[.int .i64 a0, .int .i64 a1, .agg #[.int .i64 a2_0, .int .i64 a2_1]] w fun e w' => e = .returned (.bool r) ∧ Below w.heap.size w w' := by
 have hu33 := Try.underlying33
 have HB := aK (Below.refl w.heap.size w)
 have H : ((gangsawlaw33_awake_N.f).bind fun t565 => (if t565 = true then ((sample_Confidence.f k a0 a1 a2_0 a2_1).bind fun bt566 => ((gangsawref33_Confidence.f k a0 a1 a2_0 a2_1).bind fun bt570 => (if (bt566.1 == bt570.1 && (bt566.2.1 == bt570.2.1)) = true then (some (bt566.2.2 == bt570.2.2)) else (some false)))) else (some false))) = some r := h
 clear h
 replace H := Option.bind_eq_some_iff.mp H
 obtain ⟨t565, A40, H⟩ := H
 replace H : (if t565 = true then ((sample_Confidence.f k a0 a1 a2_0 a2_1).bind fun bt566 => ((gangsawref33_Confidence.f k a0 a1 a2_0 a2_1).bind fun bt570 => (if (bt566.1 == bt570.1 && (bt566.2.1 == bt570.2.1)) = true then (some (bt566.2.2 == bt570.2.2)) else (some false)))) else (some false)) = some r := H
 have A4 := aK A40
 clear A40
 by_cases c5 : t565 = true
 ·subst c5
  have H1 : ((sample_Confidence.f k a0 a1 a2_0 a2_1).bind fun bt566 => ((gangsawref33_Confidence.f k a0 a1 a2_0 a2_1).bind fun bt570 => (if (bt566.1 == bt570.1 && (bt566.2.1 == bt570.2.1)) = true then (some (bt566.2.2 == bt570.2.2)) else (some false)))) = some r := by rw [if_pos rfl] at H; exact H
  clear H
  have H := H1
  clear H1
  replace H := Option.bind_eq_some_iff.mp H
  obtain ⟨⟨t566, t567, t568⟩, A60, H⟩ := H
  replace H : ((gangsawref33_Confidence.f k a0 a1 a2_0 a2_1).bind fun bt570 => (if (t566 == bt570.1 && (t567 == bt570.2.1)) = true then (some (t568 == bt570.2.2)) else (some false))) = some r := H
  have A6 := aK A60
  clear A60
  replace H := Option.bind_eq_some_iff.mp H
  obtain ⟨⟨t570, t571, t572⟩, A70, H⟩ := H
  replace H : (if (t566 == t570 && (t567 == t571)) = true then (some (t568 == t572)) else (some false)) = some r := H
  have A7 := aK A70
  clear A70
  by_cases c8 : (t566 == t570 && (t567 == t571)) = true
  ·rw [if_pos c8] at H
   have c8b0 : (t566 == t570 && (t567 == t571)) = true := c8
   (try (have c8b1 : decide (t566 = t570 && (t567 == t571)) = true := by simpa using c8))
   (try (have c8b2 : (t566 == t570 && (t567 == t571)) = true := by simpa using c8))
   clear c8
   obtain rfl := Option.some.inj H
   simp only [Option.some.injEq, Prod.mk.injEq] at H
   obtain ⟨rfl⟩ := H
   go_enter Try.func5, Try.ntmps5
   go_wp2_with (first | ((with_reducible refine gate_dst (N := 5) rfl ?_); refine box_event ?hg (N := 5) ?hd (cs := #[.int .i64 a2_0, .int .i64 a2_1]) (t := 33) ?hr ?_; (case hd => rfl); (case hg => rfl); (case hr => first | (go_simp; done) | (go_simp; rfl)); intro gb564 hg w9 hbox hb; have ⟨n0_, n2_⟩ := zV (w := w) hb hg (by repeat (first | (with_reducible first | exact HB.out | apply yA | apply yN | apply yD) | exact HB.out)); have n1_ := aK (hbox); have n3_ := n2_; clear HB; have HB := n0_; have BK564 := n1_; have GW564 := n2_; have GE564 := n3_; clear n0_ n1_ n2_ n3_; clear hb hbox hg) | ((with_reducible refine gate_callee (f := 10) rfl ?_); refine goesL_ (some 11) rfl rfl Try.func10 (by kernel_rfl) rfl #[] rfl (by (try simp only [List.map_toArray, List.map_cons, List.map_nil]); first | done | rfl | (simp only [List.length_drop, List.length_take]; rfl)) ?_; (with_reducible refine (gangsawlaw33_awake_N.calls  true _ A4.out).mono ?_); rintro e w10 ⟨rfl, hb⟩; refine ⟨_, rfl, ?_⟩; have n0_ := zG BK564 hb (fun h => by (with_reducible repeat (first | refine zN ?_ _ | refine zD ?_ | refine zA ?_ _)); exact h); have n1_ := aK (yT (by repeat (first | (with_reducible first | exact HB.out | apply yA | apply yN | apply yD | refine yS ?_ GE564.out) | exact HB.out)) hb); clear BK564; clear HB; have BK564 := n0_; have HB := n1_; clear n0_ n1_; (try clear hb); (try clear hb2); (try clear hk); (try clear hi); have hcz11_0 := zI BK564 0 rfl; have hcz11_1 := zI BK564 1 rfl; have hfz11_0 := zF BK564.out 0; have hfz11_1 := zF BK564.out 1) | ((with_reducible refine gate_callee (f := 20) rfl ?_); refine goesL_ (some 17) rfl rfl Try.func20 (by kernel_rfl) rfl #[.int .i64 a0, .int .i64 a1, .agg #[.int .i64 a2_0, .int .i64 a2_1]] rfl (by (try simp only [List.map_toArray, List.map_cons, List.map_nil]); first | done | rfl | (simp only [List.length_drop, List.length_take]; rfl)) ?_; (with_reducible refine (sample_Confidence.calls k a0 a1 a2_0 a2_1 t566 t567 t568 _ A6.out).mono ?_); rintro e w12 ⟨rfl, hb⟩; refine ⟨_, rfl, ?_⟩; have n0_ := zG BK564 hb (fun h => by (with_reducible repeat (first | refine zN ?_ _ | refine zD ?_ | refine zA ?_ _)); exact h); have n1_ := aK (yT (by repeat (first | (with_reducible first | exact HB.out | apply yA | apply yN | apply yD | refine yS ?_ GE564.out) | exact HB.out)) hb); clear BK564; clear HB; have BK564 := n0_; have HB := n1_; clear n0_ n1_; (try clear hb); (try clear hb2); (try clear hk); (try clear hi)) | ((with_reducible refine gate_dst (N := 7) rfl ?_); refine box_event ?hg (N := 7) ?hd (cs := #[.int .i64 0, .int .i64 0]) (t := 33) ?hr ?_; (case hd => rfl); (case hg => rfl); (case hr => first | (go_simp; done) | (go_simp; rfl)); intro gb569 hg w13 hbox hb; have n0_ := zG BK564 hb (fun h => by (with_reducible repeat (first | refine zN ?_ _ | refine zD ?_ | refine zA ?_ _)); exact h); have ⟨n1_, n3_⟩ := zV (w := w) hb hg (by repeat (first | (with_reducible first | exact HB.out | apply yA | apply yN | apply yD | refine yS ?_ GE564.out) | exact HB.out)); have n2_ := aK (hbox); have n4_ := n3_; have n5_ := aK ((by rw [hg]; exact Nat.ne_of_lt (blk_lt (g := gb564) (o := .cells #[.int .i64 a2_0, .int .i64 a2_1] 33 (0, 0)) (by (with_reducible repeat (first | refine zN ?_ _ | refine zD ?_ | refine zA ?_ _)); exact BK564.out)) : gb564 ≠ gb569)); have n6_ := aK ((by rw [hg]; exact Nat.ne_of_gt (blk_lt (g := gb564) (o := .cells #[.int .i64 a2_0, .int .i64 a2_1] 33 (0, 0)) (by (with_reducible repeat (first | refine zN ?_ _ | refine zD ?_ | refine zA ?_ _)); exact BK564.out)) : gb569 ≠ gb564)); clear BK564; clear HB; have BK564 := n0_; have HB := n1_; have BK569 := n2_; have GW569 := n3_; have GE569 := n4_; have NB564_569 := n5_; have NB569_564 := n6_; clear n0_ n1_ n2_ n3_ n4_ n5_ n6_; clear hb hbox hg; have hnb14 := NB569_564.out; have hnc14 := NB564_569.out; have hcz15_0 := zI BK569 0 rfl; have hcz15_1 := zI BK569 1 rfl; have hfz15_0 := zF BK569.out 0; have hfz15_1 := zF BK569.out 1; have hcz16_0 := zI BK564 0 rfl; have hcz16_1 := zI BK564 1 rfl; have hfz16_0 := zF BK564.out 0; have hfz16_1 := zF BK564.out 1) | ((with_reducible refine gate_callee (f := 21) rfl ?_); refine goesL_ (some 24) rfl rfl Try.func21 (by kernel_rfl) rfl #[.int .i64 a0, .int .i64 a1, .agg #[.int .i64 a2_0, .int .i64 a2_1]] rfl (by (try simp only [List.map_toArray, List.map_cons, List.map_nil]); first | done | rfl | (simp only [List.length_drop, List.length_take]; rfl)) ?_; (with_reducible refine (gangsawref33_Confidence.calls k a0 a1 a2_0 a2_1 t570 t571 t572 _ A7.out).mono ?_); rintro e w17 ⟨rfl, hb⟩; refine ⟨_, rfl, ?_⟩; have n0_ := aK (zB (g := gb564) (o := .cells #[.int .i64 a2_0, .int .i64 a2_1] 33 (0, 0)) (by (with_reducible repeat (first | refine zN ?_ _ | refine zD ?_ | refine zA ?_ _)); refine blk_far ?_ NB564_569.out _; (with_reducible repeat (first | refine zN ?_ _ | refine zD ?_ | refine zA ?_ _)); refine blk_far ?_ NB564_569.out _; (with_reducible repeat (first | refine zN ?_ _ | refine zD ?_ | refine zA ?_ _)); exact BK564.out) hb); have n1_ := aK (zB (g := gb569) (o := .cells #[.int .i64 t566, .int .i64 t567] 33 (0, 0)) (by (with_reducible repeat (first | refine zN ?_ _ | refine zD ?_ | refine zA ?_ _)); refine blk_put (cs := #[.int .i64 t566, .int .i64 0]) ?_ 1 _ rfl; (with_reducible repeat (first | refine zN ?_ _ | refine zD ?_ | refine zA ?_ _)); refine blk_put (cs := #[.int .i64 0, .int .i64 0]) ?_ 0 _ rfl; (with_reducible repeat (first | refine zN ?_ _ | refine zD ?_ | refine zA ?_ _)); exact BK569.out) hb); have n2_ := aK (yT (by repeat (first | (with_reducible first | exact HB.out | apply yA | apply yN | apply yD | refine yS ?_ GE564.out | refine yS ?_ GE569.out) | exact HB.out)) hb); clear BK564; clear BK569; clear HB; have BK564 := n0_; have BK569 := n1_; have HB := n2_; clear n0_ n1_ n2_; (try clear hb); (try clear hb2); (try clear hk); (try clear hi)) | ((with_reducible refine gate_dst (N := 9) rfl ?_); refine box_event ?hg (N := 9) ?hd (cs := #[.int .i64 0, .int .i64 0]) (t := 33) ?hr ?_; (case hd => rfl); (case hg => rfl); (case hr => first | (go_simp; done) | (go_simp; rfl)); intro gb573 hg w18 hbox hb; have n0_ := zG BK564 hb (fun h => by (with_reducible repeat (first | refine zN ?_ _ | refine zD ?_ | refine zA ?_ _)); exact h); have n1_ := zG BK569 hb (fun h => by (with_reducible repeat (first | refine zN ?_ _ | refine zD ?_ | refine zA ?_ _)); exact h); have ⟨n2_, n4_⟩ := zV (w := w) hb hg (by repeat (first | (with_reducible first | exact HB.out | apply yA | apply yN | apply yD | refine yS ?_ GE564.out | refine yS ?_ GE569.out) | exact HB.out)); have n3_ := aK (hbox); have n5_ := n4_; have n6_ := aK ((by rw [hg]; exact Nat.ne_of_lt (blk_lt (g := gb564) (o := .cells #[.int .i64 a2_0, .int .i64 a2_1] 33 (0, 0)) (by (with_reducible repeat (first | refine zN ?_ _ | refine zD ?_ | refine zA ?_ _)); exact BK564.out)) : gb564 ≠ gb573)); have n7_ := aK ((by rw [hg]; exact Nat.ne_of_gt (blk_lt (g := gb564) (o := .cells #[.int .i64 a2_0, .int .i64 a2_1] 33 (0, 0)) (by (with_reducible repeat (first | refine zN ?_ _ | refine zD ?_ | refine zA ?_ _)); exact BK564.out)) : gb573 ≠ gb564)); have n8_ := aK ((by rw [hg]; exact Nat.ne_of_lt (blk_lt (g := gb569) (o := .cells #[.int .i64 t566, .int .i64 t567] 33 (0, 0)) (by (with_reducible repeat (first | refine zN ?_ _ | refine zD ?_ | refine zA ?_ _)); exact BK569.out)) : gb569 ≠ gb573)); have n9_ := aK ((by rw [hg]; exact Nat.ne_of_gt (blk_lt (g := gb569) (o := .cells #[.int .i64 t566, .int .i64 t567] 33 (0, 0)) (by (with_reducible repeat (first | refine zN ?_ _ | refine zD ?_ | refine zA ?_ _)); exact BK569.out)) : gb573 ≠ gb569)); clear BK564; clear BK569; clear HB; have BK564 := n0_; have BK569 := n1_; have HB := n2_; have BK573 := n3_; have GW573 := n4_; have GE573 := n5_; have NB564_573 := n6_; have NB573_564 := n7_; have NB569_573 := n8_; have NB573_569 := n9_; clear n0_ n1_ n2_ n3_ n4_ n5_ n6_ n7_ n8_ n9_; clear hb hbox hg; have hnb19 := NB573_564.out; have hnc19 := NB564_573.out; have hnb20 := NB573_569.out; have hnc20 := NB569_573.out; have hcz21_0 := zI BK573 0 rfl; have hcz21_1 := zI BK573 1 rfl; have hfz21_0 := zF BK573.out 0; have hfz21_1 := zF BK573.out 1; have hcz22_0 := zI BK569 0 rfl; have hcz22_1 := zI BK569 1 rfl; have hfz22_0 := zF BK569.out 0; have hfz22_1 := zF BK569.out 1))
   go_ret
   exact ⟨by first | rfl | (simp [errW_none, errW_some] <;> rfl) | (simp [*, errW_none, errW_some] <;> rfl), by repeat (first | (with_reducible first | exact HB.out | apply yA | apply yN | apply yD | refine yS ?_ GE564.out | refine yS ?_ GE569.out | refine yS ?_ GE573.out) | exact HB.out)⟩
  ·rw [if_neg c8] at H
   have c8b0 : (t566 == t570 && (t567 == t571)) = false := by simpa using c8
   (try (have c8b1 : decide (t566 = t570 && (t567 == t571)) = false := by simpa using c8))
   (try (have c8b2 : (t566 == t570 && (t567 == t571)) = false := by simpa using c8))
   (try (have c8b3 : ¬ (t566 = t570 && (t567 == t571)) := by simpa using c8))
   clear c8
   obtain rfl := Option.some.inj H
   exact absurd hr (by decide)
 ·replace c5 := Bool.eq_false_iff.mpr c5
  subst c5
  have H1 : (some false) = some r := by rw [if_neg (show ¬ (false = true) by decide)] at H; exact H
  clear H
  have H := H1
  clear H1
  obtain rfl := Option.some.inj H
  exact absurd hr (by decide)

end Go.Proofs.Ythkpgjjakdbbfaa.P
