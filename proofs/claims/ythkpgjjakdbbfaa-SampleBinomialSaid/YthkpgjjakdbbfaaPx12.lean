/- What functions of the program return: each contract says so of one function, for every input at which its pure function yields. -/
import Derived.Test.YthkpgjjakdbbfaaPx0
import Derived.Test.YthkpgjjakdbbfaaPx1
import Derived.Test.YthkpgjjakdbbfaaPx3
import Derived.Test.YthkpgjjakdbbfaaPx7
import Derived.Test.YthkpgjjakdbbfaaPx11
namespace Go.Proofs.Ythkpgjjakdbbfaa.P
open Go.RowKit Go.Proofs.YthkpgjjakdbbfaaW.PrintWords Go.Proofs.YthkpgjjakdbbfaaW.PrintLast Go.Proofs.YthkpgjjakdbbfaaW.PrintMore
attribute [local go_sem] max2_int min2_int max_two min_two max_three min_three max_four min_four   -- for this text's walks alone
set_option linter.unusedVariables false
set_option linter.unusedSimpArgs false

attribute [local go_sem high] eqA33
def gangsawlaw33_awake.f (k : Nat)  : Option (Bool) := (gangsawlaw33_tests.f).bind fun t213 => ((sample_Strength.f k t213 2).bind fun bt216 => ((gangsawlaw33_tests.f).bind fun t218 => ((sample_Rank.f k t218 20).bind fun bt221 => ((sample_Confidence.f k 2 1 1 10).bind fun bt223 => ((sample_Least.f k 1 1 2 9 10).bind fun bt227 => (if bt216.2 = 0 then (if bt216.1 = 20 then (if bt221.2 = 0 then (if bt221.1 = 1 then (if bt223.2.2 = 0 then (if (bt223.1 == 19 && (bt223.2.1 == 100)) = true then (if bt227.2 = 0 then (some (bt227.1 == 4)) else (some false)) else (some false)) else (some false)) else (some false)) else (some false)) else (some false)) else (some false)))))))
set_option maxHeartbeats 8000000 in
set_option maxRecDepth 100000 in
theorem gangsawlaw33_awake.calls (k : Nat)  (r : Bool) (w : World) (h : gangsawlaw33_awake.f k  = some r) (hr : r = true) :
  Calls Try.prog 10 #[] w fun e w' => e = .returned (.bool r) ∧ Below w.heap.size w w' := by
 have hu33 := Try.underlying33
 have HB := aK (Below.refl w.heap.size w)
 have H : ((gangsawlaw33_tests.f).bind fun t213 => ((sample_Strength.f k t213 2).bind fun bt216 => ((gangsawlaw33_tests.f).bind fun t218 => ((sample_Rank.f k t218 20).bind fun bt221 => ((sample_Confidence.f k 2 1 1 10).bind fun bt223 => ((sample_Least.f k 1 1 2 9 10).bind fun bt227 => (if bt216.2 = 0 then (if bt216.1 = 20 then (if bt221.2 = 0 then (if bt221.1 = 1 then (if bt223.2.2 = 0 then (if (bt223.1 == 19 && (bt223.2.1 == 100)) = true then (if bt227.2 = 0 then (some (bt227.1 == 4)) else (some false)) else (some false)) else (some false)) else (some false)) else (some false)) else (some false)) else (some false)))))))) = some r := h
 clear h
 replace H := Option.bind_eq_some_iff.mp H
 obtain ⟨t213, A10, H⟩ := H
 replace H : ((sample_Strength.f k t213 2).bind fun bt216 => ((gangsawlaw33_tests.f).bind fun t218 => ((sample_Rank.f k t218 20).bind fun bt221 => ((sample_Confidence.f k 2 1 1 10).bind fun bt223 => ((sample_Least.f k 1 1 2 9 10).bind fun bt227 => (if bt216.2 = 0 then (if bt216.1 = 20 then (if bt221.2 = 0 then (if bt221.1 = 1 then (if bt223.2.2 = 0 then (if (bt223.1 == 19 && (bt223.2.1 == 100)) = true then (if bt227.2 = 0 then (some (bt227.1 == 4)) else (some false)) else (some false)) else (some false)) else (some false)) else (some false)) else (some false)) else (some false))))))) = some r := H
 have A1 := aK A10
 clear A10
 replace H := Option.bind_eq_some_iff.mp H
 obtain ⟨⟨t216, t217⟩, A20, H⟩ := H
 replace H : ((gangsawlaw33_tests.f).bind fun t218 => ((sample_Rank.f k t218 20).bind fun bt221 => ((sample_Confidence.f k 2 1 1 10).bind fun bt223 => ((sample_Least.f k 1 1 2 9 10).bind fun bt227 => (if t217 = 0 then (if t216 = 20 then (if bt221.2 = 0 then (if bt221.1 = 1 then (if bt223.2.2 = 0 then (if (bt223.1 == 19 && (bt223.2.1 == 100)) = true then (if bt227.2 = 0 then (some (bt227.1 == 4)) else (some false)) else (some false)) else (some false)) else (some false)) else (some false)) else (some false)) else (some false)))))) = some r := H
 have A2 := aK A20
 clear A20
 replace H := Option.bind_eq_some_iff.mp H
 obtain ⟨t218, A30, H⟩ := H
 replace H : ((sample_Rank.f k t218 20).bind fun bt221 => ((sample_Confidence.f k 2 1 1 10).bind fun bt223 => ((sample_Least.f k 1 1 2 9 10).bind fun bt227 => (if t217 = 0 then (if t216 = 20 then (if bt221.2 = 0 then (if bt221.1 = 1 then (if bt223.2.2 = 0 then (if (bt223.1 == 19 && (bt223.2.1 == 100)) = true then (if bt227.2 = 0 then (some (bt227.1 == 4)) else (some false)) else (some false)) else (some false)) else (some false)) else (some false)) else (some false)) else (some false))))) = some r := H
 have A3 := aK A30
 clear A30
 replace H := Option.bind_eq_some_iff.mp H
 obtain ⟨⟨t221, t222⟩, A40, H⟩ := H
 replace H : ((sample_Confidence.f k 2 1 1 10).bind fun bt223 => ((sample_Least.f k 1 1 2 9 10).bind fun bt227 => (if t217 = 0 then (if t216 = 20 then (if t222 = 0 then (if t221 = 1 then (if bt223.2.2 = 0 then (if (bt223.1 == 19 && (bt223.2.1 == 100)) = true then (if bt227.2 = 0 then (some (bt227.1 == 4)) else (some false)) else (some false)) else (some false)) else (some false)) else (some false)) else (some false)) else (some false)))) = some r := H
 have A4 := aK A40
 clear A40
 replace H := Option.bind_eq_some_iff.mp H
 obtain ⟨⟨t223, t224, t225⟩, A50, H⟩ := H
 replace H : ((sample_Least.f k 1 1 2 9 10).bind fun bt227 => (if t217 = 0 then (if t216 = 20 then (if t222 = 0 then (if t221 = 1 then (if t225 = 0 then (if (t223 == 19 && (t224 == 100)) = true then (if bt227.2 = 0 then (some (bt227.1 == 4)) else (some false)) else (some false)) else (some false)) else (some false)) else (some false)) else (some false)) else (some false))) = some r := H
 have A5 := aK A50
 clear A50
 replace H := Option.bind_eq_some_iff.mp H
 obtain ⟨⟨t227, t228⟩, A60, H⟩ := H
 replace H : (if t217 = 0 then (if t216 = 20 then (if t222 = 0 then (if t221 = 1 then (if t225 = 0 then (if (t223 == 19 && (t224 == 100)) = true then (if t228 = 0 then (some (t227 == 4)) else (some false)) else (some false)) else (some false)) else (some false)) else (some false)) else (some false)) else (some false)) = some r := H
 have A6 := aK A60
 clear A60
 by_cases c7 : t217 = 0
 ·rw [if_pos c7] at H
  have c7b0 : (t217 == 0) = true := beq_iff_eq.mpr c7
  have c7b1 : (t217 != 0) = false := bne_eq_false_iff_eq.mpr c7
  clear c7
  by_cases c8 : t216 = 20
  ·rw [if_pos c8] at H
   have c8b0 : (t216 == 20) = true := beq_iff_eq.mpr c8
   have c8b1 : (t216 != 20) = false := bne_eq_false_iff_eq.mpr c8
   clear c8
   by_cases c9 : t222 = 0
   ·rw [if_pos c9] at H
    have c9b0 : (t222 == 0) = true := beq_iff_eq.mpr c9
    have c9b1 : (t222 != 0) = false := bne_eq_false_iff_eq.mpr c9
    clear c9
    by_cases c10 : t221 = 1
    ·rw [if_pos c10] at H
     have c10b0 : (t221 == 1) = true := beq_iff_eq.mpr c10
     have c10b1 : (t221 != 1) = false := bne_eq_false_iff_eq.mpr c10
     clear c10
     by_cases c11 : t225 = 0
     ·rw [if_pos c11] at H
      have c11b0 : (t225 == 0) = true := beq_iff_eq.mpr c11
      have c11b1 : (t225 != 0) = false := bne_eq_false_iff_eq.mpr c11
      clear c11
      by_cases c12 : (t223 == 19 && (t224 == 100)) = true
      ·rw [if_pos c12] at H
       have c12b0 : (t223 == 19 && (t224 == 100)) = true := c12
       (try (have c12b1 : decide (t223 = 19 && (t224 == 100)) = true := by simpa using c12))
       (try (have c12b2 : (t223 == 19 && (t224 == 100)) = true := by simpa using c12))
       clear c12
       by_cases c13 : t228 = 0
       ·rw [if_pos c13] at H
        have c13b0 : (t228 == 0) = true := beq_iff_eq.mpr c13
        have c13b1 : (t228 != 0) = false := bne_eq_false_iff_eq.mpr c13
        clear c13
        obtain rfl := Option.some.inj H
        simp only [Option.some.injEq, Prod.mk.injEq] at H
        obtain ⟨rfl⟩ := H
        go_enter Try.func10, Try.ntmps10
        go_wp2_with (first | ((with_reducible refine gate_callee (f := 32) rfl ?_); refine goesL_ (some 10) rfl rfl Try.func32 (by kernel_rfl) rfl #[] rfl (by (try simp only [List.map_toArray, List.map_cons, List.map_nil]); first | done | rfl | (simp only [List.length_drop, List.length_take]; rfl)) ?_; (with_reducible refine (gangsawlaw33_tests.calls  t213 _ A1.out).mono ?_); rintro e w14 ⟨v214, rfl, ho0, hb⟩; refine ⟨_, rfl, ?_⟩; have n0_ := aK (Kd.R_lower ho0 (yZ (by repeat (first | (with_reducible first | exact HB.out | apply yA | apply yN | apply yD) | exact HB.out)))); have n1_ := aK (yT (by repeat (first | (with_reducible first | exact HB.out | apply yA | apply yN | apply yD) | exact HB.out)) hb); clear HB; have HO215 := n0_; have HB := n1_; clear n0_ n1_; (try clear hb); (try clear hb2); (try clear hk); (try clear hi); (try clear ho0); obtain ⟨Ao15, co15, eo15⟩ := Kd.R_slice HO215.out; subst eo15) | ((with_reducible refine gate_callee (f := 13) rfl ?_); refine goesL_ (some 11) rfl rfl Try.func13 (by kernel_rfl) rfl #[.slice Ao15 t213.length co15, .int .i64 2] rfl (by (try simp only [List.map_toArray, List.map_cons, List.map_nil]); first | done | rfl | (simp only [List.length_drop, List.length_take]; rfl)) ?_; (with_reducible refine (sample_Strength.calls k _ _ t213 2 t216 t217 _ ?side1 ?side2 A2.out).mono ?_); (case side1 => repeat (first | exact (Kd.R_reads' HO215.out).2.2 | (with_reducible refine Kd.C_alloc ?_ _) | (with_reducible refine Kd.C_drewN ?_ _) | (with_reducible refine Kd.C_drew ?_))); (case side2 => exact (Kd.R_reads' HO215.out).2.1); rintro e w16 ⟨rfl, hb⟩; refine ⟨_, rfl, ?_⟩; have n0_ := aK (Kd.R_below (by (with_reducible repeat (first | apply Kd.R_alloc | apply Kd.R_drewN | apply Kd.R_drew)); exact HO215.out) hb); have n1_ := aK (yT (by repeat (first | (with_reducible first | exact HB.out | apply yA | apply yN | apply yD) | exact HB.out)) hb); clear HO215; clear HB; have HO215 := n0_; have HB := n1_; clear n0_ n1_; (try clear hb); (try clear hb2); (try clear hk); (try clear hi)) | ((with_reducible refine gate_callee (f := 32) rfl ?_); refine goesL_ (some 15) rfl rfl Try.func32 (by kernel_rfl) rfl #[] rfl (by (try simp only [List.map_toArray, List.map_cons, List.map_nil]); first | done | rfl | (simp only [List.length_drop, List.length_take]; rfl)) ?_; (with_reducible refine (gangsawlaw33_tests.calls  t218 _ A3.out).mono ?_); rintro e w17 ⟨v219, rfl, ho0, hb⟩; refine ⟨_, rfl, ?_⟩; have n0_ := aK (Kd.R_elder' (by (with_reducible repeat (first | apply Kd.R_alloc | apply Kd.R_drewN | apply Kd.R_drew)); exact HO215.out) (Kd.R_base ho0) hb); have n1_ := aK (Kd.R_lower (Kd.R_new' ho0 (Kd.R_lt (by (with_reducible repeat (first | apply Kd.R_alloc | apply Kd.R_drewN | apply Kd.R_drew)); exact HO215.out))) (yZ (by repeat (first | (with_reducible first | exact HB.out | apply yA | apply yN | apply yD) | exact HB.out)))); have n2_ := aK (yT (by repeat (first | (with_reducible first | exact HB.out | apply yA | apply yN | apply yD) | exact HB.out)) hb); clear HO215; clear HB; have HO215 := n0_; have HO220 := n1_; have HB := n2_; clear n0_ n1_ n2_; (try clear hb); (try clear hb2); (try clear hk); (try clear hi); (try clear ho0); obtain ⟨Ao18, co18, eo18⟩ := Kd.R_slice HO220.out; subst eo18) | ((with_reducible refine gate_callee (f := 15) rfl ?_); refine goesL_ (some 16) rfl rfl Try.func15 (by kernel_rfl) rfl #[.slice Ao18 t218.length co18, .int .i64 20] rfl (by (try simp only [List.map_toArray, List.map_cons, List.map_nil]); first | done | rfl | (simp only [List.length_drop, List.length_take]; rfl)) ?_; (with_reducible refine (sample_Rank.calls k _ _ t218 20 t221 t222 _ ?side1 ?side2 A4.out).mono ?_); (case side1 => repeat (first | exact (Kd.R_reads' HO220.out).2.2 | (with_reducible refine Kd.C_alloc ?_ _) | (with_reducible refine Kd.C_drewN ?_ _) | (with_reducible refine Kd.C_drew ?_))); (case side2 => exact (Kd.R_reads' HO220.out).2.1); rintro e w19 ⟨rfl, hb⟩; refine ⟨_, rfl, ?_⟩; have n0_ := aK (Kd.R_below (by (with_reducible repeat (first | apply Kd.R_alloc | apply Kd.R_drewN | apply Kd.R_drew)); exact HO215.out) hb); have n1_ := aK (Kd.R_below (by (with_reducible repeat (first | apply Kd.R_alloc | apply Kd.R_drewN | apply Kd.R_drew)); exact HO220.out) hb); have n2_ := aK (yT (by repeat (first | (with_reducible first | exact HB.out | apply yA | apply yN | apply yD) | exact HB.out)) hb); clear HO215; clear HO220; clear HB; have HO215 := n0_; have HO220 := n1_; have HB := n2_; clear n0_ n1_ n2_; (try clear hb); (try clear hb2); (try clear hk); (try clear hi)) | ((with_reducible refine gate_callee (f := 20) rfl ?_); refine goesL_ (some 21) rfl rfl Try.func20 (by kernel_rfl) rfl #[.int .i64 2, .int .i64 1, .agg #[.int .i64 1, .int .i64 10]] rfl (by (try simp only [List.map_toArray, List.map_cons, List.map_nil]); first | done | rfl | (simp only [List.length_drop, List.length_take]; rfl)) ?_; (with_reducible refine (sample_Confidence.calls k 2 1 1 10 t223 t224 t225 _ A5.out).mono ?_); rintro e w20 ⟨rfl, hb⟩; refine ⟨_, rfl, ?_⟩; have n0_ := aK (Kd.R_below (by (with_reducible repeat (first | apply Kd.R_alloc | apply Kd.R_drewN | apply Kd.R_drew)); exact HO215.out) hb); have n1_ := aK (Kd.R_below (by (with_reducible repeat (first | apply Kd.R_alloc | apply Kd.R_drewN | apply Kd.R_drew)); exact HO220.out) hb); have n2_ := aK (yT (by repeat (first | (with_reducible first | exact HB.out | apply yA | apply yN | apply yD) | exact HB.out)) hb); clear HO215; clear HO220; clear HB; have HO215 := n0_; have HO220 := n1_; have HB := n2_; clear n0_ n1_ n2_; (try clear hb); (try clear hb2); (try clear hk); (try clear hi)) | ((with_reducible refine gate_dst (N := 5) rfl ?_); refine box_event ?hg (N := 5) ?hd (cs := #[.int .i64 0, .int .i64 0]) (t := 33) ?hr ?_; (case hd => rfl); (case hg => rfl); (case hr => first | (go_simp; done) | (go_simp; rfl)); intro gb226 hg w21 hbox hb; have n0_ := aK (Kd.R_below (by (with_reducible repeat (first | apply Kd.R_alloc | apply Kd.R_drewN | apply Kd.R_drew)); exact HO215.out) hb); have n1_ := aK (Kd.R_below (by (with_reducible repeat (first | apply Kd.R_alloc | apply Kd.R_drewN | apply Kd.R_drew)); exact HO220.out) hb); have ⟨n2_, n4_⟩ := zV (w := w) hb hg (by repeat (first | (with_reducible first | exact HB.out | apply yA | apply yN | apply yD) | exact HB.out)); have n3_ := aK (hbox); have n5_ := n4_; clear HO215; clear HO220; clear HB; have HO215 := n0_; have HO220 := n1_; have HB := n2_; have BK226 := n3_; have GW226 := n4_; have GE226 := n5_; clear n0_ n1_ n2_ n3_ n4_ n5_; clear hb hbox hg; have hcz22_0 := zI BK226 0 rfl; have hcz22_1 := zI BK226 1 rfl; have hfz22_0 := zF BK226.out 0; have hfz22_1 := zF BK226.out 1) | ((with_reducible refine gate_callee (f := 22) rfl ?_); refine goesL_ (some 27) rfl rfl Try.func22 (by kernel_rfl) rfl #[.int .i64 1, .agg #[.int .i64 1, .int .i64 2], .agg #[.int .i64 9, .int .i64 10]] rfl (by (try simp only [List.map_toArray, List.map_cons, List.map_nil]); first | done | rfl | (simp only [List.length_drop, List.length_take]; rfl)) ?_; (with_reducible refine (sample_Least.calls k 1 1 2 9 10 t227 t228 _ A6.out).mono ?_); rintro e w23 ⟨rfl, hb⟩; refine ⟨_, rfl, ?_⟩; have n0_ := aK (Kd.R_below (by (with_reducible repeat (first | apply Kd.R_alloc | apply Kd.R_drewN | apply Kd.R_drew)); exact (Kd.R_mono (Kd.R_far (p := ⟨gb226, 1, none⟩) (Kd.R_far (p := ⟨gb226, 0, none⟩) (Kd.R_types HO215.out BK226.out (by decide)) (fun _ hk => hk.2) (.int .i64 t223)) (fun _ hk => hk.2) (.int .i64 t224)) (fun _ h_ => h_.1))) hb); have n1_ := aK (Kd.R_below (by (with_reducible repeat (first | apply Kd.R_alloc | apply Kd.R_drewN | apply Kd.R_drew)); exact (Kd.R_mono (Kd.R_far (p := ⟨gb226, 1, none⟩) (Kd.R_far (p := ⟨gb226, 0, none⟩) (Kd.R_types HO220.out BK226.out (by decide)) (fun _ hk => hk.2) (.int .i64 t223)) (fun _ hk => hk.2) (.int .i64 t224)) (fun _ h_ => h_.1))) hb); have n2_ := aK (zB (g := gb226) (o := .cells #[.int .i64 t223, .int .i64 t224] 33 (0, 0)) (by (with_reducible repeat (first | refine zN ?_ _ | refine zD ?_ | refine zA ?_ _)); refine blk_put (cs := #[.int .i64 t223, .int .i64 0]) ?_ 1 _ rfl; (with_reducible repeat (first | refine zN ?_ _ | refine zD ?_ | refine zA ?_ _)); refine blk_put (cs := #[.int .i64 0, .int .i64 0]) ?_ 0 _ rfl; (with_reducible repeat (first | refine zN ?_ _ | refine zD ?_ | refine zA ?_ _)); exact BK226.out) hb); have n3_ := aK (yT (by repeat (first | (with_reducible first | exact HB.out | apply yA | apply yN | apply yD | refine yS ?_ GE226.out) | exact HB.out)) hb); clear HO215; clear HO220; clear BK226; clear HB; have HO215 := n0_; have HO220 := n1_; have BK226 := n2_; have HB := n3_; clear n0_ n1_ n2_ n3_; (try clear hb); (try clear hb2); (try clear hk); (try clear hi); have hcz24_0 := zI BK226 0 rfl; have hcz24_1 := zI BK226 1 rfl; have hfz24_0 := zF BK226.out 0; have hfz24_1 := zF BK226.out 1))
        go_ret
        exact ⟨by first | rfl | (simp [errW_none, errW_some] <;> rfl) | (simp [*, errW_none, errW_some] <;> rfl), by repeat (first | (with_reducible first | exact HB.out | apply yA | apply yN | apply yD | refine yS ?_ GE226.out) | exact HB.out)⟩
       ·rw [if_neg c13] at H
        have c13b0 : (t228 == 0) = false := beq_eq_false_iff_ne.mpr c13
        have c13b1 : (t228 != 0) = true := bne_iff_ne.mpr c13
        obtain rfl := Option.some.inj H
        exact absurd hr (by decide)
      ·rw [if_neg c12] at H
       have c12b0 : (t223 == 19 && (t224 == 100)) = false := by simpa using c12
       (try (have c12b1 : decide (t223 = 19 && (t224 == 100)) = false := by simpa using c12))
       (try (have c12b2 : (t223 == 19 && (t224 == 100)) = false := by simpa using c12))
       (try (have c12b3 : ¬ (t223 = 19 && (t224 == 100)) := by simpa using c12))
       clear c12
       obtain rfl := Option.some.inj H
       exact absurd hr (by decide)
     ·rw [if_neg c11] at H
      have c11b0 : (t225 == 0) = false := beq_eq_false_iff_ne.mpr c11
      have c11b1 : (t225 != 0) = true := bne_iff_ne.mpr c11
      obtain rfl := Option.some.inj H
      exact absurd hr (by decide)
    ·rw [if_neg c10] at H
     have c10b0 : (t221 == 1) = false := beq_eq_false_iff_ne.mpr c10
     have c10b1 : (t221 != 1) = true := bne_iff_ne.mpr c10
     obtain rfl := Option.some.inj H
     exact absurd hr (by decide)
   ·rw [if_neg c9] at H
    have c9b0 : (t222 == 0) = false := beq_eq_false_iff_ne.mpr c9
    have c9b1 : (t222 != 0) = true := bne_iff_ne.mpr c9
    obtain rfl := Option.some.inj H
    exact absurd hr (by decide)
  ·rw [if_neg c8] at H
   have c8b0 : (t216 == 20) = false := beq_eq_false_iff_ne.mpr c8
   have c8b1 : (t216 != 20) = true := bne_iff_ne.mpr c8
   obtain rfl := Option.some.inj H
   exact absurd hr (by decide)
 ·rw [if_neg c7] at H
  have c7b0 : (t217 == 0) = false := beq_eq_false_iff_ne.mpr c7
  have c7b1 : (t217 != 0) = true := bne_iff_ne.mpr c7
  obtain rfl := Option.some.inj H
  exact absurd hr (by decide)
theorem gangsawlaw33_awake.holds : gangsawlaw33_awake.f (100) = some true := by kernel_rfl
def gangsawlaw33_awake_N.f : Option Bool := some true
theorem gangsawlaw33_awake_N.calls  (r : Bool) (w : World) (h : gangsawlaw33_awake_N.f = some r) :
  Calls Try.prog 10 #[] w fun e w' => e = .returned (.bool r) ∧ Below w.heap.size w w' := by
 obtain rfl : true = r := Option.some.inj h
 exact gangsawlaw33_awake.calls (100) true w gangsawlaw33_awake.holds rfl

mutual
def gangsawref33_Few.j0 : Nat → List (S51) → Bool → Option (Bool)
 | 0, _, _ => none
 | k + 1, x0, x16 => if x16 = true then (some false) else (gangsawref33_Few.l0 k x0 0)
def gangsawref33_Few.l0 : Nat → List (S51) → Int → Option (Bool)
 | 0, _, _ => none
 | k + 1, x0, x3 => if x3 < (x0.length : Int) then (if 0 ≤ x3 then (if (((rd_T51 x0 x3).f0).size : Int) > 100 then (some false) else (gangsawref33_Few.l0 k x0 (wrap64 (x3 + 1)))) else (none)) else (some true)
end
def gangsawref33_Few.f (k : Nat) (l0 : List (S51)) : Option (Bool) := if (l0.length : Int) > 40 then (if (l0.length : Int) ≤ 256 then (gangsawref33_Few.j0 k l0 true) else (gangsawref33_Few.j0 k l0 (decide ((l0.length : Int) > 260)))) else (gangsawref33_Few.j0 k l0 false)
def gangsawref09_letter.f (a0 : Int) : Option (Bool) := if a0 ≥ 97 then (if a0 ≤ 122 then (some true) else (if a0 ≥ 65 then (some (decide (a0 ≤ 90))) else (some false))) else (if a0 ≥ 65 then (some (decide (a0 ≤ 90))) else (some false))
def gangsawref09_digit.f (a0 : Int) : Option (Bool) := if a0 ≥ 48 then (some (decide (a0 ≤ 57))) else (some false)
end Go.Proofs.Ythkpgjjakdbbfaa.P
