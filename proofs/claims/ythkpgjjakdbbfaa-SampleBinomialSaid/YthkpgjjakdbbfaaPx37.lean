/- What functions of the program return: each contract says so of one function, for every input at which its pure function yields. -/
import Derived.Test.YthkpgjjakdbbfaaPx0
import Derived.Test.YthkpgjjakdbbfaaPx1
import Derived.Test.YthkpgjjakdbbfaaPx5
import Derived.Test.YthkpgjjakdbbfaaPx7
import Derived.Test.YthkpgjjakdbbfaaPx10
import Derived.Test.YthkpgjjakdbbfaaPx12
import Derived.Test.YthkpgjjakdbbfaaPx36
namespace Go.Proofs.Ythkpgjjakdbbfaa.P
open Go.RowKit Go.Proofs.YthkpgjjakdbbfaaW.PrintWords Go.Proofs.YthkpgjjakdbbfaaW.PrintLast Go.Proofs.YthkpgjjakdbbfaaW.PrintMore
attribute [local go_sem] max2_int min2_int max_two min_two max_three min_three max_four min_four   -- for this text's walks alone
set_option linter.unusedVariables false
set_option linter.unusedSimpArgs false

attribute [local go_sem high] eqA33
mutual
def gangsawlaw33_SampleBinomial.j0 : Nat → Int → Int → Bool → Int → Int → Option (Bool)
 | 0, _, _, _, _, _ => none
 | k + 1, x0, x1, x32, x708000, x708001 => if x32 = true then (some true) else ((sample_Confidence.f k x0 x1 x708000 x708001).bind fun bt709 => (if bt709.2.2 = 0 then ((sample_Confidence.f k x0 0 x708000 x708001).bind fun bt713 => ((sample_Confidence.f k x0 (wrap64 (x1 - 1)) x708000 x708001).bind fun bt717 => ((fraction_New.f k (wrap64 (x708001 - x708000)) x708001).bind fun bt721 => ((sample_Confidence.f k x0 (wrap64 ((wrap64 (x0 - x1)) + 1)) bt721.1 bt721.2.1).bind fun bt725 => ((fraction_Add.f k bt709.1 bt709.2.1 bt725.1 bt725.2.1).bind fun bt729 => (if bt713.2.2 = 0 then (if bt717.2.2 = 0 then (if bt721.2.2 = 0 then (if bt725.2.2 = 0 then (if (!(bt713.1 == 1) || (!(bt713.2.1 == 1))) = true then (gangsawlaw33_SampleBinomial.j1 k x0 x1 true x708000 x708001 bt709.1 bt709.2.1) else ((fraction_Cmp.f k bt717.1 bt717.2.1 bt709.1 bt709.2.1).bind fun t733 => (if t733 < 0 then (gangsawlaw33_SampleBinomial.j1 k x0 x1 true x708000 x708001 bt709.1 bt709.2.1) else (if bt729.2.2 = 0 then (gangsawlaw33_SampleBinomial.j1 k x0 x1 (!(bt729.1 == 1) || (!(bt729.2.1 == 1))) x708000 x708001 bt709.1 bt709.2.1) else (gangsawlaw33_SampleBinomial.j1 k x0 x1 false x708000 x708001 bt709.1 bt709.2.1))))) else (gangsawlaw33_SampleBinomial.j1 k x0 x1 true x708000 x708001 bt709.1 bt709.2.1)) else (gangsawlaw33_SampleBinomial.j1 k x0 x1 true x708000 x708001 bt709.1 bt709.2.1)) else (gangsawlaw33_SampleBinomial.j1 k x0 x1 true x708000 x708001 bt709.1 bt709.2.1)) else (gangsawlaw33_SampleBinomial.j1 k x0 x1 true x708000 x708001 bt709.1 bt709.2.1))))))) else (some (bt709.1 == 0 && (bt709.2.1 == 0)))))
def gangsawlaw33_SampleBinomial.j1 : Nat → Int → Int → Bool → Int → Int → Int → Int → Option (Bool)
 | 0, _, _, _, _, _, _, _ => none
 | k + 1, x0, x1, x119, x708000, x708001, x713000, x713001 => if x119 = true then (some false) else ((sample_Confidence.f k (wrap64 (x0 + 1)) x1 x708000 x708001).bind fun bt734 => (if bt734.2.2 = 6 then (some true) else (if bt734.2.2 = 0 then ((fraction_Cmp.f k bt734.1 bt734.2.1 x713000 x713001).bind fun t738 => (some (decide (t738 ≥ 0)))) else (some false))))
end
def gangsawlaw33_SampleBinomial.f (k : Nat) (a0 : Int) (a1 : Int) (a2_0 : Int) (a2_1 : Int) : Option (Bool) := (gangsawlaw33_awake_N.f).bind fun t708 => (if t708 = true then (if a0 > 58 then (gangsawlaw33_SampleBinomial.j0 k a0 a1 true a2_0 a2_1) else (if a1 < 1 then (gangsawlaw33_SampleBinomial.j0 k a0 a1 true a2_0 a2_1) else (gangsawlaw33_SampleBinomial.j0 k a0 a1 (decide (a1 > a0)) a2_0 a2_1))) else (some false))
set_option maxHeartbeats 8000000 in
set_option maxRecDepth 100000 in
theorem gangsawlaw33_SampleBinomial.calls (k : Nat) (a0 : Int) (a1 : Int) (a2_0 : Int) (a2_1 : Int) (r : Bool) (w : World) (h : gangsawlaw33_SampleBinomial.f k a0 a1 a2_0 a2_1 = some r) (hr : r = true) :
  Calls Try.prog 9 #[.int .i64 a0, .int .i64 a1, .agg #[.int .i64 a2_0, .int .i64 a2_1]] w fun e w' => e = .returned (.bool r) ∧ Below w.heap.size w w' := by
 have hu33 := Try.underlying33
 have HB := aK (Below.refl w.heap.size w)
 have H : ((gangsawlaw33_awake_N.f).bind fun t708 => (if t708 = true then (if a0 > 58 then (gangsawlaw33_SampleBinomial.j0 k a0 a1 true a2_0 a2_1) else (if a1 < 1 then (gangsawlaw33_SampleBinomial.j0 k a0 a1 true a2_0 a2_1) else (gangsawlaw33_SampleBinomial.j0 k a0 a1 (decide (a1 > a0)) a2_0 a2_1))) else (some false))) = some r := h
 clear h
 replace H := Option.bind_eq_some_iff.mp H
 obtain ⟨t708, A40, H⟩ := H
 replace H : (if t708 = true then (if a0 > 58 then (gangsawlaw33_SampleBinomial.j0 k a0 a1 true a2_0 a2_1) else (if a1 < 1 then (gangsawlaw33_SampleBinomial.j0 k a0 a1 true a2_0 a2_1) else (gangsawlaw33_SampleBinomial.j0 k a0 a1 (decide (a1 > a0)) a2_0 a2_1))) else (some false)) = some r := H
 have A4 := aK A40
 clear A40
 by_cases c5 : t708 = true
 ·subst c5
  have H1 : (if a0 > 58 then (gangsawlaw33_SampleBinomial.j0 k a0 a1 true a2_0 a2_1) else (if a1 < 1 then (gangsawlaw33_SampleBinomial.j0 k a0 a1 true a2_0 a2_1) else (gangsawlaw33_SampleBinomial.j0 k a0 a1 (decide (a1 > a0)) a2_0 a2_1))) = some r := by rw [if_pos rfl] at H; exact H
  clear H
  have H := H1
  clear H1
  have HC6 := aK H
  clear H
  go_enter Try.func9, Try.ntmps9
  go_upto_region 3 with (first | ((with_reducible refine gate_dst (N := 5) rfl ?_); refine box_event ?hg (N := 5) ?hd (cs := #[.int .i64 a2_0, .int .i64 a2_1]) (t := 33) ?hr ?_; (case hd => rfl); (case hg => rfl); (case hr => first | (go_simp; done) | (go_simp; rfl)); intro gb707 hg w7 hbox hb; have ⟨n0_, n2_⟩ := zV (w := w) hb hg (by repeat (first | (with_reducible first | exact HB.out | apply yA | apply yN | apply yD) | exact HB.out)); have n1_ := aK (hbox); have n3_ := n2_; clear HB; have HB := n0_; have BK707 := n1_; have GW707 := n2_; have GE707 := n3_; clear n0_ n1_ n2_ n3_; clear hb hbox hg) | ((with_reducible refine gate_callee (f := 10) rfl ?_); refine goesL_ (some 20) rfl rfl Try.func10 (by kernel_rfl) rfl #[] rfl (by (try simp only [List.map_toArray, List.map_cons, List.map_nil]); first | done | rfl | (simp only [List.length_drop, List.length_take]; rfl)) ?_; (with_reducible refine (gangsawlaw33_awake_N.calls  true _ A4.out).mono ?_); rintro e w8 ⟨rfl, hb⟩; refine ⟨_, rfl, ?_⟩; have n0_ := zG BK707 hb (fun h => by (with_reducible repeat (first | refine zN ?_ _ | refine zD ?_ | refine zA ?_ _)); exact h); have n1_ := aK (yT (by repeat (first | (with_reducible first | exact HB.out | apply yA | apply yN | apply yD | refine yS ?_ GE707.out) | exact HB.out)) hb); clear BK707; clear HB; have BK707 := n0_; have HB := n1_; clear n0_ n1_; (try clear hb); (try clear hb2); (try clear hk); (try clear hi)))
  (try simp only [Act.put, sA, sZ, sS])
  go_cut [32] (fun v32 wc => ∃ (kq : Nat) (x32_5 : Bool), v32 = .bool x32_5 ∧ Aside0 (gangsawlaw33_SampleBinomial.j0 kq a0 a1 x32_5 a2_0 a2_1 = some r) ∧ Aside0 (kq ≤ k) ∧ Aside0 (wc.heap[gb707]? = some (.cells #[.int .i64 a2_0, .int .i64 a2_1] 33 (0, 0))) ∧ Aside0 (Below w.heap.size w wc))
  case first =>
   have H := HC6.out
   clear HC6
   by_cases c9 : a0 > 58
   ·rw [if_pos c9] at H
    have c9b0 : decide (58 < a0) = true := decide_eq_true c9
    clear c9
    (first | rw [c9b0] | (simp only [i64_w, i32_w]; rw [c9b0]) | skip)
    have H' := aK H
    clear H
    go_wp2
    go_meet
    case rel => exact ⟨_, (true), (by first | rfl | (simp; done) | (simp [*]; done)), H', ⟨by first | omega | exact Nat.le_refl _⟩, ⟨by (with_reducible repeat (first | refine zN ?_ _ | refine zD ?_ | refine zA ?_ _)); exact BK707.out⟩, ⟨by repeat (first | (with_reducible first | exact HB.out | apply yA | apply yN | apply yD | refine yS ?_ GE707.out) | exact HB.out)⟩⟩
   ·rw [if_neg c9] at H
    have c9b0 : decide (58 < a0) = false := decide_eq_false c9
    clear c9
    (first | rw [c9b0] | (simp only [i64_w, i32_w]; rw [c9b0]) | skip)
    by_cases c10 : a1 < 1
    ·rw [if_pos c10] at H
     have c10b0 : decide (a1 < 1) = true := decide_eq_true c10
     clear c10
     have H' := aK H
     clear H
     go_wp2
     go_meet
     case rel => exact ⟨_, (true), (by first | rfl | (simp; done) | (simp [*]; done)), H', ⟨by first | omega | exact Nat.le_refl _⟩, ⟨by (with_reducible repeat (first | refine zN ?_ _ | refine zD ?_ | refine zA ?_ _)); exact BK707.out⟩, ⟨by repeat (first | (with_reducible first | exact HB.out | apply yA | apply yN | apply yD | refine yS ?_ GE707.out) | exact HB.out)⟩⟩
    ·rw [if_neg c10] at H
     have c10b0 : decide (a1 < 1) = false := decide_eq_false c10
     clear c10
     have H' := aK H
     clear H
     go_wp2
     go_meet
     case rel => exact ⟨_, (decide (a1 > a0)), (by first | rfl | (simp; done) | (simp [*]; done)), H', ⟨by first | omega | exact Nat.le_refl _⟩, ⟨by (with_reducible repeat (first | refine zN ?_ _ | refine zD ?_ | refine zA ?_ _)); exact BK707.out⟩, ⟨by repeat (first | (with_reducible first | exact HB.out | apply yA | apply yN | apply yD | refine yS ?_ GE707.out) | exact HB.out)⟩⟩
  case rest =>
   clear HC6
   try clear c1
   try clear p2
   try clear c5
   try clear c9
   try clear c9b0
   try clear c10
   try clear c10b0
   obtain ⟨kq, x32_5, rfl, HA, HJ5, BK707, HB⟩ := hcut
   cases kq with
   | zero => exact absurd HA.out (by simp [gangsawlaw33_SampleBinomial.j0])
   | succ kj5 =>
    have H := HA.out
    clear HA
    simp only [gangsawlaw33_SampleBinomial.j0] at H
    by_cases c11 : x32_5 = true
    ·subst c11
     have H1 : (some true) = some r := by rw [if_pos rfl] at H; exact H
     clear H
     have H := H1
     clear H1
     obtain rfl := Option.some.inj H
     simp only [Option.some.injEq, Prod.mk.injEq] at H
     obtain ⟨rfl⟩ := H
     go_wp2
     go_ret
     exact ⟨by first | rfl | (simp [errW_none, errW_some] <;> rfl) | (simp [*, errW_none, errW_some] <;> rfl), by repeat (first | (with_reducible first | exact HB.out | apply yA | apply yN | apply yD | refine yS ?_ GE707.out) | exact HB.out)⟩
    ·replace c11 := Bool.eq_false_iff.mpr c11
     subst c11
     have H1 : ((sample_Confidence.f kj5 a0 a1 a2_0 a2_1).bind fun bt709 => (if bt709.2.2 = 0 then ((sample_Confidence.f kj5 a0 0 a2_0 a2_1).bind fun bt713 => ((sample_Confidence.f kj5 a0 (wrap64 (a1 - 1)) a2_0 a2_1).bind fun bt717 => ((fraction_New.f kj5 (wrap64 (a2_1 - a2_0)) a2_1).bind fun bt721 => ((sample_Confidence.f kj5 a0 (wrap64 ((wrap64 (a0 - a1)) + 1)) bt721.1 bt721.2.1).bind fun bt725 => ((fraction_Add.f kj5 bt709.1 bt709.2.1 bt725.1 bt725.2.1).bind fun bt729 => (if bt713.2.2 = 0 then (if bt717.2.2 = 0 then (if bt721.2.2 = 0 then (if bt725.2.2 = 0 then (if (!(bt713.1 == 1) || (!(bt713.2.1 == 1))) = true then (gangsawlaw33_SampleBinomial.j1 kj5 a0 a1 true a2_0 a2_1 bt709.1 bt709.2.1) else ((fraction_Cmp.f kj5 bt717.1 bt717.2.1 bt709.1 bt709.2.1).bind fun t733 => (if t733 < 0 then (gangsawlaw33_SampleBinomial.j1 kj5 a0 a1 true a2_0 a2_1 bt709.1 bt709.2.1) else (if bt729.2.2 = 0 then (gangsawlaw33_SampleBinomial.j1 kj5 a0 a1 (!(bt729.1 == 1) || (!(bt729.2.1 == 1))) a2_0 a2_1 bt709.1 bt709.2.1) else (gangsawlaw33_SampleBinomial.j1 kj5 a0 a1 false a2_0 a2_1 bt709.1 bt709.2.1))))) else (gangsawlaw33_SampleBinomial.j1 kj5 a0 a1 true a2_0 a2_1 bt709.1 bt709.2.1)) else (gangsawlaw33_SampleBinomial.j1 kj5 a0 a1 true a2_0 a2_1 bt709.1 bt709.2.1)) else (gangsawlaw33_SampleBinomial.j1 kj5 a0 a1 true a2_0 a2_1 bt709.1 bt709.2.1)) else (gangsawlaw33_SampleBinomial.j1 kj5 a0 a1 true a2_0 a2_1 bt709.1 bt709.2.1))))))) else (some (bt709.1 == 0 && (bt709.2.1 == 0))))) = some r := by rw [if_neg (show ¬ (false = true) by decide)] at H; exact H
     clear H
     have H := H1
     clear H1
     replace H := Option.bind_eq_some_iff.mp H
     obtain ⟨⟨t709, t710, t711⟩, A120, H⟩ := H
     replace H : (if t711 = 0 then ((sample_Confidence.f kj5 a0 0 a2_0 a2_1).bind fun bt713 => ((sample_Confidence.f kj5 a0 (wrap64 (a1 - 1)) a2_0 a2_1).bind fun bt717 => ((fraction_New.f kj5 (wrap64 (a2_1 - a2_0)) a2_1).bind fun bt721 => ((sample_Confidence.f kj5 a0 (wrap64 ((wrap64 (a0 - a1)) + 1)) bt721.1 bt721.2.1).bind fun bt725 => ((fraction_Add.f kj5 t709 t710 bt725.1 bt725.2.1).bind fun bt729 => (if bt713.2.2 = 0 then (if bt717.2.2 = 0 then (if bt721.2.2 = 0 then (if bt725.2.2 = 0 then (if (!(bt713.1 == 1) || (!(bt713.2.1 == 1))) = true then (gangsawlaw33_SampleBinomial.j1 kj5 a0 a1 true a2_0 a2_1 t709 t710) else ((fraction_Cmp.f kj5 bt717.1 bt717.2.1 t709 t710).bind fun t733 => (if t733 < 0 then (gangsawlaw33_SampleBinomial.j1 kj5 a0 a1 true a2_0 a2_1 t709 t710) else (if bt729.2.2 = 0 then (gangsawlaw33_SampleBinomial.j1 kj5 a0 a1 (!(bt729.1 == 1) || (!(bt729.2.1 == 1))) a2_0 a2_1 t709 t710) else (gangsawlaw33_SampleBinomial.j1 kj5 a0 a1 false a2_0 a2_1 t709 t710))))) else (gangsawlaw33_SampleBinomial.j1 kj5 a0 a1 true a2_0 a2_1 t709 t710)) else (gangsawlaw33_SampleBinomial.j1 kj5 a0 a1 true a2_0 a2_1 t709 t710)) else (gangsawlaw33_SampleBinomial.j1 kj5 a0 a1 true a2_0 a2_1 t709 t710)) else (gangsawlaw33_SampleBinomial.j1 kj5 a0 a1 true a2_0 a2_1 t709 t710))))))) else (some (t709 == 0 && (t710 == 0)))) = some r := H
     have A12 := aK A120
     clear A120
     by_cases c13 : t711 = 0
     ·rw [if_pos c13] at H
      have c13b0 : (t711 == 0) = true := beq_iff_eq.mpr c13
      have c13b1 : (t711 != 0) = false := bne_eq_false_iff_eq.mpr c13
      clear c13
      replace H := Option.bind_eq_some_iff.mp H
      obtain ⟨⟨t713, t714, t715⟩, A140, H⟩ := H
      replace H : ((sample_Confidence.f kj5 a0 (wrap64 (a1 - 1)) a2_0 a2_1).bind fun bt717 => ((fraction_New.f kj5 (wrap64 (a2_1 - a2_0)) a2_1).bind fun bt721 => ((sample_Confidence.f kj5 a0 (wrap64 ((wrap64 (a0 - a1)) + 1)) bt721.1 bt721.2.1).bind fun bt725 => ((fraction_Add.f kj5 t709 t710 bt725.1 bt725.2.1).bind fun bt729 => (if t715 = 0 then (if bt717.2.2 = 0 then (if bt721.2.2 = 0 then (if bt725.2.2 = 0 then (if (!(t713 == 1) || (!(t714 == 1))) = true then (gangsawlaw33_SampleBinomial.j1 kj5 a0 a1 true a2_0 a2_1 t709 t710) else ((fraction_Cmp.f kj5 bt717.1 bt717.2.1 t709 t710).bind fun t733 => (if t733 < 0 then (gangsawlaw33_SampleBinomial.j1 kj5 a0 a1 true a2_0 a2_1 t709 t710) else (if bt729.2.2 = 0 then (gangsawlaw33_SampleBinomial.j1 kj5 a0 a1 (!(bt729.1 == 1) || (!(bt729.2.1 == 1))) a2_0 a2_1 t709 t710) else (gangsawlaw33_SampleBinomial.j1 kj5 a0 a1 false a2_0 a2_1 t709 t710))))) else (gangsawlaw33_SampleBinomial.j1 kj5 a0 a1 true a2_0 a2_1 t709 t710)) else (gangsawlaw33_SampleBinomial.j1 kj5 a0 a1 true a2_0 a2_1 t709 t710)) else (gangsawlaw33_SampleBinomial.j1 kj5 a0 a1 true a2_0 a2_1 t709 t710)) else (gangsawlaw33_SampleBinomial.j1 kj5 a0 a1 true a2_0 a2_1 t709 t710)))))) = some r := H
      have A14 := aK A140
      clear A140
      replace H := Option.bind_eq_some_iff.mp H
      obtain ⟨⟨t717, t718, t719⟩, A150, H⟩ := H
      replace H : ((fraction_New.f kj5 (wrap64 (a2_1 - a2_0)) a2_1).bind fun bt721 => ((sample_Confidence.f kj5 a0 (wrap64 ((wrap64 (a0 - a1)) + 1)) bt721.1 bt721.2.1).bind fun bt725 => ((fraction_Add.f kj5 t709 t710 bt725.1 bt725.2.1).bind fun bt729 => (if t715 = 0 then (if t719 = 0 then (if bt721.2.2 = 0 then (if bt725.2.2 = 0 then (if (!(t713 == 1) || (!(t714 == 1))) = true then (gangsawlaw33_SampleBinomial.j1 kj5 a0 a1 true a2_0 a2_1 t709 t710) else ((fraction_Cmp.f kj5 t717 t718 t709 t710).bind fun t733 => (if t733 < 0 then (gangsawlaw33_SampleBinomial.j1 kj5 a0 a1 true a2_0 a2_1 t709 t710) else (if bt729.2.2 = 0 then (gangsawlaw33_SampleBinomial.j1 kj5 a0 a1 (!(bt729.1 == 1) || (!(bt729.2.1 == 1))) a2_0 a2_1 t709 t710) else (gangsawlaw33_SampleBinomial.j1 kj5 a0 a1 false a2_0 a2_1 t709 t710))))) else (gangsawlaw33_SampleBinomial.j1 kj5 a0 a1 true a2_0 a2_1 t709 t710)) else (gangsawlaw33_SampleBinomial.j1 kj5 a0 a1 true a2_0 a2_1 t709 t710)) else (gangsawlaw33_SampleBinomial.j1 kj5 a0 a1 true a2_0 a2_1 t709 t710)) else (gangsawlaw33_SampleBinomial.j1 kj5 a0 a1 true a2_0 a2_1 t709 t710))))) = some r := H
      have A15 := aK A150
      clear A150
      replace H := Option.bind_eq_some_iff.mp H
      obtain ⟨⟨t721, t722, t723⟩, A160, H⟩ := H
      replace H : ((sample_Confidence.f kj5 a0 (wrap64 ((wrap64 (a0 - a1)) + 1)) t721 t722).bind fun bt725 => ((fraction_Add.f kj5 t709 t710 bt725.1 bt725.2.1).bind fun bt729 => (if t715 = 0 then (if t719 = 0 then (if t723 = 0 then (if bt725.2.2 = 0 then (if (!(t713 == 1) || (!(t714 == 1))) = true then (gangsawlaw33_SampleBinomial.j1 kj5 a0 a1 true a2_0 a2_1 t709 t710) else ((fraction_Cmp.f kj5 t717 t718 t709 t710).bind fun t733 => (if t733 < 0 then (gangsawlaw33_SampleBinomial.j1 kj5 a0 a1 true a2_0 a2_1 t709 t710) else (if bt729.2.2 = 0 then (gangsawlaw33_SampleBinomial.j1 kj5 a0 a1 (!(bt729.1 == 1) || (!(bt729.2.1 == 1))) a2_0 a2_1 t709 t710) else (gangsawlaw33_SampleBinomial.j1 kj5 a0 a1 false a2_0 a2_1 t709 t710))))) else (gangsawlaw33_SampleBinomial.j1 kj5 a0 a1 true a2_0 a2_1 t709 t710)) else (gangsawlaw33_SampleBinomial.j1 kj5 a0 a1 true a2_0 a2_1 t709 t710)) else (gangsawlaw33_SampleBinomial.j1 kj5 a0 a1 true a2_0 a2_1 t709 t710)) else (gangsawlaw33_SampleBinomial.j1 kj5 a0 a1 true a2_0 a2_1 t709 t710)))) = some r := H
      have A16 := aK A160
      clear A160
      replace H := Option.bind_eq_some_iff.mp H
      obtain ⟨⟨t725, t726, t727⟩, A170, H⟩ := H
      replace H : ((fraction_Add.f kj5 t709 t710 t725 t726).bind fun bt729 => (if t715 = 0 then (if t719 = 0 then (if t723 = 0 then (if t727 = 0 then (if (!(t713 == 1) || (!(t714 == 1))) = true then (gangsawlaw33_SampleBinomial.j1 kj5 a0 a1 true a2_0 a2_1 t709 t710) else ((fraction_Cmp.f kj5 t717 t718 t709 t710).bind fun t733 => (if t733 < 0 then (gangsawlaw33_SampleBinomial.j1 kj5 a0 a1 true a2_0 a2_1 t709 t710) else (if bt729.2.2 = 0 then (gangsawlaw33_SampleBinomial.j1 kj5 a0 a1 (!(bt729.1 == 1) || (!(bt729.2.1 == 1))) a2_0 a2_1 t709 t710) else (gangsawlaw33_SampleBinomial.j1 kj5 a0 a1 false a2_0 a2_1 t709 t710))))) else (gangsawlaw33_SampleBinomial.j1 kj5 a0 a1 true a2_0 a2_1 t709 t710)) else (gangsawlaw33_SampleBinomial.j1 kj5 a0 a1 true a2_0 a2_1 t709 t710)) else (gangsawlaw33_SampleBinomial.j1 kj5 a0 a1 true a2_0 a2_1 t709 t710)) else (gangsawlaw33_SampleBinomial.j1 kj5 a0 a1 true a2_0 a2_1 t709 t710))) = some r := H
      have A17 := aK A170
      clear A170
      replace H := Option.bind_eq_some_iff.mp H
      obtain ⟨⟨t729, t730, t731⟩, A180, H⟩ := H
      replace H : (if t715 = 0 then (if t719 = 0 then (if t723 = 0 then (if t727 = 0 then (if (!(t713 == 1) || (!(t714 == 1))) = true then (gangsawlaw33_SampleBinomial.j1 kj5 a0 a1 true a2_0 a2_1 t709 t710) else ((fraction_Cmp.f kj5 t717 t718 t709 t710).bind fun t733 => (if t733 < 0 then (gangsawlaw33_SampleBinomial.j1 kj5 a0 a1 true a2_0 a2_1 t709 t710) else (if t731 = 0 then (gangsawlaw33_SampleBinomial.j1 kj5 a0 a1 (!(t729 == 1) || (!(t730 == 1))) a2_0 a2_1 t709 t710) else (gangsawlaw33_SampleBinomial.j1 kj5 a0 a1 false a2_0 a2_1 t709 t710))))) else (gangsawlaw33_SampleBinomial.j1 kj5 a0 a1 true a2_0 a2_1 t709 t710)) else (gangsawlaw33_SampleBinomial.j1 kj5 a0 a1 true a2_0 a2_1 t709 t710)) else (gangsawlaw33_SampleBinomial.j1 kj5 a0 a1 true a2_0 a2_1 t709 t710)) else (gangsawlaw33_SampleBinomial.j1 kj5 a0 a1 true a2_0 a2_1 t709 t710)) = some r := H
      have A18 := aK A180
      clear A180
      have HC19 := aK H
      clear H
      have hcz20_0 := zI BK707 0 rfl
      have hcz20_1 := zI BK707 1 rfl
      have hfz20_0 := zF BK707.out 0
      have hfz20_1 := zF BK707.out 1
      go_upto_region 13 with (first | ((with_reducible refine gate_callee (f := 20) rfl ?_); refine goesL_ (some 37) rfl rfl Try.func20 (by kernel_rfl) rfl #[.int .i64 a0, .int .i64 a1, .agg #[.int .i64 a2_0, .int .i64 a2_1]] rfl (by (try simp only [List.map_toArray, List.map_cons, List.map_nil]); first | done | rfl | (simp only [List.length_drop, List.length_take]; rfl)) ?_; (with_reducible refine (sample_Confidence.calls kj5 a0 a1 a2_0 a2_1 t709 t710 t711 _ A12.out).mono ?_); rintro e w21 ⟨rfl, hb⟩; refine ⟨_, rfl, ?_⟩; have n0_ := zG BK707 hb (fun h => by (with_reducible repeat (first | refine zN ?_ _ | refine zD ?_ | refine zA ?_ _)); exact h); have n1_ := aK (yT (by repeat (first | (with_reducible first | exact HB.out | apply yA | apply yN | apply yD | refine yS ?_ GE707.out) | exact HB.out)) hb); clear BK707; clear HB; have BK707 := n0_; have HB := n1_; clear n0_ n1_; (try clear hb); (try clear hb2); (try clear hk); (try clear hi)) | ((with_reducible refine gate_dst (N := 7) rfl ?_); refine box_event ?hg (N := 7) ?hd (cs := #[.int .i64 0, .int .i64 0]) (t := 33) ?hr ?_; (case hd => rfl); (case hg => rfl); (case hr => first | (go_simp; done) | (go_simp; rfl)); intro gb712 hg w22 hbox hb; have n0_ := zG BK707 hb (fun h => by (with_reducible repeat (first | refine zN ?_ _ | refine zD ?_ | refine zA ?_ _)); exact h); have ⟨n1_, n3_⟩ := zV (w := w) hb hg (by repeat (first | (with_reducible first | exact HB.out | apply yA | apply yN | apply yD | refine yS ?_ GE707.out) | exact HB.out)); have n2_ := aK (hbox); have n4_ := n3_; have n5_ := aK ((by rw [hg]; exact Nat.ne_of_lt (blk_lt (g := gb707) (o := .cells #[.int .i64 a2_0, .int .i64 a2_1] 33 (0, 0)) (by (with_reducible repeat (first | refine zN ?_ _ | refine zD ?_ | refine zA ?_ _)); exact BK707.out)) : gb707 ≠ gb712)); have n6_ := aK ((by rw [hg]; exact Nat.ne_of_gt (blk_lt (g := gb707) (o := .cells #[.int .i64 a2_0, .int .i64 a2_1] 33 (0, 0)) (by (with_reducible repeat (first | refine zN ?_ _ | refine zD ?_ | refine zA ?_ _)); exact BK707.out)) : gb712 ≠ gb707)); clear BK707; clear HB; have BK707 := n0_; have HB := n1_; have BK712 := n2_; have GW712 := n3_; have GE712 := n4_; have NB707_712 := n5_; have NB712_707 := n6_; clear n0_ n1_ n2_ n3_ n4_ n5_ n6_; clear hb hbox hg; have hnb23 := NB712_707.out; have hnc23 := NB707_712.out; have hcz24_0 := zI BK712 0 rfl; have hcz24_1 := zI BK712 1 rfl; have hfz24_0 := zF BK712.out 0; have hfz24_1 := zF BK712.out 1; have hcz25_0 := zI BK707 0 rfl; have hcz25_1 := zI BK707 1 rfl; have hfz25_0 := zF BK707.out 0; have hfz25_1 := zF BK707.out 1) | ((with_reducible refine gate_callee (f := 20) rfl ?_); refine goesL_ (some 48) rfl rfl Try.func20 (by kernel_rfl) rfl #[.int .i64 a0, .int .i64 0, .agg #[.int .i64 a2_0, .int .i64 a2_1]] rfl (by (try simp only [List.map_toArray, List.map_cons, List.map_nil]); first | done | rfl | (simp only [List.length_drop, List.length_take]; rfl)) ?_; (with_reducible refine (sample_Confidence.calls kj5 a0 0 a2_0 a2_1 t713 t714 t715 _ A14.out).mono ?_); rintro e w26 ⟨rfl, hb⟩; refine ⟨_, rfl, ?_⟩; have n0_ := aK (zB (g := gb707) (o := .cells #[.int .i64 a2_0, .int .i64 a2_1] 33 (0, 0)) (by (with_reducible repeat (first | refine zN ?_ _ | refine zD ?_ | refine zA ?_ _)); refine blk_far ?_ NB707_712.out _; (with_reducible repeat (first | refine zN ?_ _ | refine zD ?_ | refine zA ?_ _)); refine blk_far ?_ NB707_712.out _; (with_reducible repeat (first | refine zN ?_ _ | refine zD ?_ | refine zA ?_ _)); exact BK707.out) hb); have n1_ := aK (zB (g := gb712) (o := .cells #[.int .i64 t709, .int .i64 t710] 33 (0, 0)) (by (with_reducible repeat (first | refine zN ?_ _ | refine zD ?_ | refine zA ?_ _)); refine blk_put (cs := #[.int .i64 t709, .int .i64 0]) ?_ 1 _ rfl; (with_reducible repeat (first | refine zN ?_ _ | refine zD ?_ | refine zA ?_ _)); refine blk_put (cs := #[.int .i64 0, .int .i64 0]) ?_ 0 _ rfl; (with_reducible repeat (first | refine zN ?_ _ | refine zD ?_ | refine zA ?_ _)); exact BK712.out) hb); have n2_ := aK (yT (by repeat (first | (with_reducible first | exact HB.out | apply yA | apply yN | apply yD | refine yS ?_ GE707.out | refine yS ?_ GE712.out) | exact HB.out)) hb); clear BK707; clear BK712; clear HB; have BK707 := n0_; have BK712 := n1_; have HB := n2_; clear n0_ n1_ n2_; (try clear hb); (try clear hb2); (try clear hk); (try clear hi)) | ((with_reducible refine gate_dst (N := 9) rfl ?_); refine box_event ?hg (N := 9) ?hd (cs := #[.int .i64 0, .int .i64 0]) (t := 33) ?hr ?_; (case hd => rfl); (case hg => rfl); (case hr => first | (go_simp; done) | (go_simp; rfl)); intro gb716 hg w27 hbox hb; have n0_ := zG BK707 hb (fun h => by (with_reducible repeat (first | refine zN ?_ _ | refine zD ?_ | refine zA ?_ _)); exact h); have n1_ := zG BK712 hb (fun h => by (with_reducible repeat (first | refine zN ?_ _ | refine zD ?_ | refine zA ?_ _)); exact h); have ⟨n2_, n4_⟩ := zV (w := w) hb hg (by repeat (first | (with_reducible first | exact HB.out | apply yA | apply yN | apply yD | refine yS ?_ GE707.out | refine yS ?_ GE712.out) | exact HB.out)); have n3_ := aK (hbox); have n5_ := n4_; have n6_ := aK ((by rw [hg]; exact Nat.ne_of_lt (blk_lt (g := gb707) (o := .cells #[.int .i64 a2_0, .int .i64 a2_1] 33 (0, 0)) (by (with_reducible repeat (first | refine zN ?_ _ | refine zD ?_ | refine zA ?_ _)); exact BK707.out)) : gb707 ≠ gb716)); have n7_ := aK ((by rw [hg]; exact Nat.ne_of_gt (blk_lt (g := gb707) (o := .cells #[.int .i64 a2_0, .int .i64 a2_1] 33 (0, 0)) (by (with_reducible repeat (first | refine zN ?_ _ | refine zD ?_ | refine zA ?_ _)); exact BK707.out)) : gb716 ≠ gb707)); have n8_ := aK ((by rw [hg]; exact Nat.ne_of_lt (blk_lt (g := gb712) (o := .cells #[.int .i64 t709, .int .i64 t710] 33 (0, 0)) (by (with_reducible repeat (first | refine zN ?_ _ | refine zD ?_ | refine zA ?_ _)); exact BK712.out)) : gb712 ≠ gb716)); have n9_ := aK ((by rw [hg]; exact Nat.ne_of_gt (blk_lt (g := gb712) (o := .cells #[.int .i64 t709, .int .i64 t710] 33 (0, 0)) (by (with_reducible repeat (first | refine zN ?_ _ | refine zD ?_ | refine zA ?_ _)); exact BK712.out)) : gb716 ≠ gb712)); clear BK707; clear BK712; clear HB; have BK707 := n0_; have BK712 := n1_; have HB := n2_; have BK716 := n3_; have GW716 := n4_; have GE716 := n5_; have NB707_716 := n6_; have NB716_707 := n7_; have NB712_716 := n8_; have NB716_712 := n9_; clear n0_ n1_ n2_ n3_ n4_ n5_ n6_ n7_ n8_ n9_; clear hb hbox hg; have hnb28 := NB716_707.out; have hnc28 := NB707_716.out; have hnb29 := NB716_712.out; have hnc29 := NB712_716.out; have hcz30_0 := zI BK716 0 rfl; have hcz30_1 := zI BK716 1 rfl; have hfz30_0 := zF BK716.out 0; have hfz30_1 := zF BK716.out 1; have hcz31_0 := zI BK707 0 rfl; have hcz31_1 := zI BK707 1 rfl; have hfz31_0 := zF BK707.out 0; have hfz31_1 := zF BK707.out 1) | ((with_reducible refine gate_callee (f := 20) rfl ?_); refine goesL_ (some 56) rfl rfl Try.func20 (by kernel_rfl) rfl #[.int .i64 a0, .int .i64 (wrap64 (a1 - 1)), .agg #[.int .i64 a2_0, .int .i64 a2_1]] rfl (by (try simp only [List.map_toArray, List.map_cons, List.map_nil]); first | done | rfl | (simp only [List.length_drop, List.length_take]; rfl)) ?_; (with_reducible refine (sample_Confidence.calls kj5 a0 (wrap64 (a1 - 1)) a2_0 a2_1 t717 t718 t719 _ A15.out).mono ?_); rintro e w32 ⟨rfl, hb⟩; refine ⟨_, rfl, ?_⟩; have n0_ := aK (zB (g := gb707) (o := .cells #[.int .i64 a2_0, .int .i64 a2_1] 33 (0, 0)) (by (with_reducible repeat (first | refine zN ?_ _ | refine zD ?_ | refine zA ?_ _)); refine blk_far ?_ NB707_716.out _; (with_reducible repeat (first | refine zN ?_ _ | refine zD ?_ | refine zA ?_ _)); refine blk_far ?_ NB707_716.out _; (with_reducible repeat (first | refine zN ?_ _ | refine zD ?_ | refine zA ?_ _)); exact BK707.out) hb); have n1_ := aK (zB (g := gb712) (o := .cells #[.int .i64 t709, .int .i64 t710] 33 (0, 0)) (by (with_reducible repeat (first | refine zN ?_ _ | refine zD ?_ | refine zA ?_ _)); refine blk_far ?_ NB712_716.out _; (with_reducible repeat (first | refine zN ?_ _ | refine zD ?_ | refine zA ?_ _)); refine blk_far ?_ NB712_716.out _; (with_reducible repeat (first | refine zN ?_ _ | refine zD ?_ | refine zA ?_ _)); exact BK712.out) hb); have n2_ := aK (zB (g := gb716) (o := .cells #[.int .i64 t713, .int .i64 t714] 33 (0, 0)) (by (with_reducible repeat (first | refine zN ?_ _ | refine zD ?_ | refine zA ?_ _)); refine blk_put (cs := #[.int .i64 t713, .int .i64 0]) ?_ 1 _ rfl; (with_reducible repeat (first | refine zN ?_ _ | refine zD ?_ | refine zA ?_ _)); refine blk_put (cs := #[.int .i64 0, .int .i64 0]) ?_ 0 _ rfl; (with_reducible repeat (first | refine zN ?_ _ | refine zD ?_ | refine zA ?_ _)); exact BK716.out) hb); have n3_ := aK (yT (by repeat (first | (with_reducible first | exact HB.out | apply yA | apply yN | apply yD | refine yS ?_ GE707.out | refine yS ?_ GE712.out | refine yS ?_ GE716.out) | exact HB.out)) hb); clear BK707; clear BK712; clear BK716; clear HB; have BK707 := n0_; have BK712 := n1_; have BK716 := n2_; have HB := n3_; clear n0_ n1_ n2_ n3_; (try clear hb); (try clear hb2); (try clear hk); (try clear hi)) | ((with_reducible refine gate_dst (N := 11) rfl ?_); refine box_event ?hg (N := 11) ?hd (cs := #[.int .i64 0, .int .i64 0]) (t := 33) ?hr ?_; (case hd => rfl); (case hg => rfl); (case hr => first | (go_simp; done) | (go_simp; rfl)); intro gb720 hg w33 hbox hb; have n0_ := zG BK707 hb (fun h => by (with_reducible repeat (first | refine zN ?_ _ | refine zD ?_ | refine zA ?_ _)); exact h); have n1_ := zG BK712 hb (fun h => by (with_reducible repeat (first | refine zN ?_ _ | refine zD ?_ | refine zA ?_ _)); exact h); have n2_ := zG BK716 hb (fun h => by (with_reducible repeat (first | refine zN ?_ _ | refine zD ?_ | refine zA ?_ _)); exact h); have ⟨n3_, n5_⟩ := zV (w := w) hb hg (by repeat (first | (with_reducible first | exact HB.out | apply yA | apply yN | apply yD | refine yS ?_ GE707.out | refine yS ?_ GE712.out | refine yS ?_ GE716.out) | exact HB.out)); have n4_ := aK (hbox); have n6_ := n5_; have n7_ := aK ((by rw [hg]; exact Nat.ne_of_lt (blk_lt (g := gb707) (o := .cells #[.int .i64 a2_0, .int .i64 a2_1] 33 (0, 0)) (by (with_reducible repeat (first | refine zN ?_ _ | refine zD ?_ | refine zA ?_ _)); exact BK707.out)) : gb707 ≠ gb720)); have n8_ := aK ((by rw [hg]; exact Nat.ne_of_gt (blk_lt (g := gb707) (o := .cells #[.int .i64 a2_0, .int .i64 a2_1] 33 (0, 0)) (by (with_reducible repeat (first | refine zN ?_ _ | refine zD ?_ | refine zA ?_ _)); exact BK707.out)) : gb720 ≠ gb707)); have n9_ := aK ((by rw [hg]; exact Nat.ne_of_lt (blk_lt (g := gb712) (o := .cells #[.int .i64 t709, .int .i64 t710] 33 (0, 0)) (by (with_reducible repeat (first | refine zN ?_ _ | refine zD ?_ | refine zA ?_ _)); exact BK712.out)) : gb712 ≠ gb720)); have n10_ := aK ((by rw [hg]; exact Nat.ne_of_gt (blk_lt (g := gb712) (o := .cells #[.int .i64 t709, .int .i64 t710] 33 (0, 0)) (by (with_reducible repeat (first | refine zN ?_ _ | refine zD ?_ | refine zA ?_ _)); exact BK712.out)) : gb720 ≠ gb712)); have n11_ := aK ((by rw [hg]; exact Nat.ne_of_lt (blk_lt (g := gb716) (o := .cells #[.int .i64 t713, .int .i64 t714] 33 (0, 0)) (by (with_reducible repeat (first | refine zN ?_ _ | refine zD ?_ | refine zA ?_ _)); exact BK716.out)) : gb716 ≠ gb720)); have n12_ := aK ((by rw [hg]; exact Nat.ne_of_gt (blk_lt (g := gb716) (o := .cells #[.int .i64 t713, .int .i64 t714] 33 (0, 0)) (by (with_reducible repeat (first | refine zN ?_ _ | refine zD ?_ | refine zA ?_ _)); exact BK716.out)) : gb720 ≠ gb716)); clear BK707; clear BK712; clear BK716; clear HB; have BK707 := n0_; have BK712 := n1_; have BK716 := n2_; have HB := n3_; have BK720 := n4_; have GW720 := n5_; have GE720 := n6_; have NB707_720 := n7_; have NB720_707 := n8_; have NB712_720 := n9_; have NB720_712 := n10_; have NB716_720 := n11_; have NB720_716 := n12_; clear n0_ n1_ n2_ n3_ n4_ n5_ n6_ n7_ n8_ n9_ n10_ n11_ n12_; clear hb hbox hg; have hnb34 := NB720_707.out; have hnc34 := NB707_720.out; have hnb35 := NB720_712.out; have hnc35 := NB712_720.out; have hnb36 := NB720_716.out; have hnc36 := NB716_720.out; have hcz37_0 := zI BK720 0 rfl; have hcz37_1 := zI BK720 1 rfl; have hfz37_0 := zF BK720.out 0; have hfz37_1 := zF BK720.out 1; have hcz38_0 := zI BK707 0 rfl; have hcz38_1 := zI BK707 1 rfl; have hfz38_0 := zF BK707.out 0; have hfz38_1 := zF BK707.out 1) | ((with_reducible refine gate_callee (f := 29) rfl ?_); refine goesL_ (some 67) rfl rfl Try.func29 (by kernel_rfl) rfl #[.int .i64 (wrap64 (a2_1 - a2_0)), .int .i64 a2_1] rfl (by (try simp only [List.map_toArray, List.map_cons, List.map_nil]); first | done | rfl | (simp only [List.length_drop, List.length_take]; rfl)) ?_; (with_reducible refine (fraction_New.calls kj5 (wrap64 (a2_1 - a2_0)) a2_1 t721 t722 t723 _ A16.out).mono ?_); rintro e w39 ⟨rfl, hb⟩; refine ⟨_, rfl, ?_⟩; have n0_ := aK (zB (g := gb707) (o := .cells #[.int .i64 a2_0, .int .i64 a2_1] 33 (0, 0)) (by (with_reducible repeat (first | refine zN ?_ _ | refine zD ?_ | refine zA ?_ _)); refine blk_far ?_ NB707_720.out _; (with_reducible repeat (first | refine zN ?_ _ | refine zD ?_ | refine zA ?_ _)); refine blk_far ?_ NB707_720.out _; (with_reducible repeat (first | refine zN ?_ _ | refine zD ?_ | refine zA ?_ _)); exact BK707.out) hb); have n1_ := aK (zB (g := gb712) (o := .cells #[.int .i64 t709, .int .i64 t710] 33 (0, 0)) (by (with_reducible repeat (first | refine zN ?_ _ | refine zD ?_ | refine zA ?_ _)); refine blk_far ?_ NB712_720.out _; (with_reducible repeat (first | refine zN ?_ _ | refine zD ?_ | refine zA ?_ _)); refine blk_far ?_ NB712_720.out _; (with_reducible repeat (first | refine zN ?_ _ | refine zD ?_ | refine zA ?_ _)); exact BK712.out) hb); have n2_ := aK (zB (g := gb716) (o := .cells #[.int .i64 t713, .int .i64 t714] 33 (0, 0)) (by (with_reducible repeat (first | refine zN ?_ _ | refine zD ?_ | refine zA ?_ _)); refine blk_far ?_ NB716_720.out _; (with_reducible repeat (first | refine zN ?_ _ | refine zD ?_ | refine zA ?_ _)); refine blk_far ?_ NB716_720.out _; (with_reducible repeat (first | refine zN ?_ _ | refine zD ?_ | refine zA ?_ _)); exact BK716.out) hb); have n3_ := aK (zB (g := gb720) (o := .cells #[.int .i64 t717, .int .i64 t718] 33 (0, 0)) (by (with_reducible repeat (first | refine zN ?_ _ | refine zD ?_ | refine zA ?_ _)); refine blk_put (cs := #[.int .i64 t717, .int .i64 0]) ?_ 1 _ rfl; (with_reducible repeat (first | refine zN ?_ _ | refine zD ?_ | refine zA ?_ _)); refine blk_put (cs := #[.int .i64 0, .int .i64 0]) ?_ 0 _ rfl; (with_reducible repeat (first | refine zN ?_ _ | refine zD ?_ | refine zA ?_ _)); exact BK720.out) hb); have n4_ := aK (yT (by repeat (first | (with_reducible first | exact HB.out | apply yA | apply yN | apply yD | refine yS ?_ GE707.out | refine yS ?_ GE712.out | refine yS ?_ GE716.out | refine yS ?_ GE720.out) | exact HB.out)) hb); clear BK707; clear BK712; clear BK716; clear BK720; clear HB; have BK707 := n0_; have BK712 := n1_; have BK716 := n2_; have BK720 := n3_; have HB := n4_; clear n0_ n1_ n2_ n3_ n4_; (try clear hb); (try clear hb2); (try clear hk); (try clear hi)) | ((with_reducible refine gate_dst (N := 13) rfl ?_); refine box_event ?hg (N := 13) ?hd (cs := #[.int .i64 0, .int .i64 0]) (t := 33) ?hr ?_; (case hd => rfl); (case hg => rfl); (case hr => first | (go_simp; done) | (go_simp; rfl)); intro gb724 hg w40 hbox hb; have n0_ := zG BK707 hb (fun h => by (with_reducible repeat (first | refine zN ?_ _ | refine zD ?_ | refine zA ?_ _)); exact h); have n1_ := zG BK712 hb (fun h => by (with_reducible repeat (first | refine zN ?_ _ | refine zD ?_ | refine zA ?_ _)); exact h); have n2_ := zG BK716 hb (fun h => by (with_reducible repeat (first | refine zN ?_ _ | refine zD ?_ | refine zA ?_ _)); exact h); have n3_ := zG BK720 hb (fun h => by (with_reducible repeat (first | refine zN ?_ _ | refine zD ?_ | refine zA ?_ _)); exact h); have ⟨n4_, n6_⟩ := zV (w := w) hb hg (by repeat (first | (with_reducible first | exact HB.out | apply yA | apply yN | apply yD | refine yS ?_ GE707.out | refine yS ?_ GE712.out | refine yS ?_ GE716.out | refine yS ?_ GE720.out) | exact HB.out)); have n5_ := aK (hbox); have n7_ := n6_; have n8_ := aK ((by rw [hg]; exact Nat.ne_of_lt (blk_lt (g := gb707) (o := .cells #[.int .i64 a2_0, .int .i64 a2_1] 33 (0, 0)) (by (with_reducible repeat (first | refine zN ?_ _ | refine zD ?_ | refine zA ?_ _)); exact BK707.out)) : gb707 ≠ gb724)); have n9_ := aK ((by rw [hg]; exact Nat.ne_of_gt (blk_lt (g := gb707) (o := .cells #[.int .i64 a2_0, .int .i64 a2_1] 33 (0, 0)) (by (with_reducible repeat (first | refine zN ?_ _ | refine zD ?_ | refine zA ?_ _)); exact BK707.out)) : gb724 ≠ gb707)); have n10_ := aK ((by rw [hg]; exact Nat.ne_of_lt (blk_lt (g := gb712) (o := .cells #[.int .i64 t709, .int .i64 t710] 33 (0, 0)) (by (with_reducible repeat (first | refine zN ?_ _ | refine zD ?_ | refine zA ?_ _)); exact BK712.out)) : gb712 ≠ gb724)); have n11_ := aK ((by rw [hg]; exact Nat.ne_of_gt (blk_lt (g := gb712) (o := .cells #[.int .i64 t709, .int .i64 t710] 33 (0, 0)) (by (with_reducible repeat (first | refine zN ?_ _ | refine zD ?_ | refine zA ?_ _)); exact BK712.out)) : gb724 ≠ gb712)); have n12_ := aK ((by rw [hg]; exact Nat.ne_of_lt (blk_lt (g := gb716) (o := .cells #[.int .i64 t713, .int .i64 t714] 33 (0, 0)) (by (with_reducible repeat (first | refine zN ?_ _ | refine zD ?_ | refine zA ?_ _)); exact BK716.out)) : gb716 ≠ gb724)); have n13_ := aK ((by rw [hg]; exact Nat.ne_of_gt (blk_lt (g := gb716) (o := .cells #[.int .i64 t713, .int .i64 t714] 33 (0, 0)) (by (with_reducible repeat (first | refine zN ?_ _ | refine zD ?_ | refine zA ?_ _)); exact BK716.out)) : gb724 ≠ gb716)); have n14_ := aK ((by rw [hg]; exact Nat.ne_of_lt (blk_lt (g := gb720) (o := .cells #[.int .i64 t717, .int .i64 t718] 33 (0, 0)) (by (with_reducible repeat (first | refine zN ?_ _ | refine zD ?_ | refine zA ?_ _)); exact BK720.out)) : gb720 ≠ gb724)); have n15_ := aK ((by rw [hg]; exact Nat.ne_of_gt (blk_lt (g := gb720) (o := .cells #[.int .i64 t717, .int .i64 t718] 33 (0, 0)) (by (with_reducible repeat (first | refine zN ?_ _ | refine zD ?_ | refine zA ?_ _)); exact BK720.out)) : gb724 ≠ gb720)); clear BK707; clear BK712; clear BK716; clear BK720; clear HB; have BK707 := n0_; have BK712 := n1_; have BK716 := n2_; have BK720 := n3_; have HB := n4_; have BK724 := n5_; have GW724 := n6_; have GE724 := n7_; have NB707_724 := n8_; have NB724_707 := n9_; have NB712_724 := n10_; have NB724_712 := n11_; have NB716_724 := n12_; have NB724_716 := n13_; have NB720_724 := n14_; have NB724_720 := n15_; clear n0_ n1_ n2_ n3_ n4_ n5_ n6_ n7_ n8_ n9_ n10_ n11_ n12_ n13_ n14_ n15_; clear hb hbox hg; have hnb41 := NB724_707.out; have hnc41 := NB707_724.out; have hnb42 := NB724_712.out; have hnc42 := NB712_724.out; have hnb43 := NB724_716.out; have hnc43 := NB716_724.out; have hnb44 := NB724_720.out; have hnc44 := NB720_724.out; have hcz45_0 := zI BK724 0 rfl; have hcz45_1 := zI BK724 1 rfl; have hfz45_0 := zF BK724.out 0; have hfz45_1 := zF BK724.out 1) | ((with_reducible refine gate_callee (f := 20) rfl ?_); refine goesL_ (some 77) rfl rfl Try.func20 (by kernel_rfl) rfl #[.int .i64 a0, .int .i64 (wrap64 ((wrap64 (a0 - a1)) + 1)), .agg #[.int .i64 t721, .int .i64 t722]] rfl (by (try simp only [List.map_toArray, List.map_cons, List.map_nil]); first | done | rfl | (simp only [List.length_drop, List.length_take]; rfl)) ?_; (with_reducible refine (sample_Confidence.calls kj5 a0 (wrap64 ((wrap64 (a0 - a1)) + 1)) t721 t722 t725 t726 t727 _ A17.out).mono ?_); rintro e w46 ⟨rfl, hb⟩; refine ⟨_, rfl, ?_⟩; have n0_ := aK (zB (g := gb707) (o := .cells #[.int .i64 a2_0, .int .i64 a2_1] 33 (0, 0)) (by (with_reducible repeat (first | refine zN ?_ _ | refine zD ?_ | refine zA ?_ _)); refine blk_far ?_ NB707_724.out _; (with_reducible repeat (first | refine zN ?_ _ | refine zD ?_ | refine zA ?_ _)); refine blk_far ?_ NB707_724.out _; (with_reducible repeat (first | refine zN ?_ _ | refine zD ?_ | refine zA ?_ _)); exact BK707.out) hb); have n1_ := aK (zB (g := gb712) (o := .cells #[.int .i64 t709, .int .i64 t710] 33 (0, 0)) (by (with_reducible repeat (first | refine zN ?_ _ | refine zD ?_ | refine zA ?_ _)); refine blk_far ?_ NB712_724.out _; (with_reducible repeat (first | refine zN ?_ _ | refine zD ?_ | refine zA ?_ _)); refine blk_far ?_ NB712_724.out _; (with_reducible repeat (first | refine zN ?_ _ | refine zD ?_ | refine zA ?_ _)); exact BK712.out) hb); have n2_ := aK (zB (g := gb716) (o := .cells #[.int .i64 t713, .int .i64 t714] 33 (0, 0)) (by (with_reducible repeat (first | refine zN ?_ _ | refine zD ?_ | refine zA ?_ _)); refine blk_far ?_ NB716_724.out _; (with_reducible repeat (first | refine zN ?_ _ | refine zD ?_ | refine zA ?_ _)); refine blk_far ?_ NB716_724.out _; (with_reducible repeat (first | refine zN ?_ _ | refine zD ?_ | refine zA ?_ _)); exact BK716.out) hb); have n3_ := aK (zB (g := gb720) (o := .cells #[.int .i64 t717, .int .i64 t718] 33 (0, 0)) (by (with_reducible repeat (first | refine zN ?_ _ | refine zD ?_ | refine zA ?_ _)); refine blk_far ?_ NB720_724.out _; (with_reducible repeat (first | refine zN ?_ _ | refine zD ?_ | refine zA ?_ _)); refine blk_far ?_ NB720_724.out _; (with_reducible repeat (first | refine zN ?_ _ | refine zD ?_ | refine zA ?_ _)); exact BK720.out) hb); have n4_ := aK (zB (g := gb724) (o := .cells #[.int .i64 t721, .int .i64 t722] 33 (0, 0)) (by (with_reducible repeat (first | refine zN ?_ _ | refine zD ?_ | refine zA ?_ _)); refine blk_put (cs := #[.int .i64 t721, .int .i64 0]) ?_ 1 _ rfl; (with_reducible repeat (first | refine zN ?_ _ | refine zD ?_ | refine zA ?_ _)); refine blk_put (cs := #[.int .i64 0, .int .i64 0]) ?_ 0 _ rfl; (with_reducible repeat (first | refine zN ?_ _ | refine zD ?_ | refine zA ?_ _)); exact BK724.out) hb); have n5_ := aK (yT (by repeat (first | (with_reducible first | exact HB.out | apply yA | apply yN | apply yD | refine yS ?_ GE707.out | refine yS ?_ GE712.out | refine yS ?_ GE716.out | refine yS ?_ GE720.out | refine yS ?_ GE724.out) | exact HB.out)) hb); clear BK707; clear BK712; clear BK716; clear BK720; clear BK724; clear HB; have BK707 := n0_; have BK712 := n1_; have BK716 := n2_; have BK720 := n3_; have BK724 := n4_; have HB := n5_; clear n0_ n1_ n2_ n3_ n4_ n5_; (try clear hb); (try clear hb2); (try clear hk); (try clear hi)) | ((with_reducible refine gate_dst (N := 15) rfl ?_); refine box_event ?hg (N := 15) ?hd (cs := #[.int .i64 0, .int .i64 0]) (t := 33) ?hr ?_; (case hd => rfl); (case hg => rfl); (case hr => first | (go_simp; done) | (go_simp; rfl)); intro gb728 hg w47 hbox hb; have n0_ := zG BK707 hb (fun h => by (with_reducible repeat (first | refine zN ?_ _ | refine zD ?_ | refine zA ?_ _)); exact h); have n1_ := zG BK712 hb (fun h => by (with_reducible repeat (first | refine zN ?_ _ | refine zD ?_ | refine zA ?_ _)); exact h); have n2_ := zG BK716 hb (fun h => by (with_reducible repeat (first | refine zN ?_ _ | refine zD ?_ | refine zA ?_ _)); exact h); have n3_ := zG BK720 hb (fun h => by (with_reducible repeat (first | refine zN ?_ _ | refine zD ?_ | refine zA ?_ _)); exact h); have n4_ := zG BK724 hb (fun h => by (with_reducible repeat (first | refine zN ?_ _ | refine zD ?_ | refine zA ?_ _)); exact h); have ⟨n5_, n7_⟩ := zV (w := w) hb hg (by repeat (first | (with_reducible first | exact HB.out | apply yA | apply yN | apply yD | refine yS ?_ GE707.out | refine yS ?_ GE712.out | refine yS ?_ GE716.out | refine yS ?_ GE720.out | refine yS ?_ GE724.out) | exact HB.out)); have n6_ := aK (hbox); have n8_ := n7_; have n9_ := aK ((by rw [hg]; exact Nat.ne_of_lt (blk_lt (g := gb707) (o := .cells #[.int .i64 a2_0, .int .i64 a2_1] 33 (0, 0)) (by (with_reducible repeat (first | refine zN ?_ _ | refine zD ?_ | refine zA ?_ _)); exact BK707.out)) : gb707 ≠ gb728)); have n10_ := aK ((by rw [hg]; exact Nat.ne_of_gt (blk_lt (g := gb707) (o := .cells #[.int .i64 a2_0, .int .i64 a2_1] 33 (0, 0)) (by (with_reducible repeat (first | refine zN ?_ _ | refine zD ?_ | refine zA ?_ _)); exact BK707.out)) : gb728 ≠ gb707)); have n11_ := aK ((by rw [hg]; exact Nat.ne_of_lt (blk_lt (g := gb712) (o := .cells #[.int .i64 t709, .int .i64 t710] 33 (0, 0)) (by (with_reducible repeat (first | refine zN ?_ _ | refine zD ?_ | refine zA ?_ _)); exact BK712.out)) : gb712 ≠ gb728)); have n12_ := aK ((by rw [hg]; exact Nat.ne_of_gt (blk_lt (g := gb712) (o := .cells #[.int .i64 t709, .int .i64 t710] 33 (0, 0)) (by (with_reducible repeat (first | refine zN ?_ _ | refine zD ?_ | refine zA ?_ _)); exact BK712.out)) : gb728 ≠ gb712)); have n13_ := aK ((by rw [hg]; exact Nat.ne_of_lt (blk_lt (g := gb716) (o := .cells #[.int .i64 t713, .int .i64 t714] 33 (0, 0)) (by (with_reducible repeat (first | refine zN ?_ _ | refine zD ?_ | refine zA ?_ _)); exact BK716.out)) : gb716 ≠ gb728)); have n14_ := aK ((by rw [hg]; exact Nat.ne_of_gt (blk_lt (g := gb716) (o := .cells #[.int .i64 t713, .int .i64 t714] 33 (0, 0)) (by (with_reducible repeat (first | refine zN ?_ _ | refine zD ?_ | refine zA ?_ _)); exact BK716.out)) : gb728 ≠ gb716)); have n15_ := aK ((by rw [hg]; exact Nat.ne_of_lt (blk_lt (g := gb720) (o := .cells #[.int .i64 t717, .int .i64 t718] 33 (0, 0)) (by (with_reducible repeat (first | refine zN ?_ _ | refine zD ?_ | refine zA ?_ _)); exact BK720.out)) : gb720 ≠ gb728)); have n16_ := aK ((by rw [hg]; exact Nat.ne_of_gt (blk_lt (g := gb720) (o := .cells #[.int .i64 t717, .int .i64 t718] 33 (0, 0)) (by (with_reducible repeat (first | refine zN ?_ _ | refine zD ?_ | refine zA ?_ _)); exact BK720.out)) : gb728 ≠ gb720)); have n17_ := aK ((by rw [hg]; exact Nat.ne_of_lt (blk_lt (g := gb724) (o := .cells #[.int .i64 t721, .int .i64 t722] 33 (0, 0)) (by (with_reducible repeat (first | refine zN ?_ _ | refine zD ?_ | refine zA ?_ _)); exact BK724.out)) : gb724 ≠ gb728)); have n18_ := aK ((by rw [hg]; exact Nat.ne_of_gt (blk_lt (g := gb724) (o := .cells #[.int .i64 t721, .int .i64 t722] 33 (0, 0)) (by (with_reducible repeat (first | refine zN ?_ _ | refine zD ?_ | refine zA ?_ _)); exact BK724.out)) : gb728 ≠ gb724)); clear BK707; clear BK712; clear BK716; clear BK720; clear BK724; clear HB; have BK707 := n0_; have BK712 := n1_; have BK716 := n2_; have BK720 := n3_; have BK724 := n4_; have HB := n5_; have BK728 := n6_; have GW728 := n7_; have GE728 := n8_; have NB707_728 := n9_; have NB728_707 := n10_; have NB712_728 := n11_; have NB728_712 := n12_; have NB716_728 := n13_; have NB728_716 := n14_; have NB720_728 := n15_; have NB728_720 := n16_; have NB724_728 := n17_; have NB728_724 := n18_; clear n0_ n1_ n2_ n3_ n4_ n5_ n6_ n7_ n8_ n9_ n10_ n11_ n12_ n13_ n14_ n15_ n16_ n17_ n18_; clear hb hbox hg; have hnb48 := NB728_707.out; have hnc48 := NB707_728.out; have hnb49 := NB728_712.out; have hnc49 := NB712_728.out; have hnb50 := NB728_716.out; have hnc50 := NB716_728.out; have hnb51 := NB728_720.out; have hnc51 := NB720_728.out; have hnb52 := NB728_724.out; have hnc52 := NB724_728.out; have hcz53_0 := zI BK728 0 rfl; have hcz53_1 := zI BK728 1 rfl; have hfz53_0 := zF BK728.out 0; have hfz53_1 := zF BK728.out 1; have hcz54_0 := zI BK712 0 rfl; have hcz54_1 := zI BK712 1 rfl; have hfz54_0 := zF BK712.out 0; have hfz54_1 := zF BK712.out 1) | ((with_reducible refine gate_callee (f := 30) rfl ?_); refine goesL_ (some 83) rfl rfl Try.func30 (by kernel_rfl) rfl #[.agg #[.int .i64 t709, .int .i64 t710], .agg #[.int .i64 t725, .int .i64 t726]] rfl (by (try simp only [List.map_toArray, List.map_cons, List.map_nil]); first | done | rfl | (simp only [List.length_drop, List.length_take]; rfl)) ?_; (with_reducible refine (fraction_Add.calls kj5 t709 t710 t725 t726 t729 t730 t731 _ A18.out).mono ?_); rintro e w55 ⟨rfl, hb⟩; refine ⟨_, rfl, ?_⟩; have n0_ := aK (zB (g := gb707) (o := .cells #[.int .i64 a2_0, .int .i64 a2_1] 33 (0, 0)) (by (with_reducible repeat (first | refine zN ?_ _ | refine zD ?_ | refine zA ?_ _)); refine blk_far ?_ NB707_728.out _; (with_reducible repeat (first | refine zN ?_ _ | refine zD ?_ | refine zA ?_ _)); refine blk_far ?_ NB707_728.out _; (with_reducible repeat (first | refine zN ?_ _ | refine zD ?_ | refine zA ?_ _)); exact BK707.out) hb); have n1_ := aK (zB (g := gb712) (o := .cells #[.int .i64 t709, .int .i64 t710] 33 (0, 0)) (by (with_reducible repeat (first | refine zN ?_ _ | refine zD ?_ | refine zA ?_ _)); refine blk_far ?_ NB712_728.out _; (with_reducible repeat (first | refine zN ?_ _ | refine zD ?_ | refine zA ?_ _)); refine blk_far ?_ NB712_728.out _; (with_reducible repeat (first | refine zN ?_ _ | refine zD ?_ | refine zA ?_ _)); exact BK712.out) hb); have n2_ := aK (zB (g := gb716) (o := .cells #[.int .i64 t713, .int .i64 t714] 33 (0, 0)) (by (with_reducible repeat (first | refine zN ?_ _ | refine zD ?_ | refine zA ?_ _)); refine blk_far ?_ NB716_728.out _; (with_reducible repeat (first | refine zN ?_ _ | refine zD ?_ | refine zA ?_ _)); refine blk_far ?_ NB716_728.out _; (with_reducible repeat (first | refine zN ?_ _ | refine zD ?_ | refine zA ?_ _)); exact BK716.out) hb); have n3_ := aK (zB (g := gb720) (o := .cells #[.int .i64 t717, .int .i64 t718] 33 (0, 0)) (by (with_reducible repeat (first | refine zN ?_ _ | refine zD ?_ | refine zA ?_ _)); refine blk_far ?_ NB720_728.out _; (with_reducible repeat (first | refine zN ?_ _ | refine zD ?_ | refine zA ?_ _)); refine blk_far ?_ NB720_728.out _; (with_reducible repeat (first | refine zN ?_ _ | refine zD ?_ | refine zA ?_ _)); exact BK720.out) hb); have n4_ := aK (zB (g := gb724) (o := .cells #[.int .i64 t721, .int .i64 t722] 33 (0, 0)) (by (with_reducible repeat (first | refine zN ?_ _ | refine zD ?_ | refine zA ?_ _)); refine blk_far ?_ NB724_728.out _; (with_reducible repeat (first | refine zN ?_ _ | refine zD ?_ | refine zA ?_ _)); refine blk_far ?_ NB724_728.out _; (with_reducible repeat (first | refine zN ?_ _ | refine zD ?_ | refine zA ?_ _)); exact BK724.out) hb); have n5_ := aK (zB (g := gb728) (o := .cells #[.int .i64 t725, .int .i64 t726] 33 (0, 0)) (by (with_reducible repeat (first | refine zN ?_ _ | refine zD ?_ | refine zA ?_ _)); refine blk_put (cs := #[.int .i64 t725, .int .i64 0]) ?_ 1 _ rfl; (with_reducible repeat (first | refine zN ?_ _ | refine zD ?_ | refine zA ?_ _)); refine blk_put (cs := #[.int .i64 0, .int .i64 0]) ?_ 0 _ rfl; (with_reducible repeat (first | refine zN ?_ _ | refine zD ?_ | refine zA ?_ _)); exact BK728.out) hb); have n6_ := aK (yT (by repeat (first | (with_reducible first | exact HB.out | apply yA | apply yN | apply yD | refine yS ?_ GE707.out | refine yS ?_ GE712.out | refine yS ?_ GE716.out | refine yS ?_ GE720.out | refine yS ?_ GE724.out | refine yS ?_ GE728.out) | exact HB.out)) hb); clear BK707; clear BK712; clear BK716; clear BK720; clear BK724; clear BK728; clear HB; have BK707 := n0_; have BK712 := n1_; have BK716 := n2_; have BK720 := n3_; have BK724 := n4_; have BK728 := n5_; have HB := n6_; clear n0_ n1_ n2_ n3_ n4_ n5_ n6_; (try clear hb); (try clear hb2); (try clear hk); (try clear hi)) | ((with_reducible refine gate_dst (N := 17) rfl ?_); refine box_event ?hg (N := 17) ?hd (cs := #[.int .i64 0, .int .i64 0]) (t := 33) ?hr ?_; (case hd => rfl); (case hg => rfl); (case hr => first | (go_simp; done) | (go_simp; rfl)); intro gb732 hg w56 hbox hb; have n0_ := zG BK707 hb (fun h => by (with_reducible repeat (first | refine zN ?_ _ | refine zD ?_ | refine zA ?_ _)); exact h); have n1_ := zG BK712 hb (fun h => by (with_reducible repeat (first | refine zN ?_ _ | refine zD ?_ | refine zA ?_ _)); exact h); have n2_ := zG BK716 hb (fun h => by (with_reducible repeat (first | refine zN ?_ _ | refine zD ?_ | refine zA ?_ _)); exact h); have n3_ := zG BK720 hb (fun h => by (with_reducible repeat (first | refine zN ?_ _ | refine zD ?_ | refine zA ?_ _)); exact h); have n4_ := zG BK724 hb (fun h => by (with_reducible repeat (first | refine zN ?_ _ | refine zD ?_ | refine zA ?_ _)); exact h); have n5_ := zG BK728 hb (fun h => by (with_reducible repeat (first | refine zN ?_ _ | refine zD ?_ | refine zA ?_ _)); exact h); have ⟨n6_, n8_⟩ := zV (w := w) hb hg (by repeat (first | (with_reducible first | exact HB.out | apply yA | apply yN | apply yD | refine yS ?_ GE707.out | refine yS ?_ GE712.out | refine yS ?_ GE716.out | refine yS ?_ GE720.out | refine yS ?_ GE724.out | refine yS ?_ GE728.out) | exact HB.out)); have n7_ := aK (hbox); have n9_ := n8_; have n10_ := aK ((by rw [hg]; exact Nat.ne_of_lt (blk_lt (g := gb707) (o := .cells #[.int .i64 a2_0, .int .i64 a2_1] 33 (0, 0)) (by (with_reducible repeat (first | refine zN ?_ _ | refine zD ?_ | refine zA ?_ _)); exact BK707.out)) : gb707 ≠ gb732)); have n11_ := aK ((by rw [hg]; exact Nat.ne_of_gt (blk_lt (g := gb707) (o := .cells #[.int .i64 a2_0, .int .i64 a2_1] 33 (0, 0)) (by (with_reducible repeat (first | refine zN ?_ _ | refine zD ?_ | refine zA ?_ _)); exact BK707.out)) : gb732 ≠ gb707)); have n12_ := aK ((by rw [hg]; exact Nat.ne_of_lt (blk_lt (g := gb712) (o := .cells #[.int .i64 t709, .int .i64 t710] 33 (0, 0)) (by (with_reducible repeat (first | refine zN ?_ _ | refine zD ?_ | refine zA ?_ _)); exact BK712.out)) : gb712 ≠ gb732)); have n13_ := aK ((by rw [hg]; exact Nat.ne_of_gt (blk_lt (g := gb712) (o := .cells #[.int .i64 t709, .int .i64 t710] 33 (0, 0)) (by (with_reducible repeat (first | refine zN ?_ _ | refine zD ?_ | refine zA ?_ _)); exact BK712.out)) : gb732 ≠ gb712)); have n14_ := aK ((by rw [hg]; exact Nat.ne_of_lt (blk_lt (g := gb716) (o := .cells #[.int .i64 t713, .int .i64 t714] 33 (0, 0)) (by (with_reducible repeat (first | refine zN ?_ _ | refine zD ?_ | refine zA ?_ _)); exact BK716.out)) : gb716 ≠ gb732)); have n15_ := aK ((by rw [hg]; exact Nat.ne_of_gt (blk_lt (g := gb716) (o := .cells #[.int .i64 t713, .int .i64 t714] 33 (0, 0)) (by (with_reducible repeat (first | refine zN ?_ _ | refine zD ?_ | refine zA ?_ _)); exact BK716.out)) : gb732 ≠ gb716)); have n16_ := aK ((by rw [hg]; exact Nat.ne_of_lt (blk_lt (g := gb720) (o := .cells #[.int .i64 t717, .int .i64 t718] 33 (0, 0)) (by (with_reducible repeat (first | refine zN ?_ _ | refine zD ?_ | refine zA ?_ _)); exact BK720.out)) : gb720 ≠ gb732)); have n17_ := aK ((by rw [hg]; exact Nat.ne_of_gt (blk_lt (g := gb720) (o := .cells #[.int .i64 t717, .int .i64 t718] 33 (0, 0)) (by (with_reducible repeat (first | refine zN ?_ _ | refine zD ?_ | refine zA ?_ _)); exact BK720.out)) : gb732 ≠ gb720)); have n18_ := aK ((by rw [hg]; exact Nat.ne_of_lt (blk_lt (g := gb724) (o := .cells #[.int .i64 t721, .int .i64 t722] 33 (0, 0)) (by (with_reducible repeat (first | refine zN ?_ _ | refine zD ?_ | refine zA ?_ _)); exact BK724.out)) : gb724 ≠ gb732)); have n19_ := aK ((by rw [hg]; exact Nat.ne_of_gt (blk_lt (g := gb724) (o := .cells #[.int .i64 t721, .int .i64 t722] 33 (0, 0)) (by (with_reducible repeat (first | refine zN ?_ _ | refine zD ?_ | refine zA ?_ _)); exact BK724.out)) : gb732 ≠ gb724)); have n20_ := aK ((by rw [hg]; exact Nat.ne_of_lt (blk_lt (g := gb728) (o := .cells #[.int .i64 t725, .int .i64 t726] 33 (0, 0)) (by (with_reducible repeat (first | refine zN ?_ _ | refine zD ?_ | refine zA ?_ _)); exact BK728.out)) : gb728 ≠ gb732)); have n21_ := aK ((by rw [hg]; exact Nat.ne_of_gt (blk_lt (g := gb728) (o := .cells #[.int .i64 t725, .int .i64 t726] 33 (0, 0)) (by (with_reducible repeat (first | refine zN ?_ _ | refine zD ?_ | refine zA ?_ _)); exact BK728.out)) : gb732 ≠ gb728)); clear BK707; clear BK712; clear BK716; clear BK720; clear BK724; clear BK728; clear HB; have BK707 := n0_; have BK712 := n1_; have BK716 := n2_; have BK720 := n3_; have BK724 := n4_; have BK728 := n5_; have HB := n6_; have BK732 := n7_; have GW732 := n8_; have GE732 := n9_; have NB707_732 := n10_; have NB732_707 := n11_; have NB712_732 := n12_; have NB732_712 := n13_; have NB716_732 := n14_; have NB732_716 := n15_; have NB720_732 := n16_; have NB732_720 := n17_; have NB724_732 := n18_; have NB732_724 := n19_; have NB728_732 := n20_; have NB732_728 := n21_; clear n0_ n1_ n2_ n3_ n4_ n5_ n6_ n7_ n8_ n9_ n10_ n11_ n12_ n13_ n14_ n15_ n16_ n17_ n18_ n19_ n20_ n21_; clear hb hbox hg; have hnb57 := NB732_707.out; have hnc57 := NB707_732.out; have hnb58 := NB732_712.out; have hnc58 := NB712_732.out; have hnb59 := NB732_716.out; have hnc59 := NB716_732.out; have hnb60 := NB732_720.out; have hnc60 := NB720_732.out; have hnb61 := NB732_724.out; have hnc61 := NB724_732.out; have hnb62 := NB732_728.out; have hnc62 := NB728_732.out; have hcz63_0 := zI BK732 0 rfl; have hcz63_1 := zI BK732 1 rfl; have hfz63_0 := zF BK732.out 0; have hfz63_1 := zF BK732.out 1))
      (try simp only [Act.put, sA, sZ, sS])
      go_cut [119] (fun v119 wc => ∃ (kq : Nat) (x119_18 : Bool), v119 = .bool x119_18 ∧ Aside0 (gangsawlaw33_SampleBinomial.j1 kq a0 a1 x119_18 a2_0 a2_1 t709 t710 = some r) ∧ Aside0 (kq ≤ kj5) ∧ Aside0 (wc.heap[gb707]? = some (.cells #[.int .i64 a2_0, .int .i64 a2_1] 33 (0, 0))) ∧ Aside0 (wc.heap[gb712]? = some (.cells #[.int .i64 t709, .int .i64 t710] 33 (0, 0))) ∧ Aside0 (wc.heap[gb716]? = some (.cells #[.int .i64 t713, .int .i64 t714] 33 (0, 0))) ∧ Aside0 (wc.heap[gb720]? = some (.cells #[.int .i64 t717, .int .i64 t718] 33 (0, 0))) ∧ Aside0 (wc.heap[gb724]? = some (.cells #[.int .i64 t721, .int .i64 t722] 33 (0, 0))) ∧ Aside0 (wc.heap[gb728]? = some (.cells #[.int .i64 t725, .int .i64 t726] 33 (0, 0))) ∧ Aside0 (wc.heap[gb732]? = some (.cells #[.int .i64 t729, .int .i64 t730] 33 (0, 0))) ∧ Aside0 (Below w.heap.size w wc))
      case first =>
       have H := HC19.out
       clear HC19
       by_cases c64 : t715 = 0
       ·rw [if_pos c64] at H
        have c64b0 : (t715 == 0) = true := beq_iff_eq.mpr c64
        have c64b1 : (t715 != 0) = false := bne_eq_false_iff_eq.mpr c64
        clear c64
        (first | rw [c64b0] | (simp only [i64_w, i32_w]; rw [c64b0]) | skip)
        by_cases c65 : t719 = 0
        ·rw [if_pos c65] at H
         have c65b0 : (t719 == 0) = true := beq_iff_eq.mpr c65
         have c65b1 : (t719 != 0) = false := bne_eq_false_iff_eq.mpr c65
         clear c65
         by_cases c66 : t723 = 0
         ·rw [if_pos c66] at H
          have c66b0 : (t723 == 0) = true := beq_iff_eq.mpr c66
          have c66b1 : (t723 != 0) = false := bne_eq_false_iff_eq.mpr c66
          clear c66
          by_cases c67 : t727 = 0
          ·rw [if_pos c67] at H
           have c67b0 : (t727 == 0) = true := beq_iff_eq.mpr c67
           have c67b1 : (t727 != 0) = false := bne_eq_false_iff_eq.mpr c67
           clear c67
           by_cases c68 : (!(t713 == 1) || (!(t714 == 1))) = true
           ·rw [if_pos c68] at H
            have c68b0 : (!(t713 == 1) || (!(t714 == 1))) = true := c68
            clear c68
            have H' := aK H
            clear H
            have hnb69 := NB716_707.out
            have hnc69 := NB707_716.out
            have hnb70 := NB716_712.out
            have hnc70 := NB712_716.out
            have hnb71 := NB716_720.out
            have hnc71 := NB720_716.out
            have hnb72 := NB716_724.out
            have hnc72 := NB724_716.out
            have hnb73 := NB716_728.out
            have hnc73 := NB728_716.out
            have hnb74 := NB716_732.out
            have hnc74 := NB732_716.out
            have hcz75_0 := zI BK716 0 rfl
            have hcz75_1 := zI BK716 1 rfl
            have hfz75_0 := zF BK716.out 0
            have hfz75_1 := zF BK716.out 1
            go_wp2
            go_meet
            case rel => exact ⟨_, (true), (by first | rfl | (simp; done) | (simp [*]; done)), H', ⟨by have := HJ5.out; first | omega | exact Nat.le_refl _⟩, ⟨by (with_reducible repeat (first | refine zN ?_ _ | refine zD ?_ | refine zA ?_ _)); refine blk_far ?_ NB707_732.out _; (with_reducible repeat (first | refine zN ?_ _ | refine zD ?_ | refine zA ?_ _)); refine blk_far ?_ NB707_732.out _; (with_reducible repeat (first | refine zN ?_ _ | refine zD ?_ | refine zA ?_ _)); exact BK707.out⟩, ⟨by (with_reducible repeat (first | refine zN ?_ _ | refine zD ?_ | refine zA ?_ _)); refine blk_far ?_ NB712_732.out _; (with_reducible repeat (first | refine zN ?_ _ | refine zD ?_ | refine zA ?_ _)); refine blk_far ?_ NB712_732.out _; (with_reducible repeat (first | refine zN ?_ _ | refine zD ?_ | refine zA ?_ _)); exact BK712.out⟩, ⟨by (with_reducible repeat (first | refine zN ?_ _ | refine zD ?_ | refine zA ?_ _)); refine blk_far ?_ NB716_732.out _; (with_reducible repeat (first | refine zN ?_ _ | refine zD ?_ | refine zA ?_ _)); refine blk_far ?_ NB716_732.out _; (with_reducible repeat (first | refine zN ?_ _ | refine zD ?_ | refine zA ?_ _)); exact BK716.out⟩, ⟨by (with_reducible repeat (first | refine zN ?_ _ | refine zD ?_ | refine zA ?_ _)); refine blk_far ?_ NB720_732.out _; (with_reducible repeat (first | refine zN ?_ _ | refine zD ?_ | refine zA ?_ _)); refine blk_far ?_ NB720_732.out _; (with_reducible repeat (first | refine zN ?_ _ | refine zD ?_ | refine zA ?_ _)); exact BK720.out⟩, ⟨by (with_reducible repeat (first | refine zN ?_ _ | refine zD ?_ | refine zA ?_ _)); refine blk_far ?_ NB724_732.out _; (with_reducible repeat (first | refine zN ?_ _ | refine zD ?_ | refine zA ?_ _)); refine blk_far ?_ NB724_732.out _; (with_reducible repeat (first | refine zN ?_ _ | refine zD ?_ | refine zA ?_ _)); exact BK724.out⟩, ⟨by (with_reducible repeat (first | refine zN ?_ _ | refine zD ?_ | refine zA ?_ _)); refine blk_far ?_ NB728_732.out _; (with_reducible repeat (first | refine zN ?_ _ | refine zD ?_ | refine zA ?_ _)); refine blk_far ?_ NB728_732.out _; (with_reducible repeat (first | refine zN ?_ _ | refine zD ?_ | refine zA ?_ _)); exact BK728.out⟩, ⟨by (with_reducible repeat (first | refine zN ?_ _ | refine zD ?_ | refine zA ?_ _)); refine blk_put (cs := #[.int .i64 t729, .int .i64 0]) ?_ 1 _ rfl; (with_reducible repeat (first | refine zN ?_ _ | refine zD ?_ | refine zA ?_ _)); refine blk_put (cs := #[.int .i64 0, .int .i64 0]) ?_ 0 _ rfl; (with_reducible repeat (first | refine zN ?_ _ | refine zD ?_ | refine zA ?_ _)); exact BK732.out⟩, ⟨by repeat (first | (with_reducible first | exact HB.out | apply yA | apply yN | apply yD | refine yS ?_ GE707.out | refine yS ?_ GE712.out | refine yS ?_ GE716.out | refine yS ?_ GE720.out | refine yS ?_ GE724.out | refine yS ?_ GE728.out | refine yS ?_ GE732.out) | exact HB.out)⟩⟩
           ·rw [if_neg c68] at H
            have c68b0 : (!(t713 == 1) || (!(t714 == 1))) = false := by simpa using c68
            clear c68
            replace H := Option.bind_eq_some_iff.mp H
            obtain ⟨t733, A760, H⟩ := H
            replace H : (if t733 < 0 then (gangsawlaw33_SampleBinomial.j1 kj5 a0 a1 true a2_0 a2_1 t709 t710) else (if t731 = 0 then (gangsawlaw33_SampleBinomial.j1 kj5 a0 a1 (!(t729 == 1) || (!(t730 == 1))) a2_0 a2_1 t709 t710) else (gangsawlaw33_SampleBinomial.j1 kj5 a0 a1 false a2_0 a2_1 t709 t710))) = some r := H
            have A76 := aK A760
            clear A760
            by_cases c77 : t733 < 0
            ·rw [if_pos c77] at H
             have c77b0 : decide (t733 < 0) = true := decide_eq_true c77
             clear c77
             have H' := aK H
             clear H
             have hnb78 := NB716_707.out
             have hnc78 := NB707_716.out
             have hnb79 := NB716_712.out
             have hnc79 := NB712_716.out
             have hnb80 := NB716_720.out
             have hnc80 := NB720_716.out
             have hnb81 := NB716_724.out
             have hnc81 := NB724_716.out
             have hnb82 := NB716_728.out
             have hnc82 := NB728_716.out
             have hnb83 := NB716_732.out
             have hnc83 := NB732_716.out
             have hcz84_0 := zI BK716 0 rfl
             have hcz84_1 := zI BK716 1 rfl
             have hfz84_0 := zF BK716.out 0
             have hfz84_1 := zF BK716.out 1
             have hnb85 := NB720_707.out
             have hnc85 := NB707_720.out
             have hnb86 := NB720_712.out
             have hnc86 := NB712_720.out
             have hnb87 := NB720_724.out
             have hnc87 := NB724_720.out
             have hnb88 := NB720_728.out
             have hnc88 := NB728_720.out
             have hnb89 := NB720_732.out
             have hnc89 := NB732_720.out
             have hcz90_0 := zI BK720 0 rfl
             have hcz90_1 := zI BK720 1 rfl
             have hfz90_0 := zF BK720.out 0
             have hfz90_1 := zF BK720.out 1
             have hnb91 := NB712_707.out
             have hnc91 := NB707_712.out
             have hnb92 := NB712_724.out
             have hnc92 := NB724_712.out
             have hnb93 := NB712_728.out
             have hnc93 := NB728_712.out
             have hnb94 := NB712_732.out
             have hnc94 := NB732_712.out
             have hcz95_0 := zI BK712 0 rfl
             have hcz95_1 := zI BK712 1 rfl
             have hfz95_0 := zF BK712.out 0
             have hfz95_1 := zF BK712.out 1
             go_wp2_with (first | (go_at_call 31; (with_reducible refine (fraction_Cmp.calls kj5 t717 t718 t709 t710 t733 _ A76.out).mono ?_); rintro e w96 ⟨rfl, hb⟩; have n0_ := aK (zB (g := gb707) (o := .cells #[.int .i64 a2_0, .int .i64 a2_1] 33 (0, 0)) (by (with_reducible repeat (first | refine zN ?_ _ | refine zD ?_ | refine zA ?_ _)); refine blk_far ?_ NB707_732.out _; (with_reducible repeat (first | refine zN ?_ _ | refine zD ?_ | refine zA ?_ _)); refine blk_far ?_ NB707_732.out _; (with_reducible repeat (first | refine zN ?_ _ | refine zD ?_ | refine zA ?_ _)); exact BK707.out) hb); have n1_ := aK (zB (g := gb712) (o := .cells #[.int .i64 t709, .int .i64 t710] 33 (0, 0)) (by (with_reducible repeat (first | refine zN ?_ _ | refine zD ?_ | refine zA ?_ _)); refine blk_far ?_ NB712_732.out _; (with_reducible repeat (first | refine zN ?_ _ | refine zD ?_ | refine zA ?_ _)); refine blk_far ?_ NB712_732.out _; (with_reducible repeat (first | refine zN ?_ _ | refine zD ?_ | refine zA ?_ _)); exact BK712.out) hb); have n2_ := aK (zB (g := gb716) (o := .cells #[.int .i64 t713, .int .i64 t714] 33 (0, 0)) (by (with_reducible repeat (first | refine zN ?_ _ | refine zD ?_ | refine zA ?_ _)); refine blk_far ?_ NB716_732.out _; (with_reducible repeat (first | refine zN ?_ _ | refine zD ?_ | refine zA ?_ _)); refine blk_far ?_ NB716_732.out _; (with_reducible repeat (first | refine zN ?_ _ | refine zD ?_ | refine zA ?_ _)); exact BK716.out) hb); have n3_ := aK (zB (g := gb720) (o := .cells #[.int .i64 t717, .int .i64 t718] 33 (0, 0)) (by (with_reducible repeat (first | refine zN ?_ _ | refine zD ?_ | refine zA ?_ _)); refine blk_far ?_ NB720_732.out _; (with_reducible repeat (first | refine zN ?_ _ | refine zD ?_ | refine zA ?_ _)); refine blk_far ?_ NB720_732.out _; (with_reducible repeat (first | refine zN ?_ _ | refine zD ?_ | refine zA ?_ _)); exact BK720.out) hb); have n4_ := aK (zB (g := gb724) (o := .cells #[.int .i64 t721, .int .i64 t722] 33 (0, 0)) (by (with_reducible repeat (first | refine zN ?_ _ | refine zD ?_ | refine zA ?_ _)); refine blk_far ?_ NB724_732.out _; (with_reducible repeat (first | refine zN ?_ _ | refine zD ?_ | refine zA ?_ _)); refine blk_far ?_ NB724_732.out _; (with_reducible repeat (first | refine zN ?_ _ | refine zD ?_ | refine zA ?_ _)); exact BK724.out) hb); have n5_ := aK (zB (g := gb728) (o := .cells #[.int .i64 t725, .int .i64 t726] 33 (0, 0)) (by (with_reducible repeat (first | refine zN ?_ _ | refine zD ?_ | refine zA ?_ _)); refine blk_far ?_ NB728_732.out _; (with_reducible repeat (first | refine zN ?_ _ | refine zD ?_ | refine zA ?_ _)); refine blk_far ?_ NB728_732.out _; (with_reducible repeat (first | refine zN ?_ _ | refine zD ?_ | refine zA ?_ _)); exact BK728.out) hb); have n6_ := aK (zB (g := gb732) (o := .cells #[.int .i64 t729, .int .i64 t730] 33 (0, 0)) (by (with_reducible repeat (first | refine zN ?_ _ | refine zD ?_ | refine zA ?_ _)); refine blk_put (cs := #[.int .i64 t729, .int .i64 0]) ?_ 1 _ rfl; (with_reducible repeat (first | refine zN ?_ _ | refine zD ?_ | refine zA ?_ _)); refine blk_put (cs := #[.int .i64 0, .int .i64 0]) ?_ 0 _ rfl; (with_reducible repeat (first | refine zN ?_ _ | refine zD ?_ | refine zA ?_ _)); exact BK732.out) hb); have n7_ := aK (yT (by repeat (first | (with_reducible first | exact HB.out | apply yA | apply yN | apply yD | refine yS ?_ GE707.out | refine yS ?_ GE712.out | refine yS ?_ GE716.out | refine yS ?_ GE720.out | refine yS ?_ GE724.out | refine yS ?_ GE728.out | refine yS ?_ GE732.out) | exact HB.out)) hb); clear BK707; clear BK712; clear BK716; clear BK720; clear BK724; clear BK728; clear BK732; clear HB; have BK707 := n0_; have BK712 := n1_; have BK716 := n2_; have BK720 := n3_; have BK724 := n4_; have BK728 := n5_; have BK732 := n6_; have HB := n7_; clear n0_ n1_ n2_ n3_ n4_ n5_ n6_ n7_; (try clear hb); (try clear hb2); (try clear hk); (try clear hi)))
             go_meet
             case rel => exact ⟨_, (true), (by first | rfl | (simp; done) | (simp [*]; done)), H', ⟨by have := HJ5.out; first | omega | exact Nat.le_refl _⟩, ⟨by (with_reducible repeat (first | refine zN ?_ _ | refine zD ?_ | refine zA ?_ _)); exact BK707.out⟩, ⟨by (with_reducible repeat (first | refine zN ?_ _ | refine zD ?_ | refine zA ?_ _)); exact BK712.out⟩, ⟨by (with_reducible repeat (first | refine zN ?_ _ | refine zD ?_ | refine zA ?_ _)); exact BK716.out⟩, ⟨by (with_reducible repeat (first | refine zN ?_ _ | refine zD ?_ | refine zA ?_ _)); exact BK720.out⟩, ⟨by (with_reducible repeat (first | refine zN ?_ _ | refine zD ?_ | refine zA ?_ _)); exact BK724.out⟩, ⟨by (with_reducible repeat (first | refine zN ?_ _ | refine zD ?_ | refine zA ?_ _)); exact BK728.out⟩, ⟨by (with_reducible repeat (first | refine zN ?_ _ | refine zD ?_ | refine zA ?_ _)); exact BK732.out⟩, ⟨by repeat (first | (with_reducible first | exact HB.out | apply yA | apply yN | apply yD | refine yS ?_ GE707.out | refine yS ?_ GE712.out | refine yS ?_ GE716.out | refine yS ?_ GE720.out | refine yS ?_ GE724.out | refine yS ?_ GE728.out | refine yS ?_ GE732.out) | exact HB.out)⟩⟩
            ·rw [if_neg c77] at H
             have c77b0 : decide (t733 < 0) = false := decide_eq_false c77
             clear c77
             by_cases c97 : t731 = 0
             ·rw [if_pos c97] at H
              have c97b0 : (t731 == 0) = true := beq_iff_eq.mpr c97
              have c97b1 : (t731 != 0) = false := bne_eq_false_iff_eq.mpr c97
              clear c97
              have H' := aK H
              clear H
              have hnb98 := NB716_707.out
              have hnc98 := NB707_716.out
              have hnb99 := NB716_712.out
              have hnc99 := NB712_716.out
              have hnb100 := NB716_720.out
              have hnc100 := NB720_716.out
              have hnb101 := NB716_724.out
              have hnc101 := NB724_716.out
              have hnb102 := NB716_728.out
              have hnc102 := NB728_716.out
              have hnb103 := NB716_732.out
              have hnc103 := NB732_716.out
              have hcz104_0 := zI BK716 0 rfl
              have hcz104_1 := zI BK716 1 rfl
              have hfz104_0 := zF BK716.out 0
              have hfz104_1 := zF BK716.out 1
              have hnb105 := NB720_707.out
              have hnc105 := NB707_720.out
              have hnb106 := NB720_712.out
              have hnc106 := NB712_720.out
              have hnb107 := NB720_724.out
              have hnc107 := NB724_720.out
              have hnb108 := NB720_728.out
              have hnc108 := NB728_720.out
              have hnb109 := NB720_732.out
              have hnc109 := NB732_720.out
              have hcz110_0 := zI BK720 0 rfl
              have hcz110_1 := zI BK720 1 rfl
              have hfz110_0 := zF BK720.out 0
              have hfz110_1 := zF BK720.out 1
              have hnb111 := NB712_707.out
              have hnc111 := NB707_712.out
              have hnb112 := NB712_724.out
              have hnc112 := NB724_712.out
              have hnb113 := NB712_728.out
              have hnc113 := NB728_712.out
              have hnb114 := NB712_732.out
              have hnc114 := NB732_712.out
              have hcz115_0 := zI BK712 0 rfl
              have hcz115_1 := zI BK712 1 rfl
              have hfz115_0 := zF BK712.out 0
              have hfz115_1 := zF BK712.out 1
              go_wp2_with (first | (go_at_call 31; (with_reducible refine (fraction_Cmp.calls kj5 t717 t718 t709 t710 t733 _ A76.out).mono ?_); rintro e w116 ⟨rfl, hb⟩; have n0_ := aK (zB (g := gb707) (o := .cells #[.int .i64 a2_0, .int .i64 a2_1] 33 (0, 0)) (by (with_reducible repeat (first | refine zN ?_ _ | refine zD ?_ | refine zA ?_ _)); refine blk_far ?_ NB707_732.out _; (with_reducible repeat (first | refine zN ?_ _ | refine zD ?_ | refine zA ?_ _)); refine blk_far ?_ NB707_732.out _; (with_reducible repeat (first | refine zN ?_ _ | refine zD ?_ | refine zA ?_ _)); exact BK707.out) hb); have n1_ := aK (zB (g := gb712) (o := .cells #[.int .i64 t709, .int .i64 t710] 33 (0, 0)) (by (with_reducible repeat (first | refine zN ?_ _ | refine zD ?_ | refine zA ?_ _)); refine blk_far ?_ NB712_732.out _; (with_reducible repeat (first | refine zN ?_ _ | refine zD ?_ | refine zA ?_ _)); refine blk_far ?_ NB712_732.out _; (with_reducible repeat (first | refine zN ?_ _ | refine zD ?_ | refine zA ?_ _)); exact BK712.out) hb); have n2_ := aK (zB (g := gb716) (o := .cells #[.int .i64 t713, .int .i64 t714] 33 (0, 0)) (by (with_reducible repeat (first | refine zN ?_ _ | refine zD ?_ | refine zA ?_ _)); refine blk_far ?_ NB716_732.out _; (with_reducible repeat (first | refine zN ?_ _ | refine zD ?_ | refine zA ?_ _)); refine blk_far ?_ NB716_732.out _; (with_reducible repeat (first | refine zN ?_ _ | refine zD ?_ | refine zA ?_ _)); exact BK716.out) hb); have n3_ := aK (zB (g := gb720) (o := .cells #[.int .i64 t717, .int .i64 t718] 33 (0, 0)) (by (with_reducible repeat (first | refine zN ?_ _ | refine zD ?_ | refine zA ?_ _)); refine blk_far ?_ NB720_732.out _; (with_reducible repeat (first | refine zN ?_ _ | refine zD ?_ | refine zA ?_ _)); refine blk_far ?_ NB720_732.out _; (with_reducible repeat (first | refine zN ?_ _ | refine zD ?_ | refine zA ?_ _)); exact BK720.out) hb); have n4_ := aK (zB (g := gb724) (o := .cells #[.int .i64 t721, .int .i64 t722] 33 (0, 0)) (by (with_reducible repeat (first | refine zN ?_ _ | refine zD ?_ | refine zA ?_ _)); refine blk_far ?_ NB724_732.out _; (with_reducible repeat (first | refine zN ?_ _ | refine zD ?_ | refine zA ?_ _)); refine blk_far ?_ NB724_732.out _; (with_reducible repeat (first | refine zN ?_ _ | refine zD ?_ | refine zA ?_ _)); exact BK724.out) hb); have n5_ := aK (zB (g := gb728) (o := .cells #[.int .i64 t725, .int .i64 t726] 33 (0, 0)) (by (with_reducible repeat (first | refine zN ?_ _ | refine zD ?_ | refine zA ?_ _)); refine blk_far ?_ NB728_732.out _; (with_reducible repeat (first | refine zN ?_ _ | refine zD ?_ | refine zA ?_ _)); refine blk_far ?_ NB728_732.out _; (with_reducible repeat (first | refine zN ?_ _ | refine zD ?_ | refine zA ?_ _)); exact BK728.out) hb); have n6_ := aK (zB (g := gb732) (o := .cells #[.int .i64 t729, .int .i64 t730] 33 (0, 0)) (by (with_reducible repeat (first | refine zN ?_ _ | refine zD ?_ | refine zA ?_ _)); refine blk_put (cs := #[.int .i64 t729, .int .i64 0]) ?_ 1 _ rfl; (with_reducible repeat (first | refine zN ?_ _ | refine zD ?_ | refine zA ?_ _)); refine blk_put (cs := #[.int .i64 0, .int .i64 0]) ?_ 0 _ rfl; (with_reducible repeat (first | refine zN ?_ _ | refine zD ?_ | refine zA ?_ _)); exact BK732.out) hb); have n7_ := aK (yT (by repeat (first | (with_reducible first | exact HB.out | apply yA | apply yN | apply yD | refine yS ?_ GE707.out | refine yS ?_ GE712.out | refine yS ?_ GE716.out | refine yS ?_ GE720.out | refine yS ?_ GE724.out | refine yS ?_ GE728.out | refine yS ?_ GE732.out) | exact HB.out)) hb); clear BK707; clear BK712; clear BK716; clear BK720; clear BK724; clear BK728; clear BK732; clear HB; have BK707 := n0_; have BK712 := n1_; have BK716 := n2_; have BK720 := n3_; have BK724 := n4_; have BK728 := n5_; have BK732 := n6_; have HB := n7_; clear n0_ n1_ n2_ n3_ n4_ n5_ n6_ n7_; (try clear hb); (try clear hb2); (try clear hk); (try clear hi); have hnb117 := NB732_707.out; have hnc117 := NB707_732.out; have hnb118 := NB732_724.out; have hnc118 := NB724_732.out; have hnb119 := NB732_728.out; have hnc119 := NB728_732.out; have hcz120_0 := zI BK732 0 rfl; have hcz120_1 := zI BK732 1 rfl; have hfz120_0 := zF BK732.out 0; have hfz120_1 := zF BK732.out 1))
              go_meet
              case rel => exact ⟨_, ((!(t729 == 1) || (!(t730 == 1)))), (by first | rfl | (simp; done) | (simp [*]; done)), H', ⟨by have := HJ5.out; first | omega | exact Nat.le_refl _⟩, ⟨by (with_reducible repeat (first | refine zN ?_ _ | refine zD ?_ | refine zA ?_ _)); exact BK707.out⟩, ⟨by (with_reducible repeat (first | refine zN ?_ _ | refine zD ?_ | refine zA ?_ _)); exact BK712.out⟩, ⟨by (with_reducible repeat (first | refine zN ?_ _ | refine zD ?_ | refine zA ?_ _)); exact BK716.out⟩, ⟨by (with_reducible repeat (first | refine zN ?_ _ | refine zD ?_ | refine zA ?_ _)); exact BK720.out⟩, ⟨by (with_reducible repeat (first | refine zN ?_ _ | refine zD ?_ | refine zA ?_ _)); exact BK724.out⟩, ⟨by (with_reducible repeat (first | refine zN ?_ _ | refine zD ?_ | refine zA ?_ _)); exact BK728.out⟩, ⟨by (with_reducible repeat (first | refine zN ?_ _ | refine zD ?_ | refine zA ?_ _)); exact BK732.out⟩, ⟨by repeat (first | (with_reducible first | exact HB.out | apply yA | apply yN | apply yD | refine yS ?_ GE707.out | refine yS ?_ GE712.out | refine yS ?_ GE716.out | refine yS ?_ GE720.out | refine yS ?_ GE724.out | refine yS ?_ GE728.out | refine yS ?_ GE732.out) | exact HB.out)⟩⟩
             ·rw [if_neg c97] at H
              have c97b0 : (t731 == 0) = false := beq_eq_false_iff_ne.mpr c97
              have c97b1 : (t731 != 0) = true := bne_iff_ne.mpr c97
              have H' := aK H
              clear H
              have hnb121 := NB716_707.out
              have hnc121 := NB707_716.out
              have hnb122 := NB716_712.out
              have hnc122 := NB712_716.out
              have hnb123 := NB716_720.out
              have hnc123 := NB720_716.out
              have hnb124 := NB716_724.out
              have hnc124 := NB724_716.out
              have hnb125 := NB716_728.out
              have hnc125 := NB728_716.out
              have hnb126 := NB716_732.out
              have hnc126 := NB732_716.out
              have hcz127_0 := zI BK716 0 rfl
              have hcz127_1 := zI BK716 1 rfl
              have hfz127_0 := zF BK716.out 0
              have hfz127_1 := zF BK716.out 1
              have hnb128 := NB720_707.out
              have hnc128 := NB707_720.out
              have hnb129 := NB720_712.out
              have hnc129 := NB712_720.out
              have hnb130 := NB720_724.out
              have hnc130 := NB724_720.out
              have hnb131 := NB720_728.out
              have hnc131 := NB728_720.out
              have hnb132 := NB720_732.out
              have hnc132 := NB732_720.out
              have hcz133_0 := zI BK720 0 rfl
              have hcz133_1 := zI BK720 1 rfl
              have hfz133_0 := zF BK720.out 0
              have hfz133_1 := zF BK720.out 1
              have hnb134 := NB712_707.out
              have hnc134 := NB707_712.out
              have hnb135 := NB712_724.out
              have hnc135 := NB724_712.out
              have hnb136 := NB712_728.out
              have hnc136 := NB728_712.out
              have hnb137 := NB712_732.out
              have hnc137 := NB732_712.out
              have hcz138_0 := zI BK712 0 rfl
              have hcz138_1 := zI BK712 1 rfl
              have hfz138_0 := zF BK712.out 0
              have hfz138_1 := zF BK712.out 1
              go_wp2_with (first | (go_at_call 31; (with_reducible refine (fraction_Cmp.calls kj5 t717 t718 t709 t710 t733 _ A76.out).mono ?_); rintro e w139 ⟨rfl, hb⟩; have n0_ := aK (zB (g := gb707) (o := .cells #[.int .i64 a2_0, .int .i64 a2_1] 33 (0, 0)) (by (with_reducible repeat (first | refine zN ?_ _ | refine zD ?_ | refine zA ?_ _)); refine blk_far ?_ NB707_732.out _; (with_reducible repeat (first | refine zN ?_ _ | refine zD ?_ | refine zA ?_ _)); refine blk_far ?_ NB707_732.out _; (with_reducible repeat (first | refine zN ?_ _ | refine zD ?_ | refine zA ?_ _)); exact BK707.out) hb); have n1_ := aK (zB (g := gb712) (o := .cells #[.int .i64 t709, .int .i64 t710] 33 (0, 0)) (by (with_reducible repeat (first | refine zN ?_ _ | refine zD ?_ | refine zA ?_ _)); refine blk_far ?_ NB712_732.out _; (with_reducible repeat (first | refine zN ?_ _ | refine zD ?_ | refine zA ?_ _)); refine blk_far ?_ NB712_732.out _; (with_reducible repeat (first | refine zN ?_ _ | refine zD ?_ | refine zA ?_ _)); exact BK712.out) hb); have n2_ := aK (zB (g := gb716) (o := .cells #[.int .i64 t713, .int .i64 t714] 33 (0, 0)) (by (with_reducible repeat (first | refine zN ?_ _ | refine zD ?_ | refine zA ?_ _)); refine blk_far ?_ NB716_732.out _; (with_reducible repeat (first | refine zN ?_ _ | refine zD ?_ | refine zA ?_ _)); refine blk_far ?_ NB716_732.out _; (with_reducible repeat (first | refine zN ?_ _ | refine zD ?_ | refine zA ?_ _)); exact BK716.out) hb); have n3_ := aK (zB (g := gb720) (o := .cells #[.int .i64 t717, .int .i64 t718] 33 (0, 0)) (by (with_reducible repeat (first | refine zN ?_ _ | refine zD ?_ | refine zA ?_ _)); refine blk_far ?_ NB720_732.out _; (with_reducible repeat (first | refine zN ?_ _ | refine zD ?_ | refine zA ?_ _)); refine blk_far ?_ NB720_732.out _; (with_reducible repeat (first | refine zN ?_ _ | refine zD ?_ | refine zA ?_ _)); exact BK720.out) hb); have n4_ := aK (zB (g := gb724) (o := .cells #[.int .i64 t721, .int .i64 t722] 33 (0, 0)) (by (with_reducible repeat (first | refine zN ?_ _ | refine zD ?_ | refine zA ?_ _)); refine blk_far ?_ NB724_732.out _; (with_reducible repeat (first | refine zN ?_ _ | refine zD ?_ | refine zA ?_ _)); refine blk_far ?_ NB724_732.out _; (with_reducible repeat (first | refine zN ?_ _ | refine zD ?_ | refine zA ?_ _)); exact BK724.out) hb); have n5_ := aK (zB (g := gb728) (o := .cells #[.int .i64 t725, .int .i64 t726] 33 (0, 0)) (by (with_reducible repeat (first | refine zN ?_ _ | refine zD ?_ | refine zA ?_ _)); refine blk_far ?_ NB728_732.out _; (with_reducible repeat (first | refine zN ?_ _ | refine zD ?_ | refine zA ?_ _)); refine blk_far ?_ NB728_732.out _; (with_reducible repeat (first | refine zN ?_ _ | refine zD ?_ | refine zA ?_ _)); exact BK728.out) hb); have n6_ := aK (zB (g := gb732) (o := .cells #[.int .i64 t729, .int .i64 t730] 33 (0, 0)) (by (with_reducible repeat (first | refine zN ?_ _ | refine zD ?_ | refine zA ?_ _)); refine blk_put (cs := #[.int .i64 t729, .int .i64 0]) ?_ 1 _ rfl; (with_reducible repeat (first | refine zN ?_ _ | refine zD ?_ | refine zA ?_ _)); refine blk_put (cs := #[.int .i64 0, .int .i64 0]) ?_ 0 _ rfl; (with_reducible repeat (first | refine zN ?_ _ | refine zD ?_ | refine zA ?_ _)); exact BK732.out) hb); have n7_ := aK (yT (by repeat (first | (with_reducible first | exact HB.out | apply yA | apply yN | apply yD | refine yS ?_ GE707.out | refine yS ?_ GE712.out | refine yS ?_ GE716.out | refine yS ?_ GE720.out | refine yS ?_ GE724.out | refine yS ?_ GE728.out | refine yS ?_ GE732.out) | exact HB.out)) hb); clear BK707; clear BK712; clear BK716; clear BK720; clear BK724; clear BK728; clear BK732; clear HB; have BK707 := n0_; have BK712 := n1_; have BK716 := n2_; have BK720 := n3_; have BK724 := n4_; have BK728 := n5_; have BK732 := n6_; have HB := n7_; clear n0_ n1_ n2_ n3_ n4_ n5_ n6_ n7_; (try clear hb); (try clear hb2); (try clear hk); (try clear hi)))
              go_meet
              case rel => exact ⟨_, (false), (by first | rfl | (simp; done) | (simp [*]; done)), H', ⟨by have := HJ5.out; first | omega | exact Nat.le_refl _⟩, ⟨by (with_reducible repeat (first | refine zN ?_ _ | refine zD ?_ | refine zA ?_ _)); exact BK707.out⟩, ⟨by (with_reducible repeat (first | refine zN ?_ _ | refine zD ?_ | refine zA ?_ _)); exact BK712.out⟩, ⟨by (with_reducible repeat (first | refine zN ?_ _ | refine zD ?_ | refine zA ?_ _)); exact BK716.out⟩, ⟨by (with_reducible repeat (first | refine zN ?_ _ | refine zD ?_ | refine zA ?_ _)); exact BK720.out⟩, ⟨by (with_reducible repeat (first | refine zN ?_ _ | refine zD ?_ | refine zA ?_ _)); exact BK724.out⟩, ⟨by (with_reducible repeat (first | refine zN ?_ _ | refine zD ?_ | refine zA ?_ _)); exact BK728.out⟩, ⟨by (with_reducible repeat (first | refine zN ?_ _ | refine zD ?_ | refine zA ?_ _)); exact BK732.out⟩, ⟨by repeat (first | (with_reducible first | exact HB.out | apply yA | apply yN | apply yD | refine yS ?_ GE707.out | refine yS ?_ GE712.out | refine yS ?_ GE716.out | refine yS ?_ GE720.out | refine yS ?_ GE724.out | refine yS ?_ GE728.out | refine yS ?_ GE732.out) | exact HB.out)⟩⟩
          ·rw [if_neg c67] at H
           have c67b0 : (t727 == 0) = false := beq_eq_false_iff_ne.mpr c67
           have c67b1 : (t727 != 0) = true := bne_iff_ne.mpr c67
           have H' := aK H
           clear H
           go_wp2
           go_meet
           case rel => exact ⟨_, (true), (by first | rfl | (simp; done) | (simp [*]; done)), H', ⟨by have := HJ5.out; first | omega | exact Nat.le_refl _⟩, ⟨by (with_reducible repeat (first | refine zN ?_ _ | refine zD ?_ | refine zA ?_ _)); refine blk_far ?_ NB707_732.out _; (with_reducible repeat (first | refine zN ?_ _ | refine zD ?_ | refine zA ?_ _)); refine blk_far ?_ NB707_732.out _; (with_reducible repeat (first | refine zN ?_ _ | refine zD ?_ | refine zA ?_ _)); exact BK707.out⟩, ⟨by (with_reducible repeat (first | refine zN ?_ _ | refine zD ?_ | refine zA ?_ _)); refine blk_far ?_ NB712_732.out _; (with_reducible repeat (first | refine zN ?_ _ | refine zD ?_ | refine zA ?_ _)); refine blk_far ?_ NB712_732.out _; (with_reducible repeat (first | refine zN ?_ _ | refine zD ?_ | refine zA ?_ _)); exact BK712.out⟩, ⟨by (with_reducible repeat (first | refine zN ?_ _ | refine zD ?_ | refine zA ?_ _)); refine blk_far ?_ NB716_732.out _; (with_reducible repeat (first | refine zN ?_ _ | refine zD ?_ | refine zA ?_ _)); refine blk_far ?_ NB716_732.out _; (with_reducible repeat (first | refine zN ?_ _ | refine zD ?_ | refine zA ?_ _)); exact BK716.out⟩, ⟨by (with_reducible repeat (first | refine zN ?_ _ | refine zD ?_ | refine zA ?_ _)); refine blk_far ?_ NB720_732.out _; (with_reducible repeat (first | refine zN ?_ _ | refine zD ?_ | refine zA ?_ _)); refine blk_far ?_ NB720_732.out _; (with_reducible repeat (first | refine zN ?_ _ | refine zD ?_ | refine zA ?_ _)); exact BK720.out⟩, ⟨by (with_reducible repeat (first | refine zN ?_ _ | refine zD ?_ | refine zA ?_ _)); refine blk_far ?_ NB724_732.out _; (with_reducible repeat (first | refine zN ?_ _ | refine zD ?_ | refine zA ?_ _)); refine blk_far ?_ NB724_732.out _; (with_reducible repeat (first | refine zN ?_ _ | refine zD ?_ | refine zA ?_ _)); exact BK724.out⟩, ⟨by (with_reducible repeat (first | refine zN ?_ _ | refine zD ?_ | refine zA ?_ _)); refine blk_far ?_ NB728_732.out _; (with_reducible repeat (first | refine zN ?_ _ | refine zD ?_ | refine zA ?_ _)); refine blk_far ?_ NB728_732.out _; (with_reducible repeat (first | refine zN ?_ _ | refine zD ?_ | refine zA ?_ _)); exact BK728.out⟩, ⟨by (with_reducible repeat (first | refine zN ?_ _ | refine zD ?_ | refine zA ?_ _)); refine blk_put (cs := #[.int .i64 t729, .int .i64 0]) ?_ 1 _ rfl; (with_reducible repeat (first | refine zN ?_ _ | refine zD ?_ | refine zA ?_ _)); refine blk_put (cs := #[.int .i64 0, .int .i64 0]) ?_ 0 _ rfl; (with_reducible repeat (first | refine zN ?_ _ | refine zD ?_ | refine zA ?_ _)); exact BK732.out⟩, ⟨by repeat (first | (with_reducible first | exact HB.out | apply yA | apply yN | apply yD | refine yS ?_ GE707.out | refine yS ?_ GE712.out | refine yS ?_ GE716.out | refine yS ?_ GE720.out | refine yS ?_ GE724.out | refine yS ?_ GE728.out | refine yS ?_ GE732.out) | exact HB.out)⟩⟩
         ·rw [if_neg c66] at H
          have c66b0 : (t723 == 0) = false := beq_eq_false_iff_ne.mpr c66
          have c66b1 : (t723 != 0) = true := bne_iff_ne.mpr c66
          have H' := aK H
          clear H
          go_wp2
          go_meet
          case rel => exact ⟨_, (true), (by first | rfl | (simp; done) | (simp [*]; done)), H', ⟨by have := HJ5.out; first | omega | exact Nat.le_refl _⟩, ⟨by (with_reducible repeat (first | refine zN ?_ _ | refine zD ?_ | refine zA ?_ _)); refine blk_far ?_ NB707_732.out _; (with_reducible repeat (first | refine zN ?_ _ | refine zD ?_ | refine zA ?_ _)); refine blk_far ?_ NB707_732.out _; (with_reducible repeat (first | refine zN ?_ _ | refine zD ?_ | refine zA ?_ _)); exact BK707.out⟩, ⟨by (with_reducible repeat (first | refine zN ?_ _ | refine zD ?_ | refine zA ?_ _)); refine blk_far ?_ NB712_732.out _; (with_reducible repeat (first | refine zN ?_ _ | refine zD ?_ | refine zA ?_ _)); refine blk_far ?_ NB712_732.out _; (with_reducible repeat (first | refine zN ?_ _ | refine zD ?_ | refine zA ?_ _)); exact BK712.out⟩, ⟨by (with_reducible repeat (first | refine zN ?_ _ | refine zD ?_ | refine zA ?_ _)); refine blk_far ?_ NB716_732.out _; (with_reducible repeat (first | refine zN ?_ _ | refine zD ?_ | refine zA ?_ _)); refine blk_far ?_ NB716_732.out _; (with_reducible repeat (first | refine zN ?_ _ | refine zD ?_ | refine zA ?_ _)); exact BK716.out⟩, ⟨by (with_reducible repeat (first | refine zN ?_ _ | refine zD ?_ | refine zA ?_ _)); refine blk_far ?_ NB720_732.out _; (with_reducible repeat (first | refine zN ?_ _ | refine zD ?_ | refine zA ?_ _)); refine blk_far ?_ NB720_732.out _; (with_reducible repeat (first | refine zN ?_ _ | refine zD ?_ | refine zA ?_ _)); exact BK720.out⟩, ⟨by (with_reducible repeat (first | refine zN ?_ _ | refine zD ?_ | refine zA ?_ _)); refine blk_far ?_ NB724_732.out _; (with_reducible repeat (first | refine zN ?_ _ | refine zD ?_ | refine zA ?_ _)); refine blk_far ?_ NB724_732.out _; (with_reducible repeat (first | refine zN ?_ _ | refine zD ?_ | refine zA ?_ _)); exact BK724.out⟩, ⟨by (with_reducible repeat (first | refine zN ?_ _ | refine zD ?_ | refine zA ?_ _)); refine blk_far ?_ NB728_732.out _; (with_reducible repeat (first | refine zN ?_ _ | refine zD ?_ | refine zA ?_ _)); refine blk_far ?_ NB728_732.out _; (with_reducible repeat (first | refine zN ?_ _ | refine zD ?_ | refine zA ?_ _)); exact BK728.out⟩, ⟨by (with_reducible repeat (first | refine zN ?_ _ | refine zD ?_ | refine zA ?_ _)); refine blk_put (cs := #[.int .i64 t729, .int .i64 0]) ?_ 1 _ rfl; (with_reducible repeat (first | refine zN ?_ _ | refine zD ?_ | refine zA ?_ _)); refine blk_put (cs := #[.int .i64 0, .int .i64 0]) ?_ 0 _ rfl; (with_reducible repeat (first | refine zN ?_ _ | refine zD ?_ | refine zA ?_ _)); exact BK732.out⟩, ⟨by repeat (first | (with_reducible first | exact HB.out | apply yA | apply yN | apply yD | refine yS ?_ GE707.out | refine yS ?_ GE712.out | refine yS ?_ GE716.out | refine yS ?_ GE720.out | refine yS ?_ GE724.out | refine yS ?_ GE728.out | refine yS ?_ GE732.out) | exact HB.out)⟩⟩
        ·rw [if_neg c65] at H
         have c65b0 : (t719 == 0) = false := beq_eq_false_iff_ne.mpr c65
         have c65b1 : (t719 != 0) = true := bne_iff_ne.mpr c65
         have H' := aK H
         clear H
         go_wp2
         go_meet
         case rel => exact ⟨_, (true), (by first | rfl | (simp; done) | (simp [*]; done)), H', ⟨by have := HJ5.out; first | omega | exact Nat.le_refl _⟩, ⟨by (with_reducible repeat (first | refine zN ?_ _ | refine zD ?_ | refine zA ?_ _)); refine blk_far ?_ NB707_732.out _; (with_reducible repeat (first | refine zN ?_ _ | refine zD ?_ | refine zA ?_ _)); refine blk_far ?_ NB707_732.out _; (with_reducible repeat (first | refine zN ?_ _ | refine zD ?_ | refine zA ?_ _)); exact BK707.out⟩, ⟨by (with_reducible repeat (first | refine zN ?_ _ | refine zD ?_ | refine zA ?_ _)); refine blk_far ?_ NB712_732.out _; (with_reducible repeat (first | refine zN ?_ _ | refine zD ?_ | refine zA ?_ _)); refine blk_far ?_ NB712_732.out _; (with_reducible repeat (first | refine zN ?_ _ | refine zD ?_ | refine zA ?_ _)); exact BK712.out⟩, ⟨by (with_reducible repeat (first | refine zN ?_ _ | refine zD ?_ | refine zA ?_ _)); refine blk_far ?_ NB716_732.out _; (with_reducible repeat (first | refine zN ?_ _ | refine zD ?_ | refine zA ?_ _)); refine blk_far ?_ NB716_732.out _; (with_reducible repeat (first | refine zN ?_ _ | refine zD ?_ | refine zA ?_ _)); exact BK716.out⟩, ⟨by (with_reducible repeat (first | refine zN ?_ _ | refine zD ?_ | refine zA ?_ _)); refine blk_far ?_ NB720_732.out _; (with_reducible repeat (first | refine zN ?_ _ | refine zD ?_ | refine zA ?_ _)); refine blk_far ?_ NB720_732.out _; (with_reducible repeat (first | refine zN ?_ _ | refine zD ?_ | refine zA ?_ _)); exact BK720.out⟩, ⟨by (with_reducible repeat (first | refine zN ?_ _ | refine zD ?_ | refine zA ?_ _)); refine blk_far ?_ NB724_732.out _; (with_reducible repeat (first | refine zN ?_ _ | refine zD ?_ | refine zA ?_ _)); refine blk_far ?_ NB724_732.out _; (with_reducible repeat (first | refine zN ?_ _ | refine zD ?_ | refine zA ?_ _)); exact BK724.out⟩, ⟨by (with_reducible repeat (first | refine zN ?_ _ | refine zD ?_ | refine zA ?_ _)); refine blk_far ?_ NB728_732.out _; (with_reducible repeat (first | refine zN ?_ _ | refine zD ?_ | refine zA ?_ _)); refine blk_far ?_ NB728_732.out _; (with_reducible repeat (first | refine zN ?_ _ | refine zD ?_ | refine zA ?_ _)); exact BK728.out⟩, ⟨by (with_reducible repeat (first | refine zN ?_ _ | refine zD ?_ | refine zA ?_ _)); refine blk_put (cs := #[.int .i64 t729, .int .i64 0]) ?_ 1 _ rfl; (with_reducible repeat (first | refine zN ?_ _ | refine zD ?_ | refine zA ?_ _)); refine blk_put (cs := #[.int .i64 0, .int .i64 0]) ?_ 0 _ rfl; (with_reducible repeat (first | refine zN ?_ _ | refine zD ?_ | refine zA ?_ _)); exact BK732.out⟩, ⟨by repeat (first | (with_reducible first | exact HB.out | apply yA | apply yN | apply yD | refine yS ?_ GE707.out | refine yS ?_ GE712.out | refine yS ?_ GE716.out | refine yS ?_ GE720.out | refine yS ?_ GE724.out | refine yS ?_ GE728.out | refine yS ?_ GE732.out) | exact HB.out)⟩⟩
       ·rw [if_neg c64] at H
        have c64b0 : (t715 == 0) = false := beq_eq_false_iff_ne.mpr c64
        have c64b1 : (t715 != 0) = true := bne_iff_ne.mpr c64
        (first | rw [c64b0] | (simp only [i64_w, i32_w]; rw [c64b0]) | skip)
        have H' := aK H
        clear H
        go_wp2
        go_meet
        case rel => exact ⟨_, (true), (by first | rfl | (simp; done) | (simp [*]; done)), H', ⟨by have := HJ5.out; first | omega | exact Nat.le_refl _⟩, ⟨by (with_reducible repeat (first | refine zN ?_ _ | refine zD ?_ | refine zA ?_ _)); refine blk_far ?_ NB707_732.out _; (with_reducible repeat (first | refine zN ?_ _ | refine zD ?_ | refine zA ?_ _)); refine blk_far ?_ NB707_732.out _; (with_reducible repeat (first | refine zN ?_ _ | refine zD ?_ | refine zA ?_ _)); exact BK707.out⟩, ⟨by (with_reducible repeat (first | refine zN ?_ _ | refine zD ?_ | refine zA ?_ _)); refine blk_far ?_ NB712_732.out _; (with_reducible repeat (first | refine zN ?_ _ | refine zD ?_ | refine zA ?_ _)); refine blk_far ?_ NB712_732.out _; (with_reducible repeat (first | refine zN ?_ _ | refine zD ?_ | refine zA ?_ _)); exact BK712.out⟩, ⟨by (with_reducible repeat (first | refine zN ?_ _ | refine zD ?_ | refine zA ?_ _)); refine blk_far ?_ NB716_732.out _; (with_reducible repeat (first | refine zN ?_ _ | refine zD ?_ | refine zA ?_ _)); refine blk_far ?_ NB716_732.out _; (with_reducible repeat (first | refine zN ?_ _ | refine zD ?_ | refine zA ?_ _)); exact BK716.out⟩, ⟨by (with_reducible repeat (first | refine zN ?_ _ | refine zD ?_ | refine zA ?_ _)); refine blk_far ?_ NB720_732.out _; (with_reducible repeat (first | refine zN ?_ _ | refine zD ?_ | refine zA ?_ _)); refine blk_far ?_ NB720_732.out _; (with_reducible repeat (first | refine zN ?_ _ | refine zD ?_ | refine zA ?_ _)); exact BK720.out⟩, ⟨by (with_reducible repeat (first | refine zN ?_ _ | refine zD ?_ | refine zA ?_ _)); refine blk_far ?_ NB724_732.out _; (with_reducible repeat (first | refine zN ?_ _ | refine zD ?_ | refine zA ?_ _)); refine blk_far ?_ NB724_732.out _; (with_reducible repeat (first | refine zN ?_ _ | refine zD ?_ | refine zA ?_ _)); exact BK724.out⟩, ⟨by (with_reducible repeat (first | refine zN ?_ _ | refine zD ?_ | refine zA ?_ _)); refine blk_far ?_ NB728_732.out _; (with_reducible repeat (first | refine zN ?_ _ | refine zD ?_ | refine zA ?_ _)); refine blk_far ?_ NB728_732.out _; (with_reducible repeat (first | refine zN ?_ _ | refine zD ?_ | refine zA ?_ _)); exact BK728.out⟩, ⟨by (with_reducible repeat (first | refine zN ?_ _ | refine zD ?_ | refine zA ?_ _)); refine blk_put (cs := #[.int .i64 t729, .int .i64 0]) ?_ 1 _ rfl; (with_reducible repeat (first | refine zN ?_ _ | refine zD ?_ | refine zA ?_ _)); refine blk_put (cs := #[.int .i64 0, .int .i64 0]) ?_ 0 _ rfl; (with_reducible repeat (first | refine zN ?_ _ | refine zD ?_ | refine zA ?_ _)); exact BK732.out⟩, ⟨by repeat (first | (with_reducible first | exact HB.out | apply yA | apply yN | apply yD | refine yS ?_ GE707.out | refine yS ?_ GE712.out | refine yS ?_ GE716.out | refine yS ?_ GE720.out | refine yS ?_ GE724.out | refine yS ?_ GE728.out | refine yS ?_ GE732.out) | exact HB.out)⟩⟩
      case rest =>
       clear HC19
       try clear c1
       try clear c2
       try clear p2
       try clear c3
       try clear c4
       try clear c5
       try clear c6
       try clear p6
       try clear c7
       try clear c8
       try clear c9
       try clear c9b0
       try clear c10
       try clear c10b0
       try clear c11
       try clear c12
       try clear c13
       try clear c13b0
       try clear c13b1
       try clear c20
       try clear c23
       try clear c28
       try clear c29
       try clear c30
       try clear c34
       try clear c35
       try clear c36
       try clear c41
       try clear c42
       try clear c43
       try clear c44
       try clear c48
       try clear c49
       try clear c50
       try clear c51
       try clear c52
       try clear c57
       try clear c58
       try clear c59
       try clear c60
       try clear c61
       try clear c62
       try clear c64
       try clear c64b0
       try clear c64b1
       try clear p64
       try clear c65
       try clear c65b0
       try clear c65b1
       try clear c66
       try clear c66b0
       try clear c66b1
       try clear c67
       try clear c67b0
       try clear c67b1
       try clear c68
       try clear c68b0
       try clear c69
       try clear c70
       try clear c71
       try clear c72
       try clear c73
       try clear c74
       try clear c77
       try clear c77b0
       try clear c78
       try clear c79
       try clear c80
       try clear c81
       try clear c82
       try clear c83
       try clear c85
       try clear c86
       try clear c87
       try clear c88
       try clear c89
       try clear c91
       try clear c92
       try clear c93
       try clear c94
       try clear c97
       try clear c97b0
       try clear c97b1
       try clear c98
       try clear c99
       try clear c100
       try clear c101
       try clear c102
       try clear c103
       try clear c105
       try clear c106
       try clear c107
       try clear c108
       try clear c109
       try clear c111
       try clear c112
       try clear c113
       try clear c114
       try clear c117
       try clear c118
       try clear c119
       try clear c121
       try clear c122
       try clear c123
       try clear c124
       try clear c125
       try clear c126
       try clear c128
       try clear c129
       try clear c130
       try clear c131
       try clear c132
       try clear c134
       try clear c135
       try clear c136
       try clear c137
       try clear hcz104_0
       try clear hcz104_1
       try clear hcz110_0
       try clear hcz110_1
       try clear hcz115_0
       try clear hcz115_1
       try clear hcz120_0
       try clear hcz120_1
       try clear hcz127_0
       try clear hcz127_1
       try clear hcz133_0
       try clear hcz133_1
       try clear hcz138_0
       try clear hcz138_1
       try clear hcz20_0
       try clear hcz20_1
       try clear hcz24_0
       try clear hcz24_1
       try clear hcz25_0
       try clear hcz25_1
       try clear hcz30_0
       try clear hcz30_1
       try clear hcz31_0
       try clear hcz31_1
       try clear hcz37_0
       try clear hcz37_1
       try clear hcz38_0
       try clear hcz38_1
       try clear hcz45_0
       try clear hcz45_1
       try clear hcz53_0
       try clear hcz53_1
       try clear hcz54_0
       try clear hcz54_1
       try clear hcz63_0
       try clear hcz63_1
       try clear hcz75_0
       try clear hcz75_1
       try clear hcz84_0
       try clear hcz84_1
       try clear hcz90_0
       try clear hcz90_1
       try clear hcz95_0
       try clear hcz95_1
       try clear hfz104_0
       try clear hfz104_1
       try clear hfz110_0
       try clear hfz110_1
       try clear hfz115_0
       try clear hfz115_1
       try clear hfz120_0
       try clear hfz120_1
       try clear hfz127_0
       try clear hfz127_1
       try clear hfz133_0
       try clear hfz133_1
       try clear hfz138_0
       try clear hfz138_1
       try clear hfz20_0
       try clear hfz20_1
       try clear hfz24_0
       try clear hfz24_1
       try clear hfz25_0
       try clear hfz25_1
       try clear hfz30_0
       try clear hfz30_1
       try clear hfz31_0
       try clear hfz31_1
       try clear hfz37_0
       try clear hfz37_1
       try clear hfz38_0
       try clear hfz38_1
       try clear hfz45_0
       try clear hfz45_1
       try clear hfz53_0
       try clear hfz53_1
       try clear hfz54_0
       try clear hfz54_1
       try clear hfz63_0
       try clear hfz63_1
       try clear hfz75_0
       try clear hfz75_1
       try clear hfz84_0
       try clear hfz84_1
       try clear hfz90_0
       try clear hfz90_1
       try clear hfz95_0
       try clear hfz95_1
       try clear p2
       obtain ⟨kq, x119_18, rfl, HA, HJ18, BK707, BK712, BK716, BK720, BK724, BK728, BK732, HB⟩ := hcut
       cases kq with
       | zero => exact absurd HA.out (by simp [gangsawlaw33_SampleBinomial.j1])
       | succ kj18 =>
        have H := HA.out
        clear HA
        simp only [gangsawlaw33_SampleBinomial.j1] at H
        by_cases c140 : x119_18 = true
        ·subst c140
         have H1 : (some false) = some r := by rw [if_pos rfl] at H; exact H
         clear H
         have H := H1
         clear H1
         obtain rfl := Option.some.inj H
         exact absurd hr (by decide)
        ·replace c140 := Bool.eq_false_iff.mpr c140
         subst c140
         have H1 : ((sample_Confidence.f kj18 (wrap64 (a0 + 1)) a1 a2_0 a2_1).bind fun bt734 => (if bt734.2.2 = 6 then (some true) else (if bt734.2.2 = 0 then ((fraction_Cmp.f kj18 bt734.1 bt734.2.1 t709 t710).bind fun t738 => (some (decide (t738 ≥ 0)))) else (some false)))) = some r := by rw [if_neg (show ¬ (false = true) by decide)] at H; exact H
         clear H
         have H := H1
         clear H1
         replace H := Option.bind_eq_some_iff.mp H
         obtain ⟨⟨t734, t735, t736⟩, A1410, H⟩ := H
         replace H : (if t736 = 6 then (some true) else (if t736 = 0 then ((fraction_Cmp.f kj18 t734 t735 t709 t710).bind fun t738 => (some (decide (t738 ≥ 0)))) else (some false))) = some r := H
         have A141 := aK A1410
         clear A1410
         by_cases c142 : t736 = 6
         ·rw [if_pos c142] at H
          have c142b0 : (t736 == 6) = true := beq_iff_eq.mpr c142
          have c142b1 : (t736 != 6) = false := bne_eq_false_iff_eq.mpr c142
          clear c142
          obtain rfl := Option.some.inj H
          simp only [Option.some.injEq, Prod.mk.injEq] at H
          obtain ⟨rfl⟩ := H
          have hnb143 := NB707_712.out
          have hnc143 := NB712_707.out
          have hnb144 := NB707_716.out
          have hnc144 := NB716_707.out
          have hnb145 := NB707_720.out
          have hnc145 := NB720_707.out
          have hnb146 := NB707_724.out
          have hnc146 := NB724_707.out
          have hnb147 := NB707_728.out
          have hnc147 := NB728_707.out
          have hnb148 := NB707_732.out
          have hnc148 := NB732_707.out
          have hcz149_0 := zI BK707 0 rfl
          have hcz149_1 := zI BK707 1 rfl
          have hfz149_0 := zF BK707.out 0
          have hfz149_1 := zF BK707.out 1
          go_wp2_with (first | ((with_reducible refine gate_callee (f := 20) rfl ?_); refine goesL_ (some 125) rfl rfl Try.func20 (by kernel_rfl) rfl #[.int .i64 (wrap64 (a0 + 1)), .int .i64 a1, .agg #[.int .i64 a2_0, .int .i64 a2_1]] rfl (by (try simp only [List.map_toArray, List.map_cons, List.map_nil]); first | done | rfl | (simp only [List.length_drop, List.length_take]; rfl)) ?_; (with_reducible refine (sample_Confidence.calls kj18 (wrap64 (a0 + 1)) a1 a2_0 a2_1 t734 t735 t736 _ A141.out).mono ?_); rintro e w150 ⟨rfl, hb⟩; refine ⟨_, rfl, ?_⟩; have n0_ := zG BK707 hb (fun h => by (with_reducible repeat (first | refine zN ?_ _ | refine zD ?_ | refine zA ?_ _)); exact h); have n1_ := zG BK712 hb (fun h => by (with_reducible repeat (first | refine zN ?_ _ | refine zD ?_ | refine zA ?_ _)); exact h); have n2_ := zG BK716 hb (fun h => by (with_reducible repeat (first | refine zN ?_ _ | refine zD ?_ | refine zA ?_ _)); exact h); have n3_ := zG BK720 hb (fun h => by (with_reducible repeat (first | refine zN ?_ _ | refine zD ?_ | refine zA ?_ _)); exact h); have n4_ := zG BK724 hb (fun h => by (with_reducible repeat (first | refine zN ?_ _ | refine zD ?_ | refine zA ?_ _)); exact h); have n5_ := zG BK728 hb (fun h => by (with_reducible repeat (first | refine zN ?_ _ | refine zD ?_ | refine zA ?_ _)); exact h); have n6_ := zG BK732 hb (fun h => by (with_reducible repeat (first | refine zN ?_ _ | refine zD ?_ | refine zA ?_ _)); exact h); have n7_ := aK (yT (by repeat (first | (with_reducible first | exact HB.out | apply yA | apply yN | apply yD | refine yS ?_ GE707.out | refine yS ?_ GE712.out | refine yS ?_ GE716.out | refine yS ?_ GE720.out | refine yS ?_ GE724.out | refine yS ?_ GE728.out | refine yS ?_ GE732.out) | exact HB.out)) hb); clear BK707; clear BK712; clear BK716; clear BK720; clear BK724; clear BK728; clear BK732; clear HB; have BK707 := n0_; have BK712 := n1_; have BK716 := n2_; have BK720 := n3_; have BK724 := n4_; have BK728 := n5_; have BK732 := n6_; have HB := n7_; clear n0_ n1_ n2_ n3_ n4_ n5_ n6_ n7_; (try clear hb); (try clear hb2); (try clear hk); (try clear hi)) | ((with_reducible refine gate_dst (N := 19) rfl ?_); refine box_event ?hg (N := 19) ?hd (cs := #[.int .i64 0, .int .i64 0]) (t := 33) ?hr ?_; (case hd => rfl); (case hg => rfl); (case hr => first | (go_simp; done) | (go_simp; rfl)); intro gb737 hg w151 hbox hb; have n0_ := zG BK707 hb (fun h => by (with_reducible repeat (first | refine zN ?_ _ | refine zD ?_ | refine zA ?_ _)); exact h); have n1_ := zG BK712 hb (fun h => by (with_reducible repeat (first | refine zN ?_ _ | refine zD ?_ | refine zA ?_ _)); exact h); have n2_ := zG BK716 hb (fun h => by (with_reducible repeat (first | refine zN ?_ _ | refine zD ?_ | refine zA ?_ _)); exact h); have n3_ := zG BK720 hb (fun h => by (with_reducible repeat (first | refine zN ?_ _ | refine zD ?_ | refine zA ?_ _)); exact h); have n4_ := zG BK724 hb (fun h => by (with_reducible repeat (first | refine zN ?_ _ | refine zD ?_ | refine zA ?_ _)); exact h); have n5_ := zG BK728 hb (fun h => by (with_reducible repeat (first | refine zN ?_ _ | refine zD ?_ | refine zA ?_ _)); exact h); have n6_ := zG BK732 hb (fun h => by (with_reducible repeat (first | refine zN ?_ _ | refine zD ?_ | refine zA ?_ _)); exact h); have ⟨n7_, n9_⟩ := zV (w := w) hb hg (by repeat (first | (with_reducible first | exact HB.out | apply yA | apply yN | apply yD | refine yS ?_ GE707.out | refine yS ?_ GE712.out | refine yS ?_ GE716.out | refine yS ?_ GE720.out | refine yS ?_ GE724.out | refine yS ?_ GE728.out | refine yS ?_ GE732.out) | exact HB.out)); have n8_ := aK (hbox); have n10_ := n9_; have n11_ := aK ((by rw [hg]; exact Nat.ne_of_lt (blk_lt (g := gb707) (o := .cells #[.int .i64 a2_0, .int .i64 a2_1] 33 (0, 0)) (by (with_reducible repeat (first | refine zN ?_ _ | refine zD ?_ | refine zA ?_ _)); exact BK707.out)) : gb707 ≠ gb737)); have n12_ := aK ((by rw [hg]; exact Nat.ne_of_gt (blk_lt (g := gb707) (o := .cells #[.int .i64 a2_0, .int .i64 a2_1] 33 (0, 0)) (by (with_reducible repeat (first | refine zN ?_ _ | refine zD ?_ | refine zA ?_ _)); exact BK707.out)) : gb737 ≠ gb707)); have n13_ := aK ((by rw [hg]; exact Nat.ne_of_lt (blk_lt (g := gb712) (o := .cells #[.int .i64 t709, .int .i64 t710] 33 (0, 0)) (by (with_reducible repeat (first | refine zN ?_ _ | refine zD ?_ | refine zA ?_ _)); exact BK712.out)) : gb712 ≠ gb737)); have n14_ := aK ((by rw [hg]; exact Nat.ne_of_gt (blk_lt (g := gb712) (o := .cells #[.int .i64 t709, .int .i64 t710] 33 (0, 0)) (by (with_reducible repeat (first | refine zN ?_ _ | refine zD ?_ | refine zA ?_ _)); exact BK712.out)) : gb737 ≠ gb712)); have n15_ := aK ((by rw [hg]; exact Nat.ne_of_lt (blk_lt (g := gb716) (o := .cells #[.int .i64 t713, .int .i64 t714] 33 (0, 0)) (by (with_reducible repeat (first | refine zN ?_ _ | refine zD ?_ | refine zA ?_ _)); exact BK716.out)) : gb716 ≠ gb737)); have n16_ := aK ((by rw [hg]; exact Nat.ne_of_gt (blk_lt (g := gb716) (o := .cells #[.int .i64 t713, .int .i64 t714] 33 (0, 0)) (by (with_reducible repeat (first | refine zN ?_ _ | refine zD ?_ | refine zA ?_ _)); exact BK716.out)) : gb737 ≠ gb716)); have n17_ := aK ((by rw [hg]; exact Nat.ne_of_lt (blk_lt (g := gb720) (o := .cells #[.int .i64 t717, .int .i64 t718] 33 (0, 0)) (by (with_reducible repeat (first | refine zN ?_ _ | refine zD ?_ | refine zA ?_ _)); exact BK720.out)) : gb720 ≠ gb737)); have n18_ := aK ((by rw [hg]; exact Nat.ne_of_gt (blk_lt (g := gb720) (o := .cells #[.int .i64 t717, .int .i64 t718] 33 (0, 0)) (by (with_reducible repeat (first | refine zN ?_ _ | refine zD ?_ | refine zA ?_ _)); exact BK720.out)) : gb737 ≠ gb720)); have n19_ := aK ((by rw [hg]; exact Nat.ne_of_lt (blk_lt (g := gb724) (o := .cells #[.int .i64 t721, .int .i64 t722] 33 (0, 0)) (by (with_reducible repeat (first | refine zN ?_ _ | refine zD ?_ | refine zA ?_ _)); exact BK724.out)) : gb724 ≠ gb737)); have n20_ := aK ((by rw [hg]; exact Nat.ne_of_gt (blk_lt (g := gb724) (o := .cells #[.int .i64 t721, .int .i64 t722] 33 (0, 0)) (by (with_reducible repeat (first | refine zN ?_ _ | refine zD ?_ | refine zA ?_ _)); exact BK724.out)) : gb737 ≠ gb724)); have n21_ := aK ((by rw [hg]; exact Nat.ne_of_lt (blk_lt (g := gb728) (o := .cells #[.int .i64 t725, .int .i64 t726] 33 (0, 0)) (by (with_reducible repeat (first | refine zN ?_ _ | refine zD ?_ | refine zA ?_ _)); exact BK728.out)) : gb728 ≠ gb737)); have n22_ := aK ((by rw [hg]; exact Nat.ne_of_gt (blk_lt (g := gb728) (o := .cells #[.int .i64 t725, .int .i64 t726] 33 (0, 0)) (by (with_reducible repeat (first | refine zN ?_ _ | refine zD ?_ | refine zA ?_ _)); exact BK728.out)) : gb737 ≠ gb728)); have n23_ := aK ((by rw [hg]; exact Nat.ne_of_lt (blk_lt (g := gb732) (o := .cells #[.int .i64 t729, .int .i64 t730] 33 (0, 0)) (by (with_reducible repeat (first | refine zN ?_ _ | refine zD ?_ | refine zA ?_ _)); exact BK732.out)) : gb732 ≠ gb737)); have n24_ := aK ((by rw [hg]; exact Nat.ne_of_gt (blk_lt (g := gb732) (o := .cells #[.int .i64 t729, .int .i64 t730] 33 (0, 0)) (by (with_reducible repeat (first | refine zN ?_ _ | refine zD ?_ | refine zA ?_ _)); exact BK732.out)) : gb737 ≠ gb732)); clear BK707; clear BK712; clear BK716; clear BK720; clear BK724; clear BK728; clear BK732; clear HB; have BK707 := n0_; have BK712 := n1_; have BK716 := n2_; have BK720 := n3_; have BK724 := n4_; have BK728 := n5_; have BK732 := n6_; have HB := n7_; have BK737 := n8_; have GW737 := n9_; have GE737 := n10_; have NB707_737 := n11_; have NB737_707 := n12_; have NB712_737 := n13_; have NB737_712 := n14_; have NB716_737 := n15_; have NB737_716 := n16_; have NB720_737 := n17_; have NB737_720 := n18_; have NB724_737 := n19_; have NB737_724 := n20_; have NB728_737 := n21_; have NB737_728 := n22_; have NB732_737 := n23_; have NB737_732 := n24_; clear n0_ n1_ n2_ n3_ n4_ n5_ n6_ n7_ n8_ n9_ n10_ n11_ n12_ n13_ n14_ n15_ n16_ n17_ n18_ n19_ n20_ n21_ n22_ n23_ n24_; clear hb hbox hg; have hnb152 := NB737_707.out; have hnc152 := NB707_737.out; have hnb153 := NB737_712.out; have hnc153 := NB712_737.out; have hnb154 := NB737_716.out; have hnc154 := NB716_737.out; have hnb155 := NB737_720.out; have hnc155 := NB720_737.out; have hnb156 := NB737_724.out; have hnc156 := NB724_737.out; have hnb157 := NB737_728.out; have hnc157 := NB728_737.out; have hnb158 := NB737_732.out; have hnc158 := NB732_737.out; have hcz159_0 := zI BK737 0 rfl; have hcz159_1 := zI BK737 1 rfl; have hfz159_0 := zF BK737.out 0; have hfz159_1 := zF BK737.out 1))
          go_ret
          exact ⟨by first | rfl | (simp [errW_none, errW_some] <;> rfl) | (simp [*, errW_none, errW_some] <;> rfl), by repeat (first | (with_reducible first | exact HB.out | apply yA | apply yN | apply yD | refine yS ?_ GE707.out | refine yS ?_ GE712.out | refine yS ?_ GE716.out | refine yS ?_ GE720.out | refine yS ?_ GE724.out | refine yS ?_ GE728.out | refine yS ?_ GE732.out | refine yS ?_ GE737.out) | exact HB.out)⟩
         ·rw [if_neg c142] at H
          have c142b0 : (t736 == 6) = false := beq_eq_false_iff_ne.mpr c142
          have c142b1 : (t736 != 6) = true := bne_iff_ne.mpr c142
          by_cases c160 : t736 = 0
          ·rw [if_pos c160] at H
           have c160b0 : (t736 == 0) = true := beq_iff_eq.mpr c160
           have c160b1 : (t736 != 0) = false := bne_eq_false_iff_eq.mpr c160
           clear c160
           replace H := Option.bind_eq_some_iff.mp H
           obtain ⟨t738, A1610, H⟩ := H
           replace H : (some (decide (t738 ≥ 0))) = some r := H
           have A161 := aK A1610
           clear A1610
           obtain rfl := Option.some.inj H
           simp only [Option.some.injEq, Prod.mk.injEq] at H
           obtain ⟨rfl⟩ := H
           have hnb162 := NB707_712.out
           have hnc162 := NB712_707.out
           have hnb163 := NB707_716.out
           have hnc163 := NB716_707.out
           have hnb164 := NB707_720.out
           have hnc164 := NB720_707.out
           have hnb165 := NB707_724.out
           have hnc165 := NB724_707.out
           have hnb166 := NB707_728.out
           have hnc166 := NB728_707.out
           have hnb167 := NB707_732.out
           have hnc167 := NB732_707.out
           have hcz168_0 := zI BK707 0 rfl
           have hcz168_1 := zI BK707 1 rfl
           have hfz168_0 := zF BK707.out 0
           have hfz168_1 := zF BK707.out 1
           go_wp2_with (first | ((with_reducible refine gate_callee (f := 20) rfl ?_); refine goesL_ (some 125) rfl rfl Try.func20 (by kernel_rfl) rfl #[.int .i64 (wrap64 (a0 + 1)), .int .i64 a1, .agg #[.int .i64 a2_0, .int .i64 a2_1]] rfl (by (try simp only [List.map_toArray, List.map_cons, List.map_nil]); first | done | rfl | (simp only [List.length_drop, List.length_take]; rfl)) ?_; (with_reducible refine (sample_Confidence.calls kj18 (wrap64 (a0 + 1)) a1 a2_0 a2_1 t734 t735 t736 _ A141.out).mono ?_); rintro e w169 ⟨rfl, hb⟩; refine ⟨_, rfl, ?_⟩; have n0_ := zG BK707 hb (fun h => by (with_reducible repeat (first | refine zN ?_ _ | refine zD ?_ | refine zA ?_ _)); exact h); have n1_ := zG BK712 hb (fun h => by (with_reducible repeat (first | refine zN ?_ _ | refine zD ?_ | refine zA ?_ _)); exact h); have n2_ := zG BK716 hb (fun h => by (with_reducible repeat (first | refine zN ?_ _ | refine zD ?_ | refine zA ?_ _)); exact h); have n3_ := zG BK720 hb (fun h => by (with_reducible repeat (first | refine zN ?_ _ | refine zD ?_ | refine zA ?_ _)); exact h); have n4_ := zG BK724 hb (fun h => by (with_reducible repeat (first | refine zN ?_ _ | refine zD ?_ | refine zA ?_ _)); exact h); have n5_ := zG BK728 hb (fun h => by (with_reducible repeat (first | refine zN ?_ _ | refine zD ?_ | refine zA ?_ _)); exact h); have n6_ := zG BK732 hb (fun h => by (with_reducible repeat (first | refine zN ?_ _ | refine zD ?_ | refine zA ?_ _)); exact h); have n7_ := aK (yT (by repeat (first | (with_reducible first | exact HB.out | apply yA | apply yN | apply yD | refine yS ?_ GE707.out | refine yS ?_ GE712.out | refine yS ?_ GE716.out | refine yS ?_ GE720.out | refine yS ?_ GE724.out | refine yS ?_ GE728.out | refine yS ?_ GE732.out) | exact HB.out)) hb); clear BK707; clear BK712; clear BK716; clear BK720; clear BK724; clear BK728; clear BK732; clear HB; have BK707 := n0_; have BK712 := n1_; have BK716 := n2_; have BK720 := n3_; have BK724 := n4_; have BK728 := n5_; have BK732 := n6_; have HB := n7_; clear n0_ n1_ n2_ n3_ n4_ n5_ n6_ n7_; (try clear hb); (try clear hb2); (try clear hk); (try clear hi)) | ((with_reducible refine gate_dst (N := 19) rfl ?_); refine box_event ?hg (N := 19) ?hd (cs := #[.int .i64 0, .int .i64 0]) (t := 33) ?hr ?_; (case hd => rfl); (case hg => rfl); (case hr => first | (go_simp; done) | (go_simp; rfl)); intro gb737 hg w170 hbox hb; have n0_ := zG BK707 hb (fun h => by (with_reducible repeat (first | refine zN ?_ _ | refine zD ?_ | refine zA ?_ _)); exact h); have n1_ := zG BK712 hb (fun h => by (with_reducible repeat (first | refine zN ?_ _ | refine zD ?_ | refine zA ?_ _)); exact h); have n2_ := zG BK716 hb (fun h => by (with_reducible repeat (first | refine zN ?_ _ | refine zD ?_ | refine zA ?_ _)); exact h); have n3_ := zG BK720 hb (fun h => by (with_reducible repeat (first | refine zN ?_ _ | refine zD ?_ | refine zA ?_ _)); exact h); have n4_ := zG BK724 hb (fun h => by (with_reducible repeat (first | refine zN ?_ _ | refine zD ?_ | refine zA ?_ _)); exact h); have n5_ := zG BK728 hb (fun h => by (with_reducible repeat (first | refine zN ?_ _ | refine zD ?_ | refine zA ?_ _)); exact h); have n6_ := zG BK732 hb (fun h => by (with_reducible repeat (first | refine zN ?_ _ | refine zD ?_ | refine zA ?_ _)); exact h); have ⟨n7_, n9_⟩ := zV (w := w) hb hg (by repeat (first | (with_reducible first | exact HB.out | apply yA | apply yN | apply yD | refine yS ?_ GE707.out | refine yS ?_ GE712.out | refine yS ?_ GE716.out | refine yS ?_ GE720.out | refine yS ?_ GE724.out | refine yS ?_ GE728.out | refine yS ?_ GE732.out) | exact HB.out)); have n8_ := aK (hbox); have n10_ := n9_; have n11_ := aK ((by rw [hg]; exact Nat.ne_of_lt (blk_lt (g := gb707) (o := .cells #[.int .i64 a2_0, .int .i64 a2_1] 33 (0, 0)) (by (with_reducible repeat (first | refine zN ?_ _ | refine zD ?_ | refine zA ?_ _)); exact BK707.out)) : gb707 ≠ gb737)); have n12_ := aK ((by rw [hg]; exact Nat.ne_of_gt (blk_lt (g := gb707) (o := .cells #[.int .i64 a2_0, .int .i64 a2_1] 33 (0, 0)) (by (with_reducible repeat (first | refine zN ?_ _ | refine zD ?_ | refine zA ?_ _)); exact BK707.out)) : gb737 ≠ gb707)); have n13_ := aK ((by rw [hg]; exact Nat.ne_of_lt (blk_lt (g := gb712) (o := .cells #[.int .i64 t709, .int .i64 t710] 33 (0, 0)) (by (with_reducible repeat (first | refine zN ?_ _ | refine zD ?_ | refine zA ?_ _)); exact BK712.out)) : gb712 ≠ gb737)); have n14_ := aK ((by rw [hg]; exact Nat.ne_of_gt (blk_lt (g := gb712) (o := .cells #[.int .i64 t709, .int .i64 t710] 33 (0, 0)) (by (with_reducible repeat (first | refine zN ?_ _ | refine zD ?_ | refine zA ?_ _)); exact BK712.out)) : gb737 ≠ gb712)); have n15_ := aK ((by rw [hg]; exact Nat.ne_of_lt (blk_lt (g := gb716) (o := .cells #[.int .i64 t713, .int .i64 t714] 33 (0, 0)) (by (with_reducible repeat (first | refine zN ?_ _ | refine zD ?_ | refine zA ?_ _)); exact BK716.out)) : gb716 ≠ gb737)); have n16_ := aK ((by rw [hg]; exact Nat.ne_of_gt (blk_lt (g := gb716) (o := .cells #[.int .i64 t713, .int .i64 t714] 33 (0, 0)) (by (with_reducible repeat (first | refine zN ?_ _ | refine zD ?_ | refine zA ?_ _)); exact BK716.out)) : gb737 ≠ gb716)); have n17_ := aK ((by rw [hg]; exact Nat.ne_of_lt (blk_lt (g := gb720) (o := .cells #[.int .i64 t717, .int .i64 t718] 33 (0, 0)) (by (with_reducible repeat (first | refine zN ?_ _ | refine zD ?_ | refine zA ?_ _)); exact BK720.out)) : gb720 ≠ gb737)); have n18_ := aK ((by rw [hg]; exact Nat.ne_of_gt (blk_lt (g := gb720) (o := .cells #[.int .i64 t717, .int .i64 t718] 33 (0, 0)) (by (with_reducible repeat (first | refine zN ?_ _ | refine zD ?_ | refine zA ?_ _)); exact BK720.out)) : gb737 ≠ gb720)); have n19_ := aK ((by rw [hg]; exact Nat.ne_of_lt (blk_lt (g := gb724) (o := .cells #[.int .i64 t721, .int .i64 t722] 33 (0, 0)) (by (with_reducible repeat (first | refine zN ?_ _ | refine zD ?_ | refine zA ?_ _)); exact BK724.out)) : gb724 ≠ gb737)); have n20_ := aK ((by rw [hg]; exact Nat.ne_of_gt (blk_lt (g := gb724) (o := .cells #[.int .i64 t721, .int .i64 t722] 33 (0, 0)) (by (with_reducible repeat (first | refine zN ?_ _ | refine zD ?_ | refine zA ?_ _)); exact BK724.out)) : gb737 ≠ gb724)); have n21_ := aK ((by rw [hg]; exact Nat.ne_of_lt (blk_lt (g := gb728) (o := .cells #[.int .i64 t725, .int .i64 t726] 33 (0, 0)) (by (with_reducible repeat (first | refine zN ?_ _ | refine zD ?_ | refine zA ?_ _)); exact BK728.out)) : gb728 ≠ gb737)); have n22_ := aK ((by rw [hg]; exact Nat.ne_of_gt (blk_lt (g := gb728) (o := .cells #[.int .i64 t725, .int .i64 t726] 33 (0, 0)) (by (with_reducible repeat (first | refine zN ?_ _ | refine zD ?_ | refine zA ?_ _)); exact BK728.out)) : gb737 ≠ gb728)); have n23_ := aK ((by rw [hg]; exact Nat.ne_of_lt (blk_lt (g := gb732) (o := .cells #[.int .i64 t729, .int .i64 t730] 33 (0, 0)) (by (with_reducible repeat (first | refine zN ?_ _ | refine zD ?_ | refine zA ?_ _)); exact BK732.out)) : gb732 ≠ gb737)); have n24_ := aK ((by rw [hg]; exact Nat.ne_of_gt (blk_lt (g := gb732) (o := .cells #[.int .i64 t729, .int .i64 t730] 33 (0, 0)) (by (with_reducible repeat (first | refine zN ?_ _ | refine zD ?_ | refine zA ?_ _)); exact BK732.out)) : gb737 ≠ gb732)); clear BK707; clear BK712; clear BK716; clear BK720; clear BK724; clear BK728; clear BK732; clear HB; have BK707 := n0_; have BK712 := n1_; have BK716 := n2_; have BK720 := n3_; have BK724 := n4_; have BK728 := n5_; have BK732 := n6_; have HB := n7_; have BK737 := n8_; have GW737 := n9_; have GE737 := n10_; have NB707_737 := n11_; have NB737_707 := n12_; have NB712_737 := n13_; have NB737_712 := n14_; have NB716_737 := n15_; have NB737_716 := n16_; have NB720_737 := n17_; have NB737_720 := n18_; have NB724_737 := n19_; have NB737_724 := n20_; have NB728_737 := n21_; have NB737_728 := n22_; have NB732_737 := n23_; have NB737_732 := n24_; clear n0_ n1_ n2_ n3_ n4_ n5_ n6_ n7_ n8_ n9_ n10_ n11_ n12_ n13_ n14_ n15_ n16_ n17_ n18_ n19_ n20_ n21_ n22_ n23_ n24_; clear hb hbox hg; have hnb171 := NB737_707.out; have hnc171 := NB707_737.out; have hnb172 := NB737_712.out; have hnc172 := NB712_737.out; have hnb173 := NB737_716.out; have hnc173 := NB716_737.out; have hnb174 := NB737_720.out; have hnc174 := NB720_737.out; have hnb175 := NB737_724.out; have hnc175 := NB724_737.out; have hnb176 := NB737_728.out; have hnc176 := NB728_737.out; have hnb177 := NB737_732.out; have hnc177 := NB732_737.out; have hcz178_0 := zI BK737 0 rfl; have hcz178_1 := zI BK737 1 rfl; have hfz178_0 := zF BK737.out 0; have hfz178_1 := zF BK737.out 1; have hnb179 := NB712_716.out; have hnc179 := NB716_712.out; have hnb180 := NB712_720.out; have hnc180 := NB720_712.out; have hnb181 := NB712_724.out; have hnc181 := NB724_712.out; have hnb182 := NB712_728.out; have hnc182 := NB728_712.out; have hnb183 := NB712_732.out; have hnc183 := NB732_712.out; have hcz184_0 := zI BK712 0 rfl; have hcz184_1 := zI BK712 1 rfl; have hfz184_0 := zF BK712.out 0; have hfz184_1 := zF BK712.out 1) | (go_at_call 31; (with_reducible refine (fraction_Cmp.calls kj18 t734 t735 t709 t710 t738 _ A161.out).mono ?_); rintro e w185 ⟨rfl, hb⟩; have n0_ := aK (zB (g := gb707) (o := .cells #[.int .i64 a2_0, .int .i64 a2_1] 33 (0, 0)) (by (with_reducible repeat (first | refine zN ?_ _ | refine zD ?_ | refine zA ?_ _)); refine blk_far ?_ NB707_737.out _; (with_reducible repeat (first | refine zN ?_ _ | refine zD ?_ | refine zA ?_ _)); refine blk_far ?_ NB707_737.out _; (with_reducible repeat (first | refine zN ?_ _ | refine zD ?_ | refine zA ?_ _)); exact BK707.out) hb); have n1_ := aK (zB (g := gb712) (o := .cells #[.int .i64 t709, .int .i64 t710] 33 (0, 0)) (by (with_reducible repeat (first | refine zN ?_ _ | refine zD ?_ | refine zA ?_ _)); refine blk_far ?_ NB712_737.out _; (with_reducible repeat (first | refine zN ?_ _ | refine zD ?_ | refine zA ?_ _)); refine blk_far ?_ NB712_737.out _; (with_reducible repeat (first | refine zN ?_ _ | refine zD ?_ | refine zA ?_ _)); exact BK712.out) hb); have n2_ := aK (zB (g := gb716) (o := .cells #[.int .i64 t713, .int .i64 t714] 33 (0, 0)) (by (with_reducible repeat (first | refine zN ?_ _ | refine zD ?_ | refine zA ?_ _)); refine blk_far ?_ NB716_737.out _; (with_reducible repeat (first | refine zN ?_ _ | refine zD ?_ | refine zA ?_ _)); refine blk_far ?_ NB716_737.out _; (with_reducible repeat (first | refine zN ?_ _ | refine zD ?_ | refine zA ?_ _)); exact BK716.out) hb); have n3_ := aK (zB (g := gb720) (o := .cells #[.int .i64 t717, .int .i64 t718] 33 (0, 0)) (by (with_reducible repeat (first | refine zN ?_ _ | refine zD ?_ | refine zA ?_ _)); refine blk_far ?_ NB720_737.out _; (with_reducible repeat (first | refine zN ?_ _ | refine zD ?_ | refine zA ?_ _)); refine blk_far ?_ NB720_737.out _; (with_reducible repeat (first | refine zN ?_ _ | refine zD ?_ | refine zA ?_ _)); exact BK720.out) hb); have n4_ := aK (zB (g := gb724) (o := .cells #[.int .i64 t721, .int .i64 t722] 33 (0, 0)) (by (with_reducible repeat (first | refine zN ?_ _ | refine zD ?_ | refine zA ?_ _)); refine blk_far ?_ NB724_737.out _; (with_reducible repeat (first | refine zN ?_ _ | refine zD ?_ | refine zA ?_ _)); refine blk_far ?_ NB724_737.out _; (with_reducible repeat (first | refine zN ?_ _ | refine zD ?_ | refine zA ?_ _)); exact BK724.out) hb); have n5_ := aK (zB (g := gb728) (o := .cells #[.int .i64 t725, .int .i64 t726] 33 (0, 0)) (by (with_reducible repeat (first | refine zN ?_ _ | refine zD ?_ | refine zA ?_ _)); refine blk_far ?_ NB728_737.out _; (with_reducible repeat (first | refine zN ?_ _ | refine zD ?_ | refine zA ?_ _)); refine blk_far ?_ NB728_737.out _; (with_reducible repeat (first | refine zN ?_ _ | refine zD ?_ | refine zA ?_ _)); exact BK728.out) hb); have n6_ := aK (zB (g := gb732) (o := .cells #[.int .i64 t729, .int .i64 t730] 33 (0, 0)) (by (with_reducible repeat (first | refine zN ?_ _ | refine zD ?_ | refine zA ?_ _)); refine blk_far ?_ NB732_737.out _; (with_reducible repeat (first | refine zN ?_ _ | refine zD ?_ | refine zA ?_ _)); refine blk_far ?_ NB732_737.out _; (with_reducible repeat (first | refine zN ?_ _ | refine zD ?_ | refine zA ?_ _)); exact BK732.out) hb); have n7_ := aK (zB (g := gb737) (o := .cells #[.int .i64 t734, .int .i64 t735] 33 (0, 0)) (by (with_reducible repeat (first | refine zN ?_ _ | refine zD ?_ | refine zA ?_ _)); refine blk_put (cs := #[.int .i64 t734, .int .i64 0]) ?_ 1 _ rfl; (with_reducible repeat (first | refine zN ?_ _ | refine zD ?_ | refine zA ?_ _)); refine blk_put (cs := #[.int .i64 0, .int .i64 0]) ?_ 0 _ rfl; (with_reducible repeat (first | refine zN ?_ _ | refine zD ?_ | refine zA ?_ _)); exact BK737.out) hb); have n8_ := aK (yT (by repeat (first | (with_reducible first | exact HB.out | apply yA | apply yN | apply yD | refine yS ?_ GE707.out | refine yS ?_ GE712.out | refine yS ?_ GE716.out | refine yS ?_ GE720.out | refine yS ?_ GE724.out | refine yS ?_ GE728.out | refine yS ?_ GE732.out | refine yS ?_ GE737.out) | exact HB.out)) hb); clear BK707; clear BK712; clear BK716; clear BK720; clear BK724; clear BK728; clear BK732; clear BK737; clear HB; have BK707 := n0_; have BK712 := n1_; have BK716 := n2_; have BK720 := n3_; have BK724 := n4_; have BK728 := n5_; have BK732 := n6_; have BK737 := n7_; have HB := n8_; clear n0_ n1_ n2_ n3_ n4_ n5_ n6_ n7_ n8_; (try clear hb); (try clear hb2); (try clear hk); (try clear hi)))
           go_ret
           exact ⟨by first | rfl | (simp [errW_none, errW_some] <;> rfl) | (simp [*, errW_none, errW_some] <;> rfl), by repeat (first | (with_reducible first | exact HB.out | apply yA | apply yN | apply yD | refine yS ?_ GE707.out | refine yS ?_ GE712.out | refine yS ?_ GE716.out | refine yS ?_ GE720.out | refine yS ?_ GE724.out | refine yS ?_ GE728.out | refine yS ?_ GE732.out | refine yS ?_ GE737.out) | exact HB.out)⟩
          ·rw [if_neg c160] at H
           have c160b0 : (t736 == 0) = false := beq_eq_false_iff_ne.mpr c160
           have c160b1 : (t736 != 0) = true := bne_iff_ne.mpr c160
           obtain rfl := Option.some.inj H
           exact absurd hr (by decide)
     ·rw [if_neg c13] at H
      have c13b0 : (t711 == 0) = false := beq_eq_false_iff_ne.mpr c13
      have c13b1 : (t711 != 0) = true := bne_iff_ne.mpr c13
      obtain rfl := Option.some.inj H
      simp only [Option.some.injEq, Prod.mk.injEq] at H
      obtain ⟨rfl⟩ := H
      have hcz186_0 := zI BK707 0 rfl
      have hcz186_1 := zI BK707 1 rfl
      have hfz186_0 := zF BK707.out 0
      have hfz186_1 := zF BK707.out 1
      go_wp2_with (first | ((with_reducible refine gate_callee (f := 20) rfl ?_); refine goesL_ (some 37) rfl rfl Try.func20 (by kernel_rfl) rfl #[.int .i64 a0, .int .i64 a1, .agg #[.int .i64 a2_0, .int .i64 a2_1]] rfl (by (try simp only [List.map_toArray, List.map_cons, List.map_nil]); first | done | rfl | (simp only [List.length_drop, List.length_take]; rfl)) ?_; (with_reducible refine (sample_Confidence.calls kj5 a0 a1 a2_0 a2_1 t709 t710 t711 _ A12.out).mono ?_); rintro e w187 ⟨rfl, hb⟩; refine ⟨_, rfl, ?_⟩; have n0_ := zG BK707 hb (fun h => by (with_reducible repeat (first | refine zN ?_ _ | refine zD ?_ | refine zA ?_ _)); exact h); have n1_ := aK (yT (by repeat (first | (with_reducible first | exact HB.out | apply yA | apply yN | apply yD | refine yS ?_ GE707.out) | exact HB.out)) hb); clear BK707; clear HB; have BK707 := n0_; have HB := n1_; clear n0_ n1_; (try clear hb); (try clear hb2); (try clear hk); (try clear hi)) | ((with_reducible refine gate_dst (N := 7) rfl ?_); refine box_event ?hg (N := 7) ?hd (cs := #[.int .i64 0, .int .i64 0]) (t := 33) ?hr ?_; (case hd => rfl); (case hg => rfl); (case hr => first | (go_simp; done) | (go_simp; rfl)); intro gb712 hg w188 hbox hb; have n0_ := zG BK707 hb (fun h => by (with_reducible repeat (first | refine zN ?_ _ | refine zD ?_ | refine zA ?_ _)); exact h); have ⟨n1_, n3_⟩ := zV (w := w) hb hg (by repeat (first | (with_reducible first | exact HB.out | apply yA | apply yN | apply yD | refine yS ?_ GE707.out) | exact HB.out)); have n2_ := aK (hbox); have n4_ := n3_; have n5_ := aK ((by rw [hg]; exact Nat.ne_of_lt (blk_lt (g := gb707) (o := .cells #[.int .i64 a2_0, .int .i64 a2_1] 33 (0, 0)) (by (with_reducible repeat (first | refine zN ?_ _ | refine zD ?_ | refine zA ?_ _)); exact BK707.out)) : gb707 ≠ gb712)); have n6_ := aK ((by rw [hg]; exact Nat.ne_of_gt (blk_lt (g := gb707) (o := .cells #[.int .i64 a2_0, .int .i64 a2_1] 33 (0, 0)) (by (with_reducible repeat (first | refine zN ?_ _ | refine zD ?_ | refine zA ?_ _)); exact BK707.out)) : gb712 ≠ gb707)); clear BK707; clear HB; have BK707 := n0_; have HB := n1_; have BK712 := n2_; have GW712 := n3_; have GE712 := n4_; have NB707_712 := n5_; have NB712_707 := n6_; clear n0_ n1_ n2_ n3_ n4_ n5_ n6_; clear hb hbox hg; have hnb189 := NB712_707.out; have hnc189 := NB707_712.out; have hcz190_0 := zI BK712 0 rfl; have hcz190_1 := zI BK712 1 rfl; have hfz190_0 := zF BK712.out 0; have hfz190_1 := zF BK712.out 1))
      go_ret
      exact ⟨by first | rfl | (simp [errW_none, errW_some] <;> rfl) | (simp [*, errW_none, errW_some] <;> rfl), by repeat (first | (with_reducible first | exact HB.out | apply yA | apply yN | apply yD | refine yS ?_ GE707.out | refine yS ?_ GE712.out) | exact HB.out)⟩
 ·replace c5 := Bool.eq_false_iff.mpr c5
  subst c5
  have H1 : (some false) = some r := by rw [if_neg (show ¬ (false = true) by decide)] at H; exact H
  clear H
  have H := H1
  clear H1
  obtain rfl := Option.some.inj H
  exact absurd hr (by decide)

end Go.Proofs.Ythkpgjjakdbbfaa.P
