/- What functions of the program return: each contract says so of one function, for every input at which its pure function yields. -/
import Derived.Test.YthkpgjjakdbbfaaPx0
import Derived.Test.YthkpgjjakdbbfaaPx23
import Derived.Test.YthkpgjjakdbbfaaPx24
namespace Go.Proofs.Ythkpgjjakdbbfaa.P
open Go.RowKit Go.Proofs.YthkpgjjakdbbfaaW.PrintWords Go.Proofs.YthkpgjjakdbbfaaW.PrintLast Go.Proofs.YthkpgjjakdbbfaaW.PrintMore
attribute [local go_sem] max2_int min2_int max_two min_two max_three min_three max_four min_four   -- for this text's walks alone
set_option linter.unusedVariables false
set_option linter.unusedSimpArgs false

def gangsawref04_common.l0 : Nat → Int → Int → Bool → Int → Int → Bool → Option (Int × Int × Bool)
 | 0, _, _, _, _, _, _ => none
 | k + 1, x497000, x497001, x497002, x498000, x498001, x498002 => (gangsawref04_wide_zero.f x498000 x498001 x498002).bind fun t499 => (if t499 = true then (some (x497000, x497001, false)) else ((gangsawref04_divide.f k x497000 x497001 x497002 x498000 x498001 x498002).bind fun bt500 => (gangsawref04_common.l0 k x498000 x498001 x498002 bt500.2.2.2.1 bt500.2.2.2.2.1 bt500.2.2.2.2.2)))
def gangsawref04_common.f (k : Nat) (a0_0 : Int) (a0_1 : Int) (a0_2 : Bool) (a1_0 : Int) (a1_1 : Int) (a1_2 : Bool) : Option (Int × Int × Bool) := gangsawref04_common.l0 k a0_0 a0_1 a0_2 a1_0 a1_1 a1_2
set_option maxHeartbeats 8000000 in
set_option maxRecDepth 100000 in
theorem gangsawref04_common.calls (k : Nat) (a0_0 : Int) (a0_1 : Int) (a0_2 : Bool) (a1_0 : Int) (a1_1 : Int) (a1_2 : Bool) (r1 : Int) (r2 : Int) (r3 : Bool) (w : World) (h : gangsawref04_common.f k a0_0 a0_1 a0_2 a1_0 a1_1 a1_2 = some (r1, r2, r3)) :
  Calls Try.prog 91 #[.agg #[.int .u64 a0_0, .int .u64 a0_1, .bool a0_2], .agg #[.int .u64 a1_0, .int .u64 a1_1, .bool a1_2]] w fun e w' => e = .returned (.agg #[.int .u64 r1, .int .u64 r2, .bool r3]) ∧ Below w.heap.size w w' := by
 have hu82 := Try.underlying82
 have HB := aK (Below.refl w.heap.size w)
 have H : (gangsawref04_common.l0 k a0_0 a0_1 a0_2 a1_0 a1_1 a1_2) = some (r1, r2, r3) := h
 clear h
 have H' := aK H
 clear H
 go_enter Try.func91, Try.ntmps91
 go_wp2_with (first | ((with_reducible refine gate_dst (N := 2) rfl ?_); refine box_event ?hg (N := 2) ?hd (cs := #[.int .u64 a0_0, .int .u64 a0_1, .bool a0_2]) (t := 82) ?hr ?_; (case hd => rfl); (case hg => rfl); (case hr => first | (go_simp; done) | (go_simp; rfl)); intro gb496 hg w3 hbox hb; have ⟨n0_, n2_⟩ := zV (w := w) hb hg (by repeat (first | (with_reducible first | exact HB.out | apply yA | apply yN | apply yD) | exact HB.out)); have n1_ := aK (hbox); have n3_ := n2_; clear HB; have HB := n0_; have BK496 := n1_; have GW496 := n2_; have GE496 := n3_; clear n0_ n1_ n2_ n3_; clear hb hbox hg) | ((with_reducible refine gate_dst (N := 3) rfl ?_); refine box_event ?hg (N := 3) ?hd (cs := #[.int .u64 a1_0, .int .u64 a1_1, .bool a1_2]) (t := 82) ?hr ?_; (case hd => rfl); (case hg => rfl); (case hr => first | (go_simp; done) | (go_simp; rfl)); intro gb497 hg w4 hbox hb; have n0_ := zG BK496 hb (fun h => by (with_reducible repeat (first | refine zN ?_ _ | refine zD ?_ | refine zA ?_ _)); exact h); have ⟨n1_, n3_⟩ := zV (w := w) hb hg (by repeat (first | (with_reducible first | exact HB.out | apply yA | apply yN | apply yD | refine yS ?_ GE496.out) | exact HB.out)); have n2_ := aK (hbox); have n4_ := n3_; have n5_ := aK ((by rw [hg]; exact Nat.ne_of_lt (blk_lt (g := gb496) (o := .cells #[.int .u64 a0_0, .int .u64 a0_1, .bool a0_2] 82 (0, 0)) (by (with_reducible repeat (first | refine zN ?_ _ | refine zD ?_ | refine zA ?_ _)); exact BK496.out)) : gb496 ≠ gb497)); have n6_ := aK ((by rw [hg]; exact Nat.ne_of_gt (blk_lt (g := gb496) (o := .cells #[.int .u64 a0_0, .int .u64 a0_1, .bool a0_2] 82 (0, 0)) (by (with_reducible repeat (first | refine zN ?_ _ | refine zD ?_ | refine zA ?_ _)); exact BK496.out)) : gb497 ≠ gb496)); clear BK496; clear HB; have BK496 := n0_; have HB := n1_; have BK497 := n2_; have GW497 := n3_; have GE497 := n4_; have NB496_497 := n5_; have NB497_496 := n6_; clear n0_ n1_ n2_ n3_ n4_ n5_ n6_; clear hb hbox hg) | ((with_reducible refine gate_dst (N := 4) rfl ?_); refine box_event ?hg (N := 4) ?hd (cs := #[.int .u64 0, .int .u64 0, .bool false]) (t := 82) ?hr ?_; (case hd => rfl); (case hg => rfl); (case hr => first | (go_simp; done) | (go_simp; rfl)); intro gb498 hg w5 hbox hb; have n0_ := zG BK496 hb (fun h => by (with_reducible repeat (first | refine zN ?_ _ | refine zD ?_ | refine zA ?_ _)); exact h); have n1_ := zG BK497 hb (fun h => by (with_reducible repeat (first | refine zN ?_ _ | refine zD ?_ | refine zA ?_ _)); exact h); have ⟨n2_, n4_⟩ := zV (w := w) hb hg (by repeat (first | (with_reducible first | exact HB.out | apply yA | apply yN | apply yD | refine yS ?_ GE496.out | refine yS ?_ GE497.out) | exact HB.out)); have n3_ := aK (hbox); have n5_ := n4_; have n6_ := aK ((by rw [hg]; exact Nat.ne_of_lt (blk_lt (g := gb496) (o := .cells #[.int .u64 a0_0, .int .u64 a0_1, .bool a0_2] 82 (0, 0)) (by (with_reducible repeat (first | refine zN ?_ _ | refine zD ?_ | refine zA ?_ _)); exact BK496.out)) : gb496 ≠ gb498)); have n7_ := aK ((by rw [hg]; exact Nat.ne_of_gt (blk_lt (g := gb496) (o := .cells #[.int .u64 a0_0, .int .u64 a0_1, .bool a0_2] 82 (0, 0)) (by (with_reducible repeat (first | refine zN ?_ _ | refine zD ?_ | refine zA ?_ _)); exact BK496.out)) : gb498 ≠ gb496)); have n8_ := aK ((by rw [hg]; exact Nat.ne_of_lt (blk_lt (g := gb497) (o := .cells #[.int .u64 a1_0, .int .u64 a1_1, .bool a1_2] 82 (0, 0)) (by (with_reducible repeat (first | refine zN ?_ _ | refine zD ?_ | refine zA ?_ _)); exact BK497.out)) : gb497 ≠ gb498)); have n9_ := aK ((by rw [hg]; exact Nat.ne_of_gt (blk_lt (g := gb497) (o := .cells #[.int .u64 a1_0, .int .u64 a1_1, .bool a1_2] 82 (0, 0)) (by (with_reducible repeat (first | refine zN ?_ _ | refine zD ?_ | refine zA ?_ _)); exact BK497.out)) : gb498 ≠ gb497)); clear BK496; clear BK497; clear HB; have BK496 := n0_; have BK497 := n1_; have HB := n2_; have BK498 := n3_; have GW498 := n4_; have GE498 := n5_; have NB496_498 := n6_; have NB498_496 := n7_; have NB497_498 := n8_; have NB498_497 := n9_; clear n0_ n1_ n2_ n3_ n4_ n5_ n6_ n7_ n8_ n9_; clear hb hbox hg))
 try simp only [Act.put, sA, sZ, sS]
 go_loopg [] k (fun kq w' => ∃ (x497000_1 : Int) (x497001_1 : Int) (x497002_1 : Bool) (x498000_1 : Int) (x498001_1 : Int) (x498002_1 : Bool), Aside0 (gangsawref04_common.l0 kq x497000_1 x497001_1 x497002_1 x498000_1 x498001_1 x498002_1 = some (r1, r2, r3)) ∧ Aside0 (kq ≤ k) ∧ Aside0 (w'.heap[gb496]? = some (.cells #[.int .u64 x497000_1, .int .u64 x497001_1, .bool x497002_1] 82 (0, 0))) ∧ Aside0 (w'.heap[gb497]? = some (.cells #[.int .u64 x498000_1, .int .u64 x498001_1, .bool x498002_1] 82 (0, 0))) ∧ Aside0 (w'.heap[gb498]? = some (.cells #[.int .u64 0, .int .u64 0, .bool false] 82 (0, 0))) ∧ Aside0 (Below w.heap.size w w'))
 case atStart => exact ⟨(a0_0), (a0_1), (a0_2), (a1_0), (a1_1), (a1_2), H', ⟨Nat.le_refl _⟩, ⟨by (with_reducible repeat (first | refine zN ?_ _ | refine zD ?_ | refine zA ?_ _)); exact BK496.out⟩, ⟨by (with_reducible repeat (first | refine zN ?_ _ | refine zD ?_ | refine zA ?_ _)); exact BK497.out⟩, ⟨by (with_reducible repeat (first | refine zN ?_ _ | refine zD ?_ | refine zA ?_ _)); exact BK498.out⟩, ⟨by repeat (first | (with_reducible first | exact HB.out | apply yA | apply yN | apply yD | refine yS ?_ GE496.out | refine yS ?_ GE497.out | refine yS ?_ GE498.out) | exact HB.out)⟩⟩
 case round =>
  clear H'
  try clear p2
  obtain ⟨x497000_1, x497001_1, x497002_1, x498000_1, x498001_1, x498002_1, HA, HK1, BK496, BK497, BK498, HB⟩ := hrel
  cases gk with
  | zero => exact absurd HA.out (by simp [gangsawref04_common.l0])
  | succ k1 =>
   have H := HA.out
   clear HA
   simp only [gangsawref04_common.l0] at H
   replace H := Option.bind_eq_some_iff.mp H
   obtain ⟨t499, A60, H⟩ := H
   replace H : (if t499 = true then (some (x497000_1, x497001_1, false)) else ((gangsawref04_divide.f k1 x497000_1 x497001_1 x497002_1 x498000_1 x498001_1 x498002_1).bind fun bt500 => (gangsawref04_common.l0 k1 x498000_1 x498001_1 x498002_1 bt500.2.2.2.1 bt500.2.2.2.2.1 bt500.2.2.2.2.2))) = some (r1, r2, r3) := H
   have A6 := aK A60
   clear A60
   by_cases c7 : t499 = true
   ·subst c7
    have H1 : (some (x497000_1, x497001_1, false)) = some (r1, r2, r3) := by rw [if_pos rfl] at H; exact H
    clear H
    have H := H1
    clear H1
    simp only [Option.some.injEq, Prod.mk.injEq] at H
    obtain ⟨rfl, rfl, rfl⟩ := H
    have hnb8 := NB497_496.out
    have hnc8 := NB496_497.out
    have hnb9 := NB497_498.out
    have hnc9 := NB498_497.out
    have hcz10_0 := zI BK497 0 rfl
    have hcz10_1 := zI BK497 1 rfl
    have hcz10_2 := zI BK497 2 rfl
    have hfz10_0 := zF BK497.out 0
    have hfz10_1 := zF BK497.out 1
    have hfz10_2 := zF BK497.out 2
    go_wp2_with (first | ((with_reducible refine gate_callee (f := 76) rfl ?_); refine goesL_ (some 8) rfl rfl Try.func76 (by kernel_rfl) rfl #[.agg #[.int .u64 x498000_1, .int .u64 x498001_1, .bool x498002_1]] rfl (by (try simp only [List.map_toArray, List.map_cons, List.map_nil]); first | done | rfl | (simp only [List.length_drop, List.length_take]; rfl)) ?_; (with_reducible refine (gangsawref04_wide_zero.calls x498000_1 x498001_1 x498002_1 true _ A6.out).mono ?_); rintro e w11 ⟨rfl, hb⟩; refine ⟨_, rfl, ?_⟩; have n0_ := zG BK496 hb (fun h => by (with_reducible repeat (first | refine zN ?_ _ | refine zD ?_ | refine zA ?_ _)); exact h); have n1_ := zG BK497 hb (fun h => by (with_reducible repeat (first | refine zN ?_ _ | refine zD ?_ | refine zA ?_ _)); exact h); have n2_ := zG BK498 hb (fun h => by (with_reducible repeat (first | refine zN ?_ _ | refine zD ?_ | refine zA ?_ _)); exact h); have n3_ := aK (yT (by repeat (first | (with_reducible first | exact HB.out | apply yA | apply yN | apply yD | refine yS ?_ GE496.out | refine yS ?_ GE497.out | refine yS ?_ GE498.out) | exact HB.out)) hb); clear BK496; clear BK497; clear BK498; clear HB; have BK496 := n0_; have BK497 := n1_; have BK498 := n2_; have HB := n3_; clear n0_ n1_ n2_ n3_; (try clear hb); (try clear hb2); (try clear hk); (try clear hi); have hnb12 := NB496_498.out; have hnc12 := NB498_496.out; have hcz13_0 := zI BK496 0 rfl; have hcz13_1 := zI BK496 1 rfl; have hcz13_2 := zI BK496 2 rfl; have hfz13_0 := zF BK496.out 0; have hfz13_1 := zF BK496.out 1; have hfz13_2 := zF BK496.out 2; have hcz14_0 := zI BK498 0 rfl; have hcz14_1 := zI BK498 1 rfl; have hcz14_2 := zI BK498 2 rfl; have hfz14_0 := zF BK498.out 0; have hfz14_1 := zF BK498.out 1; have hfz14_2 := zF BK498.out 2))
    refine bodyPost_ret (results_cell_row rfl _ _ gb498 82 #[.int .u64 x497000_1, .int .u64 x497001_1, .bool false] (0, 0) _ rfl (by (with_reducible repeat (first | refine zN ?_ _ | refine zD ?_ | refine zA ?_ _)); refine blk_put (cs := #[.int .u64 x497000_1, .int .u64 x497001_1, .bool false]) ?_ 2 _ rfl; (with_reducible repeat (first | refine zN ?_ _ | refine zD ?_ | refine zA ?_ _)); refine blk_put (cs := #[.int .u64 x497000_1, .int .u64 0, .bool false]) ?_ 1 _ rfl; (with_reducible repeat (first | refine zN ?_ _ | refine zD ?_ | refine zA ?_ _)); refine blk_put (cs := #[.int .u64 0, .int .u64 0, .bool false]) ?_ 0 _ rfl; (with_reducible repeat (first | refine zN ?_ _ | refine zD ?_ | refine zA ?_ _)); exact BK498.out) Try.underlying82 rfl (by kernel_rfl)) rfl ?_
    exact ⟨by first | rfl | (simp [errW_none, errW_some] <;> rfl) | (simp [*, errW_none, errW_some] <;> rfl), by repeat (first | (with_reducible first | exact HB.out | apply yA | apply yN | apply yD | refine yS ?_ GE496.out | refine yS ?_ GE497.out | refine yS ?_ GE498.out) | exact HB.out)⟩
   ·replace c7 := Bool.eq_false_iff.mpr c7
    subst c7
    have H1 : ((gangsawref04_divide.f k1 x497000_1 x497001_1 x497002_1 x498000_1 x498001_1 x498002_1).bind fun bt500 => (gangsawref04_common.l0 k1 x498000_1 x498001_1 x498002_1 bt500.2.2.2.1 bt500.2.2.2.2.1 bt500.2.2.2.2.2)) = some (r1, r2, r3) := by rw [if_neg (show ¬ (false = true) by decide)] at H; exact H
    clear H
    have H := H1
    clear H1
    replace H := Option.bind_eq_some_iff.mp H
    obtain ⟨⟨t500, t501, t502, t503, t504, t505⟩, A150, H⟩ := H
    replace H : (gangsawref04_common.l0 k1 x498000_1 x498001_1 x498002_1 t503 t504 t505) = some (r1, r2, r3) := H
    have A15 := aK A150
    clear A150
    have H' := aK H
    clear H
    have hnb16 := NB497_496.out
    have hnc16 := NB496_497.out
    have hnb17 := NB497_498.out
    have hnc17 := NB498_497.out
    have hcz18_0 := zI BK497 0 rfl
    have hcz18_1 := zI BK497 1 rfl
    have hcz18_2 := zI BK497 2 rfl
    have hfz18_0 := zF BK497.out 0
    have hfz18_1 := zF BK497.out 1
    have hfz18_2 := zF BK497.out 2
    try go_wp2_with (first | ((with_reducible refine gate_callee (f := 76) rfl ?_); refine goesL_ (some 8) rfl rfl Try.func76 (by kernel_rfl) rfl #[.agg #[.int .u64 x498000_1, .int .u64 x498001_1, .bool x498002_1]] rfl (by (try simp only [List.map_toArray, List.map_cons, List.map_nil]); first | done | rfl | (simp only [List.length_drop, List.length_take]; rfl)) ?_; (with_reducible refine (gangsawref04_wide_zero.calls x498000_1 x498001_1 x498002_1 false _ A6.out).mono ?_); rintro e w19 ⟨rfl, hb⟩; refine ⟨_, rfl, ?_⟩; have n0_ := zG BK496 hb (fun h => by (with_reducible repeat (first | refine zN ?_ _ | refine zD ?_ | refine zA ?_ _)); exact h); have n1_ := zG BK497 hb (fun h => by (with_reducible repeat (first | refine zN ?_ _ | refine zD ?_ | refine zA ?_ _)); exact h); have n2_ := zG BK498 hb (fun h => by (with_reducible repeat (first | refine zN ?_ _ | refine zD ?_ | refine zA ?_ _)); exact h); have n3_ := aK (yT (by repeat (first | (with_reducible first | exact HB.out | apply yA | apply yN | apply yD | refine yS ?_ GE496.out | refine yS ?_ GE497.out | refine yS ?_ GE498.out) | exact HB.out)) hb); clear BK496; clear BK497; clear BK498; clear HB; have BK496 := n0_; have BK497 := n1_; have BK498 := n2_; have HB := n3_; clear n0_ n1_ n2_ n3_; (try clear hb); (try clear hb2); (try clear hk); (try clear hi); have hnb20 := NB496_498.out; have hnc20 := NB498_496.out; have hcz21_0 := zI BK496 0 rfl; have hcz21_1 := zI BK496 1 rfl; have hcz21_2 := zI BK496 2 rfl; have hfz21_0 := zF BK496.out 0; have hfz21_1 := zF BK496.out 1; have hfz21_2 := zF BK496.out 2; have hcz22_0 := zI BK497 0 rfl; have hcz22_1 := zI BK497 1 rfl; have hcz22_2 := zI BK497 2 rfl; have hfz22_0 := zF BK497.out 0; have hfz22_1 := zF BK497.out 1; have hfz22_2 := zF BK497.out 2) | ((with_reducible refine gate_callee (f := 92) rfl ?_); refine goesL_ (some 13) rfl rfl Try.func92 (by kernel_rfl) rfl #[.agg #[.int .u64 x497000_1, .int .u64 x497001_1, .bool x497002_1], .agg #[.int .u64 x498000_1, .int .u64 x498001_1, .bool x498002_1]] rfl (by (try simp only [List.map_toArray, List.map_cons, List.map_nil]); first | done | rfl | (simp only [List.length_drop, List.length_take]; rfl)) ?_; (with_reducible refine (gangsawref04_divide.calls k1 x497000_1 x497001_1 x497002_1 x498000_1 x498001_1 x498002_1 t500 t501 t502 t503 t504 t505 _ A15.out).mono ?_); rintro e w23 ⟨rfl, hb⟩; refine ⟨_, rfl, ?_⟩; have n0_ := zG BK496 hb (fun h => by (with_reducible repeat (first | refine zN ?_ _ | refine zD ?_ | refine zA ?_ _)); exact h); have n1_ := zG BK497 hb (fun h => by (with_reducible repeat (first | refine zN ?_ _ | refine zD ?_ | refine zA ?_ _)); exact h); have n2_ := zG BK498 hb (fun h => by (with_reducible repeat (first | refine zN ?_ _ | refine zD ?_ | refine zA ?_ _)); exact h); have n3_ := aK (yT (by repeat (first | (with_reducible first | exact HB.out | apply yA | apply yN | apply yD | refine yS ?_ GE496.out | refine yS ?_ GE497.out | refine yS ?_ GE498.out) | exact HB.out)) hb); clear BK496; clear BK497; clear BK498; clear HB; have BK496 := n0_; have BK497 := n1_; have BK498 := n2_; have HB := n3_; clear n0_ n1_ n2_ n3_; (try clear hb); (try clear hb2); (try clear hk); (try clear hi)) | ((with_reducible refine gate_dst (N := 5) rfl ?_); refine box_event ?hg (N := 5) ?hd (cs := #[.int .u64 0, .int .u64 0, .bool false]) (t := 82) ?hr ?_; (case hd => rfl); (case hg => rfl); (case hr => first | (go_simp; done) | (go_simp; rfl)); intro gb506 hg w24 hbox hb; have n0_ := zG BK496 hb (fun h => by (with_reducible repeat (first | refine zN ?_ _ | refine zD ?_ | refine zA ?_ _)); exact h); have n1_ := zG BK497 hb (fun h => by (with_reducible repeat (first | refine zN ?_ _ | refine zD ?_ | refine zA ?_ _)); exact h); have n2_ := zG BK498 hb (fun h => by (with_reducible repeat (first | refine zN ?_ _ | refine zD ?_ | refine zA ?_ _)); exact h); have ⟨n3_, n5_⟩ := zV (w := w) hb hg (by repeat (first | (with_reducible first | exact HB.out | apply yA | apply yN | apply yD | refine yS ?_ GE496.out | refine yS ?_ GE497.out | refine yS ?_ GE498.out) | exact HB.out)); have n4_ := aK (hbox); have n6_ := n5_; have n7_ := aK ((by rw [hg]; exact Nat.ne_of_lt (blk_lt (g := gb496) (o := .cells #[.int .u64 x497000_1, .int .u64 x497001_1, .bool x497002_1] 82 (0, 0)) (by (with_reducible repeat (first | refine zN ?_ _ | refine zD ?_ | refine zA ?_ _)); exact BK496.out)) : gb496 ≠ gb506)); have n8_ := aK ((by rw [hg]; exact Nat.ne_of_gt (blk_lt (g := gb496) (o := .cells #[.int .u64 x497000_1, .int .u64 x497001_1, .bool x497002_1] 82 (0, 0)) (by (with_reducible repeat (first | refine zN ?_ _ | refine zD ?_ | refine zA ?_ _)); exact BK496.out)) : gb506 ≠ gb496)); have n9_ := aK ((by rw [hg]; exact Nat.ne_of_lt (blk_lt (g := gb497) (o := .cells #[.int .u64 x498000_1, .int .u64 x498001_1, .bool x498002_1] 82 (0, 0)) (by (with_reducible repeat (first | refine zN ?_ _ | refine zD ?_ | refine zA ?_ _)); exact BK497.out)) : gb497 ≠ gb506)); have n10_ := aK ((by rw [hg]; exact Nat.ne_of_gt (blk_lt (g := gb497) (o := .cells #[.int .u64 x498000_1, .int .u64 x498001_1, .bool x498002_1] 82 (0, 0)) (by (with_reducible repeat (first | refine zN ?_ _ | refine zD ?_ | refine zA ?_ _)); exact BK497.out)) : gb506 ≠ gb497)); have n11_ := aK ((by rw [hg]; exact Nat.ne_of_lt (blk_lt (g := gb498) (o := .cells #[.int .u64 0, .int .u64 0, .bool false] 82 (0, 0)) (by (with_reducible repeat (first | refine zN ?_ _ | refine zD ?_ | refine zA ?_ _)); exact BK498.out)) : gb498 ≠ gb506)); have n12_ := aK ((by rw [hg]; exact Nat.ne_of_gt (blk_lt (g := gb498) (o := .cells #[.int .u64 0, .int .u64 0, .bool false] 82 (0, 0)) (by (with_reducible repeat (first | refine zN ?_ _ | refine zD ?_ | refine zA ?_ _)); exact BK498.out)) : gb506 ≠ gb498)); clear BK496; clear BK497; clear BK498; clear HB; have BK496 := n0_; have BK497 := n1_; have BK498 := n2_; have HB := n3_; have BK506 := n4_; have GW506 := n5_; have GE506 := n6_; have NB496_506 := n7_; have NB506_496 := n8_; have NB497_506 := n9_; have NB506_497 := n10_; have NB498_506 := n11_; have NB506_498 := n12_; clear n0_ n1_ n2_ n3_ n4_ n5_ n6_ n7_ n8_ n9_ n10_ n11_ n12_; clear hb hbox hg) | ((with_reducible refine gate_dst (N := 6) rfl ?_); refine box_event ?hg (N := 6) ?hd (cs := #[.int .u64 0, .int .u64 0, .bool false]) (t := 82) ?hr ?_; (case hd => rfl); (case hg => rfl); (case hr => first | (go_simp; done) | (go_simp; rfl)); intro gb507 hg w25 hbox hb; have n0_ := zG BK496 hb (fun h => by (with_reducible repeat (first | refine zN ?_ _ | refine zD ?_ | refine zA ?_ _)); exact h); have n1_ := zG BK497 hb (fun h => by (with_reducible repeat (first | refine zN ?_ _ | refine zD ?_ | refine zA ?_ _)); exact h); have n2_ := zG BK498 hb (fun h => by (with_reducible repeat (first | refine zN ?_ _ | refine zD ?_ | refine zA ?_ _)); exact h); have n3_ := zG BK506 hb (fun h => by (with_reducible repeat (first | refine zN ?_ _ | refine zD ?_ | refine zA ?_ _)); exact h); have ⟨n4_, n6_⟩ := zV (w := w) hb hg (by repeat (first | (with_reducible first | exact HB.out | apply yA | apply yN | apply yD | refine yS ?_ GE496.out | refine yS ?_ GE497.out | refine yS ?_ GE498.out | refine yS ?_ GE506.out) | exact HB.out)); have n5_ := aK (hbox); have n7_ := n6_; have n8_ := aK ((by rw [hg]; exact Nat.ne_of_lt (blk_lt (g := gb496) (o := .cells #[.int .u64 x497000_1, .int .u64 x497001_1, .bool x497002_1] 82 (0, 0)) (by (with_reducible repeat (first | refine zN ?_ _ | refine zD ?_ | refine zA ?_ _)); exact BK496.out)) : gb496 ≠ gb507)); have n9_ := aK ((by rw [hg]; exact Nat.ne_of_gt (blk_lt (g := gb496) (o := .cells #[.int .u64 x497000_1, .int .u64 x497001_1, .bool x497002_1] 82 (0, 0)) (by (with_reducible repeat (first | refine zN ?_ _ | refine zD ?_ | refine zA ?_ _)); exact BK496.out)) : gb507 ≠ gb496)); have n10_ := aK ((by rw [hg]; exact Nat.ne_of_lt (blk_lt (g := gb497) (o := .cells #[.int .u64 x498000_1, .int .u64 x498001_1, .bool x498002_1] 82 (0, 0)) (by (with_reducible repeat (first | refine zN ?_ _ | refine zD ?_ | refine zA ?_ _)); exact BK497.out)) : gb497 ≠ gb507)); have n11_ := aK ((by rw [hg]; exact Nat.ne_of_gt (blk_lt (g := gb497) (o := .cells #[.int .u64 x498000_1, .int .u64 x498001_1, .bool x498002_1] 82 (0, 0)) (by (with_reducible repeat (first | refine zN ?_ _ | refine zD ?_ | refine zA ?_ _)); exact BK497.out)) : gb507 ≠ gb497)); have n12_ := aK ((by rw [hg]; exact Nat.ne_of_lt (blk_lt (g := gb498) (o := .cells #[.int .u64 0, .int .u64 0, .bool false] 82 (0, 0)) (by (with_reducible repeat (first | refine zN ?_ _ | refine zD ?_ | refine zA ?_ _)); exact BK498.out)) : gb498 ≠ gb507)); have n13_ := aK ((by rw [hg]; exact Nat.ne_of_gt (blk_lt (g := gb498) (o := .cells #[.int .u64 0, .int .u64 0, .bool false] 82 (0, 0)) (by (with_reducible repeat (first | refine zN ?_ _ | refine zD ?_ | refine zA ?_ _)); exact BK498.out)) : gb507 ≠ gb498)); have n14_ := aK ((by rw [hg]; exact Nat.ne_of_lt (blk_lt (g := gb506) (o := .cells #[.int .u64 0, .int .u64 0, .bool false] 82 (0, 0)) (by (with_reducible repeat (first | refine zN ?_ _ | refine zD ?_ | refine zA ?_ _)); exact BK506.out)) : gb506 ≠ gb507)); have n15_ := aK ((by rw [hg]; exact Nat.ne_of_gt (blk_lt (g := gb506) (o := .cells #[.int .u64 0, .int .u64 0, .bool false] 82 (0, 0)) (by (with_reducible repeat (first | refine zN ?_ _ | refine zD ?_ | refine zA ?_ _)); exact BK506.out)) : gb507 ≠ gb506)); clear BK496; clear BK497; clear BK498; clear BK506; clear HB; have BK496 := n0_; have BK497 := n1_; have BK498 := n2_; have BK506 := n3_; have HB := n4_; have BK507 := n5_; have GW507 := n6_; have GE507 := n7_; have NB496_507 := n8_; have NB507_496 := n9_; have NB497_507 := n10_; have NB507_497 := n11_; have NB498_507 := n12_; have NB507_498 := n13_; have NB506_507 := n14_; have NB507_506 := n15_; clear n0_ n1_ n2_ n3_ n4_ n5_ n6_ n7_ n8_ n9_ n10_ n11_ n12_ n13_ n14_ n15_; clear hb hbox hg; have hnb26 := NB506_496.out; have hnc26 := NB496_506.out; have hnb27 := NB506_497.out; have hnc27 := NB497_506.out; have hnb28 := NB506_498.out; have hnc28 := NB498_506.out; have hnb29 := NB506_507.out; have hnc29 := NB507_506.out; have hcz30_0 := zI BK506 0 rfl; have hcz30_1 := zI BK506 1 rfl; have hcz30_2 := zI BK506 2 rfl; have hfz30_0 := zF BK506.out 0; have hfz30_1 := zF BK506.out 1; have hfz30_2 := zF BK506.out 2; have hnb31 := NB507_496.out; have hnc31 := NB496_507.out; have hnb32 := NB507_497.out; have hnc32 := NB497_507.out; have hnb33 := NB507_498.out; have hnc33 := NB498_507.out; have hcz34_0 := zI BK507 0 rfl; have hcz34_1 := zI BK507 1 rfl; have hcz34_2 := zI BK507 2 rfl; have hfz34_0 := zF BK507.out 0; have hfz34_1 := zF BK507.out 1; have hfz34_2 := zF BK507.out 2))
    have n0_ : Aside0 (((((((w25.setCell ⟨gb506, 0, none⟩ (.int .u64 t500)).setCell ⟨gb506, 1, none⟩ (.int .u64 t501)).setCell ⟨gb506, 2, none⟩ (.bool t502)).setCell ⟨gb507, 0, none⟩ (.int .u64 t503)).setCell ⟨gb507, 1, none⟩ (.int .u64 t504)).setCell ⟨gb507, 2, none⟩ (.bool t505)).heap[gb496]? = some (.cells #[.int .u64 x497000_1, .int .u64 x497001_1, .bool x497002_1] 82 (0, 0))) := ⟨by (with_reducible repeat (first | refine zN ?_ _ | refine zD ?_ | refine zA ?_ _)); refine blk_far ?_ NB496_507.out _; (with_reducible repeat (first | refine zN ?_ _ | refine zD ?_ | refine zA ?_ _)); refine blk_far ?_ NB496_507.out _; (with_reducible repeat (first | refine zN ?_ _ | refine zD ?_ | refine zA ?_ _)); refine blk_far ?_ NB496_507.out _; (with_reducible repeat (first | refine zN ?_ _ | refine zD ?_ | refine zA ?_ _)); refine blk_far ?_ NB496_506.out _; (with_reducible repeat (first | refine zN ?_ _ | refine zD ?_ | refine zA ?_ _)); refine blk_far ?_ NB496_506.out _; (with_reducible repeat (first | refine zN ?_ _ | refine zD ?_ | refine zA ?_ _)); refine blk_far ?_ NB496_506.out _; (with_reducible repeat (first | refine zN ?_ _ | refine zD ?_ | refine zA ?_ _)); exact BK496.out⟩
    have n1_ : Aside0 (((((((w25.setCell ⟨gb506, 0, none⟩ (.int .u64 t500)).setCell ⟨gb506, 1, none⟩ (.int .u64 t501)).setCell ⟨gb506, 2, none⟩ (.bool t502)).setCell ⟨gb507, 0, none⟩ (.int .u64 t503)).setCell ⟨gb507, 1, none⟩ (.int .u64 t504)).setCell ⟨gb507, 2, none⟩ (.bool t505)).heap[gb497]? = some (.cells #[.int .u64 x498000_1, .int .u64 x498001_1, .bool x498002_1] 82 (0, 0))) := ⟨by (with_reducible repeat (first | refine zN ?_ _ | refine zD ?_ | refine zA ?_ _)); refine blk_far ?_ NB497_507.out _; (with_reducible repeat (first | refine zN ?_ _ | refine zD ?_ | refine zA ?_ _)); refine blk_far ?_ NB497_507.out _; (with_reducible repeat (first | refine zN ?_ _ | refine zD ?_ | refine zA ?_ _)); refine blk_far ?_ NB497_507.out _; (with_reducible repeat (first | refine zN ?_ _ | refine zD ?_ | refine zA ?_ _)); refine blk_far ?_ NB497_506.out _; (with_reducible repeat (first | refine zN ?_ _ | refine zD ?_ | refine zA ?_ _)); refine blk_far ?_ NB497_506.out _; (with_reducible repeat (first | refine zN ?_ _ | refine zD ?_ | refine zA ?_ _)); refine blk_far ?_ NB497_506.out _; (with_reducible repeat (first | refine zN ?_ _ | refine zD ?_ | refine zA ?_ _)); exact BK497.out⟩
    have n2_ : Aside0 (((((((w25.setCell ⟨gb506, 0, none⟩ (.int .u64 t500)).setCell ⟨gb506, 1, none⟩ (.int .u64 t501)).setCell ⟨gb506, 2, none⟩ (.bool t502)).setCell ⟨gb507, 0, none⟩ (.int .u64 t503)).setCell ⟨gb507, 1, none⟩ (.int .u64 t504)).setCell ⟨gb507, 2, none⟩ (.bool t505)).heap[gb498]? = some (.cells #[.int .u64 0, .int .u64 0, .bool false] 82 (0, 0))) := ⟨by (with_reducible repeat (first | refine zN ?_ _ | refine zD ?_ | refine zA ?_ _)); refine blk_far ?_ NB498_507.out _; (with_reducible repeat (first | refine zN ?_ _ | refine zD ?_ | refine zA ?_ _)); refine blk_far ?_ NB498_507.out _; (with_reducible repeat (first | refine zN ?_ _ | refine zD ?_ | refine zA ?_ _)); refine blk_far ?_ NB498_507.out _; (with_reducible repeat (first | refine zN ?_ _ | refine zD ?_ | refine zA ?_ _)); refine blk_far ?_ NB498_506.out _; (with_reducible repeat (first | refine zN ?_ _ | refine zD ?_ | refine zA ?_ _)); refine blk_far ?_ NB498_506.out _; (with_reducible repeat (first | refine zN ?_ _ | refine zD ?_ | refine zA ?_ _)); refine blk_far ?_ NB498_506.out _; (with_reducible repeat (first | refine zN ?_ _ | refine zD ?_ | refine zA ?_ _)); exact BK498.out⟩
    have n3_ : Aside0 (((((((w25.setCell ⟨gb506, 0, none⟩ (.int .u64 t500)).setCell ⟨gb506, 1, none⟩ (.int .u64 t501)).setCell ⟨gb506, 2, none⟩ (.bool t502)).setCell ⟨gb507, 0, none⟩ (.int .u64 t503)).setCell ⟨gb507, 1, none⟩ (.int .u64 t504)).setCell ⟨gb507, 2, none⟩ (.bool t505)).heap[gb506]? = some (.cells #[.int .u64 t500, .int .u64 t501, .bool t502] 82 (0, 0))) := ⟨by (with_reducible repeat (first | refine zN ?_ _ | refine zD ?_ | refine zA ?_ _)); refine blk_far ?_ NB506_507.out _; (with_reducible repeat (first | refine zN ?_ _ | refine zD ?_ | refine zA ?_ _)); refine blk_far ?_ NB506_507.out _; (with_reducible repeat (first | refine zN ?_ _ | refine zD ?_ | refine zA ?_ _)); refine blk_far ?_ NB506_507.out _; (with_reducible repeat (first | refine zN ?_ _ | refine zD ?_ | refine zA ?_ _)); refine blk_put (cs := #[.int .u64 t500, .int .u64 t501, .bool false]) ?_ 2 _ rfl; (with_reducible repeat (first | refine zN ?_ _ | refine zD ?_ | refine zA ?_ _)); refine blk_put (cs := #[.int .u64 t500, .int .u64 0, .bool false]) ?_ 1 _ rfl; (with_reducible repeat (first | refine zN ?_ _ | refine zD ?_ | refine zA ?_ _)); refine blk_put (cs := #[.int .u64 0, .int .u64 0, .bool false]) ?_ 0 _ rfl; (with_reducible repeat (first | refine zN ?_ _ | refine zD ?_ | refine zA ?_ _)); exact BK506.out⟩
    have n4_ : Aside0 (((((((w25.setCell ⟨gb506, 0, none⟩ (.int .u64 t500)).setCell ⟨gb506, 1, none⟩ (.int .u64 t501)).setCell ⟨gb506, 2, none⟩ (.bool t502)).setCell ⟨gb507, 0, none⟩ (.int .u64 t503)).setCell ⟨gb507, 1, none⟩ (.int .u64 t504)).setCell ⟨gb507, 2, none⟩ (.bool t505)).heap[gb507]? = some (.cells #[.int .u64 t503, .int .u64 t504, .bool t505] 82 (0, 0))) := ⟨by (with_reducible repeat (first | refine zN ?_ _ | refine zD ?_ | refine zA ?_ _)); refine blk_put (cs := #[.int .u64 t503, .int .u64 t504, .bool false]) ?_ 2 _ rfl; (with_reducible repeat (first | refine zN ?_ _ | refine zD ?_ | refine zA ?_ _)); refine blk_put (cs := #[.int .u64 t503, .int .u64 0, .bool false]) ?_ 1 _ rfl; (with_reducible repeat (first | refine zN ?_ _ | refine zD ?_ | refine zA ?_ _)); refine blk_put (cs := #[.int .u64 0, .int .u64 0, .bool false]) ?_ 0 _ rfl; (with_reducible repeat (first | refine zN ?_ _ | refine zD ?_ | refine zA ?_ _)); refine blk_far ?_ NB507_506.out _; (with_reducible repeat (first | refine zN ?_ _ | refine zD ?_ | refine zA ?_ _)); refine blk_far ?_ NB507_506.out _; (with_reducible repeat (first | refine zN ?_ _ | refine zD ?_ | refine zA ?_ _)); refine blk_far ?_ NB507_506.out _; (with_reducible repeat (first | refine zN ?_ _ | refine zD ?_ | refine zA ?_ _)); exact BK507.out⟩
    have n5_ : Aside0 (Below w.heap.size w ((((((w25.setCell ⟨gb506, 0, none⟩ (.int .u64 t500)).setCell ⟨gb506, 1, none⟩ (.int .u64 t501)).setCell ⟨gb506, 2, none⟩ (.bool t502)).setCell ⟨gb507, 0, none⟩ (.int .u64 t503)).setCell ⟨gb507, 1, none⟩ (.int .u64 t504)).setCell ⟨gb507, 2, none⟩ (.bool t505))) := ⟨by repeat (first | (with_reducible first | exact HB.out | apply yA | apply yN | apply yD | refine yS ?_ GE496.out | refine yS ?_ GE497.out | refine yS ?_ GE498.out | refine yS ?_ GE506.out | refine yS ?_ GE507.out) | exact HB.out)⟩
    (try clear BK496)
    (try clear BK497)
    (try clear BK498)
    (try clear BK506)
    (try clear BK507)
    (try clear HB)
    generalize ((((((w25.setCell ⟨gb506, 0, none⟩ (.int .u64 t500)).setCell ⟨gb506, 1, none⟩ (.int .u64 t501)).setCell ⟨gb506, 2, none⟩ (.bool t502)).setCell ⟨gb507, 0, none⟩ (.int .u64 t503)).setCell ⟨gb507, 1, none⟩ (.int .u64 t504)).setCell ⟨gb507, 2, none⟩ (.bool t505)) = w35 at n0_ n1_ n2_ n3_ n4_ n5_ ⊢
    have BK496 := n0_
    have BK497 := n1_
    have BK498 := n2_
    have BK506 := n3_
    have BK507 := n4_
    have HB := n5_
    clear n0_ n1_ n2_ n3_ n4_ n5_
    have n0_ := aK (zD BK496.out)
    have n1_ := aK (zD BK497.out)
    have n2_ := aK (zD BK498.out)
    have n3_ := aK (zD BK506.out)
    have n4_ := aK (zD BK507.out)
    have n5_ := aK (yD HB.out)
    clear BK496
    clear BK497
    clear BK498
    clear BK506
    clear BK507
    clear HB
    have BK496 := n0_
    have BK497 := n1_
    have BK498 := n2_
    have BK506 := n3_
    have BK507 := n4_
    have HB := n5_
    clear n0_ n1_ n2_ n3_ n4_ n5_
    refine start_ (n := 4) (S := fun w' => w'.cell? ⟨gb497, 0, none⟩ = some (.int .u64 x498000_1) ∧ w'.cell? ⟨gb497, 1, none⟩ = some (.int .u64 x498001_1) ∧ w'.cell? ⟨gb497, 2, none⟩ = some (.bool x498002_1) ∧ w'.cell? ⟨gb507, 0, none⟩ = some (.int .u64 t503) ∧ w'.cell? ⟨gb507, 1, none⟩ = some (.int .u64 t504) ∧ w'.cell? ⟨gb507, 2, none⟩ = some (.bool t505)) (ds := [3]) #[false, false, false, false] (by kernel_rfl) rfl rfl ⟨(zC BK497.out 0).trans rfl, (zC BK497.out 1).trans rfl, (zC BK497.out 2).trans rfl, (zC BK507.out 0).trans rfl, (zC BK507.out 1).trans rfl, (zC BK507.out 2).trans rfl⟩ (fun hHeld => ?_)
    generalize w35.drew = w36 at BK496 BK497 BK498 BK506 BK507 HB hHeld ⊢
    refine take_ (i := 0) (N := some 16) (v := ?_) (a' := ?_) #[true, false, false, false] rfl rfl (by kernel_rfl) (fun _ _ _ h => h) (Or.inl ⟨by rfl, ?_⟩) hHeld ?_ ?_
    rotate_left
    ·rintro w' ⟨s0, s1, s2, s3, s4, s5⟩
     go_simp
     with_reducible rfl
    rotate_left
    ·simp only [Act.put, sA, sZ, sS, i64_w, i32_w]
     rfl
    refine take_ (i := 1) (N := some 17) (v := ?_) (a' := ?_) #[true, true, false, false] rfl rfl (by kernel_rfl) (fun _ _ _ h => h) (Or.inl ⟨by rfl, ?_⟩) hHeld ?_ ?_
    rotate_left
    ·rintro w' ⟨s0, s1, s2, s3, s4, s5⟩
     go_simp
     with_reducible rfl
    rotate_left
    ·simp only [Act.put, sA, sZ, sS, i64_w, i32_w]
     rfl
    refine one_ (i := 2) (N := none) #[true, true, true, false] rfl rfl (by kernel_rfl) (by decide) (fun K hK => ?_)
    have hs37 : w36.cell? ⟨gb496, 0, none⟩ = some (.int .u64 x497000_1) := (zC BK496.out 0).trans rfl
    have hfs37 := zF BK496.out 0
    have hns37_1 := NB497_496.out
    have hns37_2 := NB498_496.out
    have hns37_3 := NB506_496.out
    have hns37_4 := NB507_496.out
    have hms37_1 := NB496_497.out
    have hms37_2 := NB496_498.out
    have hms37_3 := NB496_506.out
    have hms37_4 := NB496_507.out
    have hs38 : w36.cell? ⟨gb496, 1, none⟩ = some (.int .u64 x497001_1) := (zC BK496.out 1).trans rfl
    have hfs38 := zF BK496.out 1
    have hns38_1 := NB497_496.out
    have hns38_2 := NB498_496.out
    have hns38_3 := NB506_496.out
    have hns38_4 := NB507_496.out
    have hms38_1 := NB496_497.out
    have hms38_2 := NB496_498.out
    have hms38_3 := NB496_506.out
    have hms38_4 := NB496_507.out
    have hs39 : w36.cell? ⟨gb496, 2, none⟩ = some (.bool x497002_1) := (zC BK496.out 2).trans rfl
    have hfs39 := zF BK496.out 2
    have hns39_1 := NB497_496.out
    have hns39_2 := NB498_496.out
    have hns39_3 := NB506_496.out
    have hns39_4 := NB507_496.out
    have hms39_1 := NB496_497.out
    have hms39_2 := NB496_498.out
    have hms39_3 := NB496_506.out
    have hms39_4 := NB496_507.out
    refine skip_ (w1 := ?_) (by rfl) rfl ?_ ?_
    rotate_left
    ·go_simp
     rfl
    refine hK.out _ _ ⟨((cell_far (p := ⟨gb496, _, none⟩) NB497_496.out _).trans (((cell_far (p := ⟨gb496, _, none⟩) NB497_496.out _).trans (((cell_far (p := ⟨gb496, _, none⟩) NB497_496.out _).trans (hHeld.1)))))), ((cell_far (p := ⟨gb496, _, none⟩) NB497_496.out _).trans (((cell_far (p := ⟨gb496, _, none⟩) NB497_496.out _).trans (((cell_far (p := ⟨gb496, _, none⟩) NB497_496.out _).trans (hHeld.2.1)))))), ((cell_far (p := ⟨gb496, _, none⟩) NB497_496.out _).trans (((cell_far (p := ⟨gb496, _, none⟩) NB497_496.out _).trans (((cell_far (p := ⟨gb496, _, none⟩) NB497_496.out _).trans (hHeld.2.2.1)))))), ((cell_far (p := ⟨gb496, _, none⟩) NB507_496.out _).trans (((cell_far (p := ⟨gb496, _, none⟩) NB507_496.out _).trans (((cell_far (p := ⟨gb496, _, none⟩) NB507_496.out _).trans (hHeld.2.2.2.1)))))), ((cell_far (p := ⟨gb496, _, none⟩) NB507_496.out _).trans (((cell_far (p := ⟨gb496, _, none⟩) NB507_496.out _).trans (((cell_far (p := ⟨gb496, _, none⟩) NB507_496.out _).trans (hHeld.2.2.2.2.1)))))), ((cell_far (p := ⟨gb496, _, none⟩) NB507_496.out _).trans (((cell_far (p := ⟨gb496, _, none⟩) NB507_496.out _).trans (((cell_far (p := ⟨gb496, _, none⟩) NB507_496.out _).trans (hHeld.2.2.2.2.2))))))⟩ (fun hHeld => ?_)
    clear hK K
    refine last_ (i := 3) (N := none) #[true, true, true, true] rfl rfl (by kernel_rfl) (by decide) (fun K hK => ?_)
    have hs40 : w36.cell? ⟨gb497, 0, none⟩ = some (.int .u64 x498000_1) := (zC BK497.out 0).trans rfl
    have hfs40 := zF BK497.out 0
    have hns40_0 := NB496_497.out
    have hns40_2 := NB498_497.out
    have hns40_3 := NB506_497.out
    have hns40_4 := NB507_497.out
    have hms40_0 := NB497_496.out
    have hms40_2 := NB497_498.out
    have hms40_3 := NB497_506.out
    have hms40_4 := NB497_507.out
    have hs41 : w36.cell? ⟨gb497, 1, none⟩ = some (.int .u64 x498001_1) := (zC BK497.out 1).trans rfl
    have hfs41 := zF BK497.out 1
    have hns41_0 := NB496_497.out
    have hns41_2 := NB498_497.out
    have hns41_3 := NB506_497.out
    have hns41_4 := NB507_497.out
    have hms41_0 := NB497_496.out
    have hms41_2 := NB497_498.out
    have hms41_3 := NB497_506.out
    have hms41_4 := NB497_507.out
    have hs42 : w36.cell? ⟨gb497, 2, none⟩ = some (.bool x498002_1) := (zC BK497.out 2).trans rfl
    have hfs42 := zF BK497.out 2
    have hns42_0 := NB496_497.out
    have hns42_2 := NB498_497.out
    have hns42_3 := NB506_497.out
    have hns42_4 := NB507_497.out
    have hms42_0 := NB497_496.out
    have hms42_2 := NB497_498.out
    have hms42_3 := NB497_506.out
    have hms42_4 := NB497_507.out
    refine skip_ (w1 := ?_) (by rfl) rfl ?_ ?_
    rotate_left
    ·go_simp
     rfl
    refine hK.out _ _ ?_
    clear hK K
    refine done_ (by kernel_rfl) ?_
    try go_wp2
    go_roundg k1
    case measure => have := HK1.out; omega
    case rel => exact ⟨(x498000_1), (x498001_1), (x498002_1), (t503), (t504), (t505), H', ⟨by have := HK1.out; omega⟩, ⟨by (with_reducible repeat (first | refine zN ?_ _ | refine zD ?_ | refine zA ?_ _)); refine blk_far ?_ NB496_497.out _; (with_reducible repeat (first | refine zN ?_ _ | refine zD ?_ | refine zA ?_ _)); refine blk_far ?_ NB496_497.out _; (with_reducible repeat (first | refine zN ?_ _ | refine zD ?_ | refine zA ?_ _)); refine blk_far ?_ NB496_497.out _; (with_reducible repeat (first | refine zN ?_ _ | refine zD ?_ | refine zA ?_ _)); refine blk_put (cs := #[.int .u64 x498000_1, .int .u64 x498001_1, .bool x497002_1]) ?_ 2 _ rfl; (with_reducible repeat (first | refine zN ?_ _ | refine zD ?_ | refine zA ?_ _)); refine blk_put (cs := #[.int .u64 x498000_1, .int .u64 x497001_1, .bool x497002_1]) ?_ 1 _ rfl; (with_reducible repeat (first | refine zN ?_ _ | refine zD ?_ | refine zA ?_ _)); refine blk_put (cs := #[.int .u64 x497000_1, .int .u64 x497001_1, .bool x497002_1]) ?_ 0 _ rfl; (with_reducible repeat (first | refine zN ?_ _ | refine zD ?_ | refine zA ?_ _)); exact BK496.out⟩, ⟨by (with_reducible repeat (first | refine zN ?_ _ | refine zD ?_ | refine zA ?_ _)); refine blk_put (cs := #[.int .u64 t503, .int .u64 t504, .bool x498002_1]) ?_ 2 _ rfl; (with_reducible repeat (first | refine zN ?_ _ | refine zD ?_ | refine zA ?_ _)); refine blk_put (cs := #[.int .u64 t503, .int .u64 x498001_1, .bool x498002_1]) ?_ 1 _ rfl; (with_reducible repeat (first | refine zN ?_ _ | refine zD ?_ | refine zA ?_ _)); refine blk_put (cs := #[.int .u64 x498000_1, .int .u64 x498001_1, .bool x498002_1]) ?_ 0 _ rfl; (with_reducible repeat (first | refine zN ?_ _ | refine zD ?_ | refine zA ?_ _)); refine blk_far ?_ NB497_496.out _; (with_reducible repeat (first | refine zN ?_ _ | refine zD ?_ | refine zA ?_ _)); refine blk_far ?_ NB497_496.out _; (with_reducible repeat (first | refine zN ?_ _ | refine zD ?_ | refine zA ?_ _)); refine blk_far ?_ NB497_496.out _; (with_reducible repeat (first | refine zN ?_ _ | refine zD ?_ | refine zA ?_ _)); exact BK497.out⟩, ⟨by (with_reducible repeat (first | refine zN ?_ _ | refine zD ?_ | refine zA ?_ _)); refine blk_far ?_ NB498_497.out _; (with_reducible repeat (first | refine zN ?_ _ | refine zD ?_ | refine zA ?_ _)); refine blk_far ?_ NB498_497.out _; (with_reducible repeat (first | refine zN ?_ _ | refine zD ?_ | refine zA ?_ _)); refine blk_far ?_ NB498_497.out _; (with_reducible repeat (first | refine zN ?_ _ | refine zD ?_ | refine zA ?_ _)); refine blk_far ?_ NB498_496.out _; (with_reducible repeat (first | refine zN ?_ _ | refine zD ?_ | refine zA ?_ _)); refine blk_far ?_ NB498_496.out _; (with_reducible repeat (first | refine zN ?_ _ | refine zD ?_ | refine zA ?_ _)); refine blk_far ?_ NB498_496.out _; (with_reducible repeat (first | refine zN ?_ _ | refine zD ?_ | refine zA ?_ _)); exact BK498.out⟩, ⟨by repeat (first | (with_reducible first | exact HB.out | apply yA | apply yN | apply yD | refine yS ?_ GE496.out | refine yS ?_ GE497.out | refine yS ?_ GE498.out | refine yS ?_ GE506.out | refine yS ?_ GE507.out) | exact HB.out)⟩⟩

end Go.Proofs.Ythkpgjjakdbbfaa.P
