/- What functions of the program return: each contract says so of one function, for every input at which its pure function yields. -/
import Derived.Test.YthkpgjjakdbbfaaPx0
import Derived.Test.YthkpgjjakdbbfaaPx23
import Derived.Test.YthkpgjjakdbbfaaPx26
namespace Go.Proofs.Ythkpgjjakdbbfaa.P
open Go.RowKit Go.Proofs.YthkpgjjakdbbfaaW.PrintWords Go.Proofs.YthkpgjjakdbbfaaW.PrintLast Go.Proofs.YthkpgjjakdbbfaaW.PrintMore
attribute [local go_sem] max2_int min2_int max_two min_two max_three min_three max_four min_four   -- for this text's walks alone
set_option linter.unusedVariables false
set_option linter.unusedSimpArgs false

def gangsawref04_New.j0 : Nat → Int → Int → Bool → Int → Int → Bool → Option (Int × Int × Int)
 | 0, _, _, _, _, _, _ => none
 | k + 1, x540000, x540001, x540002, x541000, x541001, x541002 => (gangsawref04_lowest.f k x540000 x540001 x540002 x541000 x541001 x541002).bind fun bt541 => (some (bt541.1, bt541.2.1, bt541.2.2))
def gangsawref04_New.f (k : Nat) (a0 : Int) (a1 : Int) : Option (Int × Int × Int) := if a1 = 0 then (some (0, 0, 1)) else ((gangsawref04_one.f a0).bind fun bt533 => ((gangsawref04_one.f a1).bind fun bt536 => (gangsawref04_New.j0 k bt533.1 bt533.2.1 (bt533.2.2 != bt536.2.2) bt536.1 bt536.2.1 false)))
set_option maxHeartbeats 8000000 in
set_option maxRecDepth 100000 in
theorem gangsawref04_New.calls (k : Nat) (a0 : Int) (a1 : Int) (r1 : Int) (r2 : Int) (r3 : Int) (w : World) (h : gangsawref04_New.f k a0 a1 = some (r1, r2, r3)) :
  Calls Try.prog 48 #[.int .i64 a0, .int .i64 a1] w fun e w' => e = .returned (.tuple #[.agg #[.int .i64 r1, .int .i64 r2], .int .i64 r3]) ∧ Below w.heap.size w w' := by
 have hu33 := Try.underlying33
 have hu82 := Try.underlying82
 have HB := aK (Below.refl w.heap.size w)
 have H : (if a1 = 0 then (some (0, 0, 1)) else ((gangsawref04_one.f a0).bind fun bt533 => ((gangsawref04_one.f a1).bind fun bt536 => (gangsawref04_New.j0 k bt533.1 bt533.2.1 (bt533.2.2 != bt536.2.2) bt536.1 bt536.2.1 false)))) = some (r1, r2, r3) := h
 clear h
 by_cases c3 : a1 = 0
 ·rw [if_pos c3] at H
  have c3b0 : (a1 == 0) = true := beq_iff_eq.mpr c3
  have c3b1 : (a1 != 0) = false := bne_eq_false_iff_eq.mpr c3
  clear c3
  simp only [Option.some.injEq, Prod.mk.injEq] at H
  obtain ⟨rfl, rfl, rfl⟩ := H
  go_enter Try.func48, Try.ntmps48
  go_wp2_with (first | ((with_reducible refine gate_dst (N := 4) rfl ?_); refine box_event ?hg (N := 4) ?hd (cs := #[.int .i64 0, .int .i64 0]) (t := 33) ?hr ?_; (case hd => rfl); (case hg => rfl); (case hr => first | (go_simp; done) | (go_simp; rfl)); intro gb532 hg w4 hbox hb; have ⟨n0_, n2_⟩ := zV (w := w) hb hg (by repeat (first | (with_reducible first | exact HB.out | apply yA | apply yN | apply yD) | exact HB.out)); have n1_ := aK (hbox); have n3_ := n2_; clear HB; have HB := n0_; have BK532 := n1_; have GW532 := n2_; have GE532 := n3_; clear n0_ n1_ n2_ n3_; clear hb hbox hg; have hcz5_0 := zI BK532 0 rfl; have hcz5_1 := zI BK532 1 rfl; have hfz5_0 := zF BK532.out 0; have hfz5_1 := zF BK532.out 1))
  refine bodyPost_ret (results_ct rfl _ _ gb532 33 #[.int .i64 0, .int .i64 0] (0, 0) _ rfl (by (with_reducible repeat (first | refine zN ?_ _ | refine zD ?_ | refine zA ?_ _)); refine blk_put (cs := #[.int .i64 0, .int .i64 0]) ?_ 1 _ rfl; (with_reducible repeat (first | refine zN ?_ _ | refine zD ?_ | refine zA ?_ _)); refine blk_put (cs := #[.int .i64 0, .int .i64 0]) ?_ 0 _ rfl; (with_reducible repeat (first | refine zN ?_ _ | refine zD ?_ | refine zA ?_ _)); exact BK532.out) Try.underlying33 rfl (by kernel_rfl)) rfl ?_
  exact ⟨by first | rfl | (simp [errW_none, errW_some] <;> rfl) | (simp [*, errW_none, errW_some] <;> rfl), by repeat (first | (with_reducible first | exact HB.out | apply yA | apply yN | apply yD | refine yS ?_ GE532.out) | exact HB.out)⟩
 ·rw [if_neg c3] at H
  have c3b0 : (a1 == 0) = false := beq_eq_false_iff_ne.mpr c3
  have c3b1 : (a1 != 0) = true := bne_iff_ne.mpr c3
  replace H := Option.bind_eq_some_iff.mp H
  obtain ⟨⟨t533, t534, t535⟩, A60, H⟩ := H
  replace H : ((gangsawref04_one.f a1).bind fun bt536 => (gangsawref04_New.j0 k t533 t534 (t535 != bt536.2.2) bt536.1 bt536.2.1 false)) = some (r1, r2, r3) := H
  have A6 := aK A60
  clear A60
  replace H := Option.bind_eq_some_iff.mp H
  obtain ⟨⟨t536, t537, t538⟩, A70, H⟩ := H
  replace H : (gangsawref04_New.j0 k t533 t534 (t535 != t538) t536 t537 false) = some (r1, r2, r3) := H
  have A7 := aK A70
  clear A70
  have HC8 := aK H
  clear H
  go_enter Try.func48, Try.ntmps48
  go_upto_region 4 with (first | ((with_reducible refine gate_dst (N := 4) rfl ?_); refine box_event ?hg (N := 4) ?hd (cs := #[.int .i64 0, .int .i64 0]) (t := 33) ?hr ?_; (case hd => rfl); (case hg => rfl); (case hr => first | (go_simp; done) | (go_simp; rfl)); intro gb532 hg w9 hbox hb; have ⟨n0_, n2_⟩ := zV (w := w) hb hg (by repeat (first | (with_reducible first | exact HB.out | apply yA | apply yN | apply yD) | exact HB.out)); have n1_ := aK (hbox); have n3_ := n2_; clear HB; have HB := n0_; have BK532 := n1_; have GW532 := n2_; have GE532 := n3_; clear n0_ n1_ n2_ n3_; clear hb hbox hg) | ((with_reducible refine gate_callee (f := 71) rfl ?_); refine goesL_ (some 12) rfl rfl Try.func71 (by kernel_rfl) rfl #[.int .i64 a0] rfl (by (try simp only [List.map_toArray, List.map_cons, List.map_nil]); first | done | rfl | (simp only [List.length_drop, List.length_take]; rfl)) ?_; (with_reducible refine (gangsawref04_one.calls a0 t533 t534 t535 _ A6.out).mono ?_); rintro e w10 ⟨rfl, hb⟩; refine ⟨_, rfl, ?_⟩; have n0_ := zG BK532 hb (fun h => by (with_reducible repeat (first | refine zN ?_ _ | refine zD ?_ | refine zA ?_ _)); exact h); have n1_ := aK (yT (by repeat (first | (with_reducible first | exact HB.out | apply yA | apply yN | apply yD | refine yS ?_ GE532.out) | exact HB.out)) hb); clear BK532; clear HB; have BK532 := n0_; have HB := n1_; clear n0_ n1_; (try clear hb); (try clear hb2); (try clear hk); (try clear hi)) | ((with_reducible refine gate_callee (f := 71) rfl ?_); refine goesL_ (some 14) rfl rfl Try.func71 (by kernel_rfl) rfl #[.int .i64 a1] rfl (by (try simp only [List.map_toArray, List.map_cons, List.map_nil]); first | done | rfl | (simp only [List.length_drop, List.length_take]; rfl)) ?_; (with_reducible refine (gangsawref04_one.calls a1 t536 t537 t538 _ A7.out).mono ?_); rintro e w11 ⟨rfl, hb⟩; refine ⟨_, rfl, ?_⟩; have n0_ := zG BK532 hb (fun h => by (with_reducible repeat (first | refine zN ?_ _ | refine zD ?_ | refine zA ?_ _)); exact h); have n1_ := aK (yT (by repeat (first | (with_reducible first | exact HB.out | apply yA | apply yN | apply yD | refine yS ?_ GE532.out) | exact HB.out)) hb); clear BK532; clear HB; have BK532 := n0_; have HB := n1_; clear n0_ n1_; (try clear hb); (try clear hb2); (try clear hk); (try clear hi)) | ((with_reducible refine gate_dst (N := 6) rfl ?_); refine box_event ?hg (N := 6) ?hd (cs := #[.int .u64 0, .int .u64 0, .bool false]) (t := 82) ?hr ?_; (case hd => rfl); (case hg => rfl); (case hr => first | (go_simp; done) | (go_simp; rfl)); intro gb539 hg w12 hbox hb; have n0_ := zG BK532 hb (fun h => by (with_reducible repeat (first | refine zN ?_ _ | refine zD ?_ | refine zA ?_ _)); exact h); have ⟨n1_, n3_⟩ := zV (w := w) hb hg (by repeat (first | (with_reducible first | exact HB.out | apply yA | apply yN | apply yD | refine yS ?_ GE532.out) | exact HB.out)); have n2_ := aK (hbox); have n4_ := n3_; have n5_ := aK ((by rw [hg]; exact Nat.ne_of_lt (blk_lt (g := gb532) (o := .cells #[.int .i64 0, .int .i64 0] 33 (0, 0)) (by (with_reducible repeat (first | refine zN ?_ _ | refine zD ?_ | refine zA ?_ _)); exact BK532.out)) : gb532 ≠ gb539)); have n6_ := aK ((by rw [hg]; exact Nat.ne_of_gt (blk_lt (g := gb532) (o := .cells #[.int .i64 0, .int .i64 0] 33 (0, 0)) (by (with_reducible repeat (first | refine zN ?_ _ | refine zD ?_ | refine zA ?_ _)); exact BK532.out)) : gb539 ≠ gb532)); clear BK532; clear HB; have BK532 := n0_; have HB := n1_; have BK539 := n2_; have GW539 := n3_; have GE539 := n4_; have NB532_539 := n5_; have NB539_532 := n6_; clear n0_ n1_ n2_ n3_ n4_ n5_ n6_; clear hb hbox hg) | ((with_reducible refine gate_dst (N := 7) rfl ?_); refine box_event ?hg (N := 7) ?hd (cs := #[.int .u64 0, .int .u64 0, .bool false]) (t := 82) ?hr ?_; (case hd => rfl); (case hg => rfl); (case hr => first | (go_simp; done) | (go_simp; rfl)); intro gb540 hg w13 hbox hb; have n0_ := zG BK532 hb (fun h => by (with_reducible repeat (first | refine zN ?_ _ | refine zD ?_ | refine zA ?_ _)); exact h); have n1_ := zG BK539 hb (fun h => by (with_reducible repeat (first | refine zN ?_ _ | refine zD ?_ | refine zA ?_ _)); exact h); have ⟨n2_, n4_⟩ := zV (w := w) hb hg (by repeat (first | (with_reducible first | exact HB.out | apply yA | apply yN | apply yD | refine yS ?_ GE532.out | refine yS ?_ GE539.out) | exact HB.out)); have n3_ := aK (hbox); have n5_ := n4_; have n6_ := aK ((by rw [hg]; exact Nat.ne_of_lt (blk_lt (g := gb532) (o := .cells #[.int .i64 0, .int .i64 0] 33 (0, 0)) (by (with_reducible repeat (first | refine zN ?_ _ | refine zD ?_ | refine zA ?_ _)); exact BK532.out)) : gb532 ≠ gb540)); have n7_ := aK ((by rw [hg]; exact Nat.ne_of_gt (blk_lt (g := gb532) (o := .cells #[.int .i64 0, .int .i64 0] 33 (0, 0)) (by (with_reducible repeat (first | refine zN ?_ _ | refine zD ?_ | refine zA ?_ _)); exact BK532.out)) : gb540 ≠ gb532)); have n8_ := aK ((by rw [hg]; exact Nat.ne_of_lt (blk_lt (g := gb539) (o := .cells #[.int .u64 0, .int .u64 0, .bool false] 82 (0, 0)) (by (with_reducible repeat (first | refine zN ?_ _ | refine zD ?_ | refine zA ?_ _)); exact BK539.out)) : gb539 ≠ gb540)); have n9_ := aK ((by rw [hg]; exact Nat.ne_of_gt (blk_lt (g := gb539) (o := .cells #[.int .u64 0, .int .u64 0, .bool false] 82 (0, 0)) (by (with_reducible repeat (first | refine zN ?_ _ | refine zD ?_ | refine zA ?_ _)); exact BK539.out)) : gb540 ≠ gb539)); clear BK532; clear BK539; clear HB; have BK532 := n0_; have BK539 := n1_; have HB := n2_; have BK540 := n3_; have GW540 := n4_; have GE540 := n5_; have NB532_540 := n6_; have NB540_532 := n7_; have NB539_540 := n8_; have NB540_539 := n9_; clear n0_ n1_ n2_ n3_ n4_ n5_ n6_ n7_ n8_ n9_; clear hb hbox hg; have hnb14 := NB539_532.out; have hnc14 := NB532_539.out; have hnb15 := NB539_540.out; have hnc15 := NB540_539.out; have hcz16_0 := zI BK539 0 rfl; have hcz16_1 := zI BK539 1 rfl; have hcz16_2 := zI BK539 2 rfl; have hfz16_0 := zF BK539.out 0; have hfz16_1 := zF BK539.out 1; have hfz16_2 := zF BK539.out 2; have hnb17 := NB540_532.out; have hnc17 := NB532_540.out; have hcz18_0 := zI BK540 0 rfl; have hcz18_1 := zI BK540 1 rfl; have hcz18_2 := zI BK540 2 rfl; have hfz18_0 := zF BK540.out 0; have hfz18_1 := zF BK540.out 1; have hfz18_2 := zF BK540.out 2))
  (try simp only [Act.put, sA, sZ, sS])
  go_cut [] (fun wc => ∃ (kq : Nat) (x540002_7 : Bool) (x541002_7 : Bool), Aside0 (gangsawref04_New.j0 kq t533 t534 x540002_7 t536 t537 x541002_7 = some (r1, r2, r3)) ∧ Aside0 (kq ≤ k) ∧ Aside0 (wc.heap[gb532]? = some (.cells #[.int .i64 0, .int .i64 0] 33 (0, 0))) ∧ Aside0 (wc.heap[gb539]? = some (.cells #[.int .u64 t533, .int .u64 t534, .bool x540002_7] 82 (0, 0))) ∧ Aside0 (wc.heap[gb540]? = some (.cells #[.int .u64 t536, .int .u64 t537, .bool x541002_7] 82 (0, 0))) ∧ Aside0 (Below w.heap.size w wc))
  case first =>
   have H := HC8.out
   clear HC8
   have H' := aK H
   clear H
   have hnb19 := NB539_532.out
   have hnc19 := NB532_539.out
   have hnb20 := NB539_540.out
   have hnc20 := NB540_539.out
   have hcz21_0 := zI BK539 0 rfl
   have hcz21_1 := zI BK539 1 rfl
   have hcz21_2 := zI BK539 2 rfl
   have hfz21_0 := zF BK539.out 0
   have hfz21_1 := zF BK539.out 1
   have hfz21_2 := zF BK539.out 2
   have hnb22 := NB540_532.out
   have hnc22 := NB532_540.out
   have hcz23_0 := zI BK540 0 rfl
   have hcz23_1 := zI BK540 1 rfl
   have hcz23_2 := zI BK540 2 rfl
   have hfz23_0 := zF BK540.out 0
   have hfz23_1 := zF BK540.out 1
   have hfz23_2 := zF BK540.out 2
   go_wp2
   go_meet
   case rel => exact ⟨_, ((t535 != t538)), (false), H', ⟨by first | omega | exact Nat.le_refl _⟩, ⟨by (with_reducible repeat (first | refine zN ?_ _ | refine zD ?_ | refine zA ?_ _)); refine blk_far ?_ NB532_540.out _; (with_reducible repeat (first | refine zN ?_ _ | refine zD ?_ | refine zA ?_ _)); refine blk_far ?_ NB532_539.out _; (with_reducible repeat (first | refine zN ?_ _ | refine zD ?_ | refine zA ?_ _)); refine blk_far ?_ NB532_540.out _; (with_reducible repeat (first | refine zN ?_ _ | refine zD ?_ | refine zA ?_ _)); refine blk_far ?_ NB532_540.out _; (with_reducible repeat (first | refine zN ?_ _ | refine zD ?_ | refine zA ?_ _)); refine blk_far ?_ NB532_540.out _; (with_reducible repeat (first | refine zN ?_ _ | refine zD ?_ | refine zA ?_ _)); refine blk_far ?_ NB532_539.out _; (with_reducible repeat (first | refine zN ?_ _ | refine zD ?_ | refine zA ?_ _)); refine blk_far ?_ NB532_539.out _; (with_reducible repeat (first | refine zN ?_ _ | refine zD ?_ | refine zA ?_ _)); refine blk_far ?_ NB532_539.out _; (with_reducible repeat (first | refine zN ?_ _ | refine zD ?_ | refine zA ?_ _)); exact BK532.out⟩, ⟨by (with_reducible repeat (first | refine zN ?_ _ | refine zD ?_ | refine zA ?_ _)); refine blk_far ?_ NB539_540.out _; (with_reducible repeat (first | refine zN ?_ _ | refine zD ?_ | refine zA ?_ _)); refine blk_put (cs := #[.int .u64 t533, .int .u64 t534, .bool t535]) ?_ 2 _ rfl; (with_reducible repeat (first | refine zN ?_ _ | refine zD ?_ | refine zA ?_ _)); refine blk_far ?_ NB539_540.out _; (with_reducible repeat (first | refine zN ?_ _ | refine zD ?_ | refine zA ?_ _)); refine blk_far ?_ NB539_540.out _; (with_reducible repeat (first | refine zN ?_ _ | refine zD ?_ | refine zA ?_ _)); refine blk_far ?_ NB539_540.out _; (with_reducible repeat (first | refine zN ?_ _ | refine zD ?_ | refine zA ?_ _)); refine blk_put (cs := #[.int .u64 t533, .int .u64 t534, .bool false]) ?_ 2 _ rfl; (with_reducible repeat (first | refine zN ?_ _ | refine zD ?_ | refine zA ?_ _)); refine blk_put (cs := #[.int .u64 t533, .int .u64 0, .bool false]) ?_ 1 _ rfl; (with_reducible repeat (first | refine zN ?_ _ | refine zD ?_ | refine zA ?_ _)); refine blk_put (cs := #[.int .u64 0, .int .u64 0, .bool false]) ?_ 0 _ rfl; (with_reducible repeat (first | refine zN ?_ _ | refine zD ?_ | refine zA ?_ _)); exact BK539.out⟩, ⟨by (with_reducible repeat (first | refine zN ?_ _ | refine zD ?_ | refine zA ?_ _)); refine blk_put (cs := #[.int .u64 t536, .int .u64 t537, .bool t538]) ?_ 2 _ rfl; (with_reducible repeat (first | refine zN ?_ _ | refine zD ?_ | refine zA ?_ _)); refine blk_far ?_ NB540_539.out _; (with_reducible repeat (first | refine zN ?_ _ | refine zD ?_ | refine zA ?_ _)); refine blk_put (cs := #[.int .u64 t536, .int .u64 t537, .bool false]) ?_ 2 _ rfl; (with_reducible repeat (first | refine zN ?_ _ | refine zD ?_ | refine zA ?_ _)); refine blk_put (cs := #[.int .u64 t536, .int .u64 0, .bool false]) ?_ 1 _ rfl; (with_reducible repeat (first | refine zN ?_ _ | refine zD ?_ | refine zA ?_ _)); refine blk_put (cs := #[.int .u64 0, .int .u64 0, .bool false]) ?_ 0 _ rfl; (with_reducible repeat (first | refine zN ?_ _ | refine zD ?_ | refine zA ?_ _)); refine blk_far ?_ NB540_539.out _; (with_reducible repeat (first | refine zN ?_ _ | refine zD ?_ | refine zA ?_ _)); refine blk_far ?_ NB540_539.out _; (with_reducible repeat (first | refine zN ?_ _ | refine zD ?_ | refine zA ?_ _)); refine blk_far ?_ NB540_539.out _; (with_reducible repeat (first | refine zN ?_ _ | refine zD ?_ | refine zA ?_ _)); exact BK540.out⟩, ⟨by repeat (first | (with_reducible first | exact HB.out | apply yA | apply yN | apply yD | refine yS ?_ GE532.out | refine yS ?_ GE539.out | refine yS ?_ GE540.out) | exact HB.out)⟩⟩
  case rest =>
   clear HC8
   try clear c1
   try clear c2
   try clear p2
   try clear c3
   try clear c3b0
   try clear c3b1
   try clear c4
   try clear c7
   try clear c14
   try clear c15
   try clear c17
   try clear c19
   try clear c20
   try clear c22
   try clear hcz16_0
   try clear hcz16_1
   try clear hcz16_2
   try clear hcz18_0
   try clear hcz18_1
   try clear hcz18_2
   try clear hcz21_0
   try clear hcz21_1
   try clear hcz21_2
   try clear hcz23_0
   try clear hcz23_1
   try clear hcz23_2
   try clear hcz5_0
   try clear hcz5_1
   try clear hfz16_0
   try clear hfz16_1
   try clear hfz16_2
   try clear hfz18_0
   try clear hfz18_1
   try clear hfz18_2
   try clear hfz21_0
   try clear hfz21_1
   try clear hfz21_2
   try clear hfz23_0
   try clear hfz23_1
   try clear hfz23_2
   try clear hfz5_0
   try clear hfz5_1
   obtain ⟨kq, x540002_7, x541002_7, HA, HJ7, BK532, BK539, BK540, HB⟩ := hcut
   cases kq with
   | zero => exact absurd HA.out (by simp [gangsawref04_New.j0])
   | succ kj7 =>
    have H := HA.out
    clear HA
    simp only [gangsawref04_New.j0] at H
    replace H := Option.bind_eq_some_iff.mp H
    obtain ⟨⟨t541, t542, t543⟩, A240, H⟩ := H
    replace H : (some (t541, t542, t543)) = some (r1, r2, r3) := H
    have A24 := aK A240
    clear A240
    simp only [Option.some.injEq, Prod.mk.injEq] at H
    obtain ⟨rfl, rfl, rfl⟩ := H
    have hnb25 := NB539_532.out
    have hnc25 := NB532_539.out
    have hnb26 := NB539_540.out
    have hnc26 := NB540_539.out
    have hcz27_0 := zI BK539 0 rfl
    have hcz27_1 := zI BK539 1 rfl
    have hcz27_2 := zI BK539 2 rfl
    have hfz27_0 := zF BK539.out 0
    have hfz27_1 := zF BK539.out 1
    have hfz27_2 := zF BK539.out 2
    have hnb28 := NB540_532.out
    have hnc28 := NB532_540.out
    have hcz29_0 := zI BK540 0 rfl
    have hcz29_1 := zI BK540 1 rfl
    have hcz29_2 := zI BK540 2 rfl
    have hfz29_0 := zF BK540.out 0
    have hfz29_1 := zF BK540.out 1
    have hfz29_2 := zF BK540.out 2
    go_wp2_with (first | ((with_reducible refine gate_callee (f := 72) rfl ?_); refine goesL_ (some 24) rfl rfl Try.func72 (by kernel_rfl) rfl #[.agg #[.int .u64 t533, .int .u64 t534, .bool x540002_7], .agg #[.int .u64 t536, .int .u64 t537, .bool x541002_7]] rfl (by (try simp only [List.map_toArray, List.map_cons, List.map_nil]); first | done | rfl | (simp only [List.length_drop, List.length_take]; rfl)) ?_; (with_reducible refine (gangsawref04_lowest.calls kj7 t533 t534 x540002_7 t536 t537 x541002_7 t541 t542 t543 _ A24.out).mono ?_); rintro e w30 ⟨rfl, hb⟩; refine ⟨_, rfl, ?_⟩; have n0_ := zG BK532 hb (fun h => by (with_reducible repeat (first | refine zN ?_ _ | refine zD ?_ | refine zA ?_ _)); exact h); have n1_ := zG BK539 hb (fun h => by (with_reducible repeat (first | refine zN ?_ _ | refine zD ?_ | refine zA ?_ _)); exact h); have n2_ := zG BK540 hb (fun h => by (with_reducible repeat (first | refine zN ?_ _ | refine zD ?_ | refine zA ?_ _)); exact h); have n3_ := aK (yT (by repeat (first | (with_reducible first | exact HB.out | apply yA | apply yN | apply yD | refine yS ?_ GE532.out | refine yS ?_ GE539.out | refine yS ?_ GE540.out) | exact HB.out)) hb); clear BK532; clear BK539; clear BK540; clear HB; have BK532 := n0_; have BK539 := n1_; have BK540 := n2_; have HB := n3_; clear n0_ n1_ n2_ n3_; (try clear hb); (try clear hb2); (try clear hk); (try clear hi); have hcz31_0 := zI BK532 0 rfl; have hcz31_1 := zI BK532 1 rfl; have hfz31_0 := zF BK532.out 0; have hfz31_1 := zF BK532.out 1))
    refine bodyPost_ret (results_ct rfl _ _ gb532 33 #[.int .i64 t541, .int .i64 t542] (0, 0) _ rfl (by (with_reducible repeat (first | refine zN ?_ _ | refine zD ?_ | refine zA ?_ _)); refine blk_put (cs := #[.int .i64 t541, .int .i64 0]) ?_ 1 _ rfl; (with_reducible repeat (first | refine zN ?_ _ | refine zD ?_ | refine zA ?_ _)); refine blk_put (cs := #[.int .i64 0, .int .i64 0]) ?_ 0 _ rfl; (with_reducible repeat (first | refine zN ?_ _ | refine zD ?_ | refine zA ?_ _)); exact BK532.out) Try.underlying33 rfl (by kernel_rfl)) rfl ?_
    exact ⟨by first | rfl | (simp [errW_none, errW_some] <;> rfl) | (simp [*, errW_none, errW_some] <;> rfl), by repeat (first | (with_reducible first | exact HB.out | apply yA | apply yN | apply yD | refine yS ?_ GE532.out | refine yS ?_ GE539.out | refine yS ?_ GE540.out) | exact HB.out)⟩

end Go.Proofs.Ythkpgjjakdbbfaa.P
