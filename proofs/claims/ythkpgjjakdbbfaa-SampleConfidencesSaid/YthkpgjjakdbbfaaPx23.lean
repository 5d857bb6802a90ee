/- What functions of the program return: each contract says so of one function, for every input at which its pure function yields. -/
import Derived.Test.YthkpgjjakdbbfaaPx0
import Derived.Test.YthkpgjjakdbbfaaPx7
import Derived.Test.YthkpgjjakdbbfaaPx22
import Derived.Test.YthkpgjjakdbbfaaBits
namespace Go.Proofs.Ythkpgjjakdbbfaa.P
open Go.RowKit Go.Proofs.YthkpgjjakdbbfaaW.PrintWords Go.Proofs.YthkpgjjakdbbfaaW.PrintLast Go.Proofs.YthkpgjjakdbbfaaW.PrintMore
attribute [local go_sem] max2_int min2_int max_two min_two max_three min_three max_four min_four   -- for this text's walks alone
set_option linter.unusedVariables false
set_option linter.unusedSimpArgs false

open Go.Proofs.Ythkpgjjakdbbfaa.Bits
def gangsawref33_power.l0 : Nat → Int → Int → Int → Int → Option (Int)
 | 0, _, _, _, _ => none
 | k + 1, x0, x1, x5, x6 => if x6 < x1 then (if x0 = 0 then (none) else (if x5 > (wrap64 (Int.tdiv (999999999999999999 : Int) x0)) then (some (-1)) else (gangsawref33_power.l0 k x0 x1 (wrap64 (x5 * x0)) (wrap64 (x6 + 1))))) else (some x5)
def gangsawref33_power.f (k : Nat) (a0 : Int) (a1 : Int) : Option (Int) := gangsawref33_power.l0 k a0 a1 1 0
set_option maxHeartbeats 8000000 in
set_option maxRecDepth 100000 in
theorem gangsawref33_power.calls (k : Nat) (a0 : Int) (a1 : Int) (r : Int) (w : World) (h : gangsawref33_power.f k a0 a1 = some r) :
  Calls Try.prog 47 #[.int .i64 a0, .int .i64 a1] w fun e w' => e = .returned (.int .i64 r) ∧ Drawn0 w w' := by
 have H : (gangsawref33_power.l0 k a0 a1 1 0) = some r := h
 clear h
 have H' := aK H
 clear H
 go_enter Try.func47, Try.ntmps47
 go_wp2
 go_loopg [5, 6] k (fun kq v5 v6 w' => ∃ (x5_1 : Int) (x6_1 : Int), v5 = .int .i64 x5_1 ∧ v6 = .int .i64 x6_1 ∧ Aside0 (gangsawref33_power.l0 kq a0 a1 x5_1 x6_1 = some r) ∧ Aside0 (kq ≤ k) ∧ Drawn0 w w')
 case atStart => exact ⟨(1), (0), (by first | rfl | (simp; done) | (simp [*]; done)), (by first | rfl | (simp; done) | (simp [*]; done)), H', ⟨Nat.le_refl _⟩, by repeat (first | exact Drawn0.refl _ | apply Drawn0.step)⟩
 case round =>
  clear H'
  try clear p2
  obtain ⟨x5_1, x6_1, rfl, rfl, HA, HK1, ⟨m1, rfl⟩⟩ := hrel
  cases gk with
  | zero => exact absurd HA.out (by simp [gangsawref33_power.l0])
  | succ k1 =>
   have H := HA.out
   clear HA
   simp only [gangsawref33_power.l0] at H
   by_cases c3 : x6_1 < a1
   rotate_left
   ·rw [if_neg c3] at H
    have c3b0 : decide (x6_1 < a1) = false := decide_eq_false c3
    clear c3
    obtain rfl := Option.some.inj H
    simp only [Option.some.injEq, Prod.mk.injEq] at H
    obtain ⟨rfl⟩ := H
    go_wp2
    go_ret
    exact ⟨by first | rfl | (simp; done) | (simp [*]; done), by repeat (first | exact Drawn0.refl _ | apply Drawn0.step)⟩
   rw [if_pos c3] at H
   have c3b0 : decide (x6_1 < a1) = true := decide_eq_true c3
   clear c3
   by_cases c4 : a0 = 0
   ·rw [if_pos c4] at H
    exact absurd H (by simp)
   rw [if_neg c4] at H
   have c4b0 : (a0 == 0) = false := beq_eq_false_iff_ne.mpr c4
   have c4b1 : (a0 != 0) = true := bne_iff_ne.mpr c4
   by_cases c5 : x5_1 > (wrap64 (Int.tdiv (999999999999999999 : Int) a0))
   ·rw [if_pos c5] at H
    have c5b0 : decide ((wrap64 (Int.tdiv (999999999999999999 : Int) a0)) < x5_1) = true := decide_eq_true c5
    clear c5
    obtain rfl := Option.some.inj H
    simp only [Option.some.injEq, Prod.mk.injEq] at H
    obtain ⟨rfl⟩ := H
    go_wp2
    go_ret
    exact ⟨by first | rfl | (simp; done) | (simp [*]; done), by repeat (first | exact Drawn0.refl _ | apply Drawn0.step)⟩
   rw [if_neg c5] at H
   have c5b0 : decide ((wrap64 (Int.tdiv (999999999999999999 : Int) a0)) < x5_1) = false := decide_eq_false c5
   clear c5
   have H' := aK H
   clear H
   go_wp2
   go_roundg k1
   case measure => have := HK1.out; omega
   case rel => exact ⟨(wrap64 (x5_1 * a0)), (wrap64 (x6_1 + 1)), (by first | rfl | (simp; done) | (simp [*]; done)), (by first | rfl | (simp; done) | (simp [*]; done)), H', ⟨by have := HK1.out; omega⟩, by repeat (first | exact Drawn0.refl _ | apply Drawn0.step)⟩

def gangsawref04_times.f (a0 : Int) (a1 : Int) : Option (Int × Int × Bool) := (gangsawref04_size.f a0).bind fun t457 => ((gangsawref04_size.f a1).bind fun t458 => ((bits_Mul64.f t457 t458).bind fun bt459 => (some (bt459.1, bt459.2, ((decide (a0 < 0)) != (decide (a1 < 0)))))))
set_option maxHeartbeats 8000000 in
set_option maxRecDepth 100000 in
theorem gangsawref04_times.calls (a0 : Int) (a1 : Int) (r1 : Int) (r2 : Int) (r3 : Bool) (w : World) (h : gangsawref04_times.f a0 a1 = some (r1, r2, r3)) :
  Calls Try.prog 74 #[.int .i64 a0, .int .i64 a1] w fun e w' => e = .returned (.agg #[.int .u64 r1, .int .u64 r2, .bool r3]) ∧ Below w.heap.size w w' := by
 have hu82 := Try.underlying82
 have HB := aK (Below.refl w.heap.size w)
 have H : ((gangsawref04_size.f a0).bind fun t457 => ((gangsawref04_size.f a1).bind fun t458 => ((bits_Mul64.f t457 t458).bind fun bt459 => (some (bt459.1, bt459.2, ((decide (a0 < 0)) != (decide (a1 < 0)))))))) = some (r1, r2, r3) := h
 clear h
 replace H := Option.bind_eq_some_iff.mp H
 obtain ⟨t457, A30, H⟩ := H
 replace H : ((gangsawref04_size.f a1).bind fun t458 => ((bits_Mul64.f t457 t458).bind fun bt459 => (some (bt459.1, bt459.2, ((decide (a0 < 0)) != (decide (a1 < 0))))))) = some (r1, r2, r3) := H
 have A3 := aK A30
 clear A30
 replace H := Option.bind_eq_some_iff.mp H
 obtain ⟨t458, A40, H⟩ := H
 replace H : ((bits_Mul64.f t457 t458).bind fun bt459 => (some (bt459.1, bt459.2, ((decide (a0 < 0)) != (decide (a1 < 0)))))) = some (r1, r2, r3) := H
 have A4 := aK A40
 clear A40
 replace H := Option.bind_eq_some_iff.mp H
 obtain ⟨⟨t459, t460⟩, A50, H⟩ := H
 replace H : (some (t459, t460, ((decide (a0 < 0)) != (decide (a1 < 0))))) = some (r1, r2, r3) := H
 have A5 := aK A50
 clear A50
 simp only [Option.some.injEq, Prod.mk.injEq] at H
 obtain ⟨rfl, rfl, rfl⟩ := H
 go_enter Try.func74, Try.ntmps74
 go_wp2_with (first | ((with_reducible refine gate_dst (N := 4) rfl ?_); refine box_event ?hg (N := 4) ?hd (cs := #[.int .u64 0, .int .u64 0, .bool false]) (t := 82) ?hr ?_; (case hd => rfl); (case hg => rfl); (case hr => first | (go_simp; done) | (go_simp; rfl)); intro gb456 hg w6 hbox hb; have ⟨n0_, n2_⟩ := zV (w := w) hb hg (by repeat (first | (with_reducible first | exact HB.out | apply yA | apply yN | apply yD) | exact HB.out)); have n1_ := aK (hbox); have n3_ := n2_; clear HB; have HB := n0_; have BK456 := n1_; have GW456 := n2_; have GE456 := n3_; clear n0_ n1_ n2_ n3_; clear hb hbox hg) | ((with_reducible refine gate_callee (f := 90) rfl ?_); refine goesL_ (some 9) rfl rfl Try.func90 (by kernel_rfl) rfl #[.int .i64 a0] rfl (by (try simp only [List.map_toArray, List.map_cons, List.map_nil]); first | done | rfl | (simp only [List.length_drop, List.length_take]; rfl)) ?_; (with_reducible refine (gangsawref04_size.calls a0 t457 _ A3.out).mono ?_); rintro e w' ⟨rfl, ⟨nd, rfl⟩⟩; refine ⟨_, rfl, ?_⟩; (try (rw [drewN_self w6]; generalize hq_ : World.drewN w6 _ = w6; have n0_ : Aside0 (w6.heap[gb456]? = some (.cells #[.int .u64 0, .int .u64 0, .bool false] 82 (0, 0))) := ⟨by rw [← hq_]; exact (BK456.out)⟩; have n1_ : Aside0 (Below w.heap.size w w6) := ⟨by rw [← hq_]; exact (by repeat (first | (with_reducible first | exact HB.out | apply yA | apply yN | apply yD | refine yS ?_ GE456.out) | exact HB.out))⟩; clear BK456 HB hq_; have BK456 := n0_; have HB := n1_; clear n0_ n1_))) | ((with_reducible refine gate_callee (f := 90) rfl ?_); refine goesL_ (some 11) rfl rfl Try.func90 (by kernel_rfl) rfl #[.int .i64 a1] rfl (by (try simp only [List.map_toArray, List.map_cons, List.map_nil]); first | done | rfl | (simp only [List.length_drop, List.length_take]; rfl)) ?_; (with_reducible refine (gangsawref04_size.calls a1 t458 _ A4.out).mono ?_); rintro e w' ⟨rfl, ⟨nd, rfl⟩⟩; refine ⟨_, rfl, ?_⟩; (try (rw [drewN_self w6]; generalize hq_ : World.drewN w6 _ = w6; have n0_ : Aside0 (w6.heap[gb456]? = some (.cells #[.int .u64 0, .int .u64 0, .bool false] 82 (0, 0))) := ⟨by rw [← hq_]; exact (BK456.out)⟩; have n1_ : Aside0 (Below w.heap.size w w6) := ⟨by rw [← hq_]; exact (by repeat (first | (with_reducible first | exact HB.out | apply yA | apply yN | apply yD | refine yS ?_ GE456.out) | exact HB.out))⟩; clear BK456 HB hq_; have BK456 := n0_; have HB := n1_; clear n0_ n1_))) | ((with_reducible refine gate_callee (f := 81) rfl ?_); refine goesL_ (some 12) rfl rfl Try.func81 (by kernel_rfl) rfl #[.int .u64 t457, .int .u64 t458] rfl (by (try simp only [List.map_toArray, List.map_cons, List.map_nil]); first | done | rfl | (simp only [List.length_drop, List.length_take]; rfl)) ?_; (with_reducible refine (bits_Mul64.calls t457 t458 t459 t460 _ A5.out).mono ?_); rintro e w' ⟨rfl, ⟨nd, rfl⟩⟩; refine ⟨_, rfl, ?_⟩; (try (rw [drewN_self w6]; generalize hq_ : World.drewN w6 _ = w6; have n0_ : Aside0 (w6.heap[gb456]? = some (.cells #[.int .u64 0, .int .u64 0, .bool false] 82 (0, 0))) := ⟨by rw [← hq_]; exact (BK456.out)⟩; have n1_ : Aside0 (Below w.heap.size w w6) := ⟨by rw [← hq_]; exact (by repeat (first | (with_reducible first | exact HB.out | apply yA | apply yN | apply yD | refine yS ?_ GE456.out) | exact HB.out))⟩; clear BK456 HB hq_; have BK456 := n0_; have HB := n1_; clear n0_ n1_)); have hcz7_0 := zI BK456 0 rfl; have hcz7_1 := zI BK456 1 rfl; have hcz7_2 := zI BK456 2 rfl; have hfz7_0 := zF BK456.out 0; have hfz7_1 := zF BK456.out 1; have hfz7_2 := zF BK456.out 2))
 refine bodyPost_ret (results_cell_row rfl _ _ gb456 82 #[.int .u64 t459, .int .u64 t460, .bool ((decide (a0 < 0)) != (decide (a1 < 0)))] (0, 0) _ rfl (by refine blk_put (cs := #[.int .u64 t459, .int .u64 t460, .bool false]) ?_ 2 _ rfl; refine blk_put (cs := #[.int .u64 t459, .int .u64 0, .bool false]) ?_ 1 _ rfl; refine blk_put (cs := #[.int .u64 0, .int .u64 0, .bool false]) ?_ 0 _ rfl; exact BK456.out) Try.underlying82 rfl (by kernel_rfl)) rfl ?_
 exact ⟨rfl, by repeat (first | (with_reducible first | exact HB.out | apply yA | apply yN | apply yD | refine yS ?_ GE456.out) | exact HB.out)⟩

def gangsawref04_one.f (a0 : Int) : Option (Int × Int × Bool) := (gangsawref04_times.f a0 1).bind fun bt462 => (some (bt462.1, bt462.2.1, bt462.2.2))
set_option maxHeartbeats 8000000 in
set_option maxRecDepth 100000 in
theorem gangsawref04_one.calls (a0 : Int) (r1 : Int) (r2 : Int) (r3 : Bool) (w : World) (h : gangsawref04_one.f a0 = some (r1, r2, r3)) :
  Calls Try.prog 71 #[.int .i64 a0] w fun e w' => e = .returned (.agg #[.int .u64 r1, .int .u64 r2, .bool r3]) ∧ Below w.heap.size w w' := by
 have hu82 := Try.underlying82
 have HB := aK (Below.refl w.heap.size w)
 have H : ((gangsawref04_times.f a0 1).bind fun bt462 => (some (bt462.1, bt462.2.1, bt462.2.2))) = some (r1, r2, r3) := h
 clear h
 replace H := Option.bind_eq_some_iff.mp H
 obtain ⟨⟨t462, t463, t464⟩, A20, H⟩ := H
 replace H : (some (t462, t463, t464)) = some (r1, r2, r3) := H
 have A2 := aK A20
 clear A20
 simp only [Option.some.injEq, Prod.mk.injEq] at H
 obtain ⟨rfl, rfl, rfl⟩ := H
 go_enter Try.func71, Try.ntmps71
 go_wp2_with (first | ((with_reducible refine gate_dst (N := 2) rfl ?_); refine box_event ?hg (N := 2) ?hd (cs := #[.int .u64 0, .int .u64 0, .bool false]) (t := 82) ?hr ?_; (case hd => rfl); (case hg => rfl); (case hr => first | (go_simp; done) | (go_simp; rfl)); intro gb461 hg w3 hbox hb; have ⟨n0_, n2_⟩ := zV (w := w) hb hg (by repeat (first | (with_reducible first | exact HB.out | apply yA | apply yN | apply yD) | exact HB.out)); have n1_ := aK (hbox); have n3_ := n2_; clear HB; have HB := n0_; have BK461 := n1_; have GW461 := n2_; have GE461 := n3_; clear n0_ n1_ n2_ n3_; clear hb hbox hg) | ((with_reducible refine gate_callee (f := 74) rfl ?_); refine goesL_ (some 4) rfl rfl Try.func74 (by kernel_rfl) rfl #[.int .i64 a0, .int .i64 1] rfl (by (try simp only [List.map_toArray, List.map_cons, List.map_nil]); first | done | rfl | (simp only [List.length_drop, List.length_take]; rfl)) ?_; (with_reducible refine (gangsawref04_times.calls a0 1 t462 t463 t464 _ A2.out).mono ?_); rintro e w4 ⟨rfl, hb⟩; refine ⟨_, rfl, ?_⟩; have n0_ := aK (zB (g := gb461) (o := .cells #[.int .u64 0, .int .u64 0, .bool false] 82 (0, 0)) (BK461.out) hb); have n1_ := aK (yT (by repeat (first | (with_reducible first | exact HB.out | apply yA | apply yN | apply yD | refine yS ?_ GE461.out) | exact HB.out)) hb); clear BK461; clear HB; have BK461 := n0_; have HB := n1_; clear n0_ n1_; (try clear hb); have hcz5_0 := zI BK461 0 rfl; have hcz5_1 := zI BK461 1 rfl; have hcz5_2 := zI BK461 2 rfl; have hfz5_0 := zF BK461.out 0; have hfz5_1 := zF BK461.out 1; have hfz5_2 := zF BK461.out 2))
 refine bodyPost_ret (results_cell_row rfl _ _ gb461 82 #[.int .u64 t462, .int .u64 t463, .bool t464] (0, 0) _ rfl (by refine blk_put (cs := #[.int .u64 t462, .int .u64 t463, .bool false]) ?_ 2 _ rfl; refine blk_put (cs := #[.int .u64 t462, .int .u64 0, .bool false]) ?_ 1 _ rfl; refine blk_put (cs := #[.int .u64 0, .int .u64 0, .bool false]) ?_ 0 _ rfl; exact BK461.out) Try.underlying82 rfl (by kernel_rfl)) rfl ?_
 exact ⟨rfl, by repeat (first | (with_reducible first | exact HB.out | apply yA | apply yN | apply yD | refine yS ?_ GE461.out) | exact HB.out)⟩

def gangsawref04_wide_zero.f (a0_0 : Int) (a0_1 : Int) (a0_2 : Bool) : Option (Bool) := if a0_0 = 0 then (some (a0_1 == 0)) else (some false)
set_option maxHeartbeats 8000000 in
set_option maxRecDepth 100000 in
theorem gangsawref04_wide_zero.calls (a0_0 : Int) (a0_1 : Int) (a0_2 : Bool) (r : Bool) (w : World) (h : gangsawref04_wide_zero.f a0_0 a0_1 a0_2 = some r) :
  Calls Try.prog 76 #[.agg #[.int .u64 a0_0, .int .u64 a0_1, .bool a0_2]] w fun e w' => e = .returned (.bool r) ∧ Below w.heap.size w w' := by
 have hu82 := Try.underlying82
 have HB := aK (Below.refl w.heap.size w)
 have H : (if a0_0 = 0 then (some (a0_1 == 0)) else (some false)) = some r := h
 clear h
 by_cases c2 : a0_0 = 0
 rotate_left
 ·rw [if_neg c2] at H
  have c2b0 : (a0_0 == 0) = false := beq_eq_false_iff_ne.mpr c2
  have c2b1 : (a0_0 != 0) = true := bne_iff_ne.mpr c2
  obtain rfl := Option.some.inj H
  simp only [Option.some.injEq, Prod.mk.injEq] at H
  obtain ⟨rfl⟩ := H
  go_enter Try.func76, Try.ntmps76
  go_wp2_with (first | ((with_reducible refine gate_dst (N := 1) rfl ?_); refine box_event ?hg (N := 1) ?hd (cs := #[.int .u64 a0_0, .int .u64 a0_1, .bool a0_2]) (t := 82) ?hr ?_; (case hd => rfl); (case hg => rfl); (case hr => first | (go_simp; done) | (go_simp; rfl)); intro gb465 hg w5 hbox hb; have ⟨n0_, n2_⟩ := zV (w := w) hb hg (by repeat (first | (with_reducible first | exact HB.out | apply yA | apply yN | apply yD) | exact HB.out)); have n1_ := aK (hbox); have n3_ := n2_; clear HB; have HB := n0_; have BK465 := n1_; have GW465 := n2_; have GE465 := n3_; clear n0_ n1_ n2_ n3_; clear hb hbox hg; have hcz6_0 := zI BK465 0 rfl; have hcz6_1 := zI BK465 1 rfl; have hcz6_2 := zI BK465 2 rfl; have hfz6_0 := zF BK465.out 0; have hfz6_1 := zF BK465.out 1; have hfz6_2 := zF BK465.out 2))
  go_ret
  exact ⟨rfl, by repeat (first | (with_reducible first | exact HB.out | apply yA | apply yN | apply yD | refine yS ?_ GE465.out) | exact HB.out)⟩
 rw [if_pos c2] at H
 have c2b0 : (a0_0 == 0) = true := beq_iff_eq.mpr c2
 have c2b1 : (a0_0 != 0) = false := bne_eq_false_iff_eq.mpr c2
 clear c2
 obtain rfl := Option.some.inj H
 simp only [Option.some.injEq, Prod.mk.injEq] at H
 obtain ⟨rfl⟩ := H
 go_enter Try.func76, Try.ntmps76
 go_wp2_with (first | ((with_reducible refine gate_dst (N := 1) rfl ?_); refine box_event ?hg (N := 1) ?hd (cs := #[.int .u64 a0_0, .int .u64 a0_1, .bool a0_2]) (t := 82) ?hr ?_; (case hd => rfl); (case hg => rfl); (case hr => first | (go_simp; done) | (go_simp; rfl)); intro gb465 hg w3 hbox hb; have ⟨n0_, n2_⟩ := zV (w := w) hb hg (by repeat (first | (with_reducible first | exact HB.out | apply yA | apply yN | apply yD) | exact HB.out)); have n1_ := aK (hbox); have n3_ := n2_; clear HB; have HB := n0_; have BK465 := n1_; have GW465 := n2_; have GE465 := n3_; clear n0_ n1_ n2_ n3_; clear hb hbox hg; have hcz4_0 := zI BK465 0 rfl; have hcz4_1 := zI BK465 1 rfl; have hcz4_2 := zI BK465 2 rfl; have hfz4_0 := zF BK465.out 0; have hfz4_1 := zF BK465.out 1; have hfz4_2 := zF BK465.out 2))
 go_ret
 exact ⟨rfl, by repeat (first | (with_reducible first | exact HB.out | apply yA | apply yN | apply yD | refine yS ?_ GE465.out) | exact HB.out)⟩

def gangsawref04_above.f (a0_0 : Int) (a0_1 : Int) (a0_2 : Bool) (a1_0 : Int) (a1_1 : Int) (a1_2 : Bool) : Option (Bool) := if a0_0 > a1_0 then (some true) else (if a0_0 = a1_0 then (some (decide (a0_1 > a1_1))) else (some false))
set_option maxHeartbeats 8000000 in
set_option maxRecDepth 100000 in
theorem gangsawref04_above.calls (a0_0 : Int) (a0_1 : Int) (a0_2 : Bool) (a1_0 : Int) (a1_1 : Int) (a1_2 : Bool) (r : Bool) (w : World) (h : gangsawref04_above.f a0_0 a0_1 a0_2 a1_0 a1_1 a1_2 = some r) :
  Calls Try.prog 94 #[.agg #[.int .u64 a0_0, .int .u64 a0_1, .bool a0_2], .agg #[.int .u64 a1_0, .int .u64 a1_1, .bool a1_2]] w fun e w' => e = .returned (.bool r) ∧ Below w.heap.size w w' := by
 have hu82 := Try.underlying82
 have HB := aK (Below.refl w.heap.size w)
 have H : (if a0_0 > a1_0 then (some true) else (if a0_0 = a1_0 then (some (decide (a0_1 > a1_1))) else (some false))) = some r := h
 clear h
 by_cases c3 : a0_0 > a1_0
 ·rw [if_pos c3] at H
  have c3b0 : decide (a1_0 < a0_0) = true := decide_eq_true c3
  clear c3
  obtain rfl := Option.some.inj H
  simp only [Option.some.injEq, Prod.mk.injEq] at H
  obtain ⟨rfl⟩ := H
  go_enter Try.func94, Try.ntmps94
  go_wp2_with (first | ((with_reducible refine gate_dst (N := 2) rfl ?_); refine box_event ?hg (N := 2) ?hd (cs := #[.int .u64 a0_0, .int .u64 a0_1, .bool a0_2]) (t := 82) ?hr ?_; (case hd => rfl); (case hg => rfl); (case hr => first | (go_simp; done) | (go_simp; rfl)); intro gb466 hg w4 hbox hb; have ⟨n0_, n2_⟩ := zV (w := w) hb hg (by repeat (first | (with_reducible first | exact HB.out | apply yA | apply yN | apply yD) | exact HB.out)); have n1_ := aK (hbox); have n3_ := n2_; clear HB; have HB := n0_; have BK466 := n1_; have GW466 := n2_; have GE466 := n3_; clear n0_ n1_ n2_ n3_; clear hb hbox hg) | ((with_reducible refine gate_dst (N := 3) rfl ?_); refine box_event ?hg (N := 3) ?hd (cs := #[.int .u64 a1_0, .int .u64 a1_1, .bool a1_2]) (t := 82) ?hr ?_; (case hd => rfl); (case hg => rfl); (case hr => first | (go_simp; done) | (go_simp; rfl)); intro gb467 hg w5 hbox hb; have n0_ := aK (zB (g := gb466) (o := .cells #[.int .u64 a0_0, .int .u64 a0_1, .bool a0_2] 82 (0, 0)) (BK466.out) hb); have ⟨n1_, n3_⟩ := zV (w := w) hb hg (by repeat (first | (with_reducible first | exact HB.out | apply yA | apply yN | apply yD | refine yS ?_ GE466.out) | exact HB.out)); have n2_ := aK (hbox); have n4_ := n3_; have n5_ := aK ((by rw [hg]; exact Nat.ne_of_lt (blk_lt (g := gb466) (o := .cells #[.int .u64 a0_0, .int .u64 a0_1, .bool a0_2] 82 (0, 0)) (BK466.out)) : gb466 ≠ gb467)); have n6_ := aK ((by rw [hg]; exact Nat.ne_of_gt (blk_lt (g := gb466) (o := .cells #[.int .u64 a0_0, .int .u64 a0_1, .bool a0_2] 82 (0, 0)) (BK466.out)) : gb467 ≠ gb466)); clear BK466; clear HB; have BK466 := n0_; have HB := n1_; have BK467 := n2_; have GW467 := n3_; have GE467 := n4_; have NB466_467 := n5_; have NB467_466 := n6_; clear n0_ n1_ n2_ n3_ n4_ n5_ n6_; clear hb hbox hg; have hnb6 := NB466_467.out; have hnc6 := NB467_466.out; have hcz7_0 := zI BK466 0 rfl; have hcz7_1 := zI BK466 1 rfl; have hcz7_2 := zI BK466 2 rfl; have hfz7_0 := zF BK466.out 0; have hfz7_1 := zF BK466.out 1; have hfz7_2 := zF BK466.out 2; have hcz8_0 := zI BK467 0 rfl; have hcz8_1 := zI BK467 1 rfl; have hcz8_2 := zI BK467 2 rfl; have hfz8_0 := zF BK467.out 0; have hfz8_1 := zF BK467.out 1; have hfz8_2 := zF BK467.out 2))
  go_ret
  exact ⟨rfl, by repeat (first | (with_reducible first | exact HB.out | apply yA | apply yN | apply yD | refine yS ?_ GE466.out | refine yS ?_ GE467.out) | exact HB.out)⟩
 rw [if_neg c3] at H
 have c3b0 : decide (a1_0 < a0_0) = false := decide_eq_false c3
 clear c3
 by_cases c9 : a0_0 = a1_0
 rotate_left
 ·rw [if_neg c9] at H
  have c9b0 : (a0_0 == a1_0) = false := beq_eq_false_iff_ne.mpr c9
  have c9b1 : (a0_0 != a1_0) = true := bne_iff_ne.mpr c9
  obtain rfl := Option.some.inj H
  simp only [Option.some.injEq, Prod.mk.injEq] at H
  obtain ⟨rfl⟩ := H
  go_enter Try.func94, Try.ntmps94
  go_wp2_with (first | ((with_reducible refine gate_dst (N := 2) rfl ?_); refine box_event ?hg (N := 2) ?hd (cs := #[.int .u64 a0_0, .int .u64 a0_1, .bool a0_2]) (t := 82) ?hr ?_; (case hd => rfl); (case hg => rfl); (case hr => first | (go_simp; done) | (go_simp; rfl)); intro gb466 hg w15 hbox hb; have ⟨n0_, n2_⟩ := zV (w := w) hb hg (by repeat (first | (with_reducible first | exact HB.out | apply yA | apply yN | apply yD) | exact HB.out)); have n1_ := aK (hbox); have n3_ := n2_; clear HB; have HB := n0_; have BK466 := n1_; have GW466 := n2_; have GE466 := n3_; clear n0_ n1_ n2_ n3_; clear hb hbox hg) | ((with_reducible refine gate_dst (N := 3) rfl ?_); refine box_event ?hg (N := 3) ?hd (cs := #[.int .u64 a1_0, .int .u64 a1_1, .bool a1_2]) (t := 82) ?hr ?_; (case hd => rfl); (case hg => rfl); (case hr => first | (go_simp; done) | (go_simp; rfl)); intro gb467 hg w16 hbox hb; have n0_ := aK (zB (g := gb466) (o := .cells #[.int .u64 a0_0, .int .u64 a0_1, .bool a0_2] 82 (0, 0)) (BK466.out) hb); have ⟨n1_, n3_⟩ := zV (w := w) hb hg (by repeat (first | (with_reducible first | exact HB.out | apply yA | apply yN | apply yD | refine yS ?_ GE466.out) | exact HB.out)); have n2_ := aK (hbox); have n4_ := n3_; have n5_ := aK ((by rw [hg]; exact Nat.ne_of_lt (blk_lt (g := gb466) (o := .cells #[.int .u64 a0_0, .int .u64 a0_1, .bool a0_2] 82 (0, 0)) (BK466.out)) : gb466 ≠ gb467)); have n6_ := aK ((by rw [hg]; exact Nat.ne_of_gt (blk_lt (g := gb466) (o := .cells #[.int .u64 a0_0, .int .u64 a0_1, .bool a0_2] 82 (0, 0)) (BK466.out)) : gb467 ≠ gb466)); clear BK466; clear HB; have BK466 := n0_; have HB := n1_; have BK467 := n2_; have GW467 := n3_; have GE467 := n4_; have NB466_467 := n5_; have NB467_466 := n6_; clear n0_ n1_ n2_ n3_ n4_ n5_ n6_; clear hb hbox hg; have hnb17 := NB466_467.out; have hnc17 := NB467_466.out; have hcz18_0 := zI BK466 0 rfl; have hcz18_1 := zI BK466 1 rfl; have hcz18_2 := zI BK466 2 rfl; have hfz18_0 := zF BK466.out 0; have hfz18_1 := zF BK466.out 1; have hfz18_2 := zF BK466.out 2; have hcz19_0 := zI BK467 0 rfl; have hcz19_1 := zI BK467 1 rfl; have hcz19_2 := zI BK467 2 rfl; have hfz19_0 := zF BK467.out 0; have hfz19_1 := zF BK467.out 1; have hfz19_2 := zF BK467.out 2))
  go_ret
  exact ⟨rfl, by repeat (first | (with_reducible first | exact HB.out | apply yA | apply yN | apply yD | refine yS ?_ GE466.out | refine yS ?_ GE467.out) | exact HB.out)⟩
 rw [if_pos c9] at H
 have c9b0 : (a0_0 == a1_0) = true := beq_iff_eq.mpr c9
 have c9b1 : (a0_0 != a1_0) = false := bne_eq_false_iff_eq.mpr c9
 clear c9
 obtain rfl := Option.some.inj H
 simp only [Option.some.injEq, Prod.mk.injEq] at H
 obtain ⟨rfl⟩ := H
 go_enter Try.func94, Try.ntmps94
 go_wp2_with (first | ((with_reducible refine gate_dst (N := 2) rfl ?_); refine box_event ?hg (N := 2) ?hd (cs := #[.int .u64 a0_0, .int .u64 a0_1, .bool a0_2]) (t := 82) ?hr ?_; (case hd => rfl); (case hg => rfl); (case hr => first | (go_simp; done) | (go_simp; rfl)); intro gb466 hg w10 hbox hb; have ⟨n0_, n2_⟩ := zV (w := w) hb hg (by repeat (first | (with_reducible first | exact HB.out | apply yA | apply yN | apply yD) | exact HB.out)); have n1_ := aK (hbox); have n3_ := n2_; clear HB; have HB := n0_; have BK466 := n1_; have GW466 := n2_; have GE466 := n3_; clear n0_ n1_ n2_ n3_; clear hb hbox hg) | ((with_reducible refine gate_dst (N := 3) rfl ?_); refine box_event ?hg (N := 3) ?hd (cs := #[.int .u64 a1_0, .int .u64 a1_1, .bool a1_2]) (t := 82) ?hr ?_; (case hd => rfl); (case hg => rfl); (case hr => first | (go_simp; done) | (go_simp; rfl)); intro gb467 hg w11 hbox hb; have n0_ := aK (zB (g := gb466) (o := .cells #[.int .u64 a0_0, .int .u64 a0_1, .bool a0_2] 82 (0, 0)) (BK466.out) hb); have ⟨n1_, n3_⟩ := zV (w := w) hb hg (by repeat (first | (with_reducible first | exact HB.out | apply yA | apply yN | apply yD | refine yS ?_ GE466.out) | exact HB.out)); have n2_ := aK (hbox); have n4_ := n3_; have n5_ := aK ((by rw [hg]; exact Nat.ne_of_lt (blk_lt (g := gb466) (o := .cells #[.int .u64 a0_0, .int .u64 a0_1, .bool a0_2] 82 (0, 0)) (BK466.out)) : gb466 ≠ gb467)); have n6_ := aK ((by rw [hg]; exact Nat.ne_of_gt (blk_lt (g := gb466) (o := .cells #[.int .u64 a0_0, .int .u64 a0_1, .bool a0_2] 82 (0, 0)) (BK466.out)) : gb467 ≠ gb466)); clear BK466; clear HB; have BK466 := n0_; have HB := n1_; have BK467 := n2_; have GW467 := n3_; have GE467 := n4_; have NB466_467 := n5_; have NB467_466 := n6_; clear n0_ n1_ n2_ n3_ n4_ n5_ n6_; clear hb hbox hg; have hnb12 := NB466_467.out; have hnc12 := NB467_466.out; have hcz13_0 := zI BK466 0 rfl; have hcz13_1 := zI BK466 1 rfl; have hcz13_2 := zI BK466 2 rfl; have hfz13_0 := zF BK466.out 0; have hfz13_1 := zF BK466.out 1; have hfz13_2 := zF BK466.out 2; have hcz14_0 := zI BK467 0 rfl; have hcz14_1 := zI BK467 1 rfl; have hcz14_2 := zI BK467 2 rfl; have hfz14_0 := zF BK467.out 0; have hfz14_1 := zF BK467.out 1; have hfz14_2 := zF BK467.out 2))
 go_ret
 exact ⟨rfl, by repeat (first | (with_reducible first | exact HB.out | apply yA | apply yN | apply yD | refine yS ?_ GE466.out | refine yS ?_ GE467.out) | exact HB.out)⟩

def gangsawref04_plus.f (a0_0 : Int) (a0_1 : Int) (a0_2 : Bool) (a1_0 : Int) (a1_1 : Int) (a1_2 : Bool) : Option (Int × Int × Bool) := if (a0_2 == a1_2) = true then ((bits_Add64.f a0_1 a1_1 0).bind fun bt471 => ((bits_Add64.f a0_0 a1_0 bt471.2).bind fun bt473 => (some (bt473.1, bt471.1, a0_2)))) else ((gangsawref04_above.f a1_0 a1_1 a1_2 a0_0 a0_1 a0_2).bind fun t475 => (if t475 = true then ((bits_Sub64.f a1_1 a0_1 0).bind fun bt476 => ((bits_Sub64.f a1_0 a0_0 bt476.2).bind fun bt478 => (some (bt478.1, bt476.1, a1_2)))) else ((bits_Sub64.f a0_1 a1_1 0).bind fun bt480 => ((bits_Sub64.f a0_0 a1_0 bt480.2).bind fun bt482 => (some (bt482.1, bt480.1, a0_2))))))
set_option maxHeartbeats 8000000 in
set_option maxRecDepth 100000 in
theorem gangsawref04_plus.calls (a0_0 : Int) (a0_1 : Int) (a0_2 : Bool) (a1_0 : Int) (a1_1 : Int) (a1_2 : Bool) (r1 : Int) (r2 : Int) (r3 : Bool) (w : World) (h : gangsawref04_plus.f a0_0 a0_1 a0_2 a1_0 a1_1 a1_2 = some (r1, r2, r3)) :
  Calls Try.prog 73 #[.agg #[.int .u64 a0_0, .int .u64 a0_1, .bool a0_2], .agg #[.int .u64 a1_0, .int .u64 a1_1, .bool a1_2]] w fun e w' => e = .returned (.agg #[.int .u64 r1, .int .u64 r2, .bool r3]) ∧ Below w.heap.size w w' := by
 have hu82 := Try.underlying82
 have HB := aK (Below.refl w.heap.size w)
 have H : (if (a0_2 == a1_2) = true then ((bits_Add64.f a0_1 a1_1 0).bind fun bt471 => ((bits_Add64.f a0_0 a1_0 bt471.2).bind fun bt473 => (some (bt473.1, bt471.1, a0_2)))) else ((gangsawref04_above.f a1_0 a1_1 a1_2 a0_0 a0_1 a0_2).bind fun t475 => (if t475 = true then ((bits_Sub64.f a1_1 a0_1 0).bind fun bt476 => ((bits_Sub64.f a1_0 a0_0 bt476.2).bind fun bt478 => (some (bt478.1, bt476.1, a1_2)))) else ((bits_Sub64.f a0_1 a1_1 0).bind fun bt480 => ((bits_Sub64.f a0_0 a1_0 bt480.2).bind fun bt482 => (some (bt482.1, bt480.1, a0_2))))))) = some (r1, r2, r3) := h
 clear h
 by_cases c3 : (a0_2 == a1_2) = true
 ·rw [if_pos c3] at H
  have c3b0 : (a0_2 == a1_2) = true := c3
  (try (have c3b1 : decide (a0_2 = a1_2) = true := by simpa using c3))
  (try (have c3b2 : (a0_2 == a1_2) = true := by simpa using c3))
  clear c3
  replace H := Option.bind_eq_some_iff.mp H
  obtain ⟨⟨t471, t472⟩, A40, H⟩ := H
  replace H : ((bits_Add64.f a0_0 a1_0 t472).bind fun bt473 => (some (bt473.1, t471, a0_2))) = some (r1, r2, r3) := H
  have A4 := aK A40
  clear A40
  replace H := Option.bind_eq_some_iff.mp H
  obtain ⟨⟨t473, t474⟩, A50, H⟩ := H
  replace H : (some (t473, t471, a0_2)) = some (r1, r2, r3) := H
  have A5 := aK A50
  clear A50
  simp only [Option.some.injEq, Prod.mk.injEq] at H
  obtain ⟨rfl, rfl, rfl⟩ := H
  go_enter Try.func73, Try.ntmps73
  go_wp2_with (first | ((with_reducible refine gate_dst (N := 2) rfl ?_); refine box_event ?hg (N := 2) ?hd (cs := #[.int .u64 a0_0, .int .u64 a0_1, .bool a0_2]) (t := 82) ?hr ?_; (case hd => rfl); (case hg => rfl); (case hr => first | (go_simp; done) | (go_simp; rfl)); intro gb468 hg w6 hbox hb; have ⟨n0_, n2_⟩ := zV (w := w) hb hg (by repeat (first | (with_reducible first | exact HB.out | apply yA | apply yN | apply yD) | exact HB.out)); have n1_ := aK (hbox); have n3_ := n2_; clear HB; have HB := n0_; have BK468 := n1_; have GW468 := n2_; have GE468 := n3_; clear n0_ n1_ n2_ n3_; clear hb hbox hg) | ((with_reducible refine gate_dst (N := 3) rfl ?_); refine box_event ?hg (N := 3) ?hd (cs := #[.int .u64 a1_0, .int .u64 a1_1, .bool a1_2]) (t := 82) ?hr ?_; (case hd => rfl); (case hg => rfl); (case hr => first | (go_simp; done) | (go_simp; rfl)); intro gb469 hg w7 hbox hb; have n0_ := aK (zB (g := gb468) (o := .cells #[.int .u64 a0_0, .int .u64 a0_1, .bool a0_2] 82 (0, 0)) (BK468.out) hb); have ⟨n1_, n3_⟩ := zV (w := w) hb hg (by repeat (first | (with_reducible first | exact HB.out | apply yA | apply yN | apply yD | refine yS ?_ GE468.out) | exact HB.out)); have n2_ := aK (hbox); have n4_ := n3_; have n5_ := aK ((by rw [hg]; exact Nat.ne_of_lt (blk_lt (g := gb468) (o := .cells #[.int .u64 a0_0, .int .u64 a0_1, .bool a0_2] 82 (0, 0)) (BK468.out)) : gb468 ≠ gb469)); have n6_ := aK ((by rw [hg]; exact Nat.ne_of_gt (blk_lt (g := gb468) (o := .cells #[.int .u64 a0_0, .int .u64 a0_1, .bool a0_2] 82 (0, 0)) (BK468.out)) : gb469 ≠ gb468)); clear BK468; clear HB; have BK468 := n0_; have HB := n1_; have BK469 := n2_; have GW469 := n3_; have GE469 := n4_; have NB468_469 := n5_; have NB469_468 := n6_; clear n0_ n1_ n2_ n3_ n4_ n5_ n6_; clear hb hbox hg) | ((with_reducible refine gate_dst (N := 4) rfl ?_); refine box_event ?hg (N := 4) ?hd (cs := #[.int .u64 0, .int .u64 0, .bool false]) (t := 82) ?hr ?_; (case hd => rfl); (case hg => rfl); (case hr => first | (go_simp; done) | (go_simp; rfl)); intro gb470 hg w8 hbox hb; have n0_ := aK (zB (g := gb468) (o := .cells #[.int .u64 a0_0, .int .u64 a0_1, .bool a0_2] 82 (0, 0)) (BK468.out) hb); have n1_ := aK (zB (g := gb469) (o := .cells #[.int .u64 a1_0, .int .u64 a1_1, .bool a1_2] 82 (0, 0)) (BK469.out) hb); have ⟨n2_, n4_⟩ := zV (w := w) hb hg (by repeat (first | (with_reducible first | exact HB.out | apply yA | apply yN | apply yD | refine yS ?_ GE468.out | refine yS ?_ GE469.out) | exact HB.out)); have n3_ := aK (hbox); have n5_ := n4_; have n6_ := aK ((by rw [hg]; exact Nat.ne_of_lt (blk_lt (g := gb468) (o := .cells #[.int .u64 a0_0, .int .u64 a0_1, .bool a0_2] 82 (0, 0)) (BK468.out)) : gb468 ≠ gb470)); have n7_ := aK ((by rw [hg]; exact Nat.ne_of_gt (blk_lt (g := gb468) (o := .cells #[.int .u64 a0_0, .int .u64 a0_1, .bool a0_2] 82 (0, 0)) (BK468.out)) : gb470 ≠ gb468)); have n8_ := aK ((by rw [hg]; exact Nat.ne_of_lt (blk_lt (g := gb469) (o := .cells #[.int .u64 a1_0, .int .u64 a1_1, .bool a1_2] 82 (0, 0)) (BK469.out)) : gb469 ≠ gb470)); have n9_ := aK ((by rw [hg]; exact Nat.ne_of_gt (blk_lt (g := gb469) (o := .cells #[.int .u64 a1_0, .int .u64 a1_1, .bool a1_2] 82 (0, 0)) (BK469.out)) : gb470 ≠ gb469)); clear BK468; clear BK469; clear HB; have BK468 := n0_; have BK469 := n1_; have HB := n2_; have BK470 := n3_; have GW470 := n4_; have GE470 := n5_; have NB468_470 := n6_; have NB470_468 := n7_; have NB469_470 := n8_; have NB470_469 := n9_; clear n0_ n1_ n2_ n3_ n4_ n5_ n6_ n7_ n8_ n9_; clear hb hbox hg; have hnb9 := NB468_469.out; have hnc9 := NB469_468.out; have hnb10 := NB468_470.out; have hnc10 := NB470_468.out; have hcz11_0 := zI BK468 0 rfl; have hcz11_1 := zI BK468 1 rfl; have hcz11_2 := zI BK468 2 rfl; have hfz11_0 := zF BK468.out 0; have hfz11_1 := zF BK468.out 1; have hfz11_2 := zF BK468.out 2; have hnb12 := NB469_470.out; have hnc12 := NB470_469.out; have hcz13_0 := zI BK469 0 rfl; have hcz13_1 := zI BK469 1 rfl; have hcz13_2 := zI BK469 2 rfl; have hfz13_0 := zF BK469.out 0; have hfz13_1 := zF BK469.out 1; have hfz13_2 := zF BK469.out 2) | ((with_reducible refine gate_callee (f := 93) rfl ?_); refine goesX_ (some 23) rfl rfl #[.int .u64 a0_1, .int .u64 a1_1, .int .u64 0] rfl (by (try simp only [List.map_toArray, List.map_cons, List.map_nil]); first | done | rfl | (simp only [List.length_drop, List.length_take]; rfl)) ?_; (with_reducible refine (bits_Add64.calls a0_1 a1_1 0 t471 t472 _ A4.out).mono ?_); rintro e w14 ⟨rfl, hb⟩; refine ⟨_, rfl, ?_⟩; have n0_ := aK (zB (g := gb468) (o := .cells #[.int .u64 a0_0, .int .u64 a0_1, .bool a0_2] 82 (0, 0)) (BK468.out) hb); have n1_ := aK (zB (g := gb469) (o := .cells #[.int .u64 a1_0, .int .u64 a1_1, .bool a1_2] 82 (0, 0)) (BK469.out) hb); have n2_ := aK (zB (g := gb470) (o := .cells #[.int .u64 0, .int .u64 0, .bool false] 82 (0, 0)) (BK470.out) hb); have n3_ := aK (yT (by repeat (first | (with_reducible first | exact HB.out | apply yA | apply yN | apply yD | refine yS ?_ GE468.out | refine yS ?_ GE469.out | refine yS ?_ GE470.out) | exact HB.out)) hb); clear BK468; clear BK469; clear BK470; clear HB; have BK468 := n0_; have BK469 := n1_; have BK470 := n2_; have HB := n3_; clear n0_ n1_ n2_ n3_; (try clear hb); have hcz15_0 := zI BK468 0 rfl; have hcz15_1 := zI BK468 1 rfl; have hcz15_2 := zI BK468 2 rfl; have hfz15_0 := zF BK468.out 0; have hfz15_1 := zF BK468.out 1; have hfz15_2 := zF BK468.out 2; have hcz16_0 := zI BK469 0 rfl; have hcz16_1 := zI BK469 1 rfl; have hcz16_2 := zI BK469 2 rfl; have hfz16_0 := zF BK469.out 0; have hfz16_1 := zF BK469.out 1; have hfz16_2 := zF BK469.out 2) | ((with_reducible refine gate_callee (f := 93) rfl ?_); refine goesX_ (some 32) rfl rfl #[.int .u64 a0_0, .int .u64 a1_0, .int .u64 t472] rfl (by (try simp only [List.map_toArray, List.map_cons, List.map_nil]); first | done | rfl | (simp only [List.length_drop, List.length_take]; rfl)) ?_; (with_reducible refine (bits_Add64.calls a0_0 a1_0 t472 t473 t474 _ A5.out).mono ?_); rintro e w17 ⟨rfl, hb⟩; refine ⟨_, rfl, ?_⟩; have n0_ := aK (zB (g := gb468) (o := .cells #[.int .u64 a0_0, .int .u64 a0_1, .bool a0_2] 82 (0, 0)) (BK468.out) hb); have n1_ := aK (zB (g := gb469) (o := .cells #[.int .u64 a1_0, .int .u64 a1_1, .bool a1_2] 82 (0, 0)) (BK469.out) hb); have n2_ := aK (zB (g := gb470) (o := .cells #[.int .u64 0, .int .u64 0, .bool false] 82 (0, 0)) (BK470.out) hb); have n3_ := aK (yT (by repeat (first | (with_reducible first | exact HB.out | apply yA | apply yN | apply yD | refine yS ?_ GE468.out | refine yS ?_ GE469.out | refine yS ?_ GE470.out) | exact HB.out)) hb); clear BK468; clear BK469; clear BK470; clear HB; have BK468 := n0_; have BK469 := n1_; have BK470 := n2_; have HB := n3_; clear n0_ n1_ n2_ n3_; (try clear hb); have hcz18_0 := zI BK468 0 rfl; have hcz18_1 := zI BK468 1 rfl; have hcz18_2 := zI BK468 2 rfl; have hfz18_0 := zF BK468.out 0; have hfz18_1 := zF BK468.out 1; have hfz18_2 := zF BK468.out 2; have hcz19_0 := zI BK470 0 rfl; have hcz19_1 := zI BK470 1 rfl; have hcz19_2 := zI BK470 2 rfl; have hfz19_0 := zF BK470.out 0; have hfz19_1 := zF BK470.out 1; have hfz19_2 := zF BK470.out 2))
  refine bodyPost_ret (results_cell_row rfl _ _ gb470 82 #[.int .u64 t473, .int .u64 t471, .bool a0_2] (0, 0) _ rfl (by refine blk_put (cs := #[.int .u64 t473, .int .u64 t471, .bool false]) ?_ 2 _ rfl; refine blk_put (cs := #[.int .u64 t473, .int .u64 0, .bool false]) ?_ 1 _ rfl; refine blk_put (cs := #[.int .u64 0, .int .u64 0, .bool false]) ?_ 0 _ rfl; exact BK470.out) Try.underlying82 rfl (by kernel_rfl)) rfl ?_
  exact ⟨rfl, by repeat (first | (with_reducible first | exact HB.out | apply yA | apply yN | apply yD | refine yS ?_ GE468.out | refine yS ?_ GE469.out | refine yS ?_ GE470.out) | exact HB.out)⟩
 rw [if_neg c3] at H
 have c3b0 : (a0_2 == a1_2) = false := by simpa using c3
 (try (have c3b1 : decide (a0_2 = a1_2) = false := by simpa using c3))
 (try (have c3b2 : (a0_2 == a1_2) = false := by simpa using c3))
 (try (have c3b3 : ¬ (a0_2 = a1_2) := by simpa using c3))
 clear c3
 replace H := Option.bind_eq_some_iff.mp H
 obtain ⟨t475, A200, H⟩ := H
 replace H : (if t475 = true then ((bits_Sub64.f a1_1 a0_1 0).bind fun bt476 => ((bits_Sub64.f a1_0 a0_0 bt476.2).bind fun bt478 => (some (bt478.1, bt476.1, a1_2)))) else ((bits_Sub64.f a0_1 a1_1 0).bind fun bt480 => ((bits_Sub64.f a0_0 a1_0 bt480.2).bind fun bt482 => (some (bt482.1, bt480.1, a0_2))))) = some (r1, r2, r3) := H
 have A20 := aK A200
 clear A200
 by_cases c21 : t475 = true
 rotate_left
 ·replace c21 := Bool.eq_false_iff.mpr c21
  subst c21
  have H1 : ((bits_Sub64.f a0_1 a1_1 0).bind fun bt480 => ((bits_Sub64.f a0_0 a1_0 bt480.2).bind fun bt482 => (some (bt482.1, bt480.1, a0_2)))) = some (r1, r2, r3) := by rw [if_neg (show ¬ (false = true) by decide)] at H; exact H
  clear H
  have H := H1
  clear H1
  replace H := Option.bind_eq_some_iff.mp H
  obtain ⟨⟨t480, t481⟩, A410, H⟩ := H
  replace H : ((bits_Sub64.f a0_0 a1_0 t481).bind fun bt482 => (some (bt482.1, t480, a0_2))) = some (r1, r2, r3) := H
  have A41 := aK A410
  clear A410
  replace H := Option.bind_eq_some_iff.mp H
  obtain ⟨⟨t482, t483⟩, A420, H⟩ := H
  replace H : (some (t482, t480, a0_2)) = some (r1, r2, r3) := H
  have A42 := aK A420
  clear A420
  simp only [Option.some.injEq, Prod.mk.injEq] at H
  obtain ⟨rfl, rfl, rfl⟩ := H
  go_enter Try.func73, Try.ntmps73
  go_wp2_with (first | ((with_reducible refine gate_dst (N := 2) rfl ?_); refine box_event ?hg (N := 2) ?hd (cs := #[.int .u64 a0_0, .int .u64 a0_1, .bool a0_2]) (t := 82) ?hr ?_; (case hd => rfl); (case hg => rfl); (case hr => first | (go_simp; done) | (go_simp; rfl)); intro gb468 hg w43 hbox hb; have ⟨n0_, n2_⟩ := zV (w := w) hb hg (by repeat (first | (with_reducible first | exact HB.out | apply yA | apply yN | apply yD) | exact HB.out)); have n1_ := aK (hbox); have n3_ := n2_; clear HB; have HB := n0_; have BK468 := n1_; have GW468 := n2_; have GE468 := n3_; clear n0_ n1_ n2_ n3_; clear hb hbox hg) | ((with_reducible refine gate_dst (N := 3) rfl ?_); refine box_event ?hg (N := 3) ?hd (cs := #[.int .u64 a1_0, .int .u64 a1_1, .bool a1_2]) (t := 82) ?hr ?_; (case hd => rfl); (case hg => rfl); (case hr => first | (go_simp; done) | (go_simp; rfl)); intro gb469 hg w44 hbox hb; have n0_ := aK (zB (g := gb468) (o := .cells #[.int .u64 a0_0, .int .u64 a0_1, .bool a0_2] 82 (0, 0)) (BK468.out) hb); have ⟨n1_, n3_⟩ := zV (w := w) hb hg (by repeat (first | (with_reducible first | exact HB.out | apply yA | apply yN | apply yD | refine yS ?_ GE468.out) | exact HB.out)); have n2_ := aK (hbox); have n4_ := n3_; have n5_ := aK ((by rw [hg]; exact Nat.ne_of_lt (blk_lt (g := gb468) (o := .cells #[.int .u64 a0_0, .int .u64 a0_1, .bool a0_2] 82 (0, 0)) (BK468.out)) : gb468 ≠ gb469)); have n6_ := aK ((by rw [hg]; exact Nat.ne_of_gt (blk_lt (g := gb468) (o := .cells #[.int .u64 a0_0, .int .u64 a0_1, .bool a0_2] 82 (0, 0)) (BK468.out)) : gb469 ≠ gb468)); clear BK468; clear HB; have BK468 := n0_; have HB := n1_; have BK469 := n2_; have GW469 := n3_; have GE469 := n4_; have NB468_469 := n5_; have NB469_468 := n6_; clear n0_ n1_ n2_ n3_ n4_ n5_ n6_; clear hb hbox hg) | ((with_reducible refine gate_dst (N := 4) rfl ?_); refine box_event ?hg (N := 4) ?hd (cs := #[.int .u64 0, .int .u64 0, .bool false]) (t := 82) ?hr ?_; (case hd => rfl); (case hg => rfl); (case hr => first | (go_simp; done) | (go_simp; rfl)); intro gb470 hg w45 hbox hb; have n0_ := aK (zB (g := gb468) (o := .cells #[.int .u64 a0_0, .int .u64 a0_1, .bool a0_2] 82 (0, 0)) (BK468.out) hb); have n1_ := aK (zB (g := gb469) (o := .cells #[.int .u64 a1_0, .int .u64 a1_1, .bool a1_2] 82 (0, 0)) (BK469.out) hb); have ⟨n2_, n4_⟩ := zV (w := w) hb hg (by repeat (first | (with_reducible first | exact HB.out | apply yA | apply yN | apply yD | refine yS ?_ GE468.out | refine yS ?_ GE469.out) | exact HB.out)); have n3_ := aK (hbox); have n5_ := n4_; have n6_ := aK ((by rw [hg]; exact Nat.ne_of_lt (blk_lt (g := gb468) (o := .cells #[.int .u64 a0_0, .int .u64 a0_1, .bool a0_2] 82 (0, 0)) (BK468.out)) : gb468 ≠ gb470)); have n7_ := aK ((by rw [hg]; exact Nat.ne_of_gt (blk_lt (g := gb468) (o := .cells #[.int .u64 a0_0, .int .u64 a0_1, .bool a0_2] 82 (0, 0)) (BK468.out)) : gb470 ≠ gb468)); have n8_ := aK ((by rw [hg]; exact Nat.ne_of_lt (blk_lt (g := gb469) (o := .cells #[.int .u64 a1_0, .int .u64 a1_1, .bool a1_2] 82 (0, 0)) (BK469.out)) : gb469 ≠ gb470)); have n9_ := aK ((by rw [hg]; exact Nat.ne_of_gt (blk_lt (g := gb469) (o := .cells #[.int .u64 a1_0, .int .u64 a1_1, .bool a1_2] 82 (0, 0)) (BK469.out)) : gb470 ≠ gb469)); clear BK468; clear BK469; clear HB; have BK468 := n0_; have BK469 := n1_; have HB := n2_; have BK470 := n3_; have GW470 := n4_; have GE470 := n5_; have NB468_470 := n6_; have NB470_468 := n7_; have NB469_470 := n8_; have NB470_469 := n9_; clear n0_ n1_ n2_ n3_ n4_ n5_ n6_ n7_ n8_ n9_; clear hb hbox hg; have hnb46 := NB468_469.out; have hnc46 := NB469_468.out; have hnb47 := NB468_470.out; have hnc47 := NB470_468.out; have hcz48_0 := zI BK468 0 rfl; have hcz48_1 := zI BK468 1 rfl; have hcz48_2 := zI BK468 2 rfl; have hfz48_0 := zF BK468.out 0; have hfz48_1 := zF BK468.out 1; have hfz48_2 := zF BK468.out 2; have hnb49 := NB469_470.out; have hnc49 := NB470_469.out; have hcz50_0 := zI BK469 0 rfl; have hcz50_1 := zI BK469 1 rfl; have hcz50_2 := zI BK469 2 rfl; have hfz50_0 := zF BK469.out 0; have hfz50_1 := zF BK469.out 1; have hfz50_2 := zF BK469.out 2) | ((with_reducible refine gate_callee (f := 94) rfl ?_); refine goesL_ (some 42) rfl rfl Try.func94 (by kernel_rfl) rfl #[.agg #[.int .u64 a1_0, .int .u64 a1_1, .bool a1_2], .agg #[.int .u64 a0_0, .int .u64 a0_1, .bool a0_2]] rfl (by (try simp only [List.map_toArray, List.map_cons, List.map_nil]); first | done | rfl | (simp only [List.length_drop, List.length_take]; rfl)) ?_; (with_reducible refine (gangsawref04_above.calls a1_0 a1_1 a1_2 a0_0 a0_1 a0_2 false _ A20.out).mono ?_); rintro e w51 ⟨rfl, hb⟩; refine ⟨_, rfl, ?_⟩; have n0_ := aK (zB (g := gb468) (o := .cells #[.int .u64 a0_0, .int .u64 a0_1, .bool a0_2] 82 (0, 0)) (BK468.out) hb); have n1_ := aK (zB (g := gb469) (o := .cells #[.int .u64 a1_0, .int .u64 a1_1, .bool a1_2] 82 (0, 0)) (BK469.out) hb); have n2_ := aK (zB (g := gb470) (o := .cells #[.int .u64 0, .int .u64 0, .bool false] 82 (0, 0)) (BK470.out) hb); have n3_ := aK (yT (by repeat (first | (with_reducible first | exact HB.out | apply yA | apply yN | apply yD | refine yS ?_ GE468.out | refine yS ?_ GE469.out | refine yS ?_ GE470.out) | exact HB.out)) hb); clear BK468; clear BK469; clear BK470; clear HB; have BK468 := n0_; have BK469 := n1_; have BK470 := n2_; have HB := n3_; clear n0_ n1_ n2_ n3_; (try clear hb); have hcz52_0 := zI BK468 0 rfl; have hcz52_1 := zI BK468 1 rfl; have hcz52_2 := zI BK468 2 rfl; have hfz52_0 := zF BK468.out 0; have hfz52_1 := zF BK468.out 1; have hfz52_2 := zF BK468.out 2; have hcz53_0 := zI BK469 0 rfl; have hcz53_1 := zI BK469 1 rfl; have hcz53_2 := zI BK469 2 rfl; have hfz53_0 := zF BK469.out 0; have hfz53_1 := zF BK469.out 1; have hfz53_2 := zF BK469.out 2) | ((with_reducible refine gate_callee (f := 95) rfl ?_); refine goesX_ (some 50) rfl rfl #[.int .u64 a0_1, .int .u64 a1_1, .int .u64 0] rfl (by (try simp only [List.map_toArray, List.map_cons, List.map_nil]); first | done | rfl | (simp only [List.length_drop, List.length_take]; rfl)) ?_; (with_reducible refine (bits_Sub64.calls a0_1 a1_1 0 t480 t481 _ A41.out).mono ?_); rintro e w54 ⟨rfl, hb⟩; refine ⟨_, rfl, ?_⟩; have n0_ := aK (zB (g := gb468) (o := .cells #[.int .u64 a0_0, .int .u64 a0_1, .bool a0_2] 82 (0, 0)) (BK468.out) hb); have n1_ := aK (zB (g := gb469) (o := .cells #[.int .u64 a1_0, .int .u64 a1_1, .bool a1_2] 82 (0, 0)) (BK469.out) hb); have n2_ := aK (zB (g := gb470) (o := .cells #[.int .u64 0, .int .u64 0, .bool false] 82 (0, 0)) (BK470.out) hb); have n3_ := aK (yT (by repeat (first | (with_reducible first | exact HB.out | apply yA | apply yN | apply yD | refine yS ?_ GE468.out | refine yS ?_ GE469.out | refine yS ?_ GE470.out) | exact HB.out)) hb); clear BK468; clear BK469; clear BK470; clear HB; have BK468 := n0_; have BK469 := n1_; have BK470 := n2_; have HB := n3_; clear n0_ n1_ n2_ n3_; (try clear hb); have hcz55_0 := zI BK468 0 rfl; have hcz55_1 := zI BK468 1 rfl; have hcz55_2 := zI BK468 2 rfl; have hfz55_0 := zF BK468.out 0; have hfz55_1 := zF BK468.out 1; have hfz55_2 := zF BK468.out 2; have hcz56_0 := zI BK469 0 rfl; have hcz56_1 := zI BK469 1 rfl; have hcz56_2 := zI BK469 2 rfl; have hfz56_0 := zF BK469.out 0; have hfz56_1 := zF BK469.out 1; have hfz56_2 := zF BK469.out 2) | ((with_reducible refine gate_callee (f := 95) rfl ?_); refine goesX_ (some 59) rfl rfl #[.int .u64 a0_0, .int .u64 a1_0, .int .u64 t481] rfl (by (try simp only [List.map_toArray, List.map_cons, List.map_nil]); first | done | rfl | (simp only [List.length_drop, List.length_take]; rfl)) ?_; (with_reducible refine (bits_Sub64.calls a0_0 a1_0 t481 t482 t483 _ A42.out).mono ?_); rintro e w57 ⟨rfl, hb⟩; refine ⟨_, rfl, ?_⟩; have n0_ := aK (zB (g := gb468) (o := .cells #[.int .u64 a0_0, .int .u64 a0_1, .bool a0_2] 82 (0, 0)) (BK468.out) hb); have n1_ := aK (zB (g := gb469) (o := .cells #[.int .u64 a1_0, .int .u64 a1_1, .bool a1_2] 82 (0, 0)) (BK469.out) hb); have n2_ := aK (zB (g := gb470) (o := .cells #[.int .u64 0, .int .u64 0, .bool false] 82 (0, 0)) (BK470.out) hb); have n3_ := aK (yT (by repeat (first | (with_reducible first | exact HB.out | apply yA | apply yN | apply yD | refine yS ?_ GE468.out | refine yS ?_ GE469.out | refine yS ?_ GE470.out) | exact HB.out)) hb); clear BK468; clear BK469; clear BK470; clear HB; have BK468 := n0_; have BK469 := n1_; have BK470 := n2_; have HB := n3_; clear n0_ n1_ n2_ n3_; (try clear hb); have hcz58_0 := zI BK468 0 rfl; have hcz58_1 := zI BK468 1 rfl; have hcz58_2 := zI BK468 2 rfl; have hfz58_0 := zF BK468.out 0; have hfz58_1 := zF BK468.out 1; have hfz58_2 := zF BK468.out 2; have hcz59_0 := zI BK470 0 rfl; have hcz59_1 := zI BK470 1 rfl; have hcz59_2 := zI BK470 2 rfl; have hfz59_0 := zF BK470.out 0; have hfz59_1 := zF BK470.out 1; have hfz59_2 := zF BK470.out 2))
  refine bodyPost_ret (results_cell_row rfl _ _ gb470 82 #[.int .u64 t482, .int .u64 t480, .bool a0_2] (0, 0) _ rfl (by refine blk_put (cs := #[.int .u64 t482, .int .u64 t480, .bool false]) ?_ 2 _ rfl; refine blk_put (cs := #[.int .u64 t482, .int .u64 0, .bool false]) ?_ 1 _ rfl; refine blk_put (cs := #[.int .u64 0, .int .u64 0, .bool false]) ?_ 0 _ rfl; exact BK470.out) Try.underlying82 rfl (by kernel_rfl)) rfl ?_
  exact ⟨rfl, by repeat (first | (with_reducible first | exact HB.out | apply yA | apply yN | apply yD | refine yS ?_ GE468.out | refine yS ?_ GE469.out | refine yS ?_ GE470.out) | exact HB.out)⟩
 subst c21
 have H1 : ((bits_Sub64.f a1_1 a0_1 0).bind fun bt476 => ((bits_Sub64.f a1_0 a0_0 bt476.2).bind fun bt478 => (some (bt478.1, bt476.1, a1_2)))) = some (r1, r2, r3) := by rw [if_pos rfl] at H; exact H
 clear H
 have H := H1
 clear H1
 replace H := Option.bind_eq_some_iff.mp H
 obtain ⟨⟨t476, t477⟩, A220, H⟩ := H
 replace H : ((bits_Sub64.f a1_0 a0_0 t477).bind fun bt478 => (some (bt478.1, t476, a1_2))) = some (r1, r2, r3) := H
 have A22 := aK A220
 clear A220
 replace H := Option.bind_eq_some_iff.mp H
 obtain ⟨⟨t478, t479⟩, A230, H⟩ := H
 replace H : (some (t478, t476, a1_2)) = some (r1, r2, r3) := H
 have A23 := aK A230
 clear A230
 simp only [Option.some.injEq, Prod.mk.injEq] at H
 obtain ⟨rfl, rfl, rfl⟩ := H
 go_enter Try.func73, Try.ntmps73
 go_wp2_with (first | ((with_reducible refine gate_dst (N := 2) rfl ?_); refine box_event ?hg (N := 2) ?hd (cs := #[.int .u64 a0_0, .int .u64 a0_1, .bool a0_2]) (t := 82) ?hr ?_; (case hd => rfl); (case hg => rfl); (case hr => first | (go_simp; done) | (go_simp; rfl)); intro gb468 hg w24 hbox hb; have ⟨n0_, n2_⟩ := zV (w := w) hb hg (by repeat (first | (with_reducible first | exact HB.out | apply yA | apply yN | apply yD) | exact HB.out)); have n1_ := aK (hbox); have n3_ := n2_; clear HB; have HB := n0_; have BK468 := n1_; have GW468 := n2_; have GE468 := n3_; clear n0_ n1_ n2_ n3_; clear hb hbox hg) | ((with_reducible refine gate_dst (N := 3) rfl ?_); refine box_event ?hg (N := 3) ?hd (cs := #[.int .u64 a1_0, .int .u64 a1_1, .bool a1_2]) (t := 82) ?hr ?_; (case hd => rfl); (case hg => rfl); (case hr => first | (go_simp; done) | (go_simp; rfl)); intro gb469 hg w25 hbox hb; have n0_ := aK (zB (g := gb468) (o := .cells #[.int .u64 a0_0, .int .u64 a0_1, .bool a0_2] 82 (0, 0)) (BK468.out) hb); have ⟨n1_, n3_⟩ := zV (w := w) hb hg (by repeat (first | (with_reducible first | exact HB.out | apply yA | apply yN | apply yD | refine yS ?_ GE468.out) | exact HB.out)); have n2_ := aK (hbox); have n4_ := n3_; have n5_ := aK ((by rw [hg]; exact Nat.ne_of_lt (blk_lt (g := gb468) (o := .cells #[.int .u64 a0_0, .int .u64 a0_1, .bool a0_2] 82 (0, 0)) (BK468.out)) : gb468 ≠ gb469)); have n6_ := aK ((by rw [hg]; exact Nat.ne_of_gt (blk_lt (g := gb468) (o := .cells #[.int .u64 a0_0, .int .u64 a0_1, .bool a0_2] 82 (0, 0)) (BK468.out)) : gb469 ≠ gb468)); clear BK468; clear HB; have BK468 := n0_; have HB := n1_; have BK469 := n2_; have GW469 := n3_; have GE469 := n4_; have NB468_469 := n5_; have NB469_468 := n6_; clear n0_ n1_ n2_ n3_ n4_ n5_ n6_; clear hb hbox hg) | ((with_reducible refine gate_dst (N := 4) rfl ?_); refine box_event ?hg (N := 4) ?hd (cs := #[.int .u64 0, .int .u64 0, .bool false]) (t := 82) ?hr ?_; (case hd => rfl); (case hg => rfl); (case hr => first | (go_simp; done) | (go_simp; rfl)); intro gb470 hg w26 hbox hb; have n0_ := aK (zB (g := gb468) (o := .cells #[.int .u64 a0_0, .int .u64 a0_1, .bool a0_2] 82 (0, 0)) (BK468.out) hb); have n1_ := aK (zB (g := gb469) (o := .cells #[.int .u64 a1_0, .int .u64 a1_1, .bool a1_2] 82 (0, 0)) (BK469.out) hb); have ⟨n2_, n4_⟩ := zV (w := w) hb hg (by repeat (first | (with_reducible first | exact HB.out | apply yA | apply yN | apply yD | refine yS ?_ GE468.out | refine yS ?_ GE469.out) | exact HB.out)); have n3_ := aK (hbox); have n5_ := n4_; have n6_ := aK ((by rw [hg]; exact Nat.ne_of_lt (blk_lt (g := gb468) (o := .cells #[.int .u64 a0_0, .int .u64 a0_1, .bool a0_2] 82 (0, 0)) (BK468.out)) : gb468 ≠ gb470)); have n7_ := aK ((by rw [hg]; exact Nat.ne_of_gt (blk_lt (g := gb468) (o := .cells #[.int .u64 a0_0, .int .u64 a0_1, .bool a0_2] 82 (0, 0)) (BK468.out)) : gb470 ≠ gb468)); have n8_ := aK ((by rw [hg]; exact Nat.ne_of_lt (blk_lt (g := gb469) (o := .cells #[.int .u64 a1_0, .int .u64 a1_1, .bool a1_2] 82 (0, 0)) (BK469.out)) : gb469 ≠ gb470)); have n9_ := aK ((by rw [hg]; exact Nat.ne_of_gt (blk_lt (g := gb469) (o := .cells #[.int .u64 a1_0, .int .u64 a1_1, .bool a1_2] 82 (0, 0)) (BK469.out)) : gb470 ≠ gb469)); clear BK468; clear BK469; clear HB; have BK468 := n0_; have BK469 := n1_; have HB := n2_; have BK470 := n3_; have GW470 := n4_; have GE470 := n5_; have NB468_470 := n6_; have NB470_468 := n7_; have NB469_470 := n8_; have NB470_469 := n9_; clear n0_ n1_ n2_ n3_ n4_ n5_ n6_ n7_ n8_ n9_; clear hb hbox hg; have hnb27 := NB468_469.out; have hnc27 := NB469_468.out; have hnb28 := NB468_470.out; have hnc28 := NB470_468.out; have hcz29_0 := zI BK468 0 rfl; have hcz29_1 := zI BK468 1 rfl; have hcz29_2 := zI BK468 2 rfl; have hfz29_0 := zF BK468.out 0; have hfz29_1 := zF BK468.out 1; have hfz29_2 := zF BK468.out 2; have hnb30 := NB469_470.out; have hnc30 := NB470_469.out; have hcz31_0 := zI BK469 0 rfl; have hcz31_1 := zI BK469 1 rfl; have hcz31_2 := zI BK469 2 rfl; have hfz31_0 := zF BK469.out 0; have hfz31_1 := zF BK469.out 1; have hfz31_2 := zF BK469.out 2) | ((with_reducible refine gate_callee (f := 94) rfl ?_); refine goesL_ (some 42) rfl rfl Try.func94 (by kernel_rfl) rfl #[.agg #[.int .u64 a1_0, .int .u64 a1_1, .bool a1_2], .agg #[.int .u64 a0_0, .int .u64 a0_1, .bool a0_2]] rfl (by (try simp only [List.map_toArray, List.map_cons, List.map_nil]); first | done | rfl | (simp only [List.length_drop, List.length_take]; rfl)) ?_; (with_reducible refine (gangsawref04_above.calls a1_0 a1_1 a1_2 a0_0 a0_1 a0_2 true _ A20.out).mono ?_); rintro e w32 ⟨rfl, hb⟩; refine ⟨_, rfl, ?_⟩; have n0_ := aK (zB (g := gb468) (o := .cells #[.int .u64 a0_0, .int .u64 a0_1, .bool a0_2] 82 (0, 0)) (BK468.out) hb); have n1_ := aK (zB (g := gb469) (o := .cells #[.int .u64 a1_0, .int .u64 a1_1, .bool a1_2] 82 (0, 0)) (BK469.out) hb); have n2_ := aK (zB (g := gb470) (o := .cells #[.int .u64 0, .int .u64 0, .bool false] 82 (0, 0)) (BK470.out) hb); have n3_ := aK (yT (by repeat (first | (with_reducible first | exact HB.out | apply yA | apply yN | apply yD | refine yS ?_ GE468.out | refine yS ?_ GE469.out | refine yS ?_ GE470.out) | exact HB.out)) hb); clear BK468; clear BK469; clear BK470; clear HB; have BK468 := n0_; have BK469 := n1_; have BK470 := n2_; have HB := n3_; clear n0_ n1_ n2_ n3_; (try clear hb); have hcz33_0 := zI BK469 0 rfl; have hcz33_1 := zI BK469 1 rfl; have hcz33_2 := zI BK469 2 rfl; have hfz33_0 := zF BK469.out 0; have hfz33_1 := zF BK469.out 1; have hfz33_2 := zF BK469.out 2; have hcz34_0 := zI BK468 0 rfl; have hcz34_1 := zI BK468 1 rfl; have hcz34_2 := zI BK468 2 rfl; have hfz34_0 := zF BK468.out 0; have hfz34_1 := zF BK468.out 1; have hfz34_2 := zF BK468.out 2) | ((with_reducible refine gate_callee (f := 95) rfl ?_); refine goesX_ (some 50) rfl rfl #[.int .u64 a1_1, .int .u64 a0_1, .int .u64 0] rfl (by (try simp only [List.map_toArray, List.map_cons, List.map_nil]); first | done | rfl | (simp only [List.length_drop, List.length_take]; rfl)) ?_; (with_reducible refine (bits_Sub64.calls a1_1 a0_1 0 t476 t477 _ A22.out).mono ?_); rintro e w35 ⟨rfl, hb⟩; refine ⟨_, rfl, ?_⟩; have n0_ := aK (zB (g := gb468) (o := .cells #[.int .u64 a1_0, .int .u64 a1_1, .bool a1_2] 82 (0, 0)) (by refine blk_far ?_ NB468_469.out _; refine blk_far ?_ NB468_469.out _; refine blk_far ?_ NB468_469.out _; refine blk_put (cs := #[.int .u64 a1_0, .int .u64 a1_1, .bool a0_2]) ?_ 2 _ rfl; refine blk_put (cs := #[.int .u64 a1_0, .int .u64 a0_1, .bool a0_2]) ?_ 1 _ rfl; refine blk_put (cs := #[.int .u64 a0_0, .int .u64 a0_1, .bool a0_2]) ?_ 0 _ rfl; exact BK468.out) hb); have n1_ := aK (zB (g := gb469) (o := .cells #[.int .u64 a0_0, .int .u64 a0_1, .bool a0_2] 82 (0, 0)) (by refine blk_put (cs := #[.int .u64 a0_0, .int .u64 a0_1, .bool a1_2]) ?_ 2 _ rfl; refine blk_put (cs := #[.int .u64 a0_0, .int .u64 a1_1, .bool a1_2]) ?_ 1 _ rfl; refine blk_put (cs := #[.int .u64 a1_0, .int .u64 a1_1, .bool a1_2]) ?_ 0 _ rfl; refine blk_far ?_ NB469_468.out _; refine blk_far ?_ NB469_468.out _; refine blk_far ?_ NB469_468.out _; exact BK469.out) hb); have n2_ := aK (zB (g := gb470) (o := .cells #[.int .u64 0, .int .u64 0, .bool false] 82 (0, 0)) (by refine blk_far ?_ NB470_469.out _; refine blk_far ?_ NB470_469.out _; refine blk_far ?_ NB470_469.out _; refine blk_far ?_ NB470_468.out _; refine blk_far ?_ NB470_468.out _; refine blk_far ?_ NB470_468.out _; exact BK470.out) hb); have n3_ := aK (yT (by repeat (first | (with_reducible first | exact HB.out | apply yA | apply yN | apply yD | refine yS ?_ GE468.out | refine yS ?_ GE469.out | refine yS ?_ GE470.out) | exact HB.out)) hb); clear BK468; clear BK469; clear BK470; clear HB; have BK468 := n0_; have BK469 := n1_; have BK470 := n2_; have HB := n3_; clear n0_ n1_ n2_ n3_; (try clear hb); have hcz36_0 := zI BK468 0 rfl; have hcz36_1 := zI BK468 1 rfl; have hcz36_2 := zI BK468 2 rfl; have hfz36_0 := zF BK468.out 0; have hfz36_1 := zF BK468.out 1; have hfz36_2 := zF BK468.out 2; have hcz37_0 := zI BK469 0 rfl; have hcz37_1 := zI BK469 1 rfl; have hcz37_2 := zI BK469 2 rfl; have hfz37_0 := zF BK469.out 0; have hfz37_1 := zF BK469.out 1; have hfz37_2 := zF BK469.out 2) | ((with_reducible refine gate_callee (f := 95) rfl ?_); refine goesX_ (some 59) rfl rfl #[.int .u64 a1_0, .int .u64 a0_0, .int .u64 t477] rfl (by (try simp only [List.map_toArray, List.map_cons, List.map_nil]); first | done | rfl | (simp only [List.length_drop, List.length_take]; rfl)) ?_; (with_reducible refine (bits_Sub64.calls a1_0 a0_0 t477 t478 t479 _ A23.out).mono ?_); rintro e w38 ⟨rfl, hb⟩; refine ⟨_, rfl, ?_⟩; have n0_ := aK (zB (g := gb468) (o := .cells #[.int .u64 a1_0, .int .u64 a1_1, .bool a1_2] 82 (0, 0)) (BK468.out) hb); have n1_ := aK (zB (g := gb469) (o := .cells #[.int .u64 a0_0, .int .u64 a0_1, .bool a0_2] 82 (0, 0)) (BK469.out) hb); have n2_ := aK (zB (g := gb470) (o := .cells #[.int .u64 0, .int .u64 0, .bool false] 82 (0, 0)) (BK470.out) hb); have n3_ := aK (yT (by repeat (first | (with_reducible first | exact HB.out | apply yA | apply yN | apply yD | refine yS ?_ GE468.out | refine yS ?_ GE469.out | refine yS ?_ GE470.out) | exact HB.out)) hb); clear BK468; clear BK469; clear BK470; clear HB; have BK468 := n0_; have BK469 := n1_; have BK470 := n2_; have HB := n3_; clear n0_ n1_ n2_ n3_; (try clear hb); have hcz39_0 := zI BK468 0 rfl; have hcz39_1 := zI BK468 1 rfl; have hcz39_2 := zI BK468 2 rfl; have hfz39_0 := zF BK468.out 0; have hfz39_1 := zF BK468.out 1; have hfz39_2 := zF BK468.out 2; have hcz40_0 := zI BK470 0 rfl; have hcz40_1 := zI BK470 1 rfl; have hcz40_2 := zI BK470 2 rfl; have hfz40_0 := zF BK470.out 0; have hfz40_1 := zF BK470.out 1; have hfz40_2 := zF BK470.out 2))
 refine bodyPost_ret (results_cell_row rfl _ _ gb470 82 #[.int .u64 t478, .int .u64 t476, .bool a1_2] (0, 0) _ rfl (by refine blk_put (cs := #[.int .u64 t478, .int .u64 t476, .bool false]) ?_ 2 _ rfl; refine blk_put (cs := #[.int .u64 t478, .int .u64 0, .bool false]) ?_ 1 _ rfl; refine blk_put (cs := #[.int .u64 0, .int .u64 0, .bool false]) ?_ 0 _ rfl; exact BK470.out) Try.underlying82 rfl (by kernel_rfl)) rfl ?_
 exact ⟨rfl, by repeat (first | (with_reducible first | exact HB.out | apply yA | apply yN | apply yD | refine yS ?_ GE468.out | refine yS ?_ GE469.out | refine yS ?_ GE470.out) | exact HB.out)⟩

def gangsawref04_wide_bit.f (a0_0 : Int) (a0_1 : Int) (a0_2 : Bool) (a1 : Int) : Option (Int) := if a1 ≥ 64 then (if 0 ≤ (wrap64 (a1 - 64)) then (some (Go.bits .and .u64 (shr .u64 a0_0 (wrap64 (a1 - 64))) 1)) else (none)) else (if 0 ≤ a1 then (some (Go.bits .and .u64 (shr .u64 a0_1 a1) 1)) else (none))
set_option maxHeartbeats 8000000 in
set_option maxRecDepth 100000 in
theorem gangsawref04_wide_bit.calls (a0_0 : Int) (a0_1 : Int) (a0_2 : Bool) (a1 : Int) (r : Int) (w : World) (h : gangsawref04_wide_bit.f a0_0 a0_1 a0_2 a1 = some r) :
  Calls Try.prog 120 #[.agg #[.int .u64 a0_0, .int .u64 a0_1, .bool a0_2], .int .i64 a1] w fun e w' => e = .returned (.int .u64 r) ∧ Below w.heap.size w w' := by
 have hu82 := Try.underlying82
 have HB := aK (Below.refl w.heap.size w)
 have H : (if a1 ≥ 64 then (if 0 ≤ (wrap64 (a1 - 64)) then (some (Go.bits .and .u64 (shr .u64 a0_0 (wrap64 (a1 - 64))) 1)) else (none)) else (if 0 ≤ a1 then (some (Go.bits .and .u64 (shr .u64 a0_1 a1) 1)) else (none))) = some r := h
 clear h
 by_cases c3 : a1 ≥ 64
 rotate_left
 ·rw [if_neg c3] at H
  have c3b0 : decide (64 ≤ a1) = false := decide_eq_false c3
  clear c3
  by_cases c9 : 0 ≤ a1
  rotate_left
  ·rw [if_neg c9] at H
   exact absurd H (by simp)
  rw [if_pos c9] at H
  have c9b0 := eq_true c9
  have c9b1 : decide (0 ≤ a1) = true := decide_eq_true c9
  clear c9
  obtain ⟨ji10, hji10⟩ : ∃ j_ : Int, (shr .u64 a0_1 a1) = j_ := ⟨_, rfl⟩
  replace H : (some (Go.bits .and .u64 (ji10) 1)) = some r := by first | (rw [hji10] at H; exact H) | (simp only [hji10] at H ⊢; exact H)
  have hji10_ : (a0_1 / 2 ^ min a1.toNat 64) = ji10 := hji10
  have hji10z : a1 ≤ 64 → (a0_1 / 2 ^ a1.toNat) = ji10 := shr_small hji10
  obtain rfl := Option.some.inj H
  simp only [Option.some.injEq, Prod.mk.injEq] at H
  obtain ⟨rfl⟩ := H
  go_enter Try.func120, Try.ntmps120
  go_wp2_with (first | ((with_reducible refine gate_dst (N := 2) rfl ?_); refine box_event ?hg (N := 2) ?hd (cs := #[.int .u64 a0_0, .int .u64 a0_1, .bool a0_2]) (t := 82) ?hr ?_; (case hd => rfl); (case hg => rfl); (case hr => first | (go_simp; done) | (go_simp; rfl)); intro gb484 hg w11 hbox hb; have ⟨n0_, n2_⟩ := zV (w := w) hb hg (by repeat (first | (with_reducible first | exact HB.out | apply yA | apply yN | apply yD) | exact HB.out)); have n1_ := aK (hbox); have n3_ := n2_; clear HB; have HB := n0_; have BK484 := n1_; have GW484 := n2_; have GE484 := n3_; clear n0_ n1_ n2_ n3_; clear hb hbox hg; have hcz12_0 := zI BK484 0 rfl; have hcz12_1 := zI BK484 1 rfl; have hcz12_2 := zI BK484 2 rfl; have hfz12_0 := zF BK484.out 0; have hfz12_1 := zF BK484.out 1; have hfz12_2 := zF BK484.out 2))
  go_ret
  exact ⟨by first | rfl | (simp [errW_none, errW_some] <;> rfl) | (simp only [← hji10]; first | rfl | (simp [errW_none, errW_some] <;> rfl)) | (simp [*, errW_none, errW_some] <;> rfl), by repeat (first | (with_reducible first | exact HB.out | apply yA | apply yN | apply yD | refine yS ?_ GE484.out) | exact HB.out)⟩
 rw [if_pos c3] at H
 have c3b0 : decide (64 ≤ a1) = true := decide_eq_true c3
 clear c3
 obtain ⟨ji4, hji4⟩ : ∃ j_ : Int, (wrap64 (a1 - 64)) = j_ := ⟨_, rfl⟩
 replace H : (if 0 ≤ (ji4) then (some (Go.bits .and .u64 (shr .u64 a0_0 (ji4)) 1)) else (none)) = some r := by first | (rw [hji4] at H; exact H) | (simp only [hji4] at H ⊢; exact H)
 have hji4w : (IntKind.i64.wrap (a1 - 64)) = ji4 := (i64_w _).trans hji4
 by_cases c5 : 0 ≤ (ji4)
 rotate_left
 ·rw [if_neg c5] at H
  exact absurd H (by simp)
 rw [if_pos c5] at H
 have c5b0 := eq_true c5
 have c5b1 : decide (0 ≤ (ji4)) = true := decide_eq_true c5
 clear c5
 obtain ⟨ji6, hji6⟩ : ∃ j_ : Int, (shr .u64 a0_0 (ji4)) = j_ := ⟨_, rfl⟩
 replace H : (some (Go.bits .and .u64 (ji6) 1)) = some r := by first | (rw [hji6] at H; exact H) | (simp only [hji6] at H ⊢; exact H)
 have hji6_ : (a0_0 / 2 ^ min (ji4).toNat 64) = ji6 := hji6
 have hji6z : (ji4) ≤ 64 → (a0_0 / 2 ^ (ji4).toNat) = ji6 := shr_small hji6
 obtain rfl := Option.some.inj H
 simp only [Option.some.injEq, Prod.mk.injEq] at H
 obtain ⟨rfl⟩ := H
 go_enter Try.func120, Try.ntmps120
 go_wp2_with (first | ((with_reducible refine gate_dst (N := 2) rfl ?_); refine box_event ?hg (N := 2) ?hd (cs := #[.int .u64 a0_0, .int .u64 a0_1, .bool a0_2]) (t := 82) ?hr ?_; (case hd => rfl); (case hg => rfl); (case hr => first | (go_simp; done) | (go_simp; rfl)); intro gb484 hg w7 hbox hb; have ⟨n0_, n2_⟩ := zV (w := w) hb hg (by repeat (first | (with_reducible first | exact HB.out | apply yA | apply yN | apply yD) | exact HB.out)); have n1_ := aK (hbox); have n3_ := n2_; clear HB; have HB := n0_; have BK484 := n1_; have GW484 := n2_; have GE484 := n3_; clear n0_ n1_ n2_ n3_; clear hb hbox hg; have hcz8_0 := zI BK484 0 rfl; have hcz8_1 := zI BK484 1 rfl; have hcz8_2 := zI BK484 2 rfl; have hfz8_0 := zF BK484.out 0; have hfz8_1 := zF BK484.out 1; have hfz8_2 := zF BK484.out 2))
 go_ret
 exact ⟨by first | rfl | (simp [errW_none, errW_some] <;> rfl) | (simp only [← hji4, ← hji6]; first | rfl | (simp [errW_none, errW_some] <;> rfl)) | (simp [*, errW_none, errW_some] <;> rfl), by repeat (first | (with_reducible first | exact HB.out | apply yA | apply yN | apply yD | refine yS ?_ GE484.out) | exact HB.out)⟩

end Go.Proofs.Ythkpgjjakdbbfaa.P
