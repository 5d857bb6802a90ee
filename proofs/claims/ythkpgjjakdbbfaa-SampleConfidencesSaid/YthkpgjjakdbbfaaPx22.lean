/- What functions of the program return: each contract says so of one function, for every input at which its pure function yields. -/
import Derived.Test.YthkpgjjakdbbfaaPx0
import Derived.Test.YthkpgjjakdbbfaaPx12
import Derived.Test.YthkpgjjakdbbfaaPx19
import Derived.Test.YthkpgjjakdbbfaaPx20
import Derived.Test.YthkpgjjakdbbfaaPx21
namespace Go.Proofs.Ythkpgjjakdbbfaa.P
open Go.RowKit Go.Proofs.YthkpgjjakdbbfaaW.PrintWords Go.Proofs.YthkpgjjakdbbfaaW.PrintLast Go.Proofs.YthkpgjjakdbbfaaW.PrintMore
attribute [local go_sem] max2_int min2_int max_two min_two max_three min_three max_four min_four   -- for this text's walks alone
set_option linter.unusedVariables false
set_option linter.unusedSimpArgs false

def gangsawref04_gcd.l0 : Nat → Int → Int → Option (Int)
 | 0, _, _ => none
 | k + 1, x0, x1 => if x1 = 0 then (some x0) else (gangsawref04_gcd.l0 k x1 (Int.tmod x0 x1))
def gangsawref04_gcd.f (k : Nat) (a0 : Int) (a1 : Int) : Option (Int) := gangsawref04_gcd.l0 k a0 a1
set_option maxHeartbeats 8000000 in
set_option maxRecDepth 100000 in
theorem gangsawref04_gcd.calls (k : Nat) (a0 : Int) (a1 : Int) (r : Int) (w : World) (h : gangsawref04_gcd.f k a0 a1 = some r) :
  Calls Try.prog 89 #[.int .u64 a0, .int .u64 a1] w fun e w' => e = .returned (.int .u64 r) ∧ Drawn0 w w' := by
 have H : (gangsawref04_gcd.l0 k a0 a1) = some r := h
 clear h
 have H' := aK H
 clear H
 go_enter Try.func89, Try.ntmps89
 go_wp2
 go_loopg [0, 1] k (fun kq v0 v1 w' => ∃ (x0_1 : Int) (x1_1 : Int), v0 = .int .u64 x0_1 ∧ v1 = .int .u64 x1_1 ∧ Aside0 (gangsawref04_gcd.l0 kq x0_1 x1_1 = some r) ∧ Aside0 (kq ≤ k) ∧ Drawn0 w w')
 case atStart => exact ⟨(a0), (a1), (by first | rfl | (simp; done) | (simp [*]; done)), (by first | rfl | (simp; done) | (simp [*]; done)), H', ⟨Nat.le_refl _⟩, by repeat (first | exact Drawn0.refl _ | apply Drawn0.step)⟩
 case round =>
  clear H'
  try clear p2
  obtain ⟨x0_1, x1_1, rfl, rfl, HA, HK1, ⟨m1, rfl⟩⟩ := hrel
  cases gk with
  | zero => exact absurd HA.out (by simp [gangsawref04_gcd.l0])
  | succ k1 =>
   have H := HA.out
   clear HA
   simp only [gangsawref04_gcd.l0] at H
   by_cases c3 : x1_1 = 0
   ·rw [if_pos c3] at H
    have c3b0 : (x1_1 == 0) = true := beq_iff_eq.mpr c3
    have c3b1 : (x1_1 != 0) = false := bne_eq_false_iff_eq.mpr c3
    clear c3
    obtain rfl := Option.some.inj H
    simp only [Option.some.injEq, Prod.mk.injEq] at H
    obtain ⟨rfl⟩ := H
    go_wp2
    go_ret
    exact ⟨by first | rfl | (simp; done) | (simp [*]; done), by repeat (first | exact Drawn0.refl _ | apply Drawn0.step)⟩
   ·rw [if_neg c3] at H
    have c3b0 : (x1_1 == 0) = false := beq_eq_false_iff_ne.mpr c3
    have c3b1 : (x1_1 != 0) = true := bne_iff_ne.mpr c3
    have H' := aK H
    clear H
    go_wp2
    repeat (go_quiet (fail); try go_wp2)
    go_roundg k1
    case measure => have := HK1.out; omega
    case rel => exact ⟨(x1_1), (Int.tmod x0_1 x1_1), (by first | rfl | (simp; done) | (simp [*]; done)), (by first | rfl | (simp; done) | (simp [*]; done)), H', ⟨by have := HK1.out; omega⟩, by repeat (first | exact Drawn0.refl _ | apply Drawn0.step)⟩

def gangsawref04_size.f (a0 : Int) : Option (Int) := if a0 < 0 then (some (IntKind.u64.wrap (-(IntKind.u64.wrap (a0))))) else (some (IntKind.u64.wrap (a0)))
set_option maxHeartbeats 8000000 in
set_option maxRecDepth 100000 in
theorem gangsawref04_size.calls (a0 : Int) (r : Int) (w : World) (h : gangsawref04_size.f a0 = some r) :
  Calls Try.prog 90 #[.int .i64 a0] w fun e w' => e = .returned (.int .u64 r) ∧ Drawn0 w w' := by
 have H : (if a0 < 0 then (some (IntKind.u64.wrap (-(IntKind.u64.wrap (a0))))) else (some (IntKind.u64.wrap (a0)))) = some r := h
 clear h
 by_cases c2 : a0 < 0
 ·rw [if_pos c2] at H
  have c2b0 : decide (a0 < 0) = true := decide_eq_true c2
  clear c2
  obtain rfl := Option.some.inj H
  simp only [Option.some.injEq, Prod.mk.injEq] at H
  obtain ⟨rfl⟩ := H
  go_enter Try.func90, Try.ntmps90
  go_wp2
  go_ret
  exact ⟨by first | rfl | (simp; done) | (simp [*]; done), by repeat (first | exact Drawn0.refl _ | apply Drawn0.step)⟩
 ·rw [if_neg c2] at H
  have c2b0 : decide (a0 < 0) = false := decide_eq_false c2
  clear c2
  obtain rfl := Option.some.inj H
  simp only [Option.some.injEq, Prod.mk.injEq] at H
  obtain ⟨rfl⟩ := H
  go_enter Try.func90, Try.ntmps90
  go_wp2
  go_ret
  exact ⟨by first | rfl | (simp; done) | (simp [*]; done), by repeat (first | exact Drawn0.refl _ | apply Drawn0.step)⟩

def gangsawref04_Valid.f (k : Nat) (a0_0 : Int) (a0_1 : Int) : Option (Bool) := if a0_1 ≥ 1 then (if a0_1 < 1000000000000000000 then (if a0_0 > (-1000000000000000000) then (if a0_0 < 1000000000000000000 then ((gangsawref04_size.f a0_0).bind fun t452 => ((gangsawref04_gcd.f k t452 (IntKind.u64.wrap (a0_1))).bind fun t453 => (some (t453 == 1)))) else (some false)) else (some false)) else (some false)) else (some false)
set_option maxHeartbeats 8000000 in
set_option maxRecDepth 100000 in
theorem gangsawref04_Valid.calls (k : Nat) (a0_0 : Int) (a0_1 : Int) (r : Bool) (w : World) (h : gangsawref04_Valid.f k a0_0 a0_1 = some r) :
  Calls Try.prog 70 #[.agg #[.int .i64 a0_0, .int .i64 a0_1]] w fun e w' => e = .returned (.bool r) ∧ Below w.heap.size w w' := by
 have hu33 := Try.underlying33
 have HB := aK (Below.refl w.heap.size w)
 have H : (if a0_1 ≥ 1 then (if a0_1 < 1000000000000000000 then (if a0_0 > (-1000000000000000000) then (if a0_0 < 1000000000000000000 then ((gangsawref04_size.f a0_0).bind fun t452 => ((gangsawref04_gcd.f k t452 (IntKind.u64.wrap (a0_1))).bind fun t453 => (some (t453 == 1)))) else (some false)) else (some false)) else (some false)) else (some false)) = some r := h
 clear h
 by_cases c2 : a0_1 ≥ 1
 ·rw [if_pos c2] at H
  have c2b0 : decide (1 ≤ a0_1) = true := decide_eq_true c2
  clear c2
  by_cases c3 : a0_1 < 1000000000000000000
  ·rw [if_pos c3] at H
   have c3b0 : decide (a0_1 < 1000000000000000000) = true := decide_eq_true c3
   clear c3
   by_cases c4 : a0_0 > (-1000000000000000000)
   ·rw [if_pos c4] at H
    have c4b0 : decide ((-1000000000000000000) < a0_0) = true := decide_eq_true c4
    clear c4
    by_cases c5 : a0_0 < 1000000000000000000
    ·rw [if_pos c5] at H
     have c5b0 : decide (a0_0 < 1000000000000000000) = true := decide_eq_true c5
     clear c5
     replace H := Option.bind_eq_some_iff.mp H
     obtain ⟨t452, A60, H⟩ := H
     replace H : ((gangsawref04_gcd.f k t452 (IntKind.u64.wrap (a0_1))).bind fun t453 => (some (t453 == 1))) = some r := H
     have A6 := aK A60
     clear A60
     replace H := Option.bind_eq_some_iff.mp H
     obtain ⟨t453, A70, H⟩ := H
     replace H : (some (t453 == 1)) = some r := H
     have A7 := aK A70
     clear A70
     obtain rfl := Option.some.inj H
     simp only [Option.some.injEq, Prod.mk.injEq] at H
     obtain ⟨rfl⟩ := H
     go_enter Try.func70, Try.ntmps70
     go_wp2_with (first | ((with_reducible refine gate_dst (N := 1) rfl ?_); refine box_event ?hg (N := 1) ?hd (cs := #[.int .i64 a0_0, .int .i64 a0_1]) (t := 33) ?hr ?_; (case hd => rfl); (case hg => rfl); (case hr => first | (go_simp; done) | (go_simp; rfl)); intro gb451 hg w8 hbox hb; have ⟨n0_, n2_⟩ := zV (w := w) hb hg (by repeat (first | (with_reducible first | exact HB.out | apply yA | apply yN | apply yD) | exact HB.out)); have n1_ := aK (hbox); have n3_ := n2_; clear HB; have HB := n0_; have BK451 := n1_; have GW451 := n2_; have GE451 := n3_; clear n0_ n1_ n2_ n3_; clear hb hbox hg; have hcz9_0 := zI BK451 0 rfl; have hcz9_1 := zI BK451 1 rfl; have hfz9_0 := zF BK451.out 0; have hfz9_1 := zF BK451.out 1) | (go_at_call 90; (with_reducible refine (gangsawref04_size.calls a0_0 t452 _ A6.out).mono ?_); rintro e w' ⟨rfl, ⟨nd, rfl⟩⟩; (try first | exact ⟨rfl, _, World.drewN_drewN _ _ _⟩ | exact ⟨rfl, _, Eq.trans (World.drewN_drewN _ _ _) (congrArg (World.drewN _) (Nat.add_assoc _ _ _))⟩)) | (go_at_call 89; (with_reducible refine (gangsawref04_gcd.calls k t452 (IntKind.u64.wrap (a0_1)) t453 _ A7.out).mono ?_); rintro e w' ⟨rfl, ⟨nd, rfl⟩⟩; (try first | exact ⟨rfl, _, World.drewN_drewN _ _ _⟩ | exact ⟨rfl, _, Eq.trans (World.drewN_drewN _ _ _) (congrArg (World.drewN _) (Nat.add_assoc _ _ _))⟩)))
     repeat (go_quiet (first | ((with_reducible refine gate_dst (N := 1) rfl ?_); refine box_event ?hg (N := 1) ?hd (cs := #[.int .i64 a0_0, .int .i64 a0_1]) (t := 33) ?hr ?_; (case hd => rfl); (case hg => rfl); (case hr => first | (go_simp; done) | (go_simp; rfl)); intro gb451 hg w8 hbox hb; have ⟨n0_, n2_⟩ := zV (w := w) hb hg (by repeat (first | (with_reducible first | exact HB.out | apply yA | apply yN | apply yD) | exact HB.out)); have n1_ := aK (hbox); have n3_ := n2_; clear HB; have HB := n0_; have BK451 := n1_; have GW451 := n2_; have GE451 := n3_; clear n0_ n1_ n2_ n3_; clear hb hbox hg; have hcz9_0 := zI BK451 0 rfl; have hcz9_1 := zI BK451 1 rfl; have hfz9_0 := zF BK451.out 0; have hfz9_1 := zF BK451.out 1) | (go_at_call 90; (with_reducible refine (gangsawref04_size.calls a0_0 t452 _ A6.out).mono ?_); rintro e w' ⟨rfl, ⟨nd, rfl⟩⟩; (try first | exact ⟨rfl, _, World.drewN_drewN _ _ _⟩ | exact ⟨rfl, _, Eq.trans (World.drewN_drewN _ _ _) (congrArg (World.drewN _) (Nat.add_assoc _ _ _))⟩)) | (go_at_call 89; (with_reducible refine (gangsawref04_gcd.calls k t452 (IntKind.u64.wrap (a0_1)) t453 _ A7.out).mono ?_); rintro e w' ⟨rfl, ⟨nd, rfl⟩⟩; (try first | exact ⟨rfl, _, World.drewN_drewN _ _ _⟩ | exact ⟨rfl, _, Eq.trans (World.drewN_drewN _ _ _) (congrArg (World.drewN _) (Nat.add_assoc _ _ _))⟩))); try go_wp2_with (first | ((with_reducible refine gate_dst (N := 1) rfl ?_); refine box_event ?hg (N := 1) ?hd (cs := #[.int .i64 a0_0, .int .i64 a0_1]) (t := 33) ?hr ?_; (case hd => rfl); (case hg => rfl); (case hr => first | (go_simp; done) | (go_simp; rfl)); intro gb451 hg w8 hbox hb; have ⟨n0_, n2_⟩ := zV (w := w) hb hg (by repeat (first | (with_reducible first | exact HB.out | apply yA | apply yN | apply yD) | exact HB.out)); have n1_ := aK (hbox); have n3_ := n2_; clear HB; have HB := n0_; have BK451 := n1_; have GW451 := n2_; have GE451 := n3_; clear n0_ n1_ n2_ n3_; clear hb hbox hg; have hcz9_0 := zI BK451 0 rfl; have hcz9_1 := zI BK451 1 rfl; have hfz9_0 := zF BK451.out 0; have hfz9_1 := zF BK451.out 1) | (go_at_call 90; (with_reducible refine (gangsawref04_size.calls a0_0 t452 _ A6.out).mono ?_); rintro e w' ⟨rfl, ⟨nd, rfl⟩⟩; (try first | exact ⟨rfl, _, World.drewN_drewN _ _ _⟩ | exact ⟨rfl, _, Eq.trans (World.drewN_drewN _ _ _) (congrArg (World.drewN _) (Nat.add_assoc _ _ _))⟩)) | (go_at_call 89; (with_reducible refine (gangsawref04_gcd.calls k t452 (IntKind.u64.wrap (a0_1)) t453 _ A7.out).mono ?_); rintro e w' ⟨rfl, ⟨nd, rfl⟩⟩; (try first | exact ⟨rfl, _, World.drewN_drewN _ _ _⟩ | exact ⟨rfl, _, Eq.trans (World.drewN_drewN _ _ _) (congrArg (World.drewN _) (Nat.add_assoc _ _ _))⟩))))
     go_ret
     exact ⟨by first | rfl | (simp [errW_none, errW_some] <;> rfl) | (simp [*, errW_none, errW_some] <;> rfl), by repeat (first | (with_reducible first | exact HB.out | apply yA | apply yN | apply yD | refine yS ?_ GE451.out) | exact HB.out)⟩
    ·rw [if_neg c5] at H
     have c5b0 : decide (a0_0 < 1000000000000000000) = false := decide_eq_false c5
     clear c5
     obtain rfl := Option.some.inj H
     simp only [Option.some.injEq, Prod.mk.injEq] at H
     obtain ⟨rfl⟩ := H
     go_enter Try.func70, Try.ntmps70
     go_wp2_with (first | ((with_reducible refine gate_dst (N := 1) rfl ?_); refine box_event ?hg (N := 1) ?hd (cs := #[.int .i64 a0_0, .int .i64 a0_1]) (t := 33) ?hr ?_; (case hd => rfl); (case hg => rfl); (case hr => first | (go_simp; done) | (go_simp; rfl)); intro gb451 hg w10 hbox hb; have ⟨n0_, n2_⟩ := zV (w := w) hb hg (by repeat (first | (with_reducible first | exact HB.out | apply yA | apply yN | apply yD) | exact HB.out)); have n1_ := aK (hbox); have n3_ := n2_; clear HB; have HB := n0_; have BK451 := n1_; have GW451 := n2_; have GE451 := n3_; clear n0_ n1_ n2_ n3_; clear hb hbox hg; have hcz11_0 := zI BK451 0 rfl; have hcz11_1 := zI BK451 1 rfl; have hfz11_0 := zF BK451.out 0; have hfz11_1 := zF BK451.out 1))
     repeat (go_quiet (first | ((with_reducible refine gate_dst (N := 1) rfl ?_); refine box_event ?hg (N := 1) ?hd (cs := #[.int .i64 a0_0, .int .i64 a0_1]) (t := 33) ?hr ?_; (case hd => rfl); (case hg => rfl); (case hr => first | (go_simp; done) | (go_simp; rfl)); intro gb451 hg w10 hbox hb; have ⟨n0_, n2_⟩ := zV (w := w) hb hg (by repeat (first | (with_reducible first | exact HB.out | apply yA | apply yN | apply yD) | exact HB.out)); have n1_ := aK (hbox); have n3_ := n2_; clear HB; have HB := n0_; have BK451 := n1_; have GW451 := n2_; have GE451 := n3_; clear n0_ n1_ n2_ n3_; clear hb hbox hg; have hcz11_0 := zI BK451 0 rfl; have hcz11_1 := zI BK451 1 rfl; have hfz11_0 := zF BK451.out 0; have hfz11_1 := zF BK451.out 1)); try go_wp2_with (first | ((with_reducible refine gate_dst (N := 1) rfl ?_); refine box_event ?hg (N := 1) ?hd (cs := #[.int .i64 a0_0, .int .i64 a0_1]) (t := 33) ?hr ?_; (case hd => rfl); (case hg => rfl); (case hr => first | (go_simp; done) | (go_simp; rfl)); intro gb451 hg w10 hbox hb; have ⟨n0_, n2_⟩ := zV (w := w) hb hg (by repeat (first | (with_reducible first | exact HB.out | apply yA | apply yN | apply yD) | exact HB.out)); have n1_ := aK (hbox); have n3_ := n2_; clear HB; have HB := n0_; have BK451 := n1_; have GW451 := n2_; have GE451 := n3_; clear n0_ n1_ n2_ n3_; clear hb hbox hg; have hcz11_0 := zI BK451 0 rfl; have hcz11_1 := zI BK451 1 rfl; have hfz11_0 := zF BK451.out 0; have hfz11_1 := zF BK451.out 1)))
     go_ret
     exact ⟨by first | rfl | (simp [errW_none, errW_some] <;> rfl) | (simp [*, errW_none, errW_some] <;> rfl), by repeat (first | (with_reducible first | exact HB.out | apply yA | apply yN | apply yD | refine yS ?_ GE451.out) | exact HB.out)⟩
   ·rw [if_neg c4] at H
    have c4b0 : decide ((-1000000000000000000) < a0_0) = false := decide_eq_false c4
    clear c4
    obtain rfl := Option.some.inj H
    simp only [Option.some.injEq, Prod.mk.injEq] at H
    obtain ⟨rfl⟩ := H
    go_enter Try.func70, Try.ntmps70
    go_wp2_with (first | ((with_reducible refine gate_dst (N := 1) rfl ?_); refine box_event ?hg (N := 1) ?hd (cs := #[.int .i64 a0_0, .int .i64 a0_1]) (t := 33) ?hr ?_; (case hd => rfl); (case hg => rfl); (case hr => first | (go_simp; done) | (go_simp; rfl)); intro gb451 hg w12 hbox hb; have ⟨n0_, n2_⟩ := zV (w := w) hb hg (by repeat (first | (with_reducible first | exact HB.out | apply yA | apply yN | apply yD) | exact HB.out)); have n1_ := aK (hbox); have n3_ := n2_; clear HB; have HB := n0_; have BK451 := n1_; have GW451 := n2_; have GE451 := n3_; clear n0_ n1_ n2_ n3_; clear hb hbox hg; have hcz13_0 := zI BK451 0 rfl; have hcz13_1 := zI BK451 1 rfl; have hfz13_0 := zF BK451.out 0; have hfz13_1 := zF BK451.out 1))
    repeat (go_quiet (first | ((with_reducible refine gate_dst (N := 1) rfl ?_); refine box_event ?hg (N := 1) ?hd (cs := #[.int .i64 a0_0, .int .i64 a0_1]) (t := 33) ?hr ?_; (case hd => rfl); (case hg => rfl); (case hr => first | (go_simp; done) | (go_simp; rfl)); intro gb451 hg w12 hbox hb; have ⟨n0_, n2_⟩ := zV (w := w) hb hg (by repeat (first | (with_reducible first | exact HB.out | apply yA | apply yN | apply yD) | exact HB.out)); have n1_ := aK (hbox); have n3_ := n2_; clear HB; have HB := n0_; have BK451 := n1_; have GW451 := n2_; have GE451 := n3_; clear n0_ n1_ n2_ n3_; clear hb hbox hg; have hcz13_0 := zI BK451 0 rfl; have hcz13_1 := zI BK451 1 rfl; have hfz13_0 := zF BK451.out 0; have hfz13_1 := zF BK451.out 1)); try go_wp2_with (first | ((with_reducible refine gate_dst (N := 1) rfl ?_); refine box_event ?hg (N := 1) ?hd (cs := #[.int .i64 a0_0, .int .i64 a0_1]) (t := 33) ?hr ?_; (case hd => rfl); (case hg => rfl); (case hr => first | (go_simp; done) | (go_simp; rfl)); intro gb451 hg w12 hbox hb; have ⟨n0_, n2_⟩ := zV (w := w) hb hg (by repeat (first | (with_reducible first | exact HB.out | apply yA | apply yN | apply yD) | exact HB.out)); have n1_ := aK (hbox); have n3_ := n2_; clear HB; have HB := n0_; have BK451 := n1_; have GW451 := n2_; have GE451 := n3_; clear n0_ n1_ n2_ n3_; clear hb hbox hg; have hcz13_0 := zI BK451 0 rfl; have hcz13_1 := zI BK451 1 rfl; have hfz13_0 := zF BK451.out 0; have hfz13_1 := zF BK451.out 1)))
    go_ret
    exact ⟨by first | rfl | (simp [errW_none, errW_some] <;> rfl) | (simp [*, errW_none, errW_some] <;> rfl), by repeat (first | (with_reducible first | exact HB.out | apply yA | apply yN | apply yD | refine yS ?_ GE451.out) | exact HB.out)⟩
  ·rw [if_neg c3] at H
   have c3b0 : decide (a0_1 < 1000000000000000000) = false := decide_eq_false c3
   clear c3
   obtain rfl := Option.some.inj H
   simp only [Option.some.injEq, Prod.mk.injEq] at H
   obtain ⟨rfl⟩ := H
   go_enter Try.func70, Try.ntmps70
   go_wp2_with (first | ((with_reducible refine gate_dst (N := 1) rfl ?_); refine box_event ?hg (N := 1) ?hd (cs := #[.int .i64 a0_0, .int .i64 a0_1]) (t := 33) ?hr ?_; (case hd => rfl); (case hg => rfl); (case hr => first | (go_simp; done) | (go_simp; rfl)); intro gb451 hg w14 hbox hb; have ⟨n0_, n2_⟩ := zV (w := w) hb hg (by repeat (first | (with_reducible first | exact HB.out | apply yA | apply yN | apply yD) | exact HB.out)); have n1_ := aK (hbox); have n3_ := n2_; clear HB; have HB := n0_; have BK451 := n1_; have GW451 := n2_; have GE451 := n3_; clear n0_ n1_ n2_ n3_; clear hb hbox hg; have hcz15_0 := zI BK451 0 rfl; have hcz15_1 := zI BK451 1 rfl; have hfz15_0 := zF BK451.out 0; have hfz15_1 := zF BK451.out 1))
   repeat (go_quiet (first | ((with_reducible refine gate_dst (N := 1) rfl ?_); refine box_event ?hg (N := 1) ?hd (cs := #[.int .i64 a0_0, .int .i64 a0_1]) (t := 33) ?hr ?_; (case hd => rfl); (case hg => rfl); (case hr => first | (go_simp; done) | (go_simp; rfl)); intro gb451 hg w14 hbox hb; have ⟨n0_, n2_⟩ := zV (w := w) hb hg (by repeat (first | (with_reducible first | exact HB.out | apply yA | apply yN | apply yD) | exact HB.out)); have n1_ := aK (hbox); have n3_ := n2_; clear HB; have HB := n0_; have BK451 := n1_; have GW451 := n2_; have GE451 := n3_; clear n0_ n1_ n2_ n3_; clear hb hbox hg; have hcz15_0 := zI BK451 0 rfl; have hcz15_1 := zI BK451 1 rfl; have hfz15_0 := zF BK451.out 0; have hfz15_1 := zF BK451.out 1)); try go_wp2_with (first | ((with_reducible refine gate_dst (N := 1) rfl ?_); refine box_event ?hg (N := 1) ?hd (cs := #[.int .i64 a0_0, .int .i64 a0_1]) (t := 33) ?hr ?_; (case hd => rfl); (case hg => rfl); (case hr => first | (go_simp; done) | (go_simp; rfl)); intro gb451 hg w14 hbox hb; have ⟨n0_, n2_⟩ := zV (w := w) hb hg (by repeat (first | (with_reducible first | exact HB.out | apply yA | apply yN | apply yD) | exact HB.out)); have n1_ := aK (hbox); have n3_ := n2_; clear HB; have HB := n0_; have BK451 := n1_; have GW451 := n2_; have GE451 := n3_; clear n0_ n1_ n2_ n3_; clear hb hbox hg; have hcz15_0 := zI BK451 0 rfl; have hcz15_1 := zI BK451 1 rfl; have hfz15_0 := zF BK451.out 0; have hfz15_1 := zF BK451.out 1)))
   go_ret
   exact ⟨by first | rfl | (simp [errW_none, errW_some] <;> rfl) | (simp [*, errW_none, errW_some] <;> rfl), by repeat (first | (with_reducible first | exact HB.out | apply yA | apply yN | apply yD | refine yS ?_ GE451.out) | exact HB.out)⟩
 ·rw [if_neg c2] at H
  have c2b0 : decide (1 ≤ a0_1) = false := decide_eq_false c2
  clear c2
  obtain rfl := Option.some.inj H
  simp only [Option.some.injEq, Prod.mk.injEq] at H
  obtain ⟨rfl⟩ := H
  go_enter Try.func70, Try.ntmps70
  go_wp2_with (first | ((with_reducible refine gate_dst (N := 1) rfl ?_); refine box_event ?hg (N := 1) ?hd (cs := #[.int .i64 a0_0, .int .i64 a0_1]) (t := 33) ?hr ?_; (case hd => rfl); (case hg => rfl); (case hr => first | (go_simp; done) | (go_simp; rfl)); intro gb451 hg w16 hbox hb; have ⟨n0_, n2_⟩ := zV (w := w) hb hg (by repeat (first | (with_reducible first | exact HB.out | apply yA | apply yN | apply yD) | exact HB.out)); have n1_ := aK (hbox); have n3_ := n2_; clear HB; have HB := n0_; have BK451 := n1_; have GW451 := n2_; have GE451 := n3_; clear n0_ n1_ n2_ n3_; clear hb hbox hg; have hcz17_0 := zI BK451 0 rfl; have hcz17_1 := zI BK451 1 rfl; have hfz17_0 := zF BK451.out 0; have hfz17_1 := zF BK451.out 1))
  repeat (go_quiet (first | ((with_reducible refine gate_dst (N := 1) rfl ?_); refine box_event ?hg (N := 1) ?hd (cs := #[.int .i64 a0_0, .int .i64 a0_1]) (t := 33) ?hr ?_; (case hd => rfl); (case hg => rfl); (case hr => first | (go_simp; done) | (go_simp; rfl)); intro gb451 hg w16 hbox hb; have ⟨n0_, n2_⟩ := zV (w := w) hb hg (by repeat (first | (with_reducible first | exact HB.out | apply yA | apply yN | apply yD) | exact HB.out)); have n1_ := aK (hbox); have n3_ := n2_; clear HB; have HB := n0_; have BK451 := n1_; have GW451 := n2_; have GE451 := n3_; clear n0_ n1_ n2_ n3_; clear hb hbox hg; have hcz17_0 := zI BK451 0 rfl; have hcz17_1 := zI BK451 1 rfl; have hfz17_0 := zF BK451.out 0; have hfz17_1 := zF BK451.out 1)); try go_wp2_with (first | ((with_reducible refine gate_dst (N := 1) rfl ?_); refine box_event ?hg (N := 1) ?hd (cs := #[.int .i64 a0_0, .int .i64 a0_1]) (t := 33) ?hr ?_; (case hd => rfl); (case hg => rfl); (case hr => first | (go_simp; done) | (go_simp; rfl)); intro gb451 hg w16 hbox hb; have ⟨n0_, n2_⟩ := zV (w := w) hb hg (by repeat (first | (with_reducible first | exact HB.out | apply yA | apply yN | apply yD) | exact HB.out)); have n1_ := aK (hbox); have n3_ := n2_; clear HB; have HB := n0_; have BK451 := n1_; have GW451 := n2_; have GE451 := n3_; clear n0_ n1_ n2_ n3_; clear hb hbox hg; have hcz17_0 := zI BK451 0 rfl; have hcz17_1 := zI BK451 1 rfl; have hfz17_0 := zF BK451.out 0; have hfz17_1 := zF BK451.out 1)))
  go_ret
  exact ⟨by first | rfl | (simp [errW_none, errW_some] <;> rfl) | (simp [*, errW_none, errW_some] <;> rfl), by repeat (first | (with_reducible first | exact HB.out | apply yA | apply yN | apply yD | refine yS ?_ GE451.out) | exact HB.out)⟩

def gangsawref33_unit.f (k : Nat) (a0_0 : Int) (a0_1 : Int) : Option (Bool) := (gangsawref04_Valid.f k a0_0 a0_1).bind fun t455 => (if t455 = true then (if a0_0 ≥ 0 then (some (decide (a0_0 ≤ a0_1))) else (some false)) else (some false))
set_option maxHeartbeats 8000000 in
set_option maxRecDepth 100000 in
theorem gangsawref33_unit.calls (k : Nat) (a0_0 : Int) (a0_1 : Int) (r : Bool) (w : World) (h : gangsawref33_unit.f k a0_0 a0_1 = some r) :
  Calls Try.prog 46 #[.agg #[.int .i64 a0_0, .int .i64 a0_1]] w fun e w' => e = .returned (.bool r) ∧ Below w.heap.size w w' := by
 have hu33 := Try.underlying33
 have HB := aK (Below.refl w.heap.size w)
 have H : ((gangsawref04_Valid.f k a0_0 a0_1).bind fun t455 => (if t455 = true then (if a0_0 ≥ 0 then (some (decide (a0_0 ≤ a0_1))) else (some false)) else (some false))) = some r := h
 clear h
 replace H := Option.bind_eq_some_iff.mp H
 obtain ⟨t455, A20, H⟩ := H
 replace H : (if t455 = true then (if a0_0 ≥ 0 then (some (decide (a0_0 ≤ a0_1))) else (some false)) else (some false)) = some r := H
 have A2 := aK A20
 clear A20
 by_cases c3 : t455 = true
 ·subst c3
  have H1 : (if a0_0 ≥ 0 then (some (decide (a0_0 ≤ a0_1))) else (some false)) = some r := by rw [if_pos rfl] at H; exact H
  clear H
  have H := H1
  clear H1
  by_cases c4 : a0_0 ≥ 0
  ·rw [if_pos c4] at H
   have c4b0 : decide (0 ≤ a0_0) = true := decide_eq_true c4
   clear c4
   obtain rfl := Option.some.inj H
   simp only [Option.some.injEq, Prod.mk.injEq] at H
   obtain ⟨rfl⟩ := H
   go_enter Try.func46, Try.ntmps46
   go_wp2_with (first | ((with_reducible refine gate_dst (N := 1) rfl ?_); refine box_event ?hg (N := 1) ?hd (cs := #[.int .i64 a0_0, .int .i64 a0_1]) (t := 33) ?hr ?_; (case hd => rfl); (case hg => rfl); (case hr => first | (go_simp; done) | (go_simp; rfl)); intro gb454 hg w5 hbox hb; have ⟨n0_, n2_⟩ := zV (w := w) hb hg (by repeat (first | (with_reducible first | exact HB.out | apply yA | apply yN | apply yD) | exact HB.out)); have n1_ := aK (hbox); have n3_ := n2_; clear HB; have HB := n0_; have BK454 := n1_; have GW454 := n2_; have GE454 := n3_; clear n0_ n1_ n2_ n3_; clear hb hbox hg; have hcz6_0 := zI BK454 0 rfl; have hcz6_1 := zI BK454 1 rfl; have hfz6_0 := zF BK454.out 0; have hfz6_1 := zF BK454.out 1) | ((with_reducible refine gate_callee (f := 70) rfl ?_); refine goesL_ (some 4) rfl rfl Try.func70 (by kernel_rfl) rfl #[.agg #[.int .i64 a0_0, .int .i64 a0_1]] rfl (by (try simp only [List.map_toArray, List.map_cons, List.map_nil]); first | done | rfl | (simp only [List.length_drop, List.length_take]; rfl)) ?_; (with_reducible refine (gangsawref04_Valid.calls k a0_0 a0_1 true _ A2.out).mono ?_); rintro e w7 ⟨rfl, hb⟩; refine ⟨_, rfl, ?_⟩; have n0_ := zG BK454 hb (fun h => by (with_reducible repeat (first | refine zN ?_ _ | refine zD ?_ | refine zA ?_ _)); exact h); have n1_ := aK (yT (by repeat (first | (with_reducible first | exact HB.out | apply yA | apply yN | apply yD | refine yS ?_ GE454.out) | exact HB.out)) hb); clear BK454; clear HB; have BK454 := n0_; have HB := n1_; clear n0_ n1_; (try clear hb); (try clear hb2); (try clear hk); (try clear hi); have hcz8_0 := zI BK454 0 rfl; have hcz8_1 := zI BK454 1 rfl; have hfz8_0 := zF BK454.out 0; have hfz8_1 := zF BK454.out 1))
   go_ret
   exact ⟨by first | rfl | (simp [errW_none, errW_some] <;> rfl) | (simp [*, errW_none, errW_some] <;> rfl), by repeat (first | (with_reducible first | exact HB.out | apply yA | apply yN | apply yD | refine yS ?_ GE454.out) | exact HB.out)⟩
  ·rw [if_neg c4] at H
   have c4b0 : decide (0 ≤ a0_0) = false := decide_eq_false c4
   clear c4
   obtain rfl := Option.some.inj H
   simp only [Option.some.injEq, Prod.mk.injEq] at H
   obtain ⟨rfl⟩ := H
   go_enter Try.func46, Try.ntmps46
   go_wp2_with (first | ((with_reducible refine gate_dst (N := 1) rfl ?_); refine box_event ?hg (N := 1) ?hd (cs := #[.int .i64 a0_0, .int .i64 a0_1]) (t := 33) ?hr ?_; (case hd => rfl); (case hg => rfl); (case hr => first | (go_simp; done) | (go_simp; rfl)); intro gb454 hg w9 hbox hb; have ⟨n0_, n2_⟩ := zV (w := w) hb hg (by repeat (first | (with_reducible first | exact HB.out | apply yA | apply yN | apply yD) | exact HB.out)); have n1_ := aK (hbox); have n3_ := n2_; clear HB; have HB := n0_; have BK454 := n1_; have GW454 := n2_; have GE454 := n3_; clear n0_ n1_ n2_ n3_; clear hb hbox hg; have hcz10_0 := zI BK454 0 rfl; have hcz10_1 := zI BK454 1 rfl; have hfz10_0 := zF BK454.out 0; have hfz10_1 := zF BK454.out 1) | ((with_reducible refine gate_callee (f := 70) rfl ?_); refine goesL_ (some 4) rfl rfl Try.func70 (by kernel_rfl) rfl #[.agg #[.int .i64 a0_0, .int .i64 a0_1]] rfl (by (try simp only [List.map_toArray, List.map_cons, List.map_nil]); first | done | rfl | (simp only [List.length_drop, List.length_take]; rfl)) ?_; (with_reducible refine (gangsawref04_Valid.calls k a0_0 a0_1 true _ A2.out).mono ?_); rintro e w11 ⟨rfl, hb⟩; refine ⟨_, rfl, ?_⟩; have n0_ := zG BK454 hb (fun h => by (with_reducible repeat (first | refine zN ?_ _ | refine zD ?_ | refine zA ?_ _)); exact h); have n1_ := aK (yT (by repeat (first | (with_reducible first | exact HB.out | apply yA | apply yN | apply yD | refine yS ?_ GE454.out) | exact HB.out)) hb); clear BK454; clear HB; have BK454 := n0_; have HB := n1_; clear n0_ n1_; (try clear hb); (try clear hb2); (try clear hk); (try clear hi); have hcz12_0 := zI BK454 0 rfl; have hcz12_1 := zI BK454 1 rfl; have hfz12_0 := zF BK454.out 0; have hfz12_1 := zF BK454.out 1))
   go_ret
   exact ⟨by first | rfl | (simp [errW_none, errW_some] <;> rfl) | (simp [*, errW_none, errW_some] <;> rfl), by repeat (first | (with_reducible first | exact HB.out | apply yA | apply yN | apply yD | refine yS ?_ GE454.out) | exact HB.out)⟩
 ·replace c3 := Bool.eq_false_iff.mpr c3
  subst c3
  have H1 : (some false) = some r := by rw [if_neg (show ¬ (false = true) by decide)] at H; exact H
  clear H
  have H := H1
  clear H1
  obtain rfl := Option.some.inj H
  simp only [Option.some.injEq, Prod.mk.injEq] at H
  obtain ⟨rfl⟩ := H
  go_enter Try.func46, Try.ntmps46
  go_wp2_with (first | ((with_reducible refine gate_dst (N := 1) rfl ?_); refine box_event ?hg (N := 1) ?hd (cs := #[.int .i64 a0_0, .int .i64 a0_1]) (t := 33) ?hr ?_; (case hd => rfl); (case hg => rfl); (case hr => first | (go_simp; done) | (go_simp; rfl)); intro gb454 hg w13 hbox hb; have ⟨n0_, n2_⟩ := zV (w := w) hb hg (by repeat (first | (with_reducible first | exact HB.out | apply yA | apply yN | apply yD) | exact HB.out)); have n1_ := aK (hbox); have n3_ := n2_; clear HB; have HB := n0_; have BK454 := n1_; have GW454 := n2_; have GE454 := n3_; clear n0_ n1_ n2_ n3_; clear hb hbox hg; have hcz14_0 := zI BK454 0 rfl; have hcz14_1 := zI BK454 1 rfl; have hfz14_0 := zF BK454.out 0; have hfz14_1 := zF BK454.out 1) | ((with_reducible refine gate_callee (f := 70) rfl ?_); refine goesL_ (some 4) rfl rfl Try.func70 (by kernel_rfl) rfl #[.agg #[.int .i64 a0_0, .int .i64 a0_1]] rfl (by (try simp only [List.map_toArray, List.map_cons, List.map_nil]); first | done | rfl | (simp only [List.length_drop, List.length_take]; rfl)) ?_; (with_reducible refine (gangsawref04_Valid.calls k a0_0 a0_1 false _ A2.out).mono ?_); rintro e w15 ⟨rfl, hb⟩; refine ⟨_, rfl, ?_⟩; have n0_ := zG BK454 hb (fun h => by (with_reducible repeat (first | refine zN ?_ _ | refine zD ?_ | refine zA ?_ _)); exact h); have n1_ := aK (yT (by repeat (first | (with_reducible first | exact HB.out | apply yA | apply yN | apply yD | refine yS ?_ GE454.out) | exact HB.out)) hb); clear BK454; clear HB; have BK454 := n0_; have HB := n1_; clear n0_ n1_; (try clear hb); (try clear hb2); (try clear hk); (try clear hi)))
  go_ret
  exact ⟨by first | rfl | (simp [errW_none, errW_some] <;> rfl) | (simp [*, errW_none, errW_some] <;> rfl), by repeat (first | (with_reducible first | exact HB.out | apply yA | apply yN | apply yD | refine yS ?_ GE454.out) | exact HB.out)⟩

end Go.Proofs.Ythkpgjjakdbbfaa.P
