/- What functions of the program return: each contract says so of one function, for every input at which its pure function yields. -/
import Derived.Test.YtfedmcehkpfciaaGreatPx0
import Derived.Test.YtfedmcehkpfciaaGreatHof
import Derived.Test.YtfedmcehkpfciaaGreatLex
namespace Go.Proofs.YtfedmcehkpfciaaGreat.P
open Go.RowKit Go.Proofs.YtfedmcehkpfciaaGreatW.PrintWords Go.Proofs.YtfedmcehkpfciaaGreatW.PrintLast Go.Proofs.YtfedmcehkpfciaaGreatW.PrintMore
attribute [local go_sem] max2_int min2_int max_two min_two max_three min_three max_four min_four   -- for this text's walks alone
set_option linter.unusedVariables false
set_option linter.unusedSimpArgs false

open Go.Proofs.YtfedmcehkpfciaaGreat.Hof Go.Proofs.YtfedmcehkpfciaaGreat.Lex
def gangsawref14_Small.f (a0_0 : ByteArray) (a0_1 : Int) (a0_2 : Int) (l0_3 : List (S48)) : Option (Bool) := if (l0_3.length : Int) ≤ 70 then (some (decide ((a0_0.size : Int) ≤ 100))) else (some false)
set_option maxHeartbeats 8000000 in
set_option maxRecDepth 100000 in
theorem gangsawref14_Small.calls (a0_0 : ByteArray) (a0_1 : Int) (a0_2 : Int) (A0_3 : Option Addr) (c0_3 : Nat) (l0_3 : List (S48)) (r : Bool) (w : World) (hr0_3 : Kd.C k48 w A0_3 l0_3.length l0_3) (hc0_3 : l0_3.length ≤ c0_3) (h : gangsawref14_Small.f a0_0 a0_1 a0_2 l0_3 = some r) :
  Calls Tryz.prog 12 #[.agg #[.string a0_0, .int .i64 a0_1, .int .i64 a0_2, .slice A0_3 l0_3.length c0_3]] w fun e w' => e = .returned (.bool r) ∧ Below w.heap.size w w' := by
 have hu33 := Tryz.underlying33
 have HR0_3 := aK hr0_3
 have HC0_3 := aK hc0_3
 clear hr0_3 hc0_3
 have HB := aK (Below.refl w.heap.size w)
 have H : (if (l0_3.length : Int) ≤ 70 then (some (decide ((a0_0.size : Int) ≤ 100))) else (some false)) = some r := h
 clear h
 by_cases c2 : (l0_3.length : Int) ≤ 70
 ·rw [if_pos c2] at H
  have c2b0 : decide ((l0_3.length : Int) ≤ 70) = true := decide_eq_true c2
  have c2b1 : decide (l0_3.length ≤ 70) = true := decide_eq_true (by omega)
  clear c2
  obtain rfl := Option.some.inj H
  simp only [Option.some.injEq, Prod.mk.injEq] at H
  obtain ⟨rfl⟩ := H
  go_enter Tryz.func12, Tryz.ntmps12
  go_wp2_with (first | ((with_reducible refine gate_dst (N := 1) rfl ?_); (try (refine gate_guard (by rfl) ?_; dsimp only)); refine box_event ?hg (N := 1) ?hd (cs := #[.string a0_0, .int .i64 a0_1, .int .i64 a0_2, .slice A0_3 l0_3.length c0_3]) (t := 33) ?hr ?_; (case hd => rfl); (case hg => rfl); (case hr => first | (go_simp; done) | (go_simp; rfl)); intro gb101 hg w3 hbox hb; have n0_ := aK (yT (HB.out) hb); have n1_ := aK (hbox); have n2_ := aK ((by rw [hg]; exact (yZ (HB.out)) : w.heap.size ≤ gb101)); have n3_ := n2_; clear HB; have HB := n0_; have BK101 := n1_; have GW101 := n2_; have GE101 := n3_; clear n0_ n1_ n2_ n3_; clear hb hbox hg; have hcz4_0 := zI BK101 0 rfl; have hcz4_1 := zI BK101 1 rfl; have hcz4_2 := zI BK101 2 rfl; have hcz4_3 := zI BK101 3 rfl; have hfz4_0 := zF BK101.out 0; have hfz4_1 := zF BK101.out 1; have hfz4_2 := zF BK101.out 2; have hfz4_3 := zF BK101.out 3))
  go_ret
  exact ⟨rfl, HB.out⟩
 rw [if_neg c2] at H
 have c2b0 : decide ((l0_3.length : Int) ≤ 70) = false := decide_eq_false c2
 have c2b1 : decide (l0_3.length ≤ 70) = false := decide_eq_false (by omega)
 clear c2
 obtain rfl := Option.some.inj H
 simp only [Option.some.injEq, Prod.mk.injEq] at H
 obtain ⟨rfl⟩ := H
 go_enter Tryz.func12, Tryz.ntmps12
 go_wp2_with (first | ((with_reducible refine gate_dst (N := 1) rfl ?_); (try (refine gate_guard (by rfl) ?_; dsimp only)); refine box_event ?hg (N := 1) ?hd (cs := #[.string a0_0, .int .i64 a0_1, .int .i64 a0_2, .slice A0_3 l0_3.length c0_3]) (t := 33) ?hr ?_; (case hd => rfl); (case hg => rfl); (case hr => first | (go_simp; done) | (go_simp; rfl)); intro gb101 hg w5 hbox hb; have n0_ := aK (yT (HB.out) hb); have n1_ := aK (hbox); have n2_ := aK ((by rw [hg]; exact (yZ (HB.out)) : w.heap.size ≤ gb101)); have n3_ := n2_; clear HB; have HB := n0_; have BK101 := n1_; have GW101 := n2_; have GE101 := n3_; clear n0_ n1_ n2_ n3_; clear hb hbox hg; have hcz6_0 := zI BK101 0 rfl; have hcz6_1 := zI BK101 1 rfl; have hcz6_2 := zI BK101 2 rfl; have hcz6_3 := zI BK101 3 rfl; have hfz6_0 := zF BK101.out 0; have hfz6_1 := zF BK101.out 1; have hfz6_2 := zF BK101.out 2; have hfz6_3 := zF BK101.out 3))
 go_ret
 exact ⟨rfl, HB.out⟩

def boring_checks_1.f (a0_0 : ByteArray) (a0_1 : Int) (a0_2 : Int) (l0_3 : List (S48)) : Option (Bool) := (lexer_Name.f a0_0).bind fun t103 => (some t103)
set_option maxHeartbeats 8000000 in
set_option maxRecDepth 100000 in
theorem boring_checks_1.calls (a0_0 : ByteArray) (a0_1 : Int) (a0_2 : Int) (A0_3 : Option Addr) (c0_3 : Nat) (l0_3 : List (S48)) (r : Bool) (w : World) (hr0_3 : Kd.C k48 w A0_3 l0_3.length l0_3) (hc0_3 : l0_3.length ≤ c0_3) (h : boring_checks_1.f a0_0 a0_1 a0_2 l0_3 = some r) :
  Calls Tryz.prog 128 #[.agg #[.string a0_0, .int .i64 a0_1, .int .i64 a0_2, .slice A0_3 l0_3.length c0_3]] w fun e w' => e = .returned (.bool r) ∧ Below w.heap.size w w' := by
 have hu33 := Tryz.underlying33
 have HR0_3 := aK hr0_3
 have HC0_3 := aK hc0_3
 clear hr0_3 hc0_3
 have HB := aK (Below.refl w.heap.size w)
 have H : ((lexer_Name.f a0_0).bind fun t103 => (some t103)) = some r := h
 clear h
 replace H := Option.bind_eq_some_iff.mp H
 obtain ⟨t103, A20, H⟩ := H
 replace H : (some t103) = some r := H
 have A2 := aK A20
 clear A20
 obtain rfl := Option.some.inj H
 simp only [Option.some.injEq, Prod.mk.injEq] at H
 obtain ⟨rfl⟩ := H
 go_enter Tryz.func128, Tryz.ntmps128
 go_wp2_with (first | ((with_reducible refine gate_dst (N := 1) rfl ?_); refine box_event ?hg (N := 1) ?hd (cs := #[.string a0_0, .int .i64 a0_1, .int .i64 a0_2, .slice A0_3 l0_3.length c0_3]) (t := 33) ?hr ?_; (case hd => rfl); (case hg => rfl); (case hr => first | (go_simp; done) | (go_simp; rfl)); intro gb102 hg w3 hbox hb; have n0_ := aK (yT (HB.out) hb); have n1_ := aK (hbox); have n2_ := aK ((by rw [hg]; exact (yZ (HB.out)) : w.heap.size ≤ gb102)); have n3_ := n2_; clear HB; have HB := n0_; have BK102 := n1_; have GW102 := n2_; have GE102 := n3_; clear n0_ n1_ n2_ n3_; clear hb hbox hg; have hcz4_0 := zI BK102 0 rfl; have hcz4_1 := zI BK102 1 rfl; have hcz4_2 := zI BK102 2 rfl; have hcz4_3 := zI BK102 3 rfl; have hfz4_0 := zF BK102.out 0; have hfz4_1 := zF BK102.out 1; have hfz4_2 := zF BK102.out 2; have hfz4_3 := zF BK102.out 3) | ((with_reducible refine gate_callee (f := 105) rfl ?_); refine goesL_ (some 5) rfl rfl Tryz.func105 (by kernel_rfl) rfl #[.string a0_0] rfl (by (try simp only [List.map_toArray, List.map_cons, List.map_nil]); first | done | rfl | (simp only [List.length_drop, List.length_take]; rfl)) ?_; (with_reducible refine (lexer_Name.calls a0_0 t103 _ A2.out).mono ?_); rintro e w5 ⟨rfl, hb⟩; refine ⟨_, rfl, ?_⟩; have n0_ := aK (zB (g := gb102) (o := .cells #[.string a0_0, .int .i64 a0_1, .int .i64 a0_2, .slice A0_3 l0_3.length c0_3] 33 (0, 0)) (BK102.out) hb); have n1_ := aK (yT (HB.out) hb); clear BK102; clear HB; have BK102 := n0_; have HB := n1_; clear n0_ n1_; (try clear hb)))
 go_ret
 exact ⟨rfl, HB.out⟩
def boring_checks_2.f (a0_0 : ByteArray) (a0_1 : Int) (a0_2 : Int) (l0_3 : List (S48)) : Option (Bool) := some (decide ((l0_3.length : Int) ≤ 64))
set_option maxHeartbeats 8000000 in
set_option maxRecDepth 100000 in
theorem boring_checks_2.calls (a0_0 : ByteArray) (a0_1 : Int) (a0_2 : Int) (A0_3 : Option Addr) (c0_3 : Nat) (l0_3 : List (S48)) (r : Bool) (w : World) (hr0_3 : Kd.C k48 w A0_3 l0_3.length l0_3) (hc0_3 : l0_3.length ≤ c0_3) (h : boring_checks_2.f a0_0 a0_1 a0_2 l0_3 = some r) :
  Calls Tryz.prog 129 #[.agg #[.string a0_0, .int .i64 a0_1, .int .i64 a0_2, .slice A0_3 l0_3.length c0_3]] w fun e w' => e = .returned (.bool r) ∧ Below w.heap.size w w' := by
 have hu33 := Tryz.underlying33
 have HR0_3 := aK hr0_3
 have HC0_3 := aK hc0_3
 clear hr0_3 hc0_3
 have HB := aK (Below.refl w.heap.size w)
 have H : (some (decide ((l0_3.length : Int) ≤ 64))) = some r := h
 clear h
 obtain rfl := Option.some.inj H
 simp only [Option.some.injEq, Prod.mk.injEq] at H
 obtain ⟨rfl⟩ := H
 go_enter Tryz.func129, Tryz.ntmps129
 go_wp2_with (first | ((with_reducible refine gate_dst (N := 1) rfl ?_); refine box_event ?hg (N := 1) ?hd (cs := #[.string a0_0, .int .i64 a0_1, .int .i64 a0_2, .slice A0_3 l0_3.length c0_3]) (t := 33) ?hr ?_; (case hd => rfl); (case hg => rfl); (case hr => first | (go_simp; done) | (go_simp; rfl)); intro gb104 hg w2 hbox hb; have n0_ := aK (yT (HB.out) hb); have n1_ := aK (hbox); have n2_ := aK ((by rw [hg]; exact (yZ (HB.out)) : w.heap.size ≤ gb104)); have n3_ := n2_; clear HB; have HB := n0_; have BK104 := n1_; have GW104 := n2_; have GE104 := n3_; clear n0_ n1_ n2_ n3_; clear hb hbox hg; have hcz3_0 := zI BK104 0 rfl; have hcz3_1 := zI BK104 1 rfl; have hcz3_2 := zI BK104 2 rfl; have hcz3_3 := zI BK104 3 rfl; have hfz3_0 := zF BK104.out 0; have hfz3_1 := zF BK104.out 1; have hfz3_2 := zF BK104.out 2; have hfz3_3 := zF BK104.out 3))
 go_ret
 exact ⟨rfl, HB.out⟩
def boring_some.f (a0_0 : ByteArray) (a0_1 : Int) (a0_2 : Int) (l0_3 : List (S48)) (p1 : (S48 → Option Bool)) : Option (Bool) := (contains48.f l0_3 p1).bind fun t106 => (some t106)
set_option maxHeartbeats 8000000 in
set_option maxRecDepth 100000 in
theorem boring_some.calls (a0_0 : ByteArray) (a0_1 : Int) (a0_2 : Int) (A0_3 : Option Addr) (c0_3 : Nat) (l0_3 : List (S48)) (V1 : Value) (p1 : (S48 → Option Bool)) (r : Bool) (w : World) (hr0_3 : Kd.C k48 w A0_3 l0_3.length l0_3) (hc0_3 : l0_3.length ≤ c0_3) (hf1 : FnE Tryz.prog k48 vAgg Value.bool V1 p1 w) (h : boring_some.f a0_0 a0_1 a0_2 l0_3 p1 = some r) :
  Calls Tryz.prog 53 #[.agg #[.string a0_0, .int .i64 a0_1, .int .i64 a0_2, .slice A0_3 l0_3.length c0_3], V1] w fun e w' => e = .returned (.bool r) ∧ Below w.heap.size w w' := by
 have hu33 := Tryz.underlying33
 have hu31 := Tryz.underlying31
 have HR0_3 := aK hr0_3
 have HC0_3 := aK hc0_3
 clear hr0_3 hc0_3
 obtain ⟨gf1, lf1, rfl, ef1, hp1⟩ := hf1
 have HF1 := aK (show FnE Tryz.prog k48 vAgg Value.bool (.func (.func gf1) #[] lf1) p1 w from ⟨gf1, lf1, rfl, ef1, hp1⟩)
 have HP1 := aK hp1
 clear hp1
 have HB := aK (Below.refl w.heap.size w)
 have H : ((contains48.f l0_3 p1).bind fun t106 => (some t106)) = some r := h
 clear h
 replace H := Option.bind_eq_some_iff.mp H
 obtain ⟨t106, A30, H⟩ := H
 replace H : (some t106) = some r := H
 have A3 := aK A30
 clear A30
 obtain rfl := Option.some.inj H
 simp only [Option.some.injEq, Prod.mk.injEq] at H
 obtain ⟨rfl⟩ := H
 go_enter Tryz.func53, Tryz.ntmps53
 go_wp2_with (first | ((with_reducible refine gate_dst (N := 2) rfl ?_); refine box_event ?hg (N := 2) ?hd (cs := #[.string a0_0, .int .i64 a0_1, .int .i64 a0_2, .slice A0_3 l0_3.length c0_3]) (t := 33) ?hr ?_; (case hd => rfl); (case hg => rfl); (case hr => first | (go_simp; done) | (go_simp; rfl)); intro gb105 hg w4 hbox hb; have n0_ := aK (yT (HB.out) hb); have n1_ := aK (hbox); have n2_ := aK ((by rw [hg]; exact (yZ (HB.out)) : w.heap.size ≤ gb105)); have n3_ := n2_; clear HB; have HB := n0_; have BK105 := n1_; have GW105 := n2_; have GE105 := n3_; clear n0_ n1_ n2_ n3_; clear hb hbox hg; have hcz5_0 := zI BK105 0 rfl; have hcz5_1 := zI BK105 1 rfl; have hcz5_2 := zI BK105 2 rfl; have hcz5_3 := zI BK105 3 rfl; have hfz5_0 := zF BK105.out 0; have hfz5_1 := zF BK105.out 1; have hfz5_2 := zF BK105.out 2; have hfz5_3 := zF BK105.out 3) | ((with_reducible refine gate_callee (f := 96) rfl ?_); refine goesL_ (some 8) rfl rfl Tryz.func96 (by kernel_rfl) rfl #[.slice A0_3 l0_3.length c0_3, .func (.func gf1) #[] lf1] rfl (by (try simp only [List.map_toArray, List.map_cons, List.map_nil]); first | done | rfl | (simp only [List.length_drop, List.length_take]; rfl)) ?_; (with_reducible refine (contains48.calls _ _ l0_3 (.func (.func gf1) #[] lf1) p1 t106 _ ?side1 ?side2 ?side3 A3.out).mono ?_); (case side1 => repeat (first | exact (Kd.C_below HR0_3.out HB.out) | (with_reducible refine Kd.C_alloc ?_ _) | (with_reducible refine Kd.C_drewN ?_ _) | (with_reducible refine Kd.C_drew ?_))); (case side2 => exact HC0_3.out); (case side3 => first | exact HF1.out | exact FnE.below HF1.out (HB.out)); rintro e w6 ⟨rfl, hb⟩; refine ⟨_, rfl, ?_⟩; have n0_ := aK (zB (g := gb105) (o := .cells #[.string a0_0, .int .i64 a0_1, .int .i64 a0_2, .slice A0_3 l0_3.length c0_3] 33 (0, 0)) (BK105.out) hb); have n1_ := aK (yT (HB.out) hb); clear BK105; clear HB; have BK105 := n0_; have HB := n1_; clear n0_ n1_; (try clear hb)))
 go_ret
 exact ⟨rfl, HB.out⟩

def boring_checks_3_1.f (a0_0 : Int) (a0_1 : Int) (a0_2 : Int) : Option (Bool) := if a0_0 ≥ a0_1 then (some true) else (if a0_2 = 1 then (some false) else (some (a0_2 != 2)))
set_option maxHeartbeats 8000000 in
set_option maxRecDepth 100000 in
theorem boring_checks_3_1.calls (a0_0 : Int) (a0_1 : Int) (a0_2 : Int) (r : Bool) (w : World) (h : boring_checks_3_1.f a0_0 a0_1 a0_2 = some r) :
  Calls Tryz.prog 131 #[.agg #[.int .i64 a0_0, .int .i64 a0_1, .int .i64 a0_2]] w fun e w' => e = .returned (.bool r) ∧ Below w.heap.size w w' := by
 have hu48 := Tryz.underlying48
 have HB := aK (Below.refl w.heap.size w)
 have H : (if a0_0 ≥ a0_1 then (some true) else (if a0_2 = 1 then (some false) else (some (a0_2 != 2)))) = some r := h
 clear h
 by_cases c2 : a0_0 ≥ a0_1
 ·rw [if_pos c2] at H
  have c2b0 : decide (a0_1 ≤ a0_0) = true := decide_eq_true c2
  clear c2
  obtain rfl := Option.some.inj H
  simp only [Option.some.injEq, Prod.mk.injEq] at H
  obtain ⟨rfl⟩ := H
  go_enter Tryz.func131, Tryz.ntmps131
  go_wp2_with (first | ((with_reducible refine gate_dst (N := 1) rfl ?_); refine box_event ?hg (N := 1) ?hd (cs := #[.int .i64 a0_0, .int .i64 a0_1, .int .i64 a0_2]) (t := 48) ?hr ?_; (case hd => rfl); (case hg => rfl); (case hr => first | (go_simp; done) | (go_simp; rfl)); intro gb107 hg w3 hbox hb; have n0_ := aK (yT (HB.out) hb); have n1_ := aK (hbox); have n2_ := aK ((by rw [hg]; exact (yZ (HB.out)) : w.heap.size ≤ gb107)); have n3_ := n2_; clear HB; have HB := n0_; have BK107 := n1_; have GW107 := n2_; have GE107 := n3_; clear n0_ n1_ n2_ n3_; clear hb hbox hg; have hcz4_0 := zI BK107 0 rfl; have hcz4_1 := zI BK107 1 rfl; have hcz4_2 := zI BK107 2 rfl; have hfz4_0 := zF BK107.out 0; have hfz4_1 := zF BK107.out 1; have hfz4_2 := zF BK107.out 2))
  go_ret
  exact ⟨rfl, HB.out⟩
 rw [if_neg c2] at H
 have c2b0 : decide (a0_1 ≤ a0_0) = false := decide_eq_false c2
 clear c2
 by_cases c5 : a0_2 = 1
 rotate_left
 ·rw [if_neg c5] at H
  have c5b0 : (a0_2 == 1) = false := beq_eq_false_iff_ne.mpr c5
  have c5b1 : (a0_2 != 1) = true := bne_iff_ne.mpr c5
  obtain rfl := Option.some.inj H
  simp only [Option.some.injEq, Prod.mk.injEq] at H
  obtain ⟨rfl⟩ := H
  go_enter Tryz.func131, Tryz.ntmps131
  go_wp2_with (first | ((with_reducible refine gate_dst (N := 1) rfl ?_); refine box_event ?hg (N := 1) ?hd (cs := #[.int .i64 a0_0, .int .i64 a0_1, .int .i64 a0_2]) (t := 48) ?hr ?_; (case hd => rfl); (case hg => rfl); (case hr => first | (go_simp; done) | (go_simp; rfl)); intro gb107 hg w8 hbox hb; have n0_ := aK (yT (HB.out) hb); have n1_ := aK (hbox); have n2_ := aK ((by rw [hg]; exact (yZ (HB.out)) : w.heap.size ≤ gb107)); have n3_ := n2_; clear HB; have HB := n0_; have BK107 := n1_; have GW107 := n2_; have GE107 := n3_; clear n0_ n1_ n2_ n3_; clear hb hbox hg; have hcz9_0 := zI BK107 0 rfl; have hcz9_1 := zI BK107 1 rfl; have hcz9_2 := zI BK107 2 rfl; have hfz9_0 := zF BK107.out 0; have hfz9_1 := zF BK107.out 1; have hfz9_2 := zF BK107.out 2))
  go_ret
  exact ⟨rfl, HB.out⟩
 rw [if_pos c5] at H
 have c5b0 : (a0_2 == 1) = true := beq_iff_eq.mpr c5
 have c5b1 : (a0_2 != 1) = false := bne_eq_false_iff_eq.mpr c5
 clear c5
 obtain rfl := Option.some.inj H
 simp only [Option.some.injEq, Prod.mk.injEq] at H
 obtain ⟨rfl⟩ := H
 go_enter Tryz.func131, Tryz.ntmps131
 go_wp2_with (first | ((with_reducible refine gate_dst (N := 1) rfl ?_); refine box_event ?hg (N := 1) ?hd (cs := #[.int .i64 a0_0, .int .i64 a0_1, .int .i64 a0_2]) (t := 48) ?hr ?_; (case hd => rfl); (case hg => rfl); (case hr => first | (go_simp; done) | (go_simp; rfl)); intro gb107 hg w6 hbox hb; have n0_ := aK (yT (HB.out) hb); have n1_ := aK (hbox); have n2_ := aK ((by rw [hg]; exact (yZ (HB.out)) : w.heap.size ≤ gb107)); have n3_ := n2_; clear HB; have HB := n0_; have BK107 := n1_; have GW107 := n2_; have GE107 := n3_; clear n0_ n1_ n2_ n3_; clear hb hbox hg; have hcz7_0 := zI BK107 0 rfl; have hcz7_1 := zI BK107 1 rfl; have hcz7_2 := zI BK107 2 rfl; have hfz7_0 := zF BK107.out 0; have hfz7_1 := zF BK107.out 1; have hfz7_2 := zF BK107.out 2))
 go_ret
 exact ⟨rfl, HB.out⟩
theorem boring_checks_3_1.fn  (w : World)  : FnE Tryz.prog k48 vAgg Value.bool (.func (.func 131) #[] #[]) (fun x_ => boring_checks_3_1.f x_.f0 x_.f1 x_.f2) w :=
 ⟨131, _, rfl, enters_of Tryz.func131 (by kernel_rfl) rfl, fun W x cs r hW hk0 h => by
  obtain rfl := k48_open hk0
  exact (boring_checks_3_1.calls (a0_0 := x.f0) (a0_1 := x.f1) (a0_2 := x.f2)  (r := r) (w := W) (h := h)).mono fun e w' ⟨he, hb⟩ => ⟨he, hb⟩⟩

def boring_checks_3.f (a0_0 : ByteArray) (a0_1 : Int) (a0_2 : Int) (l0_3 : List (S48)) : Option (Bool) := (boring_some.f a0_0 a0_1 a0_2 l0_3 (fun x_ => boring_checks_3_1.f x_.f0 x_.f1 x_.f2)).bind fun t109 => (some (!t109))
set_option maxHeartbeats 8000000 in
set_option maxRecDepth 100000 in
theorem boring_checks_3.calls (a0_0 : ByteArray) (a0_1 : Int) (a0_2 : Int) (A0_3 : Option Addr) (c0_3 : Nat) (l0_3 : List (S48)) (r : Bool) (w : World) (hr0_3 : Kd.C k48 w A0_3 l0_3.length l0_3) (hc0_3 : l0_3.length ≤ c0_3) (h : boring_checks_3.f a0_0 a0_1 a0_2 l0_3 = some r) :
  Calls Tryz.prog 130 #[.agg #[.string a0_0, .int .i64 a0_1, .int .i64 a0_2, .slice A0_3 l0_3.length c0_3]] w fun e w' => e = .returned (.bool r) ∧ Below w.heap.size w w' := by
 have hu33 := Tryz.underlying33
 have HR0_3 := aK hr0_3
 have HC0_3 := aK hc0_3
 clear hr0_3 hc0_3
 have HB := aK (Below.refl w.heap.size w)
 have H : ((boring_some.f a0_0 a0_1 a0_2 l0_3 (fun x_ => boring_checks_3_1.f x_.f0 x_.f1 x_.f2)).bind fun t109 => (some (!t109))) = some r := h
 clear h
 replace H := Option.bind_eq_some_iff.mp H
 obtain ⟨t109, A20, H⟩ := H
 replace H : (some (!t109)) = some r := H
 have A2 := aK A20
 clear A20
 obtain rfl := Option.some.inj H
 simp only [Option.some.injEq, Prod.mk.injEq] at H
 obtain ⟨rfl⟩ := H
 go_enter Tryz.func130, Tryz.ntmps130
 go_wp2_with (first | ((with_reducible refine gate_dst (N := 1) rfl ?_); refine box_event ?hg (N := 1) ?hd (cs := #[.string a0_0, .int .i64 a0_1, .int .i64 a0_2, .slice A0_3 l0_3.length c0_3]) (t := 33) ?hr ?_; (case hd => rfl); (case hg => rfl); (case hr => first | (go_simp; done) | (go_simp; rfl)); intro gb108 hg w3 hbox hb; have n0_ := aK (yT (HB.out) hb); have n1_ := aK (hbox); have n2_ := aK ((by rw [hg]; exact (yZ (HB.out)) : w.heap.size ≤ gb108)); have n3_ := n2_; clear HB; have HB := n0_; have BK108 := n1_; have GW108 := n2_; have GE108 := n3_; clear n0_ n1_ n2_ n3_; clear hb hbox hg; have hcz4_0 := zI BK108 0 rfl; have hcz4_1 := zI BK108 1 rfl; have hcz4_2 := zI BK108 2 rfl; have hcz4_3 := zI BK108 3 rfl; have hfz4_0 := zF BK108.out 0; have hfz4_1 := zF BK108.out 1; have hfz4_2 := zF BK108.out 2; have hfz4_3 := zF BK108.out 3) | ((with_reducible refine gate_callee (f := 53) rfl ?_); refine goesL_ (some 4) rfl rfl Tryz.func53 (by kernel_rfl) rfl #[.agg #[.string a0_0, .int .i64 a0_1, .int .i64 a0_2, .slice A0_3 l0_3.length c0_3], .func (.func 131) #[] #[]] rfl (by (try simp only [List.map_toArray, List.map_cons, List.map_nil]); first | done | rfl | (simp only [List.length_drop, List.length_take]; rfl)) ?_; (with_reducible refine (boring_some.calls a0_0 a0_1 a0_2 _ _ l0_3 (.func (.func 131) #[] #[]) (fun x_ => boring_checks_3_1.f x_.f0 x_.f1 x_.f2) t109 _ ?side1 ?side2 ?side3 A2.out).mono ?_); (case side1 => repeat (first | exact (Kd.C_below HR0_3.out HB.out) | (with_reducible refine Kd.C_alloc ?_ _) | (with_reducible refine Kd.C_drewN ?_ _) | (with_reducible refine Kd.C_drew ?_))); (case side2 => exact HC0_3.out); (case side3 => exact boring_checks_3_1.fn   _ ); rintro e w5 ⟨rfl, hb⟩; refine ⟨_, rfl, ?_⟩; have n0_ := aK (zB (g := gb108) (o := .cells #[.string a0_0, .int .i64 a0_1, .int .i64 a0_2, .slice A0_3 l0_3.length c0_3] 33 (0, 0)) (BK108.out) hb); have n1_ := aK (yT (HB.out) hb); clear BK108; clear HB; have BK108 := n0_; have HB := n1_; clear n0_ n1_; (try clear hb)))
 go_ret
 exact ⟨rfl, HB.out⟩
def boring_within_1_1.f (a0_0 : Int) (a0_1 : Int) (a0_2 : Int) (a1_0 : Int) (a1_1 : Int) (a1_2 : Int) (a1_3 : Int) (a1_4 : Int) (a1_5 : Int) : Option (Bool) := if a0_0 < a1_2 then (some true) else (some (decide (a0_1 > a1_5)))
def boring_within_1.f (a0_0 : ByteArray) (a0_1 : Int) (a0_2 : Int) (l0_3 : List (S48)) (a1_0 : Int) (a1_1 : Int) (a1_2 : Int) (a1_3 : Int) (a1_4 : Int) (a1_5 : Int) : Option (Bool) := if a0_1 ≥ a1_0 then (if a0_1 < a1_3 then (if a0_2 ≥ a1_1 then (if a0_2 < a1_4 then ((boring_some.f a0_0 a0_1 a0_2 l0_3 (fun x_ => boring_within_1_1.f x_.f0 x_.f1 x_.f2 a1_0 a1_1 a1_2 a1_3 a1_4 a1_5)).bind fun t112 => (some (!t112))) else (some false)) else (some false)) else (some false)) else (some false)
end Go.Proofs.YtfedmcehkpfciaaGreat.P
