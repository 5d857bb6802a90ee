/- What functions of the program return: each contract says so of one function, for every input at which its pure function yields. -/
import Derived.Test.YtfedmcehkpfciaaGreatPx0
import Derived.Test.YtfedmcehkpfciaaGreatHof
import Derived.Test.YtfedmcehkpfciaaGreatLex
namespace Go.Proofs.YtfedmcehkpfciaaGreat.P
open Go.RowKit Go.Proofs.YtfedmcehkpfciaaGreatW.PrintWords Go.Proofs.YtfedmcehkpfciaaGreatW.PrintLast Go.Proofs.YtfedmcehkpfciaaGreatW.PrintMore
attribute [local go_sem] max2_int min2_int max_two min_two max_three min_three max_four min_four   -- for this text's walks alone
set_option linter.unusedVariables false
set_option linter.unusedSimpArgs false

open Go.Proofs.YtfedmcehkpfciaaGreat.Hof Go.Proofs.YtfedmcehkpfciaaGreat.Lex
def gangsawref14_Small.f (a0_0 : ByteArray) (a0_1 : Int) (a0_2 : Int) (l0_3 : List (S48)) : Option (Bool) := if (l0_3.length : Int) ≤ 70 then (some (decide ((a0_0.size : Int) ≤ 100))) else (some false)
set_option maxHeartbeats 8000000 in
set_option maxRecDepth 100000 in
theorem gangsawref14_Small.calls (a0_0 : ByteArray) (a0_1 : Int) (a0_2 : Int) (A0_3 : Option Addr) (c0_3 : Nat) (l0_3 : List (S48)) (r : Bool) (w : World) (hr0_3 : Kd.C k48 w A0_3 l0_3.length l0_3) (hc0_3 : l0_3.length ≤ c0_3) (h : gangsawref14_Small.f a0_0 a0_1 a0_2 l0_3 = some r) :
  Calls Tryz.prog 12 #[.agg #[.string a0_0, .int .i64 a0_1, .int .i64 a0_2, .slice A0_3 l0_3.length c0_3]] w fun e w' => e = .returned (.bool r) ∧ Below w.heap.size w w' := by
 have hu33 := Tryz.underlying33
 have HR0_3 := aK hr0_3
 have HC0_3 := aK hc0_3
 clear hr0_3 hc0_3
 have HB := aK (Below.refl w.heap.size w)
 have H : (if (l0_3.length : Int) ≤ 70 then (some (decide ((a0_0.size : Int) ≤ 100))) else (some false)) = some r := h
 clear h
 by_cases c2 : (l0_3.length : Int) ≤ 70
 ·rw [if_pos c2] at H
  have c2b0 : decide ((l0_3.length : Int) ≤ 70) = true := decide_eq_true c2
  have c2b1 : decide (l0_3.length ≤ 70) = true := decide_eq_true (by omega)
  clear c2
  obtain rfl := Option.some.inj H
  simp only [Option.some.injEq, Prod.mk.injEq] at H
  obtain ⟨rfl⟩ := H
  go_enter Tryz.func12, Tryz.ntmps12
  go_wp2_with (first | ((with_reducible refine gate_dst (N := 1) rfl ?_); (try (refine gate_guard (by rfl) ?_; dsimp only)); refine box_event ?hg (N := 1) ?hd (cs := #[.string a0_0, .int .i64 a0_1, .int .i64 a0_2, .slice A0_3 l0_3.length c0_3]) (t := 33) ?hr ?_; (case hd => rfl); (case hg => rfl); (case hr => first | (go_simp; done) | (go_simp; rfl)); intro gb101 hg w3 hbox hb; have ⟨n0_, n2_⟩ := zV (w := w) hb hg (by repeat (first | (with_reducible first | exact HB.out | apply yA | apply yN | apply yD) | exact HB.out)); have n1_ := aK (hbox); have n3_ := n2_; clear HB; have HB := n0_; have BK101 := n1_; have GW101 := n2_; have GE101 := n3_; clear n0_ n1_ n2_ n3_; clear hb hbox hg; have hcz4_0 := zI BK101 0 rfl; have hcz4_1 := zI BK101 1 rfl; have hcz4_2 := zI BK101 2 rfl; have hcz4_3 := zI BK101 3 rfl; have hfz4_0 := zF BK101.out 0; have hfz4_1 := zF BK101.out 1; have hfz4_2 := zF BK101.out 2; have hfz4_3 := zF BK101.out 3))
  go_ret
  exact ⟨by first | rfl | (simp [errW_none, errW_some] <;> rfl) | (simp [*, errW_none, errW_some] <;> rfl), by repeat (first | (with_reducible first | exact HB.out | apply yA | apply yN | apply yD | refine yS ?_ GE101.out) | exact HB.out)⟩
 ·rw [if_neg c2] at H
  have c2b0 : decide ((l0_3.length : Int) ≤ 70) = false := decide_eq_false c2
  have c2b1 : decide (l0_3.length ≤ 70) = false := decide_eq_false (by omega)
  clear c2
  obtain rfl := Option.some.inj H
  simp only [Option.some.injEq, Prod.mk.injEq] at H
  obtain ⟨rfl⟩ := H
  go_enter Tryz.func12, Tryz.ntmps12
  go_wp2_with (first | ((with_reducible refine gate_dst (N := 1) rfl ?_); (try (refine gate_guard (by rfl) ?_; dsimp only)); refine box_event ?hg (N := 1) ?hd (cs := #[.string a0_0, .int .i64 a0_1, .int .i64 a0_2, .slice A0_3 l0_3.length c0_3]) (t := 33) ?hr ?_; (case hd => rfl); (case hg => rfl); (case hr => first | (go_simp; done) | (go_simp; rfl)); intro gb101 hg w5 hbox hb; have ⟨n0_, n2_⟩ := zV (w := w) hb hg (by repeat (first | (with_reducible first | exact HB.out | apply yA | apply yN | apply yD) | exact HB.out)); have n1_ := aK (hbox); have n3_ := n2_; clear HB; have HB := n0_; have BK101 := n1_; have GW101 := n2_; have GE101 := n3_; clear n0_ n1_ n2_ n3_; clear hb hbox hg; have hcz6_0 := zI BK101 0 rfl; have hcz6_1 := zI BK101 1 rfl; have hcz6_2 := zI BK101 2 rfl; have hcz6_3 := zI BK101 3 rfl; have hfz6_0 := zF BK101.out 0; have hfz6_1 := zF BK101.out 1; have hfz6_2 := zF BK101.out 2; have hfz6_3 := zF BK101.out 3))
  go_ret
  exact ⟨by first | rfl | (simp [errW_none, errW_some] <;> rfl) | (simp [*, errW_none, errW_some] <;> rfl), by repeat (first | (with_reducible first | exact HB.out | apply yA | apply yN | apply yD | refine yS ?_ GE101.out) | exact HB.out)⟩

def boring_checks_1.f (a0_0 : ByteArray) (a0_1 : Int) (a0_2 : Int) (l0_3 : List (S48)) : Option (Bool) := (lexer_Name.f a0_0).bind fun t103 => (some t103)
set_option maxHeartbeats 8000000 in
set_option maxRecDepth 100000 in
theorem boring_checks_1.calls (a0_0 : ByteArray) (a0_1 : Int) (a0_2 : Int) (A0_3 : Option Addr) (c0_3 : Nat) (l0_3 : List (S48)) (r : Bool) (w : World) (hr0_3 : Kd.C k48 w A0_3 l0_3.length l0_3) (hc0_3 : l0_3.length ≤ c0_3) (h : boring_checks_1.f a0_0 a0_1 a0_2 l0_3 = some r) :
  Calls Tryz.prog 128 #[.agg #[.string a0_0, .int .i64 a0_1, .int .i64 a0_2, .slice A0_3 l0_3.length c0_3]] w fun e w' => e = .returned (.bool r) ∧ Below w.heap.size w w' := by
 have hu33 := Tryz.underlying33
 have HR0_3 := aK hr0_3
 have HC0_3 := aK hc0_3
 clear hr0_3 hc0_3
 have HB := aK (Below.refl w.heap.size w)
 have H : ((lexer_Name.f a0_0).bind fun t103 => (some t103)) = some r := h
 clear h
 replace H := Option.bind_eq_some_iff.mp H
 obtain ⟨t103, A20, H⟩ := H
 replace H : (some t103) = some r := H
 have A2 := aK A20
 clear A20
 obtain rfl := Option.some.inj H
 simp only [Option.some.injEq, Prod.mk.injEq] at H
 obtain ⟨rfl⟩ := H
 go_enter Tryz.func128, Tryz.ntmps128
 go_wp2_with (first | ((with_reducible refine gate_dst (N := 1) rfl ?_); refine box_event ?hg (N := 1) ?hd (cs := #[.string a0_0, .int .i64 a0_1, .int .i64 a0_2, .slice A0_3 l0_3.length c0_3]) (t := 33) ?hr ?_; (case hd => rfl); (case hg => rfl); (case hr => first | (go_simp; done) | (go_simp; rfl)); intro gb102 hg w3 hbox hb; have ⟨n0_, n2_⟩ := zV (w := w) hb hg (by repeat (first | (with_reducible first | exact HB.out | apply yA | apply yN | apply yD) | exact HB.out)); have n1_ := aK (hbox); have n3_ := n2_; clear HB; have HB := n0_; have BK102 := n1_; have GW102 := n2_; have GE102 := n3_; clear n0_ n1_ n2_ n3_; clear hb hbox hg; have hcz4_0 := zI BK102 0 rfl; have hcz4_1 := zI BK102 1 rfl; have hcz4_2 := zI BK102 2 rfl; have hcz4_3 := zI BK102 3 rfl; have hfz4_0 := zF BK102.out 0; have hfz4_1 := zF BK102.out 1; have hfz4_2 := zF BK102.out 2; have hfz4_3 := zF BK102.out 3) | ((with_reducible refine gate_callee (f := 105) rfl ?_); refine goesL_ (some 5) rfl rfl Tryz.func105 (by kernel_rfl) rfl #[.string a0_0] rfl (by (try simp only [List.map_toArray, List.map_cons, List.map_nil]); first | done | rfl | (simp only [List.length_drop, List.length_take]; rfl)) ?_; (with_reducible refine (lexer_Name.calls a0_0 t103 _ A2.out).mono ?_); rintro e w5 ⟨rfl, hb⟩; refine ⟨_, rfl, ?_⟩; have n0_ := zG BK102 hb (fun h => by (with_reducible repeat (first | refine zN ?_ _ | refine zD ?_ | refine zA ?_ _)); exact h); have n1_ := aK (yT (by repeat (first | (with_reducible first | exact HB.out | apply yA | apply yN | apply yD | refine yS ?_ GE102.out) | exact HB.out)) hb); clear BK102; clear HB; have BK102 := n0_; have HB := n1_; clear n0_ n1_; (try clear hb); (try clear hb2); (try clear hk); (try clear hi)))
 go_ret
 exact ⟨by first | rfl | (simp [errW_none, errW_some] <;> rfl) | (simp [*, errW_none, errW_some] <;> rfl), by repeat (first | (with_reducible first | exact HB.out | apply yA | apply yN | apply yD | refine yS ?_ GE102.out) | exact HB.out)⟩
theorem boring_checks_1.fn  (w : World)  : FnE Tryz.prog k33 vAgg Value.bool (.func (.func 128) #[] #[]) (fun x_ => boring_checks_1.f x_.f0 x_.f1.f0 x_.f1.f1 x_.f2) w :=
 ⟨128, _, rfl, enters_of Tryz.func128 (by kernel_rfl) rfl, fun W x cs r hW hk0 h => by
  obtain ⟨Z0_3, z0_3, rfl, zl0_3, zg0_3⟩ := k33_open hk0
  exact (boring_checks_1.calls (a0_0 := x.f0) (a0_1 := x.f1.f0) (a0_2 := x.f1.f1) (A0_3 := Z0_3) (c0_3 := z0_3) (l0_3 := x.f2) (hr0_3 := zg0_3) (hc0_3 := zl0_3)  (r := r) (w := W) (h := h)).mono fun e w' ⟨he, hb⟩ => ⟨he, hb⟩⟩

def boring_checks_2.f (a0_0 : ByteArray) (a0_1 : Int) (a0_2 : Int) (l0_3 : List (S48)) : Option (Bool) := some (decide ((l0_3.length : Int) ≤ 64))
set_option maxHeartbeats 8000000 in
set_option maxRecDepth 100000 in
theorem boring_checks_2.calls (a0_0 : ByteArray) (a0_1 : Int) (a0_2 : Int) (A0_3 : Option Addr) (c0_3 : Nat) (l0_3 : List (S48)) (r : Bool) (w : World) (hr0_3 : Kd.C k48 w A0_3 l0_3.length l0_3) (hc0_3 : l0_3.length ≤ c0_3) (h : boring_checks_2.f a0_0 a0_1 a0_2 l0_3 = some r) :
  Calls Tryz.prog 129 #[.agg #[.string a0_0, .int .i64 a0_1, .int .i64 a0_2, .slice A0_3 l0_3.length c0_3]] w fun e w' => e = .returned (.bool r) ∧ Below w.heap.size w w' := by
 have hu33 := Tryz.underlying33
 have HR0_3 := aK hr0_3
 have HC0_3 := aK hc0_3
 clear hr0_3 hc0_3
 have HB := aK (Below.refl w.heap.size w)
 have H : (some (decide ((l0_3.length : Int) ≤ 64))) = some r := h
 clear h
 obtain rfl := Option.some.inj H
 simp only [Option.some.injEq, Prod.mk.injEq] at H
 obtain ⟨rfl⟩ := H
 go_enter Tryz.func129, Tryz.ntmps129
 go_wp2_with (first | ((with_reducible refine gate_dst (N := 1) rfl ?_); refine box_event ?hg (N := 1) ?hd (cs := #[.string a0_0, .int .i64 a0_1, .int .i64 a0_2, .slice A0_3 l0_3.length c0_3]) (t := 33) ?hr ?_; (case hd => rfl); (case hg => rfl); (case hr => first | (go_simp; done) | (go_simp; rfl)); intro gb104 hg w2 hbox hb; have ⟨n0_, n2_⟩ := zV (w := w) hb hg (by repeat (first | (with_reducible first | exact HB.out | apply yA | apply yN | apply yD) | exact HB.out)); have n1_ := aK (hbox); have n3_ := n2_; clear HB; have HB := n0_; have BK104 := n1_; have GW104 := n2_; have GE104 := n3_; clear n0_ n1_ n2_ n3_; clear hb hbox hg; have hcz3_0 := zI BK104 0 rfl; have hcz3_1 := zI BK104 1 rfl; have hcz3_2 := zI BK104 2 rfl; have hcz3_3 := zI BK104 3 rfl; have hfz3_0 := zF BK104.out 0; have hfz3_1 := zF BK104.out 1; have hfz3_2 := zF BK104.out 2; have hfz3_3 := zF BK104.out 3))
 go_ret
 exact ⟨by first | rfl | (simp [errW_none, errW_some] <;> rfl) | (simp [*, errW_none, errW_some] <;> rfl), by repeat (first | (with_reducible first | exact HB.out | apply yA | apply yN | apply yD | refine yS ?_ GE104.out) | exact HB.out)⟩
theorem boring_checks_2.fn  (w : World)  : FnE Tryz.prog k33 vAgg Value.bool (.func (.func 129) #[] #[]) (fun x_ => boring_checks_2.f x_.f0 x_.f1.f0 x_.f1.f1 x_.f2) w :=
 ⟨129, _, rfl, enters_of Tryz.func129 (by kernel_rfl) rfl, fun W x cs r hW hk0 h => by
  obtain ⟨Z0_3, z0_3, rfl, zl0_3, zg0_3⟩ := k33_open hk0
  exact (boring_checks_2.calls (a0_0 := x.f0) (a0_1 := x.f1.f0) (a0_2 := x.f1.f1) (A0_3 := Z0_3) (c0_3 := z0_3) (l0_3 := x.f2) (hr0_3 := zg0_3) (hc0_3 := zl0_3)  (r := r) (w := W) (h := h)).mono fun e w' ⟨he, hb⟩ => ⟨he, hb⟩⟩

def boring_some.f (a0_0 : ByteArray) (a0_1 : Int) (a0_2 : Int) (l0_3 : List (S48)) (p1 : (S48 → Option Bool)) : Option (Bool) := (contains48.f l0_3 p1).bind fun t106 => (some t106)
set_option maxHeartbeats 8000000 in
set_option maxRecDepth 100000 in
theorem boring_some.calls (a0_0 : ByteArray) (a0_1 : Int) (a0_2 : Int) (A0_3 : Option Addr) (c0_3 : Nat) (l0_3 : List (S48)) (V1 : Value) (p1 : (S48 → Option Bool)) (r : Bool) (w : World) (hr0_3 : Kd.C k48 w A0_3 l0_3.length l0_3) (hc0_3 : l0_3.length ≤ c0_3) (hf1 : FnE Tryz.prog k48 vAgg Value.bool V1 p1 w) (h : boring_some.f a0_0 a0_1 a0_2 l0_3 p1 = some r) :
  Calls Tryz.prog 53 #[.agg #[.string a0_0, .int .i64 a0_1, .int .i64 a0_2, .slice A0_3 l0_3.length c0_3], V1] w fun e w' => e = .returned (.bool r) ∧ Below w.heap.size w w' := by
 have hu33 := Tryz.underlying33
 have hu31 := Tryz.underlying31
 have HR0_3 := aK hr0_3
 have HC0_3 := aK hc0_3
 clear hr0_3 hc0_3
 obtain ⟨gf1, lf1, rfl, ef1, hp1⟩ := hf1
 have HF1 := aK (show FnE Tryz.prog k48 vAgg Value.bool (.func (.func gf1) #[] lf1) p1 w from ⟨gf1, lf1, rfl, ef1, hp1⟩)
 have HP1 := aK hp1
 clear hp1
 have HB := aK (Below.refl w.heap.size w)
 have H : ((contains48.f l0_3 p1).bind fun t106 => (some t106)) = some r := h
 clear h
 replace H := Option.bind_eq_some_iff.mp H
 obtain ⟨t106, A30, H⟩ := H
 replace H : (some t106) = some r := H
 have A3 := aK A30
 clear A30
 obtain rfl := Option.some.inj H
 simp only [Option.some.injEq, Prod.mk.injEq] at H
 obtain ⟨rfl⟩ := H
 go_enter Tryz.func53, Tryz.ntmps53
 go_wp2_with (first | ((with_reducible refine gate_dst (N := 2) rfl ?_); refine box_event ?hg (N := 2) ?hd (cs := #[.string a0_0, .int .i64 a0_1, .int .i64 a0_2, .slice A0_3 l0_3.length c0_3]) (t := 33) ?hr ?_; (case hd => rfl); (case hg => rfl); (case hr => first | (go_simp; done) | (go_simp; rfl)); intro gb105 hg w4 hbox hb; have ⟨n0_, n2_⟩ := zV (w := w) hb hg (by repeat (first | (with_reducible first | exact HB.out | apply yA | apply yN | apply yD) | exact HB.out)); have n1_ := aK (hbox); have n3_ := n2_; clear HB; have HB := n0_; have BK105 := n1_; have GW105 := n2_; have GE105 := n3_; clear n0_ n1_ n2_ n3_; clear hb hbox hg; have hcz5_0 := zI BK105 0 rfl; have hcz5_1 := zI BK105 1 rfl; have hcz5_2 := zI BK105 2 rfl; have hcz5_3 := zI BK105 3 rfl; have hfz5_0 := zF BK105.out 0; have hfz5_1 := zF BK105.out 1; have hfz5_2 := zF BK105.out 2; have hfz5_3 := zF BK105.out 3) | ((with_reducible refine gate_callee (f := 96) rfl ?_); refine goesL_ (some 8) rfl rfl Tryz.func96 (by kernel_rfl) rfl #[.slice A0_3 l0_3.length c0_3, .func (.func gf1) #[] lf1] rfl (by (try simp only [List.map_toArray, List.map_cons, List.map_nil]); first | done | rfl | (simp only [List.length_drop, List.length_take]; rfl)) ?_; (with_reducible refine (contains48.calls _ _ l0_3 (.func (.func gf1) #[] lf1) p1 t106 _ ?side1 ?side2 ?side3 A3.out).mono ?_); (case side1 => repeat (first | exact (Kd.C_below HR0_3.out HB.out) | (with_reducible refine Kd.C_alloc ?_ _) | (with_reducible refine Kd.C_drewN ?_ _) | (with_reducible refine Kd.C_drew ?_))); (case side2 => exact HC0_3.out); (case side3 => first | exact HF1.out | exact FnE.below HF1.out (by repeat (first | (with_reducible first | exact HB.out | apply yA | apply yN | apply yD | refine yS ?_ GE105.out) | exact HB.out))); rintro e w6 ⟨rfl, hb⟩; refine ⟨_, rfl, ?_⟩; have n0_ := zG BK105 hb (fun h => by (with_reducible repeat (first | refine zN ?_ _ | refine zD ?_ | refine zA ?_ _)); exact h); have n1_ := aK (yT (by repeat (first | (with_reducible first | exact HB.out | apply yA | apply yN | apply yD | refine yS ?_ GE105.out) | exact HB.out)) hb); clear BK105; clear HB; have BK105 := n0_; have HB := n1_; clear n0_ n1_; (try clear hb); (try clear hb2); (try clear hk); (try clear hi)))
 go_ret
 exact ⟨by first | rfl | (simp [errW_none, errW_some] <;> rfl) | (simp [*, errW_none, errW_some] <;> rfl), by repeat (first | (with_reducible first | exact HB.out | apply yA | apply yN | apply yD | refine yS ?_ GE105.out) | exact HB.out)⟩

def boring_checks_3_1.f (a0_0 : Int) (a0_1 : Int) (a0_2 : Int) : Option (Bool) := if a0_0 ≥ a0_1 then (some true) else (if a0_2 = 1 then (some false) else (some (a0_2 != 2)))
set_option maxHeartbeats 8000000 in
set_option maxRecDepth 100000 in
theorem boring_checks_3_1.calls (a0_0 : Int) (a0_1 : Int) (a0_2 : Int) (r : Bool) (w : World) (h : boring_checks_3_1.f a0_0 a0_1 a0_2 = some r) :
  Calls Tryz.prog 131 #[.agg #[.int .i64 a0_0, .int .i64 a0_1, .int .i64 a0_2]] w fun e w' => e = .returned (.bool r) ∧ Below w.heap.size w w' := by
 have hu48 := Tryz.underlying48
 have HB := aK (Below.refl w.heap.size w)
 have H : (if a0_0 ≥ a0_1 then (some true) else (if a0_2 = 1 then (some false) else (some (a0_2 != 2)))) = some r := h
 clear h
 by_cases c2 : a0_0 ≥ a0_1
 ·rw [if_pos c2] at H
  have c2b0 : decide (a0_1 ≤ a0_0) = true := decide_eq_true c2
  clear c2
  obtain rfl := Option.some.inj H
  simp only [Option.some.injEq, Prod.mk.injEq] at H
  obtain ⟨rfl⟩ := H
  go_enter Tryz.func131, Tryz.ntmps131
  go_wp2_with (first | ((with_reducible refine gate_dst (N := 1) rfl ?_); refine box_event ?hg (N := 1) ?hd (cs := #[.int .i64 a0_0, .int .i64 a0_1, .int .i64 a0_2]) (t := 48) ?hr ?_; (case hd => rfl); (case hg => rfl); (case hr => first | (go_simp; done) | (go_simp; rfl)); intro gb107 hg w3 hbox hb; have ⟨n0_, n2_⟩ := zV (w := w) hb hg (by repeat (first | (with_reducible first | exact HB.out | apply yA | apply yN | apply yD) | exact HB.out)); have n1_ := aK (hbox); have n3_ := n2_; clear HB; have HB := n0_; have BK107 := n1_; have GW107 := n2_; have GE107 := n3_; clear n0_ n1_ n2_ n3_; clear hb hbox hg; have hcz4_0 := zI BK107 0 rfl; have hcz4_1 := zI BK107 1 rfl; have hcz4_2 := zI BK107 2 rfl; have hfz4_0 := zF BK107.out 0; have hfz4_1 := zF BK107.out 1; have hfz4_2 := zF BK107.out 2))
  go_ret
  exact ⟨by first | rfl | (simp [errW_none, errW_some] <;> rfl) | (simp [*, errW_none, errW_some] <;> rfl), by repeat (first | (with_reducible first | exact HB.out | apply yA | apply yN | apply yD | refine yS ?_ GE107.out) | exact HB.out)⟩
 ·rw [if_neg c2] at H
  have c2b0 : decide (a0_1 ≤ a0_0) = false := decide_eq_false c2
  clear c2
  by_cases c5 : a0_2 = 1
  ·rw [if_pos c5] at H
   have c5b0 : (a0_2 == 1) = true := beq_iff_eq.mpr c5
   have c5b1 : (a0_2 != 1) = false := bne_eq_false_iff_eq.mpr c5
   clear c5
   obtain rfl := Option.some.inj H
   simp only [Option.some.injEq, Prod.mk.injEq] at H
   obtain ⟨rfl⟩ := H
   go_enter Tryz.func131, Tryz.ntmps131
   go_wp2_with (first | ((with_reducible refine gate_dst (N := 1) rfl ?_); refine box_event ?hg (N := 1) ?hd (cs := #[.int .i64 a0_0, .int .i64 a0_1, .int .i64 a0_2]) (t := 48) ?hr ?_; (case hd => rfl); (case hg => rfl); (case hr => first | (go_simp; done) | (go_simp; rfl)); intro gb107 hg w6 hbox hb; have ⟨n0_, n2_⟩ := zV (w := w) hb hg (by repeat (first | (with_reducible first | exact HB.out | apply yA | apply yN | apply yD) | exact HB.out)); have n1_ := aK (hbox); have n3_ := n2_; clear HB; have HB := n0_; have BK107 := n1_; have GW107 := n2_; have GE107 := n3_; clear n0_ n1_ n2_ n3_; clear hb hbox hg; have hcz7_0 := zI BK107 0 rfl; have hcz7_1 := zI BK107 1 rfl; have hcz7_2 := zI BK107 2 rfl; have hfz7_0 := zF BK107.out 0; have hfz7_1 := zF BK107.out 1; have hfz7_2 := zF BK107.out 2))
   go_ret
   exact ⟨by first | rfl | (simp [errW_none, errW_some] <;> rfl) | (simp [*, errW_none, errW_some] <;> rfl), by repeat (first | (with_reducible first | exact HB.out | apply yA | apply yN | apply yD | refine yS ?_ GE107.out) | exact HB.out)⟩
  ·rw [if_neg c5] at H
   have c5b0 : (a0_2 == 1) = false := beq_eq_false_iff_ne.mpr c5
   have c5b1 : (a0_2 != 1) = true := bne_iff_ne.mpr c5
   obtain rfl := Option.some.inj H
   simp only [Option.some.injEq, Prod.mk.injEq] at H
   obtain ⟨rfl⟩ := H
   go_enter Tryz.func131, Tryz.ntmps131
   go_wp2_with (first | ((with_reducible refine gate_dst (N := 1) rfl ?_); refine box_event ?hg (N := 1) ?hd (cs := #[.int .i64 a0_0, .int .i64 a0_1, .int .i64 a0_2]) (t := 48) ?hr ?_; (case hd => rfl); (case hg => rfl); (case hr => first | (go_simp; done) | (go_simp; rfl)); intro gb107 hg w8 hbox hb; have ⟨n0_, n2_⟩ := zV (w := w) hb hg (by repeat (first | (with_reducible first | exact HB.out | apply yA | apply yN | apply yD) | exact HB.out)); have n1_ := aK (hbox); have n3_ := n2_; clear HB; have HB := n0_; have BK107 := n1_; have GW107 := n2_; have GE107 := n3_; clear n0_ n1_ n2_ n3_; clear hb hbox hg; have hcz9_0 := zI BK107 0 rfl; have hcz9_1 := zI BK107 1 rfl; have hcz9_2 := zI BK107 2 rfl; have hfz9_0 := zF BK107.out 0; have hfz9_1 := zF BK107.out 1; have hfz9_2 := zF BK107.out 2))
   go_ret
   exact ⟨by first | rfl | (simp [errW_none, errW_some] <;> rfl) | (simp [*, errW_none, errW_some] <;> rfl), by repeat (first | (with_reducible first | exact HB.out | apply yA | apply yN | apply yD | refine yS ?_ GE107.out) | exact HB.out)⟩
theorem boring_checks_3_1.fn  (w : World)  : FnE Tryz.prog k48 vAgg Value.bool (.func (.func 131) #[] #[]) (fun x_ => boring_checks_3_1.f x_.f0 x_.f1 x_.f2) w :=
 ⟨131, _, rfl, enters_of Tryz.func131 (by kernel_rfl) rfl, fun W x cs r hW hk0 h => by
  obtain rfl := k48_open hk0
  exact (boring_checks_3_1.calls (a0_0 := x.f0) (a0_1 := x.f1) (a0_2 := x.f2)  (r := r) (w := W) (h := h)).mono fun e w' ⟨he, hb⟩ => ⟨he, hb⟩⟩

def boring_checks_3.f (a0_0 : ByteArray) (a0_1 : Int) (a0_2 : Int) (l0_3 : List (S48)) : Option (Bool) := (boring_some.f a0_0 a0_1 a0_2 l0_3 (fun x_ => boring_checks_3_1.f x_.f0 x_.f1 x_.f2)).bind fun t109 => (some (!t109))
set_option maxHeartbeats 8000000 in
set_option maxRecDepth 100000 in
theorem boring_checks_3.calls (a0_0 : ByteArray) (a0_1 : Int) (a0_2 : Int) (A0_3 : Option Addr) (c0_3 : Nat) (l0_3 : List (S48)) (r : Bool) (w : World) (hr0_3 : Kd.C k48 w A0_3 l0_3.length l0_3) (hc0_3 : l0_3.length ≤ c0_3) (h : boring_checks_3.f a0_0 a0_1 a0_2 l0_3 = some r) :
  Calls Tryz.prog 130 #[.agg #[.string a0_0, .int .i64 a0_1, .int .i64 a0_2, .slice A0_3 l0_3.length c0_3]] w fun e w' => e = .returned (.bool r) ∧ Below w.heap.size w w' := by
 have hu33 := Tryz.underlying33
 have HR0_3 := aK hr0_3
 have HC0_3 := aK hc0_3
 clear hr0_3 hc0_3
 have HB := aK (Below.refl w.heap.size w)
 have H : ((boring_some.f a0_0 a0_1 a0_2 l0_3 (fun x_ => boring_checks_3_1.f x_.f0 x_.f1 x_.f2)).bind fun t109 => (some (!t109))) = some r := h
 clear h
 replace H := Option.bind_eq_some_iff.mp H
 obtain ⟨t109, A20, H⟩ := H
 replace H : (some (!t109)) = some r := H
 have A2 := aK A20
 clear A20
 obtain rfl := Option.some.inj H
 simp only [Option.some.injEq, Prod.mk.injEq] at H
 obtain ⟨rfl⟩ := H
 go_enter Tryz.func130, Tryz.ntmps130
 go_wp2_with (first | ((with_reducible refine gate_dst (N := 1) rfl ?_); refine box_event ?hg (N := 1) ?hd (cs := #[.string a0_0, .int .i64 a0_1, .int .i64 a0_2, .slice A0_3 l0_3.length c0_3]) (t := 33) ?hr ?_; (case hd => rfl); (case hg => rfl); (case hr => first | (go_simp; done) | (go_simp; rfl)); intro gb108 hg w3 hbox hb; have ⟨n0_, n2_⟩ := zV (w := w) hb hg (by repeat (first | (with_reducible first | exact HB.out | apply yA | apply yN | apply yD) | exact HB.out)); have n1_ := aK (hbox); have n3_ := n2_; clear HB; have HB := n0_; have BK108 := n1_; have GW108 := n2_; have GE108 := n3_; clear n0_ n1_ n2_ n3_; clear hb hbox hg; have hcz4_0 := zI BK108 0 rfl; have hcz4_1 := zI BK108 1 rfl; have hcz4_2 := zI BK108 2 rfl; have hcz4_3 := zI BK108 3 rfl; have hfz4_0 := zF BK108.out 0; have hfz4_1 := zF BK108.out 1; have hfz4_2 := zF BK108.out 2; have hfz4_3 := zF BK108.out 3) | ((with_reducible refine gate_callee (f := 53) rfl ?_); refine goesL_ (some 4) rfl rfl Tryz.func53 (by kernel_rfl) rfl #[.agg #[.string a0_0, .int .i64 a0_1, .int .i64 a0_2, .slice A0_3 l0_3.length c0_3], .func (.func 131) #[] #[]] rfl (by (try simp only [List.map_toArray, List.map_cons, List.map_nil]); first | done | rfl | (simp only [List.length_drop, List.length_take]; rfl)) ?_; (with_reducible refine (boring_some.calls a0_0 a0_1 a0_2 _ _ l0_3 (.func (.func 131) #[] #[]) (fun x_ => boring_checks_3_1.f x_.f0 x_.f1 x_.f2) t109 _ ?side1 ?side2 ?side3 A2.out).mono ?_); (case side1 => repeat (first | exact (Kd.C_below HR0_3.out HB.out) | (with_reducible refine Kd.C_alloc ?_ _) | (with_reducible refine Kd.C_drewN ?_ _) | (with_reducible refine Kd.C_drew ?_))); (case side2 => exact HC0_3.out); (case side3 => exact boring_checks_3_1.fn   _ ); rintro e w5 ⟨rfl, hb⟩; refine ⟨_, rfl, ?_⟩; have n0_ := zG BK108 hb (fun h => by (with_reducible repeat (first | refine zN ?_ _ | refine zD ?_ | refine zA ?_ _)); exact h); have n1_ := aK (yT (by repeat (first | (with_reducible first | exact HB.out | apply yA | apply yN | apply yD | refine yS ?_ GE108.out) | exact HB.out)) hb); clear BK108; clear HB; have BK108 := n0_; have HB := n1_; clear n0_ n1_; (try clear hb); (try clear hb2); (try clear hk); (try clear hi)))
 go_ret
 exact ⟨by first | rfl | (simp [errW_none, errW_some] <;> rfl) | (simp [*, errW_none, errW_some] <;> rfl), by repeat (first | (with_reducible first | exact HB.out | apply yA | apply yN | apply yD | refine yS ?_ GE108.out) | exact HB.out)⟩
theorem boring_checks_3.fn  (w : World)  : FnE Tryz.prog k33 vAgg Value.bool (.func (.func 130) #[] #[]) (fun x_ => boring_checks_3.f x_.f0 x_.f1.f0 x_.f1.f1 x_.f2) w :=
 ⟨130, _, rfl, enters_of Tryz.func130 (by kernel_rfl) rfl, fun W x cs r hW hk0 h => by
  obtain ⟨Z0_3, z0_3, rfl, zl0_3, zg0_3⟩ := k33_open hk0
  exact (boring_checks_3.calls (a0_0 := x.f0) (a0_1 := x.f1.f0) (a0_2 := x.f1.f1) (A0_3 := Z0_3) (c0_3 := z0_3) (l0_3 := x.f2) (hr0_3 := zg0_3) (hc0_3 := zl0_3)  (r := r) (w := W) (h := h)).mono fun e w' ⟨he, hb⟩ => ⟨he, hb⟩⟩

def boring_within_1_1.f (a0_0 : Int) (a0_1 : Int) (a0_2 : Int) (a1_0 : Int) (a1_1 : Int) (a1_2 : Int) (a1_3 : Int) (a1_4 : Int) (a1_5 : Int) : Option (Bool) := if a0_0 < a1_2 then (some true) else (some (decide (a0_1 > a1_5)))
set_option maxHeartbeats 8000000 in
set_option maxRecDepth 100000 in
theorem boring_within_1_1.calls (a0_0 : Int) (a0_1 : Int) (a0_2 : Int) (gb51 : Nat) (a1_0 : Int) (a1_1 : Int) (a1_2 : Int) (a1_3 : Int) (a1_4 : Int) (a1_5 : Int) (r : Bool) (w : World) (hx51 : w.heap[gb51]? = some (.cells #[.int .i64 a1_0, .int .i64 a1_1, .int .i64 a1_2, .int .i64 a1_3, .int .i64 a1_4, .int .i64 a1_5] 26 (0, 0))) (h : boring_within_1_1.f a0_0 a0_1 a0_2 a1_0 a1_1 a1_2 a1_3 a1_4 a1_5 = some r) :
  Calls Tryz.prog 88 #[.agg #[.int .i64 a0_0, .int .i64 a0_1, .int .i64 a0_2], .pointer (some ⟨gb51, 0, none⟩)] w fun e w' => e = .returned (.bool r) ∧ Below w.heap.size w w' := by
 have hu48 := Tryz.underlying48
 have hu3 := Tryz.underlying3
 have BK51 := aK hx51
 clear hx51
 have HB := aK (Below.refl w.heap.size w)
 have H : (if a0_0 < a1_2 then (some true) else (some (decide (a0_1 > a1_5)))) = some r := h
 clear h
 by_cases c3 : a0_0 < a1_2
 ·rw [if_pos c3] at H
  have c3b0 : decide (a0_0 < a1_2) = true := decide_eq_true c3
  clear c3
  obtain rfl := Option.some.inj H
  simp only [Option.some.injEq, Prod.mk.injEq] at H
  obtain ⟨rfl⟩ := H
  go_enter Tryz.func88, Tryz.ntmps88
  go_wp2_with (first | ((with_reducible refine gate_dst (N := 2) rfl ?_); refine box_event ?hg (N := 2) ?hd (cs := #[.int .i64 a0_0, .int .i64 a0_1, .int .i64 a0_2]) (t := 48) ?hr ?_; (case hd => rfl); (case hg => rfl); (case hr => first | (go_simp; done) | (go_simp; rfl)); intro gb110 hg w4 hbox hb; have n0_ := zG BK51 hb (fun h => by (with_reducible repeat (first | refine zN ?_ _ | refine zD ?_ | refine zA ?_ _)); exact h); have ⟨n1_, n3_⟩ := zV (w := w) hb hg (by repeat (first | (with_reducible first | exact HB.out | apply yA | apply yN | apply yD | refine yS ?_ GE51.out) | exact HB.out)); have n2_ := aK (hbox); have n4_ := n3_; have n5_ := aK ((by rw [hg]; exact Nat.ne_of_lt (blk_lt (g := gb51) (o := .cells #[.int .i64 a1_0, .int .i64 a1_1, .int .i64 a1_2, .int .i64 a1_3, .int .i64 a1_4, .int .i64 a1_5] 26 (0, 0)) (by (with_reducible repeat (first | refine zN ?_ _ | refine zD ?_ | refine zA ?_ _)); exact BK51.out)) : gb51 ≠ gb110)); have n6_ := aK ((by rw [hg]; exact Nat.ne_of_gt (blk_lt (g := gb51) (o := .cells #[.int .i64 a1_0, .int .i64 a1_1, .int .i64 a1_2, .int .i64 a1_3, .int .i64 a1_4, .int .i64 a1_5] 26 (0, 0)) (by (with_reducible repeat (first | refine zN ?_ _ | refine zD ?_ | refine zA ?_ _)); exact BK51.out)) : gb110 ≠ gb51)); clear BK51; clear HB; have BK51 := n0_; have HB := n1_; have BK110 := n2_; have GW110 := n3_; have GE110 := n4_; have NB51_110 := n5_; have NB110_51 := n6_; clear n0_ n1_ n2_ n3_ n4_ n5_ n6_; clear hb hbox hg; have hnb5 := NB110_51.out; have hnc5 := NB51_110.out; have hcz6_0 := zI BK110 0 rfl; have hcz6_1 := zI BK110 1 rfl; have hcz6_2 := zI BK110 2 rfl; have hfz6_0 := zF BK110.out 0; have hfz6_1 := zF BK110.out 1; have hfz6_2 := zF BK110.out 2; have hcz7_0 := zI BK51 0 rfl; have hcz7_1 := zI BK51 1 rfl; have hcz7_2 := zI BK51 2 rfl; have hcz7_3 := zI BK51 3 rfl; have hcz7_4 := zI BK51 4 rfl; have hcz7_5 := zI BK51 5 rfl; have hfz7_0 := zF BK51.out 0; have hfz7_1 := zF BK51.out 1; have hfz7_2 := zF BK51.out 2; have hfz7_3 := zF BK51.out 3; have hfz7_4 := zF BK51.out 4; have hfz7_5 := zF BK51.out 5))
  go_ret
  exact ⟨by first | rfl | (simp [errW_none, errW_some] <;> rfl) | (simp [*, errW_none, errW_some] <;> rfl), by repeat (first | (with_reducible first | exact HB.out | apply yA | apply yN | apply yD | refine yS ?_ GE51.out | refine yS ?_ GE110.out) | exact HB.out)⟩
 ·rw [if_neg c3] at H
  have c3b0 : decide (a0_0 < a1_2) = false := decide_eq_false c3
  clear c3
  obtain rfl := Option.some.inj H
  simp only [Option.some.injEq, Prod.mk.injEq] at H
  obtain ⟨rfl⟩ := H
  go_enter Tryz.func88, Tryz.ntmps88
  go_wp2_with (first | ((with_reducible refine gate_dst (N := 2) rfl ?_); refine box_event ?hg (N := 2) ?hd (cs := #[.int .i64 a0_0, .int .i64 a0_1, .int .i64 a0_2]) (t := 48) ?hr ?_; (case hd => rfl); (case hg => rfl); (case hr => first | (go_simp; done) | (go_simp; rfl)); intro gb110 hg w8 hbox hb; have n0_ := zG BK51 hb (fun h => by (with_reducible repeat (first | refine zN ?_ _ | refine zD ?_ | refine zA ?_ _)); exact h); have ⟨n1_, n3_⟩ := zV (w := w) hb hg (by repeat (first | (with_reducible first | exact HB.out | apply yA | apply yN | apply yD | refine yS ?_ GE51.out) | exact HB.out)); have n2_ := aK (hbox); have n4_ := n3_; have n5_ := aK ((by rw [hg]; exact Nat.ne_of_lt (blk_lt (g := gb51) (o := .cells #[.int .i64 a1_0, .int .i64 a1_1, .int .i64 a1_2, .int .i64 a1_3, .int .i64 a1_4, .int .i64 a1_5] 26 (0, 0)) (by (with_reducible repeat (first | refine zN ?_ _ | refine zD ?_ | refine zA ?_ _)); exact BK51.out)) : gb51 ≠ gb110)); have n6_ := aK ((by rw [hg]; exact Nat.ne_of_gt (blk_lt (g := gb51) (o := .cells #[.int .i64 a1_0, .int .i64 a1_1, .int .i64 a1_2, .int .i64 a1_3, .int .i64 a1_4, .int .i64 a1_5] 26 (0, 0)) (by (with_reducible repeat (first | refine zN ?_ _ | refine zD ?_ | refine zA ?_ _)); exact BK51.out)) : gb110 ≠ gb51)); clear BK51; clear HB; have BK51 := n0_; have HB := n1_; have BK110 := n2_; have GW110 := n3_; have GE110 := n4_; have NB51_110 := n5_; have NB110_51 := n6_; clear n0_ n1_ n2_ n3_ n4_ n5_ n6_; clear hb hbox hg; have hnb9 := NB110_51.out; have hnc9 := NB51_110.out; have hcz10_0 := zI BK110 0 rfl; have hcz10_1 := zI BK110 1 rfl; have hcz10_2 := zI BK110 2 rfl; have hfz10_0 := zF BK110.out 0; have hfz10_1 := zF BK110.out 1; have hfz10_2 := zF BK110.out 2; have hcz11_0 := zI BK51 0 rfl; have hcz11_1 := zI BK51 1 rfl; have hcz11_2 := zI BK51 2 rfl; have hcz11_3 := zI BK51 3 rfl; have hcz11_4 := zI BK51 4 rfl; have hcz11_5 := zI BK51 5 rfl; have hfz11_0 := zF BK51.out 0; have hfz11_1 := zF BK51.out 1; have hfz11_2 := zF BK51.out 2; have hfz11_3 := zF BK51.out 3; have hfz11_4 := zF BK51.out 4; have hfz11_5 := zF BK51.out 5))
  go_ret
  exact ⟨by first | rfl | (simp [errW_none, errW_some] <;> rfl) | (simp [*, errW_none, errW_some] <;> rfl), by repeat (first | (with_reducible first | exact HB.out | apply yA | apply yN | apply yD | refine yS ?_ GE51.out | refine yS ?_ GE110.out) | exact HB.out)⟩
theorem boring_within_1_1.fn (gb51 : Nat) (a1_0 : Int) (a1_1 : Int) (a1_2 : Int) (a1_3 : Int) (a1_4 : Int) (a1_5 : Int) (w : World) (hx51 : w.heap[gb51]? = some (.cells #[.int .i64 a1_0, .int .i64 a1_1, .int .i64 a1_2, .int .i64 a1_3, .int .i64 a1_4, .int .i64 a1_5] 26 (0, 0))) : FnE Tryz.prog k48 vAgg Value.bool (.func (.func 88) #[] #[.pointer (some ⟨gb51, 0, none⟩)]) (fun x_ => boring_within_1_1.f x_.f0 x_.f1 x_.f2 a1_0 a1_1 a1_2 a1_3 a1_4 a1_5) w :=
 ⟨88, _, rfl, enters_of Tryz.func88 (by kernel_rfl) rfl, fun W x cs r hW hk0 h => by
  obtain rfl := k48_open hk0
  exact (boring_within_1_1.calls (a0_0 := x.f0) (a0_1 := x.f1) (a0_2 := x.f2) (gb51 := gb51) (a1_0 := a1_0) (a1_1 := a1_1) (a1_2 := a1_2) (a1_3 := a1_3) (a1_4 := a1_4) (a1_5 := a1_5) (hx51 := zB hx51 hW) (r := r) (w := W) (h := h)).mono fun e w' ⟨he, hb⟩ => ⟨he, hb⟩⟩

def boring_within_1.f (a0_0 : ByteArray) (a0_1 : Int) (a0_2 : Int) (l0_3 : List (S48)) (a1_0 : Int) (a1_1 : Int) (a1_2 : Int) (a1_3 : Int) (a1_4 : Int) (a1_5 : Int) : Option (Bool) := if a0_1 ≥ a1_0 then (if a0_1 < a1_3 then (if a0_2 ≥ a1_1 then (if a0_2 < a1_4 then ((boring_some.f a0_0 a0_1 a0_2 l0_3 (fun x_ => boring_within_1_1.f x_.f0 x_.f1 x_.f2 a1_0 a1_1 a1_2 a1_3 a1_4 a1_5)).bind fun t112 => (some (!t112))) else (some false)) else (some false)) else (some false)) else (some false)
set_option maxHeartbeats 8000000 in
set_option maxRecDepth 100000 in
theorem boring_within_1.calls (a0_0 : ByteArray) (a0_1 : Int) (a0_2 : Int) (A0_3 : Option Addr) (c0_3 : Nat) (l0_3 : List (S48)) (gb51 : Nat) (a1_0 : Int) (a1_1 : Int) (a1_2 : Int) (a1_3 : Int) (a1_4 : Int) (a1_5 : Int) (r : Bool) (w : World) (hr0_3 : Kd.C k48 w A0_3 l0_3.length l0_3) (hc0_3 : l0_3.length ≤ c0_3) (hx51 : w.heap[gb51]? = some (.cells #[.int .i64 a1_0, .int .i64 a1_1, .int .i64 a1_2, .int .i64 a1_3, .int .i64 a1_4, .int .i64 a1_5] 26 (0, 0))) (h : boring_within_1.f a0_0 a0_1 a0_2 l0_3 a1_0 a1_1 a1_2 a1_3 a1_4 a1_5 = some r) :
  Calls Tryz.prog 87 #[.agg #[.string a0_0, .int .i64 a0_1, .int .i64 a0_2, .slice A0_3 l0_3.length c0_3], .pointer (some ⟨gb51, 0, none⟩)] w fun e w' => e = .returned (.bool r) ∧ Below w.heap.size w w' := by
 have hu33 := Tryz.underlying33
 have hu3 := Tryz.underlying3
 have HR0_3 := aK hr0_3
 have HC0_3 := aK hc0_3
 clear hr0_3 hc0_3
 have BK51 := aK hx51
 clear hx51
 have HB := aK (Below.refl w.heap.size w)
 have H : (if a0_1 ≥ a1_0 then (if a0_1 < a1_3 then (if a0_2 ≥ a1_1 then (if a0_2 < a1_4 then ((boring_some.f a0_0 a0_1 a0_2 l0_3 (fun x_ => boring_within_1_1.f x_.f0 x_.f1 x_.f2 a1_0 a1_1 a1_2 a1_3 a1_4 a1_5)).bind fun t112 => (some (!t112))) else (some false)) else (some false)) else (some false)) else (some false)) = some r := h
 clear h
 by_cases c3 : a0_1 ≥ a1_0
 ·rw [if_pos c3] at H
  have c3b0 : decide (a1_0 ≤ a0_1) = true := decide_eq_true c3
  clear c3
  by_cases c4 : a0_1 < a1_3
  ·rw [if_pos c4] at H
   have c4b0 : decide (a0_1 < a1_3) = true := decide_eq_true c4
   clear c4
   by_cases c5 : a0_2 ≥ a1_1
   ·rw [if_pos c5] at H
    have c5b0 : decide (a1_1 ≤ a0_2) = true := decide_eq_true c5
    clear c5
    by_cases c6 : a0_2 < a1_4
    ·rw [if_pos c6] at H
     have c6b0 : decide (a0_2 < a1_4) = true := decide_eq_true c6
     clear c6
     replace H := Option.bind_eq_some_iff.mp H
     obtain ⟨t112, A70, H⟩ := H
     replace H : (some (!t112)) = some r := H
     have A7 := aK A70
     clear A70
     obtain rfl := Option.some.inj H
     simp only [Option.some.injEq, Prod.mk.injEq] at H
     obtain ⟨rfl⟩ := H
     go_enter Tryz.func87, Tryz.ntmps87
     go_wp2_with (first | ((with_reducible refine gate_dst (N := 2) rfl ?_); refine box_event ?hg (N := 2) ?hd (cs := #[.string a0_0, .int .i64 a0_1, .int .i64 a0_2, .slice A0_3 l0_3.length c0_3]) (t := 33) ?hr ?_; (case hd => rfl); (case hg => rfl); (case hr => first | (go_simp; done) | (go_simp; rfl)); intro gb111 hg w8 hbox hb; have n0_ := zG BK51 hb (fun h => by (with_reducible repeat (first | refine zN ?_ _ | refine zD ?_ | refine zA ?_ _)); exact h); have ⟨n1_, n3_⟩ := zV (w := w) hb hg (by repeat (first | (with_reducible first | exact HB.out | apply yA | apply yN | apply yD | refine yS ?_ GE51.out) | exact HB.out)); have n2_ := aK (hbox); have n4_ := n3_; have n5_ := aK ((by rw [hg]; exact Nat.ne_of_lt (blk_lt (g := gb51) (o := .cells #[.int .i64 a1_0, .int .i64 a1_1, .int .i64 a1_2, .int .i64 a1_3, .int .i64 a1_4, .int .i64 a1_5] 26 (0, 0)) (by (with_reducible repeat (first | refine zN ?_ _ | refine zD ?_ | refine zA ?_ _)); exact BK51.out)) : gb51 ≠ gb111)); have n6_ := aK ((by rw [hg]; exact Nat.ne_of_gt (blk_lt (g := gb51) (o := .cells #[.int .i64 a1_0, .int .i64 a1_1, .int .i64 a1_2, .int .i64 a1_3, .int .i64 a1_4, .int .i64 a1_5] 26 (0, 0)) (by (with_reducible repeat (first | refine zN ?_ _ | refine zD ?_ | refine zA ?_ _)); exact BK51.out)) : gb111 ≠ gb51)); clear BK51; clear HB; have BK51 := n0_; have HB := n1_; have BK111 := n2_; have GW111 := n3_; have GE111 := n4_; have NB51_111 := n5_; have NB111_51 := n6_; clear n0_ n1_ n2_ n3_ n4_ n5_ n6_; clear hb hbox hg; have hnb9 := NB111_51.out; have hnc9 := NB51_111.out; have hcz10_0 := zI BK111 0 rfl; have hcz10_1 := zI BK111 1 rfl; have hcz10_2 := zI BK111 2 rfl; have hcz10_3 := zI BK111 3 rfl; have hfz10_0 := zF BK111.out 0; have hfz10_1 := zF BK111.out 1; have hfz10_2 := zF BK111.out 2; have hfz10_3 := zF BK111.out 3; have hcz11_0 := zI BK51 0 rfl; have hcz11_1 := zI BK51 1 rfl; have hcz11_2 := zI BK51 2 rfl; have hcz11_3 := zI BK51 3 rfl; have hcz11_4 := zI BK51 4 rfl; have hcz11_5 := zI BK51 5 rfl; have hfz11_0 := zF BK51.out 0; have hfz11_1 := zF BK51.out 1; have hfz11_2 := zF BK51.out 2; have hfz11_3 := zF BK51.out 3; have hfz11_4 := zF BK51.out 4; have hfz11_5 := zF BK51.out 5) | (go_at_call 53; (with_reducible refine (boring_some.calls a0_0 a0_1 a0_2 _ _ l0_3 (.func (.func 88) #[] #[.pointer (some ⟨gb51, 0, none⟩)]) (fun x_ => boring_within_1_1.f x_.f0 x_.f1 x_.f2 a1_0 a1_1 a1_2 a1_3 a1_4 a1_5) t112 _ ?side1 ?side2 ?side3 A7.out).mono ?_); (case side1 => repeat (first | exact (Kd.C_below HR0_3.out HB.out) | (with_reducible refine Kd.C_alloc ?_ _) | (with_reducible refine Kd.C_drewN ?_ _) | (with_reducible refine Kd.C_drew ?_))); (case side2 => exact HC0_3.out); (case side3 => exact boring_within_1_1.fn  gb51 a1_0 a1_1 a1_2 a1_3 a1_4 a1_5 _ (by (with_reducible repeat (first | refine zN ?_ _ | refine zD ?_ | refine zA ?_ _)); exact BK51.out)); rintro e w12 ⟨rfl, hb⟩; have n0_ := zG BK51 hb (fun h => by (with_reducible repeat (first | refine zN ?_ _ | refine zD ?_ | refine zA ?_ _)); exact h); have n1_ := zG BK111 hb (fun h => by (with_reducible repeat (first | refine zN ?_ _ | refine zD ?_ | refine zA ?_ _)); exact h); have n2_ := aK (yT (by repeat (first | (with_reducible first | exact HB.out | apply yA | apply yN | apply yD | refine yS ?_ GE51.out | refine yS ?_ GE111.out) | exact HB.out)) hb); clear BK51; clear BK111; clear HB; have BK51 := n0_; have BK111 := n1_; have HB := n2_; clear n0_ n1_ n2_; (try clear hb); (try clear hb2); (try clear hk); (try clear hi)))
     go_ret
     exact ⟨by first | rfl | (simp [errW_none, errW_some] <;> rfl) | (simp [*, errW_none, errW_some] <;> rfl), by repeat (first | (with_reducible first | exact HB.out | apply yA | apply yN | apply yD | refine yS ?_ GE51.out | refine yS ?_ GE111.out) | exact HB.out)⟩
    ·rw [if_neg c6] at H
     have c6b0 : decide (a0_2 < a1_4) = false := decide_eq_false c6
     clear c6
     obtain rfl := Option.some.inj H
     simp only [Option.some.injEq, Prod.mk.injEq] at H
     obtain ⟨rfl⟩ := H
     go_enter Tryz.func87, Tryz.ntmps87
     go_wp2_with (first | ((with_reducible refine gate_dst (N := 2) rfl ?_); refine box_event ?hg (N := 2) ?hd (cs := #[.string a0_0, .int .i64 a0_1, .int .i64 a0_2, .slice A0_3 l0_3.length c0_3]) (t := 33) ?hr ?_; (case hd => rfl); (case hg => rfl); (case hr => first | (go_simp; done) | (go_simp; rfl)); intro gb111 hg w13 hbox hb; have n0_ := zG BK51 hb (fun h => by (with_reducible repeat (first | refine zN ?_ _ | refine zD ?_ | refine zA ?_ _)); exact h); have ⟨n1_, n3_⟩ := zV (w := w) hb hg (by repeat (first | (with_reducible first | exact HB.out | apply yA | apply yN | apply yD | refine yS ?_ GE51.out) | exact HB.out)); have n2_ := aK (hbox); have n4_ := n3_; have n5_ := aK ((by rw [hg]; exact Nat.ne_of_lt (blk_lt (g := gb51) (o := .cells #[.int .i64 a1_0, .int .i64 a1_1, .int .i64 a1_2, .int .i64 a1_3, .int .i64 a1_4, .int .i64 a1_5] 26 (0, 0)) (by (with_reducible repeat (first | refine zN ?_ _ | refine zD ?_ | refine zA ?_ _)); exact BK51.out)) : gb51 ≠ gb111)); have n6_ := aK ((by rw [hg]; exact Nat.ne_of_gt (blk_lt (g := gb51) (o := .cells #[.int .i64 a1_0, .int .i64 a1_1, .int .i64 a1_2, .int .i64 a1_3, .int .i64 a1_4, .int .i64 a1_5] 26 (0, 0)) (by (with_reducible repeat (first | refine zN ?_ _ | refine zD ?_ | refine zA ?_ _)); exact BK51.out)) : gb111 ≠ gb51)); clear BK51; clear HB; have BK51 := n0_; have HB := n1_; have BK111 := n2_; have GW111 := n3_; have GE111 := n4_; have NB51_111 := n5_; have NB111_51 := n6_; clear n0_ n1_ n2_ n3_ n4_ n5_ n6_; clear hb hbox hg; have hnb14 := NB111_51.out; have hnc14 := NB51_111.out; have hcz15_0 := zI BK111 0 rfl; have hcz15_1 := zI BK111 1 rfl; have hcz15_2 := zI BK111 2 rfl; have hcz15_3 := zI BK111 3 rfl; have hfz15_0 := zF BK111.out 0; have hfz15_1 := zF BK111.out 1; have hfz15_2 := zF BK111.out 2; have hfz15_3 := zF BK111.out 3; have hcz16_0 := zI BK51 0 rfl; have hcz16_1 := zI BK51 1 rfl; have hcz16_2 := zI BK51 2 rfl; have hcz16_3 := zI BK51 3 rfl; have hcz16_4 := zI BK51 4 rfl; have hcz16_5 := zI BK51 5 rfl; have hfz16_0 := zF BK51.out 0; have hfz16_1 := zF BK51.out 1; have hfz16_2 := zF BK51.out 2; have hfz16_3 := zF BK51.out 3; have hfz16_4 := zF BK51.out 4; have hfz16_5 := zF BK51.out 5))
     go_ret
     exact ⟨by first | rfl | (simp [errW_none, errW_some] <;> rfl) | (simp [*, errW_none, errW_some] <;> rfl), by repeat (first | (with_reducible first | exact HB.out | apply yA | apply yN | apply yD | refine yS ?_ GE51.out | refine yS ?_ GE111.out) | exact HB.out)⟩
   ·rw [if_neg c5] at H
    have c5b0 : decide (a1_1 ≤ a0_2) = false := decide_eq_false c5
    clear c5
    obtain rfl := Option.some.inj H
    simp only [Option.some.injEq, Prod.mk.injEq] at H
    obtain ⟨rfl⟩ := H
    go_enter Tryz.func87, Tryz.ntmps87
    go_wp2_with (first | ((with_reducible refine gate_dst (N := 2) rfl ?_); refine box_event ?hg (N := 2) ?hd (cs := #[.string a0_0, .int .i64 a0_1, .int .i64 a0_2, .slice A0_3 l0_3.length c0_3]) (t := 33) ?hr ?_; (case hd => rfl); (case hg => rfl); (case hr => first | (go_simp; done) | (go_simp; rfl)); intro gb111 hg w17 hbox hb; have n0_ := zG BK51 hb (fun h => by (with_reducible repeat (first | refine zN ?_ _ | refine zD ?_ | refine zA ?_ _)); exact h); have ⟨n1_, n3_⟩ := zV (w := w) hb hg (by repeat (first | (with_reducible first | exact HB.out | apply yA | apply yN | apply yD | refine yS ?_ GE51.out) | exact HB.out)); have n2_ := aK (hbox); have n4_ := n3_; have n5_ := aK ((by rw [hg]; exact Nat.ne_of_lt (blk_lt (g := gb51) (o := .cells #[.int .i64 a1_0, .int .i64 a1_1, .int .i64 a1_2, .int .i64 a1_3, .int .i64 a1_4, .int .i64 a1_5] 26 (0, 0)) (by (with_reducible repeat (first | refine zN ?_ _ | refine zD ?_ | refine zA ?_ _)); exact BK51.out)) : gb51 ≠ gb111)); have n6_ := aK ((by rw [hg]; exact Nat.ne_of_gt (blk_lt (g := gb51) (o := .cells #[.int .i64 a1_0, .int .i64 a1_1, .int .i64 a1_2, .int .i64 a1_3, .int .i64 a1_4, .int .i64 a1_5] 26 (0, 0)) (by (with_reducible repeat (first | refine zN ?_ _ | refine zD ?_ | refine zA ?_ _)); exact BK51.out)) : gb111 ≠ gb51)); clear BK51; clear HB; have BK51 := n0_; have HB := n1_; have BK111 := n2_; have GW111 := n3_; have GE111 := n4_; have NB51_111 := n5_; have NB111_51 := n6_; clear n0_ n1_ n2_ n3_ n4_ n5_ n6_; clear hb hbox hg; have hnb18 := NB111_51.out; have hnc18 := NB51_111.out; have hcz19_0 := zI BK111 0 rfl; have hcz19_1 := zI BK111 1 rfl; have hcz19_2 := zI BK111 2 rfl; have hcz19_3 := zI BK111 3 rfl; have hfz19_0 := zF BK111.out 0; have hfz19_1 := zF BK111.out 1; have hfz19_2 := zF BK111.out 2; have hfz19_3 := zF BK111.out 3; have hcz20_0 := zI BK51 0 rfl; have hcz20_1 := zI BK51 1 rfl; have hcz20_2 := zI BK51 2 rfl; have hcz20_3 := zI BK51 3 rfl; have hcz20_4 := zI BK51 4 rfl; have hcz20_5 := zI BK51 5 rfl; have hfz20_0 := zF BK51.out 0; have hfz20_1 := zF BK51.out 1; have hfz20_2 := zF BK51.out 2; have hfz20_3 := zF BK51.out 3; have hfz20_4 := zF BK51.out 4; have hfz20_5 := zF BK51.out 5))
    go_ret
    exact ⟨by first | rfl | (simp [errW_none, errW_some] <;> rfl) | (simp [*, errW_none, errW_some] <;> rfl), by repeat (first | (with_reducible first | exact HB.out | apply yA | apply yN | apply yD | refine yS ?_ GE51.out | refine yS ?_ GE111.out) | exact HB.out)⟩
  ·rw [if_neg c4] at H
   have c4b0 : decide (a0_1 < a1_3) = false := decide_eq_false c4
   clear c4
   obtain rfl := Option.some.inj H
   simp only [Option.some.injEq, Prod.mk.injEq] at H
   obtain ⟨rfl⟩ := H
   go_enter Tryz.func87, Tryz.ntmps87
   go_wp2_with (first | ((with_reducible refine gate_dst (N := 2) rfl ?_); refine box_event ?hg (N := 2) ?hd (cs := #[.string a0_0, .int .i64 a0_1, .int .i64 a0_2, .slice A0_3 l0_3.length c0_3]) (t := 33) ?hr ?_; (case hd => rfl); (case hg => rfl); (case hr => first | (go_simp; done) | (go_simp; rfl)); intro gb111 hg w21 hbox hb; have n0_ := zG BK51 hb (fun h => by (with_reducible repeat (first | refine zN ?_ _ | refine zD ?_ | refine zA ?_ _)); exact h); have ⟨n1_, n3_⟩ := zV (w := w) hb hg (by repeat (first | (with_reducible first | exact HB.out | apply yA | apply yN | apply yD | refine yS ?_ GE51.out) | exact HB.out)); have n2_ := aK (hbox); have n4_ := n3_; have n5_ := aK ((by rw [hg]; exact Nat.ne_of_lt (blk_lt (g := gb51) (o := .cells #[.int .i64 a1_0, .int .i64 a1_1, .int .i64 a1_2, .int .i64 a1_3, .int .i64 a1_4, .int .i64 a1_5] 26 (0, 0)) (by (with_reducible repeat (first | refine zN ?_ _ | refine zD ?_ | refine zA ?_ _)); exact BK51.out)) : gb51 ≠ gb111)); have n6_ := aK ((by rw [hg]; exact Nat.ne_of_gt (blk_lt (g := gb51) (o := .cells #[.int .i64 a1_0, .int .i64 a1_1, .int .i64 a1_2, .int .i64 a1_3, .int .i64 a1_4, .int .i64 a1_5] 26 (0, 0)) (by (with_reducible repeat (first | refine zN ?_ _ | refine zD ?_ | refine zA ?_ _)); exact BK51.out)) : gb111 ≠ gb51)); clear BK51; clear HB; have BK51 := n0_; have HB := n1_; have BK111 := n2_; have GW111 := n3_; have GE111 := n4_; have NB51_111 := n5_; have NB111_51 := n6_; clear n0_ n1_ n2_ n3_ n4_ n5_ n6_; clear hb hbox hg; have hnb22 := NB111_51.out; have hnc22 := NB51_111.out; have hcz23_0 := zI BK111 0 rfl; have hcz23_1 := zI BK111 1 rfl; have hcz23_2 := zI BK111 2 rfl; have hcz23_3 := zI BK111 3 rfl; have hfz23_0 := zF BK111.out 0; have hfz23_1 := zF BK111.out 1; have hfz23_2 := zF BK111.out 2; have hfz23_3 := zF BK111.out 3; have hcz24_0 := zI BK51 0 rfl; have hcz24_1 := zI BK51 1 rfl; have hcz24_2 := zI BK51 2 rfl; have hcz24_3 := zI BK51 3 rfl; have hcz24_4 := zI BK51 4 rfl; have hcz24_5 := zI BK51 5 rfl; have hfz24_0 := zF BK51.out 0; have hfz24_1 := zF BK51.out 1; have hfz24_2 := zF BK51.out 2; have hfz24_3 := zF BK51.out 3; have hfz24_4 := zF BK51.out 4; have hfz24_5 := zF BK51.out 5))
   go_ret
   exact ⟨by first | rfl | (simp [errW_none, errW_some] <;> rfl) | (simp [*, errW_none, errW_some] <;> rfl), by repeat (first | (with_reducible first | exact HB.out | apply yA | apply yN | apply yD | refine yS ?_ GE51.out | refine yS ?_ GE111.out) | exact HB.out)⟩
 ·rw [if_neg c3] at H
  have c3b0 : decide (a1_0 ≤ a0_1) = false := decide_eq_false c3
  clear c3
  obtain rfl := Option.some.inj H
  simp only [Option.some.injEq, Prod.mk.injEq] at H
  obtain ⟨rfl⟩ := H
  go_enter Tryz.func87, Tryz.ntmps87
  go_wp2_with (first | ((with_reducible refine gate_dst (N := 2) rfl ?_); refine box_event ?hg (N := 2) ?hd (cs := #[.string a0_0, .int .i64 a0_1, .int .i64 a0_2, .slice A0_3 l0_3.length c0_3]) (t := 33) ?hr ?_; (case hd => rfl); (case hg => rfl); (case hr => first | (go_simp; done) | (go_simp; rfl)); intro gb111 hg w25 hbox hb; have n0_ := zG BK51 hb (fun h => by (with_reducible repeat (first | refine zN ?_ _ | refine zD ?_ | refine zA ?_ _)); exact h); have ⟨n1_, n3_⟩ := zV (w := w) hb hg (by repeat (first | (with_reducible first | exact HB.out | apply yA | apply yN | apply yD | refine yS ?_ GE51.out) | exact HB.out)); have n2_ := aK (hbox); have n4_ := n3_; have n5_ := aK ((by rw [hg]; exact Nat.ne_of_lt (blk_lt (g := gb51) (o := .cells #[.int .i64 a1_0, .int .i64 a1_1, .int .i64 a1_2, .int .i64 a1_3, .int .i64 a1_4, .int .i64 a1_5] 26 (0, 0)) (by (with_reducible repeat (first | refine zN ?_ _ | refine zD ?_ | refine zA ?_ _)); exact BK51.out)) : gb51 ≠ gb111)); have n6_ := aK ((by rw [hg]; exact Nat.ne_of_gt (blk_lt (g := gb51) (o := .cells #[.int .i64 a1_0, .int .i64 a1_1, .int .i64 a1_2, .int .i64 a1_3, .int .i64 a1_4, .int .i64 a1_5] 26 (0, 0)) (by (with_reducible repeat (first | refine zN ?_ _ | refine zD ?_ | refine zA ?_ _)); exact BK51.out)) : gb111 ≠ gb51)); clear BK51; clear HB; have BK51 := n0_; have HB := n1_; have BK111 := n2_; have GW111 := n3_; have GE111 := n4_; have NB51_111 := n5_; have NB111_51 := n6_; clear n0_ n1_ n2_ n3_ n4_ n5_ n6_; clear hb hbox hg; have hnb26 := NB111_51.out; have hnc26 := NB51_111.out; have hcz27_0 := zI BK111 0 rfl; have hcz27_1 := zI BK111 1 rfl; have hcz27_2 := zI BK111 2 rfl; have hcz27_3 := zI BK111 3 rfl; have hfz27_0 := zF BK111.out 0; have hfz27_1 := zF BK111.out 1; have hfz27_2 := zF BK111.out 2; have hfz27_3 := zF BK111.out 3; have hcz28_0 := zI BK51 0 rfl; have hcz28_1 := zI BK51 1 rfl; have hcz28_2 := zI BK51 2 rfl; have hcz28_3 := zI BK51 3 rfl; have hcz28_4 := zI BK51 4 rfl; have hcz28_5 := zI BK51 5 rfl; have hfz28_0 := zF BK51.out 0; have hfz28_1 := zF BK51.out 1; have hfz28_2 := zF BK51.out 2; have hfz28_3 := zF BK51.out 3; have hfz28_4 := zF BK51.out 4; have hfz28_5 := zF BK51.out 5))
  go_ret
  exact ⟨by first | rfl | (simp [errW_none, errW_some] <;> rfl) | (simp [*, errW_none, errW_some] <;> rfl), by repeat (first | (with_reducible first | exact HB.out | apply yA | apply yN | apply yD | refine yS ?_ GE51.out | refine yS ?_ GE111.out) | exact HB.out)⟩
theorem boring_within_1.fn (gb51 : Nat) (a1_0 : Int) (a1_1 : Int) (a1_2 : Int) (a1_3 : Int) (a1_4 : Int) (a1_5 : Int) (w : World) (hx51 : w.heap[gb51]? = some (.cells #[.int .i64 a1_0, .int .i64 a1_1, .int .i64 a1_2, .int .i64 a1_3, .int .i64 a1_4, .int .i64 a1_5] 26 (0, 0))) : FnE Tryz.prog k33 vAgg Value.bool (.func (.func 87) #[] #[.pointer (some ⟨gb51, 0, none⟩)]) (fun x_ => boring_within_1.f x_.f0 x_.f1.f0 x_.f1.f1 x_.f2 a1_0 a1_1 a1_2 a1_3 a1_4 a1_5) w :=
 ⟨87, _, rfl, enters_of Tryz.func87 (by kernel_rfl) rfl, fun W x cs r hW hk0 h => by
  obtain ⟨Z0_3, z0_3, rfl, zl0_3, zg0_3⟩ := k33_open hk0
  exact (boring_within_1.calls (a0_0 := x.f0) (a0_1 := x.f1.f0) (a0_2 := x.f1.f1) (A0_3 := Z0_3) (c0_3 := z0_3) (l0_3 := x.f2) (hr0_3 := zg0_3) (hc0_3 := zl0_3) (gb51 := gb51) (a1_0 := a1_0) (a1_1 := a1_1) (a1_2 := a1_2) (a1_3 := a1_3) (a1_4 := a1_4) (a1_5 := a1_5) (hx51 := zB hx51 hW) (r := r) (w := W) (h := h)).mono fun e w' ⟨he, hb⟩ => ⟨he, hb⟩⟩

end Go.Proofs.YtfedmcehkpfciaaGreat.P
