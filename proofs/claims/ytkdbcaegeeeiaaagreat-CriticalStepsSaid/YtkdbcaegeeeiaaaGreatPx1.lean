/- What functions of the program return: each contract says so of one function, for every input at which its pure function yields. -/
import Derived.Test.YtkdbcaegeeeiaaaGreatPx0
import Derived.Test.YtkdbcaegeeeiaaaGreatHof
import Derived.Test.YtkdbcaegeeeiaaaGreatLex
namespace Go.Proofs.YtkdbcaegeeeiaaaGreat.P
open Go.RowKit Go.Proofs.YtkdbcaegeeeiaaaGreatW.PrintWords Go.Proofs.YtkdbcaegeeeiaaaGreatW.PrintLast Go.Proofs.YtkdbcaegeeeiaaaGreatW.PrintMore
attribute [local go_sem] max2_int min2_int max_two min_two max_three min_three max_four min_four   -- for this text's walks alone
set_option linter.unusedVariables false
set_option linter.unusedSimpArgs false

open Go.Proofs.YtkdbcaegeeeiaaaGreat.Hof Go.Proofs.YtkdbcaegeeeiaaaGreat.Lex
def api_Job_63.f (l0 : List (S38)) (p1 : (S38 → Option Bool)) : Option (Bool) := (contains38.f l0 p1).bind fun t101 => (some t101)
set_option maxHeartbeats 8000000 in
set_option maxRecDepth 100000 in
theorem api_Job_63.calls (A0 : Option Addr) (c0 : Nat) (l0 : List (S38)) (V1 : Value) (p1 : (S38 → Option Bool)) (r : Bool) (w : World) (hr0 : Kd.C k38 w A0 l0.length l0) (hc0 : l0.length ≤ c0) (hf1 : FnE Tryz.prog k38 vAgg Value.bool V1 p1 w) (h : api_Job_63.f l0 p1 = some r) :
  Calls Tryz.prog 63 #[.slice A0 l0.length c0, V1] w fun e w' => e = .returned (.bool r) ∧ Below w.heap.size w w' := by
 have HR0 := aK hr0
 have HC0 := aK hc0
 clear hr0 hc0
 obtain ⟨gf1, lf1, rfl, ef1, hp1⟩ := hf1
 have HF1 := aK (show FnE Tryz.prog k38 vAgg Value.bool (.func (.func gf1) #[] lf1) p1 w from ⟨gf1, lf1, rfl, ef1, hp1⟩)
 have HP1 := aK hp1
 clear hp1
 have HB := aK (Below.refl w.heap.size w)
 have H : ((contains38.f l0 p1).bind fun t101 => (some t101)) = some r := h
 clear h
 replace H := Option.bind_eq_some_iff.mp H
 obtain ⟨t101, A30, H⟩ := H
 replace H : (some t101) = some r := H
 have A3 := aK A30
 clear A30
 obtain rfl := Option.some.inj H
 simp only [Option.some.injEq, Prod.mk.injEq] at H
 obtain ⟨rfl⟩ := H
 go_enter Tryz.func63, Tryz.ntmps63
 go_wp2_with (first | ((with_reducible refine gate_callee (f := 145) rfl ?_); refine goesL_ (some 7) rfl rfl Tryz.func145 (by kernel_rfl) rfl #[.slice A0 l0.length c0, .func (.func gf1) #[] lf1] rfl (by (try simp only [List.map_toArray, List.map_cons, List.map_nil]); first | done | rfl | (simp only [List.length_drop, List.length_take]; rfl)) ?_; (with_reducible refine (contains38.calls _ _ l0 (.func (.func gf1) #[] lf1) p1 t101 _ ?side1 ?side2 ?side3 A3.out).mono ?_); (case side1 => repeat (first | exact HR0.out | (with_reducible refine Kd.C_alloc ?_ _) | (with_reducible refine Kd.C_drewN ?_ _) | (with_reducible refine Kd.C_drew ?_))); (case side2 => exact HC0.out); (case side3 => first | exact HF1.out | exact FnE.below HF1.out (by repeat (first | (with_reducible first | exact HB.out | apply yA | apply yN | apply yD) | exact HB.out))); rintro e w4 ⟨rfl, hb⟩; refine ⟨_, rfl, ?_⟩; have n0_ := aK (yT (by repeat (first | (with_reducible first | exact HB.out | apply yA | apply yN | apply yD) | exact HB.out)) hb); clear HB; have HB := n0_; clear n0_; (try clear hb); (try clear hb2); (try clear hk); (try clear hi)))
 go_ret
 exact ⟨by first | rfl | (simp [errW_none, errW_some] <;> rfl) | (simp [*, errW_none, errW_some] <;> rfl), by repeat (first | (with_reducible first | exact HB.out | apply yA | apply yN | apply yD) | exact HB.out)⟩

def api_Step_65.f (l0 : List (S40)) (p1 : (S40 → Option Bool)) : Option (Bool) := (contains40.f l0 p1).bind fun t102 => (some t102)
set_option maxHeartbeats 8000000 in
set_option maxRecDepth 100000 in
theorem api_Step_65.calls (A0 : Option Addr) (c0 : Nat) (l0 : List (S40)) (V1 : Value) (p1 : (S40 → Option Bool)) (r : Bool) (w : World) (hr0 : Kd.C k40 w A0 l0.length l0) (hc0 : l0.length ≤ c0) (hf1 : FnE Tryz.prog k40 vAgg Value.bool V1 p1 w) (h : api_Step_65.f l0 p1 = some r) :
  Calls Tryz.prog 65 #[.slice A0 l0.length c0, V1] w fun e w' => e = .returned (.bool r) ∧ Below w.heap.size w w' := by
 have HR0 := aK hr0
 have HC0 := aK hc0
 clear hr0 hc0
 obtain ⟨gf1, lf1, rfl, ef1, hp1⟩ := hf1
 have HF1 := aK (show FnE Tryz.prog k40 vAgg Value.bool (.func (.func gf1) #[] lf1) p1 w from ⟨gf1, lf1, rfl, ef1, hp1⟩)
 have HP1 := aK hp1
 clear hp1
 have HB := aK (Below.refl w.heap.size w)
 have H : ((contains40.f l0 p1).bind fun t102 => (some t102)) = some r := h
 clear h
 replace H := Option.bind_eq_some_iff.mp H
 obtain ⟨t102, A30, H⟩ := H
 replace H : (some t102) = some r := H
 have A3 := aK A30
 clear A30
 obtain rfl := Option.some.inj H
 simp only [Option.some.injEq, Prod.mk.injEq] at H
 obtain ⟨rfl⟩ := H
 go_enter Tryz.func65, Tryz.ntmps65
 go_wp2_with (first | ((with_reducible refine gate_callee (f := 146) rfl ?_); refine goesL_ (some 7) rfl rfl Tryz.func146 (by kernel_rfl) rfl #[.slice A0 l0.length c0, .func (.func gf1) #[] lf1] rfl (by (try simp only [List.map_toArray, List.map_cons, List.map_nil]); first | done | rfl | (simp only [List.length_drop, List.length_take]; rfl)) ?_; (with_reducible refine (contains40.calls _ _ l0 (.func (.func gf1) #[] lf1) p1 t102 _ ?side1 ?side2 ?side3 A3.out).mono ?_); (case side1 => repeat (first | exact HR0.out | (with_reducible refine Kd.C_alloc ?_ _) | (with_reducible refine Kd.C_drewN ?_ _) | (with_reducible refine Kd.C_drew ?_))); (case side2 => exact HC0.out); (case side3 => first | exact HF1.out | exact FnE.below HF1.out (by repeat (first | (with_reducible first | exact HB.out | apply yA | apply yN | apply yD) | exact HB.out))); rintro e w4 ⟨rfl, hb⟩; refine ⟨_, rfl, ?_⟩; have n0_ := aK (yT (by repeat (first | (with_reducible first | exact HB.out | apply yA | apply yN | apply yD) | exact HB.out)) hb); clear HB; have HB := n0_; clear n0_; (try clear hb); (try clear hb2); (try clear hk); (try clear hi)))
 go_ret
 exact ⟨by first | rfl | (simp [errW_none, errW_some] <;> rfl) | (simp [*, errW_none, errW_some] <;> rfl), by repeat (first | (with_reducible first | exact HB.out | apply yA | apply yN | apply yD) | exact HB.out)⟩

def jobshop_Check_1_1.f (a0_0 : ByteArray) (l0_1 : List (S40)) (a0_2 : Int) (a0_3 : Int) (a0_4 : Int) (p1_0 : (S40 → Option Bool)) : Option (Bool) := (api_Step_65.f l0_1 p1_0).bind fun t104 => (some t104)
set_option maxHeartbeats 8000000 in
set_option maxRecDepth 100000 in
theorem jobshop_Check_1_1.calls (a0_0 : ByteArray) (A0_1 : Option Addr) (c0_1 : Nat) (l0_1 : List (S40)) (a0_2 : Int) (a0_3 : Int) (a0_4 : Int) (gb51 : Nat) (V1_0 : Value) (p1_0 : (S40 → Option Bool)) (r : Bool) (w : World) (hr0_1 : Kd.C k40 w A0_1 l0_1.length l0_1) (hc0_1 : l0_1.length ≤ c0_1) (hx51 : w.heap[gb51]? = some (.cells #[V1_0] 83 (0, 0))) (hf1_0 : FnE Tryz.prog k40 vAgg Value.bool V1_0 p1_0 w) (h : jobshop_Check_1_1.f a0_0 l0_1 a0_2 a0_3 a0_4 p1_0 = some r) :
  Calls Tryz.prog 64 #[.agg #[.string a0_0, .slice A0_1 l0_1.length c0_1, .int .i64 a0_2, .int .i64 a0_3, .int .i64 a0_4], .pointer (some ⟨gb51, 0, none⟩)] w fun e w' => e = .returned (.bool r) ∧ Below w.heap.size w w' := by
 have hu38 := Tryz.underlying38
 have hu36 := Tryz.underlying36
 have hu83 := Tryz.underlying83
 have HR0_1 := aK hr0_1
 have HC0_1 := aK hc0_1
 clear hr0_1 hc0_1
 obtain ⟨gf1_0, lf1_0, rfl, ef1_0, hp1_0⟩ := hf1_0
 have HF1_0 := aK (show FnE Tryz.prog k40 vAgg Value.bool (.func (.func gf1_0) #[] lf1_0) p1_0 w from ⟨gf1_0, lf1_0, rfl, ef1_0, hp1_0⟩)
 have HP1_0 := aK hp1_0
 clear hp1_0
 have BK51 := aK hx51
 clear hx51
 have HB := aK (Below.refl w.heap.size w)
 have H : ((api_Step_65.f l0_1 p1_0).bind fun t104 => (some t104)) = some r := h
 clear h
 replace H := Option.bind_eq_some_iff.mp H
 obtain ⟨t104, A30, H⟩ := H
 replace H : (some t104) = some r := H
 have A3 := aK A30
 clear A30
 obtain rfl := Option.some.inj H
 simp only [Option.some.injEq, Prod.mk.injEq] at H
 obtain ⟨rfl⟩ := H
 go_enter Tryz.func64, Tryz.ntmps64
 go_wp2_with (first | ((with_reducible refine gate_dst (N := 2) rfl ?_); refine box_event ?hg (N := 2) ?hd (cs := #[.string a0_0, .slice A0_1 l0_1.length c0_1, .int .i64 a0_2, .int .i64 a0_3, .int .i64 a0_4]) (t := 38) ?hr ?_; (case hd => rfl); (case hg => rfl); (case hr => first | (go_simp; done) | (go_simp; rfl)); intro gb103 hg w4 hbox hb; have n0_ := aK (zB (g := gb51) (o := .cells #[.func (.func gf1_0) #[] lf1_0] 83 (0, 0)) (by (with_reducible repeat (first | refine zN ?_ _ | refine zD ?_ | refine zA ?_ _)); exact BK51.out) hb); have ⟨n1_, n3_⟩ := zV (w := w) hb hg (by repeat (first | (with_reducible first | exact HB.out | apply yA | apply yN | apply yD | refine yS ?_ GE51.out) | exact HB.out)); have n2_ := aK (hbox); have n4_ := n3_; have n5_ := aK ((by rw [hg]; exact Nat.ne_of_lt (blk_lt (g := gb51) (o := .cells #[.func (.func gf1_0) #[] lf1_0] 83 (0, 0)) (by (with_reducible repeat (first | refine zN ?_ _ | refine zD ?_ | refine zA ?_ _)); exact BK51.out)) : gb51 ≠ gb103)); have n6_ := aK ((by rw [hg]; exact Nat.ne_of_gt (blk_lt (g := gb51) (o := .cells #[.func (.func gf1_0) #[] lf1_0] 83 (0, 0)) (by (with_reducible repeat (first | refine zN ?_ _ | refine zD ?_ | refine zA ?_ _)); exact BK51.out)) : gb103 ≠ gb51)); clear BK51; clear HB; have BK51 := n0_; have HB := n1_; have BK103 := n2_; have GW103 := n3_; have GE103 := n4_; have NB51_103 := n5_; have NB103_51 := n6_; clear n0_ n1_ n2_ n3_ n4_ n5_ n6_; clear hb hbox hg; have hnb5 := NB103_51.out; have hnc5 := NB51_103.out; have hcz6_0 := zI BK103 0 rfl; have hcz6_1 := zI BK103 1 rfl; have hcz6_2 := zI BK103 2 rfl; have hcz6_3 := zI BK103 3 rfl; have hcz6_4 := zI BK103 4 rfl; have hfz6_0 := zF BK103.out 0; have hfz6_1 := zF BK103.out 1; have hfz6_2 := zF BK103.out 2; have hfz6_3 := zF BK103.out 3; have hfz6_4 := zF BK103.out 4; have hcz7_0 := zI BK51 0 rfl; have hfz7_0 := zF BK51.out 0) | ((with_reducible refine gate_callee (f := 65) rfl ?_); refine goesL_ (some 7) rfl rfl Tryz.func65 (by kernel_rfl) rfl #[.slice A0_1 l0_1.length c0_1, .func (.func gf1_0) #[] lf1_0] rfl (by (try simp only [List.map_toArray, List.map_cons, List.map_nil]); first | done | rfl | (simp only [List.length_drop, List.length_take]; rfl)) ?_; (with_reducible refine (api_Step_65.calls _ _ l0_1 (.func (.func gf1_0) #[] lf1_0) p1_0 t104 _ ?side1 ?side2 ?side3 A3.out).mono ?_); (case side1 => repeat (first | exact (Kd.C_below HR0_1.out HB.out) | (with_reducible refine Kd.C_alloc ?_ _) | (with_reducible refine Kd.C_drewN ?_ _) | (with_reducible refine Kd.C_drew ?_))); (case side2 => exact HC0_1.out); (case side3 => first | exact HF1_0.out | exact FnE.below HF1_0.out (by repeat (first | (with_reducible first | exact HB.out | apply yA | apply yN | apply yD | refine yS ?_ GE51.out | refine yS ?_ GE103.out) | exact HB.out))); rintro e w8 ⟨rfl, hb⟩; refine ⟨_, rfl, ?_⟩; have n0_ := aK (zB (g := gb51) (o := .cells #[.func (.func gf1_0) #[] lf1_0] 83 (0, 0)) (by (with_reducible repeat (first | refine zN ?_ _ | refine zD ?_ | refine zA ?_ _)); exact BK51.out) hb); have n1_ := zG BK103 hb (fun h => by (with_reducible repeat (first | refine zN ?_ _ | refine zD ?_ | refine zA ?_ _)); exact h); have n2_ := aK (yT (by repeat (first | (with_reducible first | exact HB.out | apply yA | apply yN | apply yD | refine yS ?_ GE51.out | refine yS ?_ GE103.out) | exact HB.out)) hb); clear BK51; clear BK103; clear HB; have BK51 := n0_; have BK103 := n1_; have HB := n2_; clear n0_ n1_ n2_; (try clear hb); (try clear hb2); (try clear hk); (try clear hi)))
 go_ret
 exact ⟨by first | rfl | (simp [errW_none, errW_some] <;> rfl) | (simp [*, errW_none, errW_some] <;> rfl), by repeat (first | (with_reducible first | exact HB.out | apply yA | apply yN | apply yD | refine yS ?_ GE51.out | refine yS ?_ GE103.out) | exact HB.out)⟩
theorem jobshop_Check_1_1.fn (gb51 : Nat) (V1_0 : Value) (p1_0 : (S40 → Option Bool)) (w : World) (hx51 : w.heap[gb51]? = some (.cells #[V1_0] 83 (0, 0))) (hf1_0 : FnE Tryz.prog k40 vAgg Value.bool V1_0 p1_0 w) : FnE Tryz.prog k38 vAgg Value.bool (.func (.func 64) #[] #[.pointer (some ⟨gb51, 0, none⟩)]) (fun x_ => jobshop_Check_1_1.f x_.f0 x_.f1 x_.f2 x_.f3 x_.f4 p1_0) w :=
 ⟨64, _, rfl, enters_of Tryz.func64 (by kernel_rfl) rfl, fun W x cs r hW hk0 h => by
  obtain ⟨Z0_1, z0_1, rfl, zl0_1, zg0_1⟩ := k38_open hk0
  exact (jobshop_Check_1_1.calls (a0_0 := x.f0) (A0_1 := Z0_1) (c0_1 := z0_1) (l0_1 := x.f1) (hr0_1 := zg0_1) (hc0_1 := zl0_1) (a0_2 := x.f2) (a0_3 := x.f3) (a0_4 := x.f4) (gb51 := gb51) (V1_0 := V1_0) (p1_0 := p1_0) (hf1_0 := FnE.below hf1_0 hW) (hx51 := zB hx51 hW) (r := r) (w := W) (h := h)).mono fun e w' ⟨he, hb⟩ => ⟨he, hb⟩⟩

def jobshop_Check_1.f (p0 : (S40 → Option Bool)) (l1_0 : List (S38)) : Option (Bool) := (api_Job_63.f l1_0 (fun x_ => jobshop_Check_1_1.f x_.f0 x_.f1 x_.f2 x_.f3 x_.f4 p0)).bind fun t106 => (some t106)
set_option maxHeartbeats 8000000 in
set_option maxRecDepth 100000 in
theorem jobshop_Check_1.calls (V0 : Value) (p0 : (S40 → Option Bool)) (gb51 : Nat) (A1_0 : Option Addr) (c1_0 : Nat) (l1_0 : List (S38)) (r : Bool) (w : World) (hf0 : FnE Tryz.prog k40 vAgg Value.bool V0 p0 w) (hx51 : w.heap[gb51]? = some (.cells #[.slice A1_0 l1_0.length c1_0] 23 (0, 0))) (hr1_0 : Kd.C k38 w A1_0 l1_0.length l1_0) (hc1_0 : l1_0.length ≤ c1_0) (h : jobshop_Check_1.f p0 l1_0 = some r) :
  Calls Tryz.prog 62 #[V0, .pointer (some ⟨gb51, 0, none⟩)] w fun e w' => e = .returned (.bool r) ∧ Below w.heap.size w w' := by
 have hu83 := Tryz.underlying83
 have hu23 := Tryz.underlying23
 obtain ⟨gf0, lf0, rfl, ef0, hp0⟩ := hf0
 have HF0 := aK (show FnE Tryz.prog k40 vAgg Value.bool (.func (.func gf0) #[] lf0) p0 w from ⟨gf0, lf0, rfl, ef0, hp0⟩)
 have HP0 := aK hp0
 clear hp0
 have HR1_0 := aK hr1_0
 have HC1_0 := aK hc1_0
 clear hr1_0 hc1_0
 have BK51 := aK hx51
 clear hx51
 have HB := aK (Below.refl w.heap.size w)
 have H : ((api_Job_63.f l1_0 (fun x_ => jobshop_Check_1_1.f x_.f0 x_.f1 x_.f2 x_.f3 x_.f4 p0)).bind fun t106 => (some t106)) = some r := h
 clear h
 replace H := Option.bind_eq_some_iff.mp H
 obtain ⟨t106, A30, H⟩ := H
 replace H : (some t106) = some r := H
 have A3 := aK A30
 clear A30
 obtain rfl := Option.some.inj H
 simp only [Option.some.injEq, Prod.mk.injEq] at H
 obtain ⟨rfl⟩ := H
 go_enter Tryz.func62, Tryz.ntmps62
 go_wp2_with (first | ((with_reducible refine gate_dst (N := 2) rfl ?_); refine box_event ?hg (N := 2) ?hd (cs := #[.func (.func gf0) #[] lf0]) (t := 83) ?hr ?_; (case hd => rfl); (case hg => rfl); (case hr => first | (go_simp; done) | (go_simp; rfl)); intro gb105 hg w4 hbox hb; have n0_ := zG BK51 hb (fun h => by (with_reducible repeat (first | refine zN ?_ _ | refine zD ?_ | refine zA ?_ _)); exact h); have ⟨n1_, n3_⟩ := zV (w := w) hb hg (by repeat (first | (with_reducible first | exact HB.out | apply yA | apply yN | apply yD | refine yS ?_ GE51.out) | exact HB.out)); have n2_ := aK (hbox); have n4_ := n3_; have n5_ := aK ((by rw [hg]; exact Nat.ne_of_lt (blk_lt (g := gb51) (o := .cells #[.slice A1_0 l1_0.length c1_0] 23 (0, 0)) (by (with_reducible repeat (first | refine zN ?_ _ | refine zD ?_ | refine zA ?_ _)); exact BK51.out)) : gb51 ≠ gb105)); have n6_ := aK ((by rw [hg]; exact Nat.ne_of_gt (blk_lt (g := gb51) (o := .cells #[.slice A1_0 l1_0.length c1_0] 23 (0, 0)) (by (with_reducible repeat (first | refine zN ?_ _ | refine zD ?_ | refine zA ?_ _)); exact BK51.out)) : gb105 ≠ gb51)); clear BK51; clear HB; have BK51 := n0_; have HB := n1_; have BK105 := n2_; have GW105 := n3_; have GE105 := n4_; have NB51_105 := n5_; have NB105_51 := n6_; clear n0_ n1_ n2_ n3_ n4_ n5_ n6_; clear hb hbox hg; have hnb5 := NB51_105.out; have hnc5 := NB105_51.out; have hcz6_0 := zI BK51 0 rfl; have hfz6_0 := zF BK51.out 0) | ((with_reducible refine gate_callee (f := 63) rfl ?_); refine goesL_ (some 6) rfl rfl Tryz.func63 (by kernel_rfl) rfl #[.slice A1_0 l1_0.length c1_0, .func (.func 64) #[] #[.pointer (some ⟨gb105, 0, none⟩)]] rfl (by (try simp only [List.map_toArray, List.map_cons, List.map_nil]); first | done | rfl | (simp only [List.length_drop, List.length_take]; rfl)) ?_; (with_reducible refine (api_Job_63.calls _ _ l1_0 (.func (.func 64) #[] #[.pointer (some ⟨gb105, 0, none⟩)]) (fun x_ => jobshop_Check_1_1.f x_.f0 x_.f1 x_.f2 x_.f3 x_.f4 p0) t106 _ ?side1 ?side2 ?side3 A3.out).mono ?_); (case side1 => repeat (first | exact (Kd.C_below HR1_0.out HB.out) | (with_reducible refine Kd.C_alloc ?_ _) | (with_reducible refine Kd.C_drewN ?_ _) | (with_reducible refine Kd.C_drew ?_))); (case side2 => exact HC1_0.out); (case side3 => exact jobshop_Check_1_1.fn  gb105 (.func (.func gf0) #[] lf0) p0 _ (by (with_reducible repeat (first | refine zN ?_ _ | refine zD ?_ | refine zA ?_ _)); exact BK105.out) (by first | exact HF0.out | exact FnE.below HF0.out (by repeat (first | (with_reducible first | exact HB.out | apply yA | apply yN | apply yD | refine yS ?_ GE51.out | refine yS ?_ GE105.out) | exact HB.out)))); rintro e w7 ⟨rfl, hb⟩; refine ⟨_, rfl, ?_⟩; have n0_ := zG BK51 hb (fun h => by (with_reducible repeat (first | refine zN ?_ _ | refine zD ?_ | refine zA ?_ _)); exact h); have n1_ := aK (zB (g := gb105) (o := .cells #[.func (.func gf0) #[] lf0] 83 (0, 0)) (by (with_reducible repeat (first | refine zN ?_ _ | refine zD ?_ | refine zA ?_ _)); exact BK105.out) hb); have n2_ := aK (yT (by repeat (first | (with_reducible first | exact HB.out | apply yA | apply yN | apply yD | refine yS ?_ GE51.out | refine yS ?_ GE105.out) | exact HB.out)) hb); clear BK51; clear BK105; clear HB; have BK51 := n0_; have BK105 := n1_; have HB := n2_; clear n0_ n1_ n2_; (try clear hb); (try clear hb2); (try clear hk); (try clear hi)))
 go_ret
 exact ⟨by first | rfl | (simp [errW_none, errW_some] <;> rfl) | (simp [*, errW_none, errW_some] <;> rfl), by repeat (first | (with_reducible first | exact HB.out | apply yA | apply yN | apply yD | refine yS ?_ GE51.out | refine yS ?_ GE105.out) | exact HB.out)⟩

def jobshop_Check_2.f (a0_0 : ByteArray) (l0_1 : List (S40)) (a0_2 : Int) (a0_3 : Int) (a0_4 : Int) : Option (Bool) := some (decide ((l0_1.length : Int) > 16))
set_option maxHeartbeats 8000000 in
set_option maxRecDepth 100000 in
theorem jobshop_Check_2.calls (a0_0 : ByteArray) (A0_1 : Option Addr) (c0_1 : Nat) (l0_1 : List (S40)) (a0_2 : Int) (a0_3 : Int) (a0_4 : Int) (r : Bool) (w : World) (hr0_1 : Kd.C k40 w A0_1 l0_1.length l0_1) (hc0_1 : l0_1.length ≤ c0_1) (h : jobshop_Check_2.f a0_0 l0_1 a0_2 a0_3 a0_4 = some r) :
  Calls Tryz.prog 66 #[.agg #[.string a0_0, .slice A0_1 l0_1.length c0_1, .int .i64 a0_2, .int .i64 a0_3, .int .i64 a0_4]] w fun e w' => e = .returned (.bool r) ∧ Below w.heap.size w w' := by
 have hu38 := Tryz.underlying38
 have HR0_1 := aK hr0_1
 have HC0_1 := aK hc0_1
 clear hr0_1 hc0_1
 have HB := aK (Below.refl w.heap.size w)
 have H : (some (decide ((l0_1.length : Int) > 16))) = some r := h
 clear h
 obtain rfl := Option.some.inj H
 simp only [Option.some.injEq, Prod.mk.injEq] at H
 obtain ⟨rfl⟩ := H
 go_enter Tryz.func66, Tryz.ntmps66
 go_wp2_with (first | ((with_reducible refine gate_dst (N := 1) rfl ?_); refine box_event ?hg (N := 1) ?hd (cs := #[.string a0_0, .slice A0_1 l0_1.length c0_1, .int .i64 a0_2, .int .i64 a0_3, .int .i64 a0_4]) (t := 38) ?hr ?_; (case hd => rfl); (case hg => rfl); (case hr => first | (go_simp; done) | (go_simp; rfl)); intro gb107 hg w2 hbox hb; have ⟨n0_, n2_⟩ := zV (w := w) hb hg (by repeat (first | (with_reducible first | exact HB.out | apply yA | apply yN | apply yD) | exact HB.out)); have n1_ := aK (hbox); have n3_ := n2_; clear HB; have HB := n0_; have BK107 := n1_; have GW107 := n2_; have GE107 := n3_; clear n0_ n1_ n2_ n3_; clear hb hbox hg; have hcz3_0 := zI BK107 0 rfl; have hcz3_1 := zI BK107 1 rfl; have hcz3_2 := zI BK107 2 rfl; have hcz3_3 := zI BK107 3 rfl; have hcz3_4 := zI BK107 4 rfl; have hfz3_0 := zF BK107.out 0; have hfz3_1 := zF BK107.out 1; have hfz3_2 := zF BK107.out 2; have hfz3_3 := zF BK107.out 3; have hfz3_4 := zF BK107.out 4))
 go_ret
 exact ⟨by first | rfl | (simp [errW_none, errW_some] <;> rfl) | (simp [*, errW_none, errW_some] <;> rfl), by repeat (first | (with_reducible first | exact HB.out | apply yA | apply yN | apply yD | refine yS ?_ GE107.out) | exact HB.out)⟩
theorem jobshop_Check_2.fn  (w : World)  : FnE Tryz.prog k38 vAgg Value.bool (.func (.func 66) #[] #[]) (fun x_ => jobshop_Check_2.f x_.f0 x_.f1 x_.f2 x_.f3 x_.f4) w :=
 ⟨66, _, rfl, enters_of Tryz.func66 (by kernel_rfl) rfl, fun W x cs r hW hk0 h => by
  obtain ⟨Z0_1, z0_1, rfl, zl0_1, zg0_1⟩ := k38_open hk0
  exact (jobshop_Check_2.calls (a0_0 := x.f0) (A0_1 := Z0_1) (c0_1 := z0_1) (l0_1 := x.f1) (hr0_1 := zg0_1) (hc0_1 := zl0_1) (a0_2 := x.f2) (a0_3 := x.f3) (a0_4 := x.f4)  (r := r) (w := W) (h := h)).mono fun e w' ⟨he, hb⟩ => ⟨he, hb⟩⟩

def jobshop_Check_3.f (a0_0 : ByteArray) (a0_1 : ByteArray) (a0_2 : Int) : Option (Bool) := (lexer_Name.f a0_0).bind fun t109 => (if t109 = true then ((lexer_Name.f a0_1).bind fun t110 => (some (!t110))) else (some true))
set_option maxHeartbeats 8000000 in
set_option maxRecDepth 100000 in
theorem jobshop_Check_3.calls (a0_0 : ByteArray) (a0_1 : ByteArray) (a0_2 : Int) (r : Bool) (w : World) (h : jobshop_Check_3.f a0_0 a0_1 a0_2 = some r) :
  Calls Tryz.prog 68 #[.agg #[.string a0_0, .string a0_1, .int .i64 a0_2]] w fun e w' => e = .returned (.bool r) ∧ Below w.heap.size w w' := by
 have hu42 := Tryz.underlying42
 have HB := aK (Below.refl w.heap.size w)
 have H : ((lexer_Name.f a0_0).bind fun t109 => (if t109 = true then ((lexer_Name.f a0_1).bind fun t110 => (some (!t110))) else (some true))) = some r := h
 clear h
 replace H := Option.bind_eq_some_iff.mp H
 obtain ⟨t109, A20, H⟩ := H
 replace H : (if t109 = true then ((lexer_Name.f a0_1).bind fun t110 => (some (!t110))) else (some true)) = some r := H
 have A2 := aK A20
 clear A20
 by_cases c3 : t109 = true
 ·subst c3
  have H1 : ((lexer_Name.f a0_1).bind fun t110 => (some (!t110))) = some r := by rw [if_pos rfl] at H; exact H
  clear H
  have H := H1
  clear H1
  replace H := Option.bind_eq_some_iff.mp H
  obtain ⟨t110, A40, H⟩ := H
  replace H : (some (!t110)) = some r := H
  have A4 := aK A40
  clear A40
  obtain rfl := Option.some.inj H
  simp only [Option.some.injEq, Prod.mk.injEq] at H
  obtain ⟨rfl⟩ := H
  go_enter Tryz.func68, Tryz.ntmps68
  go_wp2_with (first | ((with_reducible refine gate_dst (N := 1) rfl ?_); refine box_event ?hg (N := 1) ?hd (cs := #[.string a0_0, .string a0_1, .int .i64 a0_2]) (t := 42) ?hr ?_; (case hd => rfl); (case hg => rfl); (case hr => first | (go_simp; done) | (go_simp; rfl)); intro gb108 hg w5 hbox hb; have ⟨n0_, n2_⟩ := zV (w := w) hb hg (by repeat (first | (with_reducible first | exact HB.out | apply yA | apply yN | apply yD) | exact HB.out)); have n1_ := aK (hbox); have n3_ := n2_; clear HB; have HB := n0_; have BK108 := n1_; have GW108 := n2_; have GE108 := n3_; clear n0_ n1_ n2_ n3_; clear hb hbox hg; have hcz6_0 := zI BK108 0 rfl; have hcz6_1 := zI BK108 1 rfl; have hcz6_2 := zI BK108 2 rfl; have hfz6_0 := zF BK108.out 0; have hfz6_1 := zF BK108.out 1; have hfz6_2 := zF BK108.out 2) | ((with_reducible refine gate_callee (f := 69) rfl ?_); refine goesL_ (some 5) rfl rfl Tryz.func69 (by kernel_rfl) rfl #[.string a0_0] rfl (by (try simp only [List.map_toArray, List.map_cons, List.map_nil]); first | done | rfl | (simp only [List.length_drop, List.length_take]; rfl)) ?_; (with_reducible refine (lexer_Name.calls a0_0 true _ A2.out).mono ?_); rintro e w7 ⟨rfl, hb⟩; refine ⟨_, rfl, ?_⟩; have n0_ := zG BK108 hb (fun h => by (with_reducible repeat (first | refine zN ?_ _ | refine zD ?_ | refine zA ?_ _)); exact h); have n1_ := aK (yT (by repeat (first | (with_reducible first | exact HB.out | apply yA | apply yN | apply yD | refine yS ?_ GE108.out) | exact HB.out)) hb); clear BK108; clear HB; have BK108 := n0_; have HB := n1_; clear n0_ n1_; (try clear hb); (try clear hb2); (try clear hk); (try clear hi); have hcz8_0 := zI BK108 0 rfl; have hcz8_1 := zI BK108 1 rfl; have hcz8_2 := zI BK108 2 rfl; have hfz8_0 := zF BK108.out 0; have hfz8_1 := zF BK108.out 1; have hfz8_2 := zF BK108.out 2) | (go_at_call 69; (with_reducible refine (lexer_Name.calls a0_1 t110 _ A4.out).mono ?_); rintro e w9 ⟨rfl, hb⟩; have n0_ := zG BK108 hb (fun h => by (with_reducible repeat (first | refine zN ?_ _ | refine zD ?_ | refine zA ?_ _)); exact h); have n1_ := aK (yT (by repeat (first | (with_reducible first | exact HB.out | apply yA | apply yN | apply yD | refine yS ?_ GE108.out) | exact HB.out)) hb); clear BK108; clear HB; have BK108 := n0_; have HB := n1_; clear n0_ n1_; (try clear hb); (try clear hb2); (try clear hk); (try clear hi)))
  go_ret
  exact ⟨by first | rfl | (simp [errW_none, errW_some] <;> rfl) | (simp [*, errW_none, errW_some] <;> rfl), by repeat (first | (with_reducible first | exact HB.out | apply yA | apply yN | apply yD | refine yS ?_ GE108.out) | exact HB.out)⟩
 ·replace c3 := Bool.eq_false_iff.mpr c3
  subst c3
  have H1 : (some true) = some r := by rw [if_neg (show ¬ (false = true) by decide)] at H; exact H
  clear H
  have H := H1
  clear H1
  obtain rfl := Option.some.inj H
  simp only [Option.some.injEq, Prod.mk.injEq] at H
  obtain ⟨rfl⟩ := H
  go_enter Tryz.func68, Tryz.ntmps68
  go_wp2_with (first | ((with_reducible refine gate_dst (N := 1) rfl ?_); refine box_event ?hg (N := 1) ?hd (cs := #[.string a0_0, .string a0_1, .int .i64 a0_2]) (t := 42) ?hr ?_; (case hd => rfl); (case hg => rfl); (case hr => first | (go_simp; done) | (go_simp; rfl)); intro gb108 hg w10 hbox hb; have ⟨n0_, n2_⟩ := zV (w := w) hb hg (by repeat (first | (with_reducible first | exact HB.out | apply yA | apply yN | apply yD) | exact HB.out)); have n1_ := aK (hbox); have n3_ := n2_; clear HB; have HB := n0_; have BK108 := n1_; have GW108 := n2_; have GE108 := n3_; clear n0_ n1_ n2_ n3_; clear hb hbox hg; have hcz11_0 := zI BK108 0 rfl; have hcz11_1 := zI BK108 1 rfl; have hcz11_2 := zI BK108 2 rfl; have hfz11_0 := zF BK108.out 0; have hfz11_1 := zF BK108.out 1; have hfz11_2 := zF BK108.out 2) | ((with_reducible refine gate_callee (f := 69) rfl ?_); refine goesL_ (some 5) rfl rfl Tryz.func69 (by kernel_rfl) rfl #[.string a0_0] rfl (by (try simp only [List.map_toArray, List.map_cons, List.map_nil]); first | done | rfl | (simp only [List.length_drop, List.length_take]; rfl)) ?_; (with_reducible refine (lexer_Name.calls a0_0 false _ A2.out).mono ?_); rintro e w12 ⟨rfl, hb⟩; refine ⟨_, rfl, ?_⟩; have n0_ := zG BK108 hb (fun h => by (with_reducible repeat (first | refine zN ?_ _ | refine zD ?_ | refine zA ?_ _)); exact h); have n1_ := aK (yT (by repeat (first | (with_reducible first | exact HB.out | apply yA | apply yN | apply yD | refine yS ?_ GE108.out) | exact HB.out)) hb); clear BK108; clear HB; have BK108 := n0_; have HB := n1_; clear n0_ n1_; (try clear hb); (try clear hb2); (try clear hk); (try clear hi)))
  go_ret
  exact ⟨by first | rfl | (simp [errW_none, errW_some] <;> rfl) | (simp [*, errW_none, errW_some] <;> rfl), by repeat (first | (with_reducible first | exact HB.out | apply yA | apply yN | apply yD | refine yS ?_ GE108.out) | exact HB.out)⟩
theorem jobshop_Check_3.fn  (w : World)  : FnE Tryz.prog k42 vAgg Value.bool (.func (.func 68) #[] #[]) (fun x_ => jobshop_Check_3.f x_.f0 x_.f1 x_.f2) w :=
 ⟨68, _, rfl, enters_of Tryz.func68 (by kernel_rfl) rfl, fun W x cs r hW hk0 h => by
  obtain rfl := k42_open hk0
  exact (jobshop_Check_3.calls (a0_0 := x.f0) (a0_1 := x.f1) (a0_2 := x.f2)  (r := r) (w := W) (h := h)).mono fun e w' ⟨he, hb⟩ => ⟨he, hb⟩⟩

def jobshop_Check_4.f (a0_0 : ByteArray) (l0_1 : List (S40)) (a0_2 : Int) (a0_3 : Int) (a0_4 : Int) : Option (Bool) := (lexer_Name.f a0_0).bind fun t112 => (some (!t112))
set_option maxHeartbeats 8000000 in
set_option maxRecDepth 100000 in
theorem jobshop_Check_4.calls (a0_0 : ByteArray) (A0_1 : Option Addr) (c0_1 : Nat) (l0_1 : List (S40)) (a0_2 : Int) (a0_3 : Int) (a0_4 : Int) (r : Bool) (w : World) (hr0_1 : Kd.C k40 w A0_1 l0_1.length l0_1) (hc0_1 : l0_1.length ≤ c0_1) (h : jobshop_Check_4.f a0_0 l0_1 a0_2 a0_3 a0_4 = some r) :
  Calls Tryz.prog 70 #[.agg #[.string a0_0, .slice A0_1 l0_1.length c0_1, .int .i64 a0_2, .int .i64 a0_3, .int .i64 a0_4]] w fun e w' => e = .returned (.bool r) ∧ Below w.heap.size w w' := by
 have hu38 := Tryz.underlying38
 have HR0_1 := aK hr0_1
 have HC0_1 := aK hc0_1
 clear hr0_1 hc0_1
 have HB := aK (Below.refl w.heap.size w)
 have H : ((lexer_Name.f a0_0).bind fun t112 => (some (!t112))) = some r := h
 clear h
 replace H := Option.bind_eq_some_iff.mp H
 obtain ⟨t112, A20, H⟩ := H
 replace H : (some (!t112)) = some r := H
 have A2 := aK A20
 clear A20
 obtain rfl := Option.some.inj H
 simp only [Option.some.injEq, Prod.mk.injEq] at H
 obtain ⟨rfl⟩ := H
 go_enter Tryz.func70, Tryz.ntmps70
 go_wp2_with (first | ((with_reducible refine gate_dst (N := 1) rfl ?_); refine box_event ?hg (N := 1) ?hd (cs := #[.string a0_0, .slice A0_1 l0_1.length c0_1, .int .i64 a0_2, .int .i64 a0_3, .int .i64 a0_4]) (t := 38) ?hr ?_; (case hd => rfl); (case hg => rfl); (case hr => first | (go_simp; done) | (go_simp; rfl)); intro gb111 hg w3 hbox hb; have ⟨n0_, n2_⟩ := zV (w := w) hb hg (by repeat (first | (with_reducible first | exact HB.out | apply yA | apply yN | apply yD) | exact HB.out)); have n1_ := aK (hbox); have n3_ := n2_; clear HB; have HB := n0_; have BK111 := n1_; have GW111 := n2_; have GE111 := n3_; clear n0_ n1_ n2_ n3_; clear hb hbox hg; have hcz4_0 := zI BK111 0 rfl; have hcz4_1 := zI BK111 1 rfl; have hcz4_2 := zI BK111 2 rfl; have hcz4_3 := zI BK111 3 rfl; have hcz4_4 := zI BK111 4 rfl; have hfz4_0 := zF BK111.out 0; have hfz4_1 := zF BK111.out 1; have hfz4_2 := zF BK111.out 2; have hfz4_3 := zF BK111.out 3; have hfz4_4 := zF BK111.out 4) | ((with_reducible refine gate_callee (f := 69) rfl ?_); refine goesL_ (some 5) rfl rfl Tryz.func69 (by kernel_rfl) rfl #[.string a0_0] rfl (by (try simp only [List.map_toArray, List.map_cons, List.map_nil]); first | done | rfl | (simp only [List.length_drop, List.length_take]; rfl)) ?_; (with_reducible refine (lexer_Name.calls a0_0 t112 _ A2.out).mono ?_); rintro e w5 ⟨rfl, hb⟩; refine ⟨_, rfl, ?_⟩; have n0_ := zG BK111 hb (fun h => by (with_reducible repeat (first | refine zN ?_ _ | refine zD ?_ | refine zA ?_ _)); exact h); have n1_ := aK (yT (by repeat (first | (with_reducible first | exact HB.out | apply yA | apply yN | apply yD | refine yS ?_ GE111.out) | exact HB.out)) hb); clear BK111; clear HB; have BK111 := n0_; have HB := n1_; clear n0_ n1_; (try clear hb); (try clear hb2); (try clear hk); (try clear hi)))
 go_ret
 exact ⟨by first | rfl | (simp [errW_none, errW_some] <;> rfl) | (simp [*, errW_none, errW_some] <;> rfl), by repeat (first | (with_reducible first | exact HB.out | apply yA | apply yN | apply yD | refine yS ?_ GE111.out) | exact HB.out)⟩
theorem jobshop_Check_4.fn  (w : World)  : FnE Tryz.prog k38 vAgg Value.bool (.func (.func 70) #[] #[]) (fun x_ => jobshop_Check_4.f x_.f0 x_.f1 x_.f2 x_.f3 x_.f4) w :=
 ⟨70, _, rfl, enters_of Tryz.func70 (by kernel_rfl) rfl, fun W x cs r hW hk0 h => by
  obtain ⟨Z0_1, z0_1, rfl, zl0_1, zg0_1⟩ := k38_open hk0
  exact (jobshop_Check_4.calls (a0_0 := x.f0) (A0_1 := Z0_1) (c0_1 := z0_1) (l0_1 := x.f1) (hr0_1 := zg0_1) (hc0_1 := zl0_1) (a0_2 := x.f2) (a0_3 := x.f3) (a0_4 := x.f4)  (r := r) (w := W) (h := h)).mono fun e w' ⟨he, hb⟩ => ⟨he, hb⟩⟩

def jobshop_Check_5.f (a0_0 : ByteArray) (a0_1 : Int) (a0_2 : Int) : Option (Bool) := (lexer_Name.f a0_0).bind fun t114 => (some (!t114))
set_option maxHeartbeats 8000000 in
set_option maxRecDepth 100000 in
theorem jobshop_Check_5.calls (a0_0 : ByteArray) (a0_1 : Int) (a0_2 : Int) (r : Bool) (w : World) (h : jobshop_Check_5.f a0_0 a0_1 a0_2 = some r) :
  Calls Tryz.prog 71 #[.agg #[.string a0_0, .int .i64 a0_1, .int .i64 a0_2]] w fun e w' => e = .returned (.bool r) ∧ Below w.heap.size w w' := by
 have hu40 := Tryz.underlying40
 have HB := aK (Below.refl w.heap.size w)
 have H : ((lexer_Name.f a0_0).bind fun t114 => (some (!t114))) = some r := h
 clear h
 replace H := Option.bind_eq_some_iff.mp H
 obtain ⟨t114, A20, H⟩ := H
 replace H : (some (!t114)) = some r := H
 have A2 := aK A20
 clear A20
 obtain rfl := Option.some.inj H
 simp only [Option.some.injEq, Prod.mk.injEq] at H
 obtain ⟨rfl⟩ := H
 go_enter Tryz.func71, Tryz.ntmps71
 go_wp2_with (first | ((with_reducible refine gate_dst (N := 1) rfl ?_); refine box_event ?hg (N := 1) ?hd (cs := #[.string a0_0, .int .i64 a0_1, .int .i64 a0_2]) (t := 40) ?hr ?_; (case hd => rfl); (case hg => rfl); (case hr => first | (go_simp; done) | (go_simp; rfl)); intro gb113 hg w3 hbox hb; have ⟨n0_, n2_⟩ := zV (w := w) hb hg (by repeat (first | (with_reducible first | exact HB.out | apply yA | apply yN | apply yD) | exact HB.out)); have n1_ := aK (hbox); have n3_ := n2_; clear HB; have HB := n0_; have BK113 := n1_; have GW113 := n2_; have GE113 := n3_; clear n0_ n1_ n2_ n3_; clear hb hbox hg; have hcz4_0 := zI BK113 0 rfl; have hcz4_1 := zI BK113 1 rfl; have hcz4_2 := zI BK113 2 rfl; have hfz4_0 := zF BK113.out 0; have hfz4_1 := zF BK113.out 1; have hfz4_2 := zF BK113.out 2) | ((with_reducible refine gate_callee (f := 69) rfl ?_); refine goesL_ (some 5) rfl rfl Tryz.func69 (by kernel_rfl) rfl #[.string a0_0] rfl (by (try simp only [List.map_toArray, List.map_cons, List.map_nil]); first | done | rfl | (simp only [List.length_drop, List.length_take]; rfl)) ?_; (with_reducible refine (lexer_Name.calls a0_0 t114 _ A2.out).mono ?_); rintro e w5 ⟨rfl, hb⟩; refine ⟨_, rfl, ?_⟩; have n0_ := zG BK113 hb (fun h => by (with_reducible repeat (first | refine zN ?_ _ | refine zD ?_ | refine zA ?_ _)); exact h); have n1_ := aK (yT (by repeat (first | (with_reducible first | exact HB.out | apply yA | apply yN | apply yD | refine yS ?_ GE113.out) | exact HB.out)) hb); clear BK113; clear HB; have BK113 := n0_; have HB := n1_; clear n0_ n1_; (try clear hb); (try clear hb2); (try clear hk); (try clear hi)))
 go_ret
 exact ⟨by first | rfl | (simp [errW_none, errW_some] <;> rfl) | (simp [*, errW_none, errW_some] <;> rfl), by repeat (first | (with_reducible first | exact HB.out | apply yA | apply yN | apply yD | refine yS ?_ GE113.out) | exact HB.out)⟩
theorem jobshop_Check_5.fn  (w : World)  : FnE Tryz.prog k40 vAgg Value.bool (.func (.func 71) #[] #[]) (fun x_ => jobshop_Check_5.f x_.f0 x_.f1 x_.f2) w :=
 ⟨71, _, rfl, enters_of Tryz.func71 (by kernel_rfl) rfl, fun W x cs r hW hk0 h => by
  obtain rfl := k40_open hk0
  exact (jobshop_Check_5.calls (a0_0 := x.f0) (a0_1 := x.f1) (a0_2 := x.f2)  (r := r) (w := W) (h := h)).mono fun e w' ⟨he, hb⟩ => ⟨he, hb⟩⟩

def jobshop_in.f (a0 : Int) (a1 : Int) (a2 : Int) : Option (Bool) := if a0 ≥ a1 then (some (decide (a0 ≤ a2))) else (some false)
set_option maxHeartbeats 8000000 in
set_option maxRecDepth 100000 in
theorem jobshop_in.calls (a0 : Int) (a1 : Int) (a2 : Int) (r : Bool) (w : World) (h : jobshop_in.f a0 a1 a2 = some r) :
  Calls Tryz.prog 73 #[.int .i64 a0, .int .i64 a1, .int .i64 a2] w fun e w' => e = .returned (.bool r) ∧ Drawn0 w w' := by
 have H : (if a0 ≥ a1 then (some (decide (a0 ≤ a2))) else (some false)) = some r := h
 clear h
 by_cases c4 : a0 ≥ a1
 ·rw [if_pos c4] at H
  have c4b0 : decide (a1 ≤ a0) = true := decide_eq_true c4
  clear c4
  obtain rfl := Option.some.inj H
  simp only [Option.some.injEq, Prod.mk.injEq] at H
  obtain ⟨rfl⟩ := H
  go_enter Tryz.func73, Tryz.ntmps73
  go_wp2
  go_ret
  exact ⟨by first | rfl | (simp; done) | (simp [*]; done), by repeat (first | exact Drawn0.refl _ | apply Drawn0.step)⟩
 ·rw [if_neg c4] at H
  have c4b0 : decide (a1 ≤ a0) = false := decide_eq_false c4
  clear c4
  obtain rfl := Option.some.inj H
  simp only [Option.some.injEq, Prod.mk.injEq] at H
  obtain ⟨rfl⟩ := H
  go_enter Tryz.func73, Tryz.ntmps73
  go_wp2
  go_ret
  exact ⟨by first | rfl | (simp; done) | (simp [*]; done), by repeat (first | exact Drawn0.refl _ | apply Drawn0.step)⟩

def jobshop_Check_6.f (a0_0 : ByteArray) (a0_1 : ByteArray) (a0_2 : Int) : Option (Bool) := (jobshop_in.f a0_2 0 1440).bind fun t116 => (some (!t116))
set_option maxHeartbeats 8000000 in
set_option maxRecDepth 100000 in
theorem jobshop_Check_6.calls (a0_0 : ByteArray) (a0_1 : ByteArray) (a0_2 : Int) (r : Bool) (w : World) (h : jobshop_Check_6.f a0_0 a0_1 a0_2 = some r) :
  Calls Tryz.prog 72 #[.agg #[.string a0_0, .string a0_1, .int .i64 a0_2]] w fun e w' => e = .returned (.bool r) ∧ Below w.heap.size w w' := by
 have hu42 := Tryz.underlying42
 have HB := aK (Below.refl w.heap.size w)
 have H : ((jobshop_in.f a0_2 0 1440).bind fun t116 => (some (!t116))) = some r := h
 clear h
 replace H := Option.bind_eq_some_iff.mp H
 obtain ⟨t116, A20, H⟩ := H
 replace H : (some (!t116)) = some r := H
 have A2 := aK A20
 clear A20
 obtain rfl := Option.some.inj H
 simp only [Option.some.injEq, Prod.mk.injEq] at H
 obtain ⟨rfl⟩ := H
 go_enter Tryz.func72, Tryz.ntmps72
 go_wp2_with (first | ((with_reducible refine gate_dst (N := 1) rfl ?_); refine box_event ?hg (N := 1) ?hd (cs := #[.string a0_0, .string a0_1, .int .i64 a0_2]) (t := 42) ?hr ?_; (case hd => rfl); (case hg => rfl); (case hr => first | (go_simp; done) | (go_simp; rfl)); intro gb115 hg w3 hbox hb; have ⟨n0_, n2_⟩ := zV (w := w) hb hg (by repeat (first | (with_reducible first | exact HB.out | apply yA | apply yN | apply yD) | exact HB.out)); have n1_ := aK (hbox); have n3_ := n2_; clear HB; have HB := n0_; have BK115 := n1_; have GW115 := n2_; have GE115 := n3_; clear n0_ n1_ n2_ n3_; clear hb hbox hg; have hcz4_0 := zI BK115 0 rfl; have hcz4_1 := zI BK115 1 rfl; have hcz4_2 := zI BK115 2 rfl; have hfz4_0 := zF BK115.out 0; have hfz4_1 := zF BK115.out 1; have hfz4_2 := zF BK115.out 2) | ((with_reducible refine gate_callee (f := 73) rfl ?_); refine goesL_ (some 5) rfl rfl Tryz.func73 (by kernel_rfl) rfl #[.int .i64 a0_2, .int .i64 0, .int .i64 1440] rfl (by (try simp only [List.map_toArray, List.map_cons, List.map_nil]); first | done | rfl | (simp only [List.length_drop, List.length_take]; rfl)) ?_; (with_reducible refine (jobshop_in.calls a0_2 0 1440 t116 _ A2.out).mono ?_); rintro e w' ⟨rfl, ⟨nd, rfl⟩⟩; refine ⟨_, rfl, ?_⟩))
 go_ret
 exact ⟨by first | rfl | (simp [errW_none, errW_some] <;> rfl) | (simp [*, errW_none, errW_some] <;> rfl), by repeat (first | (with_reducible first | exact HB.out | apply yA | apply yN | apply yD | refine yS ?_ GE115.out) | exact HB.out)⟩
theorem jobshop_Check_6.fn  (w : World)  : FnE Tryz.prog k42 vAgg Value.bool (.func (.func 72) #[] #[]) (fun x_ => jobshop_Check_6.f x_.f0 x_.f1 x_.f2) w :=
 ⟨72, _, rfl, enters_of Tryz.func72 (by kernel_rfl) rfl, fun W x cs r hW hk0 h => by
  obtain rfl := k42_open hk0
  exact (jobshop_Check_6.calls (a0_0 := x.f0) (a0_1 := x.f1) (a0_2 := x.f2)  (r := r) (w := W) (h := h)).mono fun e w' ⟨he, hb⟩ => ⟨he, hb⟩⟩

def jobshop_Check_7.f (a0_0 : ByteArray) (l0_1 : List (S40)) (a0_2 : Int) (a0_3 : Int) (a0_4 : Int) : Option (Bool) := (jobshop_in.f a0_2 0 1000000).bind fun t118 => (if t118 = true then ((jobshop_in.f a0_3 0 1000000).bind fun t119 => (if t119 = true then ((jobshop_in.f a0_4 0 100).bind fun t120 => (some (!t120))) else (some true))) else (some true))
set_option maxHeartbeats 8000000 in
set_option maxRecDepth 100000 in
theorem jobshop_Check_7.calls (a0_0 : ByteArray) (A0_1 : Option Addr) (c0_1 : Nat) (l0_1 : List (S40)) (a0_2 : Int) (a0_3 : Int) (a0_4 : Int) (r : Bool) (w : World) (hr0_1 : Kd.C k40 w A0_1 l0_1.length l0_1) (hc0_1 : l0_1.length ≤ c0_1) (h : jobshop_Check_7.f a0_0 l0_1 a0_2 a0_3 a0_4 = some r) :
  Calls Tryz.prog 74 #[.agg #[.string a0_0, .slice A0_1 l0_1.length c0_1, .int .i64 a0_2, .int .i64 a0_3, .int .i64 a0_4]] w fun e w' => e = .returned (.bool r) ∧ Below w.heap.size w w' := by
 have hu38 := Tryz.underlying38
 have HR0_1 := aK hr0_1
 have HC0_1 := aK hc0_1
 clear hr0_1 hc0_1
 have HB := aK (Below.refl w.heap.size w)
 have H : ((jobshop_in.f a0_2 0 1000000).bind fun t118 => (if t118 = true then ((jobshop_in.f a0_3 0 1000000).bind fun t119 => (if t119 = true then ((jobshop_in.f a0_4 0 100).bind fun t120 => (some (!t120))) else (some true))) else (some true))) = some r := h
 clear h
 replace H := Option.bind_eq_some_iff.mp H
 obtain ⟨t118, A20, H⟩ := H
 replace H : (if t118 = true then ((jobshop_in.f a0_3 0 1000000).bind fun t119 => (if t119 = true then ((jobshop_in.f a0_4 0 100).bind fun t120 => (some (!t120))) else (some true))) else (some true)) = some r := H
 have A2 := aK A20
 clear A20
 by_cases c3 : t118 = true
 ·subst c3
  have H1 : ((jobshop_in.f a0_3 0 1000000).bind fun t119 => (if t119 = true then ((jobshop_in.f a0_4 0 100).bind fun t120 => (some (!t120))) else (some true))) = some r := by rw [if_pos rfl] at H; exact H
  clear H
  have H := H1
  clear H1
  replace H := Option.bind_eq_some_iff.mp H
  obtain ⟨t119, A40, H⟩ := H
  replace H : (if t119 = true then ((jobshop_in.f a0_4 0 100).bind fun t120 => (some (!t120))) else (some true)) = some r := H
  have A4 := aK A40
  clear A40
  by_cases c5 : t119 = true
  ·subst c5
   have H1 : ((jobshop_in.f a0_4 0 100).bind fun t120 => (some (!t120))) = some r := by rw [if_pos rfl] at H; exact H
   clear H
   have H := H1
   clear H1
   replace H := Option.bind_eq_some_iff.mp H
   obtain ⟨t120, A60, H⟩ := H
   replace H : (some (!t120)) = some r := H
   have A6 := aK A60
   clear A60
   obtain rfl := Option.some.inj H
   simp only [Option.some.injEq, Prod.mk.injEq] at H
   obtain ⟨rfl⟩ := H
   go_enter Tryz.func74, Tryz.ntmps74
   go_wp2_with (first | ((with_reducible refine gate_dst (N := 1) rfl ?_); refine box_event ?hg (N := 1) ?hd (cs := #[.string a0_0, .slice A0_1 l0_1.length c0_1, .int .i64 a0_2, .int .i64 a0_3, .int .i64 a0_4]) (t := 38) ?hr ?_; (case hd => rfl); (case hg => rfl); (case hr => first | (go_simp; done) | (go_simp; rfl)); intro gb117 hg w7 hbox hb; have ⟨n0_, n2_⟩ := zV (w := w) hb hg (by repeat (first | (with_reducible first | exact HB.out | apply yA | apply yN | apply yD) | exact HB.out)); have n1_ := aK (hbox); have n3_ := n2_; clear HB; have HB := n0_; have BK117 := n1_; have GW117 := n2_; have GE117 := n3_; clear n0_ n1_ n2_ n3_; clear hb hbox hg; have hcz8_0 := zI BK117 0 rfl; have hcz8_1 := zI BK117 1 rfl; have hcz8_2 := zI BK117 2 rfl; have hcz8_3 := zI BK117 3 rfl; have hcz8_4 := zI BK117 4 rfl; have hfz8_0 := zF BK117.out 0; have hfz8_1 := zF BK117.out 1; have hfz8_2 := zF BK117.out 2; have hfz8_3 := zF BK117.out 3; have hfz8_4 := zF BK117.out 4) | ((with_reducible refine gate_callee (f := 73) rfl ?_); refine goesL_ (some 5) rfl rfl Tryz.func73 (by kernel_rfl) rfl #[.int .i64 a0_2, .int .i64 0, .int .i64 1000000] rfl (by (try simp only [List.map_toArray, List.map_cons, List.map_nil]); first | done | rfl | (simp only [List.length_drop, List.length_take]; rfl)) ?_; (with_reducible refine (jobshop_in.calls a0_2 0 1000000 true _ A2.out).mono ?_); rintro e w' ⟨rfl, ⟨nd, rfl⟩⟩; refine ⟨_, rfl, ?_⟩) | (go_at_call 73; (with_reducible refine (jobshop_in.calls a0_3 0 1000000 true _ A4.out).mono ?_); rintro e w' ⟨rfl, ⟨nd, rfl⟩⟩) | (go_at_call 73; (with_reducible refine (jobshop_in.calls a0_4 0 100 t120 _ A6.out).mono ?_); rintro e w' ⟨rfl, ⟨nd, rfl⟩⟩))
   go_ret
   exact ⟨by first | rfl | (simp [errW_none, errW_some] <;> rfl) | (simp [*, errW_none, errW_some] <;> rfl), by repeat (first | (with_reducible first | exact HB.out | apply yA | apply yN | apply yD | refine yS ?_ GE117.out) | exact HB.out)⟩
  ·replace c5 := Bool.eq_false_iff.mpr c5
   subst c5
   have H1 : (some true) = some r := by rw [if_neg (show ¬ (false = true) by decide)] at H; exact H
   clear H
   have H := H1
   clear H1
   obtain rfl := Option.some.inj H
   simp only [Option.some.injEq, Prod.mk.injEq] at H
   obtain ⟨rfl⟩ := H
   go_enter Tryz.func74, Tryz.ntmps74
   go_wp2_with (first | ((with_reducible refine gate_dst (N := 1) rfl ?_); refine box_event ?hg (N := 1) ?hd (cs := #[.string a0_0, .slice A0_1 l0_1.length c0_1, .int .i64 a0_2, .int .i64 a0_3, .int .i64 a0_4]) (t := 38) ?hr ?_; (case hd => rfl); (case hg => rfl); (case hr => first | (go_simp; done) | (go_simp; rfl)); intro gb117 hg w9 hbox hb; have ⟨n0_, n2_⟩ := zV (w := w) hb hg (by repeat (first | (with_reducible first | exact HB.out | apply yA | apply yN | apply yD) | exact HB.out)); have n1_ := aK (hbox); have n3_ := n2_; clear HB; have HB := n0_; have BK117 := n1_; have GW117 := n2_; have GE117 := n3_; clear n0_ n1_ n2_ n3_; clear hb hbox hg; have hcz10_0 := zI BK117 0 rfl; have hcz10_1 := zI BK117 1 rfl; have hcz10_2 := zI BK117 2 rfl; have hcz10_3 := zI BK117 3 rfl; have hcz10_4 := zI BK117 4 rfl; have hfz10_0 := zF BK117.out 0; have hfz10_1 := zF BK117.out 1; have hfz10_2 := zF BK117.out 2; have hfz10_3 := zF BK117.out 3; have hfz10_4 := zF BK117.out 4) | ((with_reducible refine gate_callee (f := 73) rfl ?_); refine goesL_ (some 5) rfl rfl Tryz.func73 (by kernel_rfl) rfl #[.int .i64 a0_2, .int .i64 0, .int .i64 1000000] rfl (by (try simp only [List.map_toArray, List.map_cons, List.map_nil]); first | done | rfl | (simp only [List.length_drop, List.length_take]; rfl)) ?_; (with_reducible refine (jobshop_in.calls a0_2 0 1000000 true _ A2.out).mono ?_); rintro e w' ⟨rfl, ⟨nd, rfl⟩⟩; refine ⟨_, rfl, ?_⟩) | (go_at_call 73; (with_reducible refine (jobshop_in.calls a0_3 0 1000000 false _ A4.out).mono ?_); rintro e w' ⟨rfl, ⟨nd, rfl⟩⟩))
   go_ret
   exact ⟨by first | rfl | (simp [errW_none, errW_some] <;> rfl) | (simp [*, errW_none, errW_some] <;> rfl), by repeat (first | (with_reducible first | exact HB.out | apply yA | apply yN | apply yD | refine yS ?_ GE117.out) | exact HB.out)⟩
 ·replace c3 := Bool.eq_false_iff.mpr c3
  subst c3
  have H1 : (some true) = some r := by rw [if_neg (show ¬ (false = true) by decide)] at H; exact H
  clear H
  have H := H1
  clear H1
  obtain rfl := Option.some.inj H
  simp only [Option.some.injEq, Prod.mk.injEq] at H
  obtain ⟨rfl⟩ := H
  go_enter Tryz.func74, Tryz.ntmps74
  go_wp2_with (first | ((with_reducible refine gate_dst (N := 1) rfl ?_); refine box_event ?hg (N := 1) ?hd (cs := #[.string a0_0, .slice A0_1 l0_1.length c0_1, .int .i64 a0_2, .int .i64 a0_3, .int .i64 a0_4]) (t := 38) ?hr ?_; (case hd => rfl); (case hg => rfl); (case hr => first | (go_simp; done) | (go_simp; rfl)); intro gb117 hg w11 hbox hb; have ⟨n0_, n2_⟩ := zV (w := w) hb hg (by repeat (first | (with_reducible first | exact HB.out | apply yA | apply yN | apply yD) | exact HB.out)); have n1_ := aK (hbox); have n3_ := n2_; clear HB; have HB := n0_; have BK117 := n1_; have GW117 := n2_; have GE117 := n3_; clear n0_ n1_ n2_ n3_; clear hb hbox hg; have hcz12_0 := zI BK117 0 rfl; have hcz12_1 := zI BK117 1 rfl; have hcz12_2 := zI BK117 2 rfl; have hcz12_3 := zI BK117 3 rfl; have hcz12_4 := zI BK117 4 rfl; have hfz12_0 := zF BK117.out 0; have hfz12_1 := zF BK117.out 1; have hfz12_2 := zF BK117.out 2; have hfz12_3 := zF BK117.out 3; have hfz12_4 := zF BK117.out 4) | ((with_reducible refine gate_callee (f := 73) rfl ?_); refine goesL_ (some 5) rfl rfl Tryz.func73 (by kernel_rfl) rfl #[.int .i64 a0_2, .int .i64 0, .int .i64 1000000] rfl (by (try simp only [List.map_toArray, List.map_cons, List.map_nil]); first | done | rfl | (simp only [List.length_drop, List.length_take]; rfl)) ?_; (with_reducible refine (jobshop_in.calls a0_2 0 1000000 false _ A2.out).mono ?_); rintro e w' ⟨rfl, ⟨nd, rfl⟩⟩; refine ⟨_, rfl, ?_⟩))
  go_ret
  exact ⟨by first | rfl | (simp [errW_none, errW_some] <;> rfl) | (simp [*, errW_none, errW_some] <;> rfl), by repeat (first | (with_reducible first | exact HB.out | apply yA | apply yN | apply yD | refine yS ?_ GE117.out) | exact HB.out)⟩
theorem jobshop_Check_7.fn  (w : World)  : FnE Tryz.prog k38 vAgg Value.bool (.func (.func 74) #[] #[]) (fun x_ => jobshop_Check_7.f x_.f0 x_.f1 x_.f2 x_.f3 x_.f4) w :=
 ⟨74, _, rfl, enters_of Tryz.func74 (by kernel_rfl) rfl, fun W x cs r hW hk0 h => by
  obtain ⟨Z0_1, z0_1, rfl, zl0_1, zg0_1⟩ := k38_open hk0
  exact (jobshop_Check_7.calls (a0_0 := x.f0) (A0_1 := Z0_1) (c0_1 := z0_1) (l0_1 := x.f1) (hr0_1 := zg0_1) (hc0_1 := zl0_1) (a0_2 := x.f2) (a0_3 := x.f3) (a0_4 := x.f4)  (r := r) (w := W) (h := h)).mono fun e w' ⟨he, hb⟩ => ⟨he, hb⟩⟩

def jobshop_Check_8.f (a0_0 : ByteArray) (a0_1 : Int) (a0_2 : Int) : Option (Bool) := (jobshop_in.f a0_1 1 1000000).bind fun t122 => (if t122 = true then ((jobshop_in.f a0_2 0 1000000).bind fun t123 => (some (!t123))) else (some true))
set_option maxHeartbeats 8000000 in
set_option maxRecDepth 100000 in
theorem jobshop_Check_8.calls (a0_0 : ByteArray) (a0_1 : Int) (a0_2 : Int) (r : Bool) (w : World) (h : jobshop_Check_8.f a0_0 a0_1 a0_2 = some r) :
  Calls Tryz.prog 75 #[.agg #[.string a0_0, .int .i64 a0_1, .int .i64 a0_2]] w fun e w' => e = .returned (.bool r) ∧ Below w.heap.size w w' := by
 have hu40 := Tryz.underlying40
 have HB := aK (Below.refl w.heap.size w)
 have H : ((jobshop_in.f a0_1 1 1000000).bind fun t122 => (if t122 = true then ((jobshop_in.f a0_2 0 1000000).bind fun t123 => (some (!t123))) else (some true))) = some r := h
 clear h
 replace H := Option.bind_eq_some_iff.mp H
 obtain ⟨t122, A20, H⟩ := H
 replace H : (if t122 = true then ((jobshop_in.f a0_2 0 1000000).bind fun t123 => (some (!t123))) else (some true)) = some r := H
 have A2 := aK A20
 clear A20
 by_cases c3 : t122 = true
 ·subst c3
  have H1 : ((jobshop_in.f a0_2 0 1000000).bind fun t123 => (some (!t123))) = some r := by rw [if_pos rfl] at H; exact H
  clear H
  have H := H1
  clear H1
  replace H := Option.bind_eq_some_iff.mp H
  obtain ⟨t123, A40, H⟩ := H
  replace H : (some (!t123)) = some r := H
  have A4 := aK A40
  clear A40
  obtain rfl := Option.some.inj H
  simp only [Option.some.injEq, Prod.mk.injEq] at H
  obtain ⟨rfl⟩ := H
  go_enter Tryz.func75, Tryz.ntmps75
  go_wp2_with (first | ((with_reducible refine gate_dst (N := 1) rfl ?_); refine box_event ?hg (N := 1) ?hd (cs := #[.string a0_0, .int .i64 a0_1, .int .i64 a0_2]) (t := 40) ?hr ?_; (case hd => rfl); (case hg => rfl); (case hr => first | (go_simp; done) | (go_simp; rfl)); intro gb121 hg w5 hbox hb; have ⟨n0_, n2_⟩ := zV (w := w) hb hg (by repeat (first | (with_reducible first | exact HB.out | apply yA | apply yN | apply yD) | exact HB.out)); have n1_ := aK (hbox); have n3_ := n2_; clear HB; have HB := n0_; have BK121 := n1_; have GW121 := n2_; have GE121 := n3_; clear n0_ n1_ n2_ n3_; clear hb hbox hg; have hcz6_0 := zI BK121 0 rfl; have hcz6_1 := zI BK121 1 rfl; have hcz6_2 := zI BK121 2 rfl; have hfz6_0 := zF BK121.out 0; have hfz6_1 := zF BK121.out 1; have hfz6_2 := zF BK121.out 2) | ((with_reducible refine gate_callee (f := 73) rfl ?_); refine goesL_ (some 5) rfl rfl Tryz.func73 (by kernel_rfl) rfl #[.int .i64 a0_1, .int .i64 1, .int .i64 1000000] rfl (by (try simp only [List.map_toArray, List.map_cons, List.map_nil]); first | done | rfl | (simp only [List.length_drop, List.length_take]; rfl)) ?_; (with_reducible refine (jobshop_in.calls a0_1 1 1000000 true _ A2.out).mono ?_); rintro e w' ⟨rfl, ⟨nd, rfl⟩⟩; refine ⟨_, rfl, ?_⟩) | (go_at_call 73; (with_reducible refine (jobshop_in.calls a0_2 0 1000000 t123 _ A4.out).mono ?_); rintro e w' ⟨rfl, ⟨nd, rfl⟩⟩))
  go_ret
  exact ⟨by first | rfl | (simp [errW_none, errW_some] <;> rfl) | (simp [*, errW_none, errW_some] <;> rfl), by repeat (first | (with_reducible first | exact HB.out | apply yA | apply yN | apply yD | refine yS ?_ GE121.out) | exact HB.out)⟩
 ·replace c3 := Bool.eq_false_iff.mpr c3
  subst c3
  have H1 : (some true) = some r := by rw [if_neg (show ¬ (false = true) by decide)] at H; exact H
  clear H
  have H := H1
  clear H1
  obtain rfl := Option.some.inj H
  simp only [Option.some.injEq, Prod.mk.injEq] at H
  obtain ⟨rfl⟩ := H
  go_enter Tryz.func75, Tryz.ntmps75
  go_wp2_with (first | ((with_reducible refine gate_dst (N := 1) rfl ?_); refine box_event ?hg (N := 1) ?hd (cs := #[.string a0_0, .int .i64 a0_1, .int .i64 a0_2]) (t := 40) ?hr ?_; (case hd => rfl); (case hg => rfl); (case hr => first | (go_simp; done) | (go_simp; rfl)); intro gb121 hg w7 hbox hb; have ⟨n0_, n2_⟩ := zV (w := w) hb hg (by repeat (first | (with_reducible first | exact HB.out | apply yA | apply yN | apply yD) | exact HB.out)); have n1_ := aK (hbox); have n3_ := n2_; clear HB; have HB := n0_; have BK121 := n1_; have GW121 := n2_; have GE121 := n3_; clear n0_ n1_ n2_ n3_; clear hb hbox hg; have hcz8_0 := zI BK121 0 rfl; have hcz8_1 := zI BK121 1 rfl; have hcz8_2 := zI BK121 2 rfl; have hfz8_0 := zF BK121.out 0; have hfz8_1 := zF BK121.out 1; have hfz8_2 := zF BK121.out 2) | ((with_reducible refine gate_callee (f := 73) rfl ?_); refine goesL_ (some 5) rfl rfl Tryz.func73 (by kernel_rfl) rfl #[.int .i64 a0_1, .int .i64 1, .int .i64 1000000] rfl (by (try simp only [List.map_toArray, List.map_cons, List.map_nil]); first | done | rfl | (simp only [List.length_drop, List.length_take]; rfl)) ?_; (with_reducible refine (jobshop_in.calls a0_1 1 1000000 false _ A2.out).mono ?_); rintro e w' ⟨rfl, ⟨nd, rfl⟩⟩; refine ⟨_, rfl, ?_⟩))
  go_ret
  exact ⟨by first | rfl | (simp [errW_none, errW_some] <;> rfl) | (simp [*, errW_none, errW_some] <;> rfl), by repeat (first | (with_reducible first | exact HB.out | apply yA | apply yN | apply yD | refine yS ?_ GE121.out) | exact HB.out)⟩
theorem jobshop_Check_8.fn  (w : World)  : FnE Tryz.prog k40 vAgg Value.bool (.func (.func 75) #[] #[]) (fun x_ => jobshop_Check_8.f x_.f0 x_.f1 x_.f2) w :=
 ⟨75, _, rfl, enters_of Tryz.func75 (by kernel_rfl) rfl, fun W x cs r hW hk0 h => by
  obtain rfl := k40_open hk0
  exact (jobshop_Check_8.calls (a0_0 := x.f0) (a0_1 := x.f1) (a0_2 := x.f2)  (r := r) (w := W) (h := h)).mono fun e w' ⟨he, hb⟩ => ⟨he, hb⟩⟩

def jobshop_Check_9.f (a0_0 : ByteArray) (l0_1 : List (S40)) (a0_2 : Int) (a0_3 : Int) (a0_4 : Int) : Option (Bool) := some ((l0_1.length : Int) == 0)
set_option maxHeartbeats 8000000 in
set_option maxRecDepth 100000 in
theorem jobshop_Check_9.calls (a0_0 : ByteArray) (A0_1 : Option Addr) (c0_1 : Nat) (l0_1 : List (S40)) (a0_2 : Int) (a0_3 : Int) (a0_4 : Int) (r : Bool) (w : World) (hr0_1 : Kd.C k40 w A0_1 l0_1.length l0_1) (hc0_1 : l0_1.length ≤ c0_1) (h : jobshop_Check_9.f a0_0 l0_1 a0_2 a0_3 a0_4 = some r) :
  Calls Tryz.prog 76 #[.agg #[.string a0_0, .slice A0_1 l0_1.length c0_1, .int .i64 a0_2, .int .i64 a0_3, .int .i64 a0_4]] w fun e w' => e = .returned (.bool r) ∧ Below w.heap.size w w' := by
 have hu38 := Tryz.underlying38
 have HR0_1 := aK hr0_1
 have HC0_1 := aK hc0_1
 clear hr0_1 hc0_1
 have HB := aK (Below.refl w.heap.size w)
 have H : (some ((l0_1.length : Int) == 0)) = some r := h
 clear h
 obtain rfl := Option.some.inj H
 simp only [Option.some.injEq, Prod.mk.injEq] at H
 obtain ⟨rfl⟩ := H
 go_enter Tryz.func76, Tryz.ntmps76
 go_wp2_with (first | ((with_reducible refine gate_dst (N := 1) rfl ?_); refine box_event ?hg (N := 1) ?hd (cs := #[.string a0_0, .slice A0_1 l0_1.length c0_1, .int .i64 a0_2, .int .i64 a0_3, .int .i64 a0_4]) (t := 38) ?hr ?_; (case hd => rfl); (case hg => rfl); (case hr => first | (go_simp; done) | (go_simp; rfl)); intro gb124 hg w2 hbox hb; have ⟨n0_, n2_⟩ := zV (w := w) hb hg (by repeat (first | (with_reducible first | exact HB.out | apply yA | apply yN | apply yD) | exact HB.out)); have n1_ := aK (hbox); have n3_ := n2_; clear HB; have HB := n0_; have BK124 := n1_; have GW124 := n2_; have GE124 := n3_; clear n0_ n1_ n2_ n3_; clear hb hbox hg; have hcz3_0 := zI BK124 0 rfl; have hcz3_1 := zI BK124 1 rfl; have hcz3_2 := zI BK124 2 rfl; have hcz3_3 := zI BK124 3 rfl; have hcz3_4 := zI BK124 4 rfl; have hfz3_0 := zF BK124.out 0; have hfz3_1 := zF BK124.out 1; have hfz3_2 := zF BK124.out 2; have hfz3_3 := zF BK124.out 3; have hfz3_4 := zF BK124.out 4))
 go_ret
 exact ⟨by first | rfl | (simp [errW_none, errW_some] <;> rfl) | (simp [*, errW_none, errW_some] <;> rfl), by repeat (first | (with_reducible first | exact HB.out | apply yA | apply yN | apply yD | refine yS ?_ GE124.out) | exact HB.out)⟩
theorem jobshop_Check_9.fn  (w : World)  : FnE Tryz.prog k38 vAgg Value.bool (.func (.func 76) #[] #[]) (fun x_ => jobshop_Check_9.f x_.f0 x_.f1 x_.f2 x_.f3 x_.f4) w :=
 ⟨76, _, rfl, enters_of Tryz.func76 (by kernel_rfl) rfl, fun W x cs r hW hk0 h => by
  obtain ⟨Z0_1, z0_1, rfl, zl0_1, zg0_1⟩ := k38_open hk0
  exact (jobshop_Check_9.calls (a0_0 := x.f0) (A0_1 := Z0_1) (c0_1 := z0_1) (l0_1 := x.f1) (hr0_1 := zg0_1) (hc0_1 := zl0_1) (a0_2 := x.f2) (a0_3 := x.f3) (a0_4 := x.f4)  (r := r) (w := W) (h := h)).mono fun e w' ⟨he, hb⟩ => ⟨he, hb⟩⟩

def jobshop_Check_10.f (a0_0 : ByteArray) (a0_1 : ByteArray) (a0_2 : Int) : Option (ByteArray) := some a0_0
set_option maxHeartbeats 8000000 in
set_option maxRecDepth 100000 in
theorem jobshop_Check_10.calls (a0_0 : ByteArray) (a0_1 : ByteArray) (a0_2 : Int) (r : ByteArray) (w : World) (h : jobshop_Check_10.f a0_0 a0_1 a0_2 = some r) :
  Calls Tryz.prog 78 #[.agg #[.string a0_0, .string a0_1, .int .i64 a0_2]] w fun e w' => e = .returned (.string r) ∧ Below w.heap.size w w' := by
 have hu42 := Tryz.underlying42
 have HB := aK (Below.refl w.heap.size w)
 have H : (some a0_0) = some r := h
 clear h
 obtain rfl := Option.some.inj H
 simp only [Option.some.injEq, Prod.mk.injEq] at H
 obtain ⟨rfl⟩ := H
 go_enter Tryz.func78, Tryz.ntmps78
 go_wp2_with (first | ((with_reducible refine gate_dst (N := 1) rfl ?_); refine box_event ?hg (N := 1) ?hd (cs := #[.string a0_0, .string a0_1, .int .i64 a0_2]) (t := 42) ?hr ?_; (case hd => rfl); (case hg => rfl); (case hr => first | (go_simp; done) | (go_simp; rfl)); intro gb125 hg w2 hbox hb; have ⟨n0_, n2_⟩ := zV (w := w) hb hg (by repeat (first | (with_reducible first | exact HB.out | apply yA | apply yN | apply yD) | exact HB.out)); have n1_ := aK (hbox); have n3_ := n2_; clear HB; have HB := n0_; have BK125 := n1_; have GW125 := n2_; have GE125 := n3_; clear n0_ n1_ n2_ n3_; clear hb hbox hg; have hcz3_0 := zI BK125 0 rfl; have hcz3_1 := zI BK125 1 rfl; have hcz3_2 := zI BK125 2 rfl; have hfz3_0 := zF BK125.out 0; have hfz3_1 := zF BK125.out 1; have hfz3_2 := zF BK125.out 2))
 go_ret
 exact ⟨by first | rfl | (simp [errW_none, errW_some] <;> rfl) | (simp [*, errW_none, errW_some] <;> rfl), by repeat (first | (with_reducible first | exact HB.out | apply yA | apply yN | apply yD | refine yS ?_ GE125.out) | exact HB.out)⟩
theorem jobshop_Check_10.fn  (w : World)  : FnE Tryz.prog k42 vAgg Value.string (.func (.func 78) #[] #[]) (fun x_ => jobshop_Check_10.f x_.f0 x_.f1 x_.f2) w :=
 ⟨78, _, rfl, enters_of Tryz.func78 (by kernel_rfl) rfl, fun W x cs r hW hk0 h => by
  obtain rfl := k42_open hk0
  exact (jobshop_Check_10.calls (a0_0 := x.f0) (a0_1 := x.f1) (a0_2 := x.f2)  (r := r) (w := W) (h := h)).mono fun e w' ⟨he, hb⟩ => ⟨he, hb⟩⟩

end Go.Proofs.YtkdbcaegeeeiaaaGreat.P
