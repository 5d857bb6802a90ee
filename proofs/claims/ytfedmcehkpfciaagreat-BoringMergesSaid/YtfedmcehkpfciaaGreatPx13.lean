/- What functions of the program return: each contract says so of one function, for every input at which its pure function yields. -/
import Derived.Test.YtfedmcehkpfciaaGreatPx0
import Derived.Test.YtfedmcehkpfciaaGreatPx4
import Derived.Test.YtfedmcehkpfciaaGreatHof
namespace Go.Proofs.YtfedmcehkpfciaaGreat.P
open Go.RowKit Go.Proofs.YtfedmcehkpfciaaGreatW.PrintWords Go.Proofs.YtfedmcehkpfciaaGreatW.PrintLast Go.Proofs.YtfedmcehkpfciaaGreatW.PrintMore
attribute [local go_sem] max2_int min2_int max_two min_two max_three min_three max_four min_four   -- for this text's walks alone
set_option linter.unusedVariables false
set_option linter.unusedSimpArgs false

open Go.Proofs.YtfedmcehkpfciaaGreat.Hof
def boring_in.f (a0 : Int) : Option (Bool) := if a0 ≥ (-1000000) then (some (decide (a0 ≤ 1000000))) else (some false)
set_option maxHeartbeats 8000000 in
set_option maxRecDepth 100000 in
theorem boring_in.calls (a0 : Int) (r : Bool) (w : World) (h : boring_in.f a0 = some r) :
  Calls Tryz.prog 67 #[.int .i64 a0] w fun e w' => e = .returned (.bool r) ∧ Drawn0 w w' := by
 have H : (if a0 ≥ (-1000000) then (some (decide (a0 ≤ 1000000))) else (some false)) = some r := h
 clear h
 by_cases c2 : a0 ≥ (-1000000)
 ·rw [if_pos c2] at H
  have c2b0 : decide ((-1000000) ≤ a0) = true := decide_eq_true c2
  clear c2
  obtain rfl := Option.some.inj H
  simp only [Option.some.injEq, Prod.mk.injEq] at H
  obtain ⟨rfl⟩ := H
  go_enter Tryz.func67, Tryz.ntmps67
  go_wp2
  go_ret
  exact ⟨by first | rfl | (simp; done) | (simp [*]; done), by repeat (first | exact Drawn0.refl _ | apply Drawn0.step)⟩
 rw [if_neg c2] at H
 have c2b0 : decide ((-1000000) ≤ a0) = false := decide_eq_false c2
 clear c2
 obtain rfl := Option.some.inj H
 simp only [Option.some.injEq, Prod.mk.injEq] at H
 obtain ⟨rfl⟩ := H
 go_enter Tryz.func67, Tryz.ntmps67
 go_wp2
 go_ret
 exact ⟨by first | rfl | (simp; done) | (simp [*]; done), by repeat (first | exact Drawn0.refl _ | apply Drawn0.step)⟩

def boring_formed_1_1.f (a0_0 : Int) (a0_1 : Int) (a0_2 : Int) : Option (Bool) := (boring_in.f a0_0).bind fun t164 => (if t164 = true then ((boring_in.f a0_1).bind fun t165 => (some (!t165))) else (some true))
set_option maxHeartbeats 8000000 in
set_option maxRecDepth 100000 in
theorem boring_formed_1_1.calls (a0_0 : Int) (a0_1 : Int) (a0_2 : Int) (r : Bool) (w : World) (h : boring_formed_1_1.f a0_0 a0_1 a0_2 = some r) :
  Calls Tryz.prog 94 #[.agg #[.int .i64 a0_0, .int .i64 a0_1, .int .i64 a0_2]] w fun e w' => e = .returned (.bool r) ∧ Below w.heap.size w w' := by
 have hu48 := Tryz.underlying48
 have HB := aK (Below.refl w.heap.size w)
 have H : ((boring_in.f a0_0).bind fun t164 => (if t164 = true then ((boring_in.f a0_1).bind fun t165 => (some (!t165))) else (some true))) = some r := h
 clear h
 replace H := Option.bind_eq_some_iff.mp H
 obtain ⟨t164, A20, H⟩ := H
 replace H : (if t164 = true then ((boring_in.f a0_1).bind fun t165 => (some (!t165))) else (some true)) = some r := H
 have A2 := aK A20
 clear A20
 by_cases c3 : t164 = true
 rotate_left
 ·replace c3 := Bool.eq_false_iff.mpr c3
  subst c3
  have H1 : (some true) = some r := by rw [if_neg (show ¬ (false = true) by decide)] at H; exact H
  clear H
  have H := H1
  clear H1
  obtain rfl := Option.some.inj H
  simp only [Option.some.injEq, Prod.mk.injEq] at H
  obtain ⟨rfl⟩ := H
  go_enter Tryz.func94, Tryz.ntmps94
  go_wp2_with (first | ((with_reducible refine gate_dst (N := 1) rfl ?_); refine box_event ?hg (N := 1) ?hd (cs := #[.int .i64 a0_0, .int .i64 a0_1, .int .i64 a0_2]) (t := 48) ?hr ?_; (case hd => rfl); (case hg => rfl); (case hr => first | (go_simp; done) | (go_simp; rfl)); intro gb163 hg w7 hbox hb; have ⟨n0_, n2_⟩ := zV (w := w) hb hg (by repeat (first | (with_reducible first | exact HB.out | apply yA | apply yN | apply yD) | exact HB.out)); have n1_ := aK (hbox); have n3_ := n2_; clear HB; have HB := n0_; have BK163 := n1_; have GW163 := n2_; have GE163 := n3_; clear n0_ n1_ n2_ n3_; clear hb hbox hg; have hcz8_0 := zI BK163 0 rfl; have hcz8_1 := zI BK163 1 rfl; have hcz8_2 := zI BK163 2 rfl; have hfz8_0 := zF BK163.out 0; have hfz8_1 := zF BK163.out 1; have hfz8_2 := zF BK163.out 2) | ((with_reducible refine gate_callee (f := 67) rfl ?_); refine goesL_ (some 5) rfl rfl Tryz.func67 (by kernel_rfl) rfl #[.int .i64 a0_0] rfl (by (try simp only [List.map_toArray, List.map_cons, List.map_nil]); first | done | rfl | (simp only [List.length_drop, List.length_take]; rfl)) ?_; (with_reducible refine (boring_in.calls a0_0 false _ A2.out).mono ?_); rintro e w' ⟨rfl, ⟨nd, rfl⟩⟩; refine ⟨_, rfl, ?_⟩))
  go_ret
  exact ⟨rfl, by repeat (first | (with_reducible first | exact HB.out | apply yA | apply yN | apply yD | refine yS ?_ GE163.out) | exact HB.out)⟩
 subst c3
 have H1 : ((boring_in.f a0_1).bind fun t165 => (some (!t165))) = some r := by rw [if_pos rfl] at H; exact H
 clear H
 have H := H1
 clear H1
 replace H := Option.bind_eq_some_iff.mp H
 obtain ⟨t165, A40, H⟩ := H
 replace H : (some (!t165)) = some r := H
 have A4 := aK A40
 clear A40
 obtain rfl := Option.some.inj H
 simp only [Option.some.injEq, Prod.mk.injEq] at H
 obtain ⟨rfl⟩ := H
 go_enter Tryz.func94, Tryz.ntmps94
 go_wp2_with (first | ((with_reducible refine gate_dst (N := 1) rfl ?_); refine box_event ?hg (N := 1) ?hd (cs := #[.int .i64 a0_0, .int .i64 a0_1, .int .i64 a0_2]) (t := 48) ?hr ?_; (case hd => rfl); (case hg => rfl); (case hr => first | (go_simp; done) | (go_simp; rfl)); intro gb163 hg w5 hbox hb; have ⟨n0_, n2_⟩ := zV (w := w) hb hg (by repeat (first | (with_reducible first | exact HB.out | apply yA | apply yN | apply yD) | exact HB.out)); have n1_ := aK (hbox); have n3_ := n2_; clear HB; have HB := n0_; have BK163 := n1_; have GW163 := n2_; have GE163 := n3_; clear n0_ n1_ n2_ n3_; clear hb hbox hg; have hcz6_0 := zI BK163 0 rfl; have hcz6_1 := zI BK163 1 rfl; have hcz6_2 := zI BK163 2 rfl; have hfz6_0 := zF BK163.out 0; have hfz6_1 := zF BK163.out 1; have hfz6_2 := zF BK163.out 2) | ((with_reducible refine gate_callee (f := 67) rfl ?_); refine goesL_ (some 5) rfl rfl Tryz.func67 (by kernel_rfl) rfl #[.int .i64 a0_0] rfl (by (try simp only [List.map_toArray, List.map_cons, List.map_nil]); first | done | rfl | (simp only [List.length_drop, List.length_take]; rfl)) ?_; (with_reducible refine (boring_in.calls a0_0 true _ A2.out).mono ?_); rintro e w' ⟨rfl, ⟨nd, rfl⟩⟩; refine ⟨_, rfl, ?_⟩) | (go_at_call 67; (with_reducible refine (boring_in.calls a0_1 t165 _ A4.out).mono ?_); rintro e w' ⟨rfl, ⟨nd, rfl⟩⟩))
 go_ret
 exact ⟨rfl, by repeat (first | (with_reducible first | exact HB.out | apply yA | apply yN | apply yD | refine yS ?_ GE163.out) | exact HB.out)⟩
theorem boring_formed_1_1.fn  (w : World)  : FnE Tryz.prog k48 vAgg Value.bool (.func (.func 94) #[] #[]) (fun x_ => boring_formed_1_1.f x_.f0 x_.f1 x_.f2) w :=
 ⟨94, _, rfl, enters_of Tryz.func94 (by kernel_rfl) rfl, fun W x cs r hW hk0 h => by
  obtain rfl := k48_open hk0
  exact (boring_formed_1_1.calls (a0_0 := x.f0) (a0_1 := x.f1) (a0_2 := x.f2)  (r := r) (w := W) (h := h)).mono fun e w' ⟨he, hb⟩ => ⟨he, hb⟩⟩

def boring_formed_1.f (a0_0 : ByteArray) (a0_1 : Int) (a0_2 : Int) (l0_3 : List (S48)) : Option (Bool) := (boring_in.f a0_1).bind fun t167 => (if t167 = true then ((boring_in.f a0_2).bind fun t168 => (if t168 = true then ((boring_in.f (wrap64 (a0_1 + 1))).bind fun t169 => (if t169 = true then ((boring_in.f (wrap64 (a0_2 + 1))).bind fun t170 => (if t170 = true then ((boring_some.f a0_0 a0_1 a0_2 l0_3 (fun x_ => boring_formed_1_1.f x_.f0 x_.f1 x_.f2)).bind fun t171 => (some (!t171))) else (some false))) else (some false))) else (some false))) else (some false))
set_option maxHeartbeats 8000000 in
set_option maxRecDepth 100000 in
theorem boring_formed_1.calls (a0_0 : ByteArray) (a0_1 : Int) (a0_2 : Int) (A0_3 : Option Addr) (c0_3 : Nat) (l0_3 : List (S48)) (r : Bool) (w : World) (hr0_3 : Kd.C k48 w A0_3 l0_3.length l0_3) (hc0_3 : l0_3.length ≤ c0_3) (h : boring_formed_1.f a0_0 a0_1 a0_2 l0_3 = some r) :
  Calls Tryz.prog 93 #[.agg #[.string a0_0, .int .i64 a0_1, .int .i64 a0_2, .slice A0_3 l0_3.length c0_3]] w fun e w' => e = .returned (.bool r) ∧ Below w.heap.size w w' := by
 have hu33 := Tryz.underlying33
 have HR0_3 := aK hr0_3
 have HC0_3 := aK hc0_3
 clear hr0_3 hc0_3
 have HB := aK (Below.refl w.heap.size w)
 have H : ((boring_in.f a0_1).bind fun t167 => (if t167 = true then ((boring_in.f a0_2).bind fun t168 => (if t168 = true then ((boring_in.f (wrap64 (a0_1 + 1))).bind fun t169 => (if t169 = true then ((boring_in.f (wrap64 (a0_2 + 1))).bind fun t170 => (if t170 = true then ((boring_some.f a0_0 a0_1 a0_2 l0_3 (fun x_ => boring_formed_1_1.f x_.f0 x_.f1 x_.f2)).bind fun t171 => (some (!t171))) else (some false))) else (some false))) else (some false))) else (some false))) = some r := h
 clear h
 replace H := Option.bind_eq_some_iff.mp H
 obtain ⟨t167, A20, H⟩ := H
 replace H : (if t167 = true then ((boring_in.f a0_2).bind fun t168 => (if t168 = true then ((boring_in.f (wrap64 (a0_1 + 1))).bind fun t169 => (if t169 = true then ((boring_in.f (wrap64 (a0_2 + 1))).bind fun t170 => (if t170 = true then ((boring_some.f a0_0 a0_1 a0_2 l0_3 (fun x_ => boring_formed_1_1.f x_.f0 x_.f1 x_.f2)).bind fun t171 => (some (!t171))) else (some false))) else (some false))) else (some false))) else (some false)) = some r := H
 have A2 := aK A20
 clear A20
 by_cases c3 : t167 = true
 rotate_left
 ·replace c3 := Bool.eq_false_iff.mpr c3
  subst c3
  have H1 : (some false) = some r := by rw [if_neg (show ¬ (false = true) by decide)] at H; exact H
  clear H
  have H := H1
  clear H1
  obtain rfl := Option.some.inj H
  simp only [Option.some.injEq, Prod.mk.injEq] at H
  obtain ⟨rfl⟩ := H
  go_enter Tryz.func93, Tryz.ntmps93
  go_wp2_with (first | ((with_reducible refine gate_dst (N := 1) rfl ?_); refine box_event ?hg (N := 1) ?hd (cs := #[.string a0_0, .int .i64 a0_1, .int .i64 a0_2, .slice A0_3 l0_3.length c0_3]) (t := 33) ?hr ?_; (case hd => rfl); (case hg => rfl); (case hr => first | (go_simp; done) | (go_simp; rfl)); intro gb166 hg w20 hbox hb; have ⟨n0_, n2_⟩ := zV (w := w) hb hg (by repeat (first | (with_reducible first | exact HB.out | apply yA | apply yN | apply yD) | exact HB.out)); have n1_ := aK (hbox); have n3_ := n2_; clear HB; have HB := n0_; have BK166 := n1_; have GW166 := n2_; have GE166 := n3_; clear n0_ n1_ n2_ n3_; clear hb hbox hg; have hcz21_0 := zI BK166 0 rfl; have hcz21_1 := zI BK166 1 rfl; have hcz21_2 := zI BK166 2 rfl; have hcz21_3 := zI BK166 3 rfl; have hfz21_0 := zF BK166.out 0; have hfz21_1 := zF BK166.out 1; have hfz21_2 := zF BK166.out 2; have hfz21_3 := zF BK166.out 3) | ((with_reducible refine gate_callee (f := 67) rfl ?_); refine goesL_ (some 6) rfl rfl Tryz.func67 (by kernel_rfl) rfl #[.int .i64 a0_1] rfl (by (try simp only [List.map_toArray, List.map_cons, List.map_nil]); first | done | rfl | (simp only [List.length_drop, List.length_take]; rfl)) ?_; (with_reducible refine (boring_in.calls a0_1 false _ A2.out).mono ?_); rintro e w' ⟨rfl, ⟨nd, rfl⟩⟩; refine ⟨_, rfl, ?_⟩))
  go_ret
  exact ⟨rfl, by repeat (first | (with_reducible first | exact HB.out | apply yA | apply yN | apply yD | refine yS ?_ GE166.out) | exact HB.out)⟩
 subst c3
 have H1 : ((boring_in.f a0_2).bind fun t168 => (if t168 = true then ((boring_in.f (wrap64 (a0_1 + 1))).bind fun t169 => (if t169 = true then ((boring_in.f (wrap64 (a0_2 + 1))).bind fun t170 => (if t170 = true then ((boring_some.f a0_0 a0_1 a0_2 l0_3 (fun x_ => boring_formed_1_1.f x_.f0 x_.f1 x_.f2)).bind fun t171 => (some (!t171))) else (some false))) else (some false))) else (some false))) = some r := by rw [if_pos rfl] at H; exact H
 clear H
 have H := H1
 clear H1
 replace H := Option.bind_eq_some_iff.mp H
 obtain ⟨t168, A40, H⟩ := H
 replace H : (if t168 = true then ((boring_in.f (wrap64 (a0_1 + 1))).bind fun t169 => (if t169 = true then ((boring_in.f (wrap64 (a0_2 + 1))).bind fun t170 => (if t170 = true then ((boring_some.f a0_0 a0_1 a0_2 l0_3 (fun x_ => boring_formed_1_1.f x_.f0 x_.f1 x_.f2)).bind fun t171 => (some (!t171))) else (some false))) else (some false))) else (some false)) = some r := H
 have A4 := aK A40
 clear A40
 by_cases c5 : t168 = true
 rotate_left
 ·replace c5 := Bool.eq_false_iff.mpr c5
  subst c5
  have H1 : (some false) = some r := by rw [if_neg (show ¬ (false = true) by decide)] at H; exact H
  clear H
  have H := H1
  clear H1
  obtain rfl := Option.some.inj H
  simp only [Option.some.injEq, Prod.mk.injEq] at H
  obtain ⟨rfl⟩ := H
  go_enter Tryz.func93, Tryz.ntmps93
  go_wp2_with (first | ((with_reducible refine gate_dst (N := 1) rfl ?_); refine box_event ?hg (N := 1) ?hd (cs := #[.string a0_0, .int .i64 a0_1, .int .i64 a0_2, .slice A0_3 l0_3.length c0_3]) (t := 33) ?hr ?_; (case hd => rfl); (case hg => rfl); (case hr => first | (go_simp; done) | (go_simp; rfl)); intro gb166 hg w18 hbox hb; have ⟨n0_, n2_⟩ := zV (w := w) hb hg (by repeat (first | (with_reducible first | exact HB.out | apply yA | apply yN | apply yD) | exact HB.out)); have n1_ := aK (hbox); have n3_ := n2_; clear HB; have HB := n0_; have BK166 := n1_; have GW166 := n2_; have GE166 := n3_; clear n0_ n1_ n2_ n3_; clear hb hbox hg; have hcz19_0 := zI BK166 0 rfl; have hcz19_1 := zI BK166 1 rfl; have hcz19_2 := zI BK166 2 rfl; have hcz19_3 := zI BK166 3 rfl; have hfz19_0 := zF BK166.out 0; have hfz19_1 := zF BK166.out 1; have hfz19_2 := zF BK166.out 2; have hfz19_3 := zF BK166.out 3) | ((with_reducible refine gate_callee (f := 67) rfl ?_); refine goesL_ (some 6) rfl rfl Tryz.func67 (by kernel_rfl) rfl #[.int .i64 a0_1] rfl (by (try simp only [List.map_toArray, List.map_cons, List.map_nil]); first | done | rfl | (simp only [List.length_drop, List.length_take]; rfl)) ?_; (with_reducible refine (boring_in.calls a0_1 true _ A2.out).mono ?_); rintro e w' ⟨rfl, ⟨nd, rfl⟩⟩; refine ⟨_, rfl, ?_⟩) | (go_at_call 67; (with_reducible refine (boring_in.calls a0_2 false _ A4.out).mono ?_); rintro e w' ⟨rfl, ⟨nd, rfl⟩⟩))
  go_ret
  exact ⟨rfl, by repeat (first | (with_reducible first | exact HB.out | apply yA | apply yN | apply yD | refine yS ?_ GE166.out) | exact HB.out)⟩
 subst c5
 have H1 : ((boring_in.f (wrap64 (a0_1 + 1))).bind fun t169 => (if t169 = true then ((boring_in.f (wrap64 (a0_2 + 1))).bind fun t170 => (if t170 = true then ((boring_some.f a0_0 a0_1 a0_2 l0_3 (fun x_ => boring_formed_1_1.f x_.f0 x_.f1 x_.f2)).bind fun t171 => (some (!t171))) else (some false))) else (some false))) = some r := by rw [if_pos rfl] at H; exact H
 clear H
 have H := H1
 clear H1
 replace H := Option.bind_eq_some_iff.mp H
 obtain ⟨t169, A60, H⟩ := H
 replace H : (if t169 = true then ((boring_in.f (wrap64 (a0_2 + 1))).bind fun t170 => (if t170 = true then ((boring_some.f a0_0 a0_1 a0_2 l0_3 (fun x_ => boring_formed_1_1.f x_.f0 x_.f1 x_.f2)).bind fun t171 => (some (!t171))) else (some false))) else (some false)) = some r := H
 have A6 := aK A60
 clear A60
 by_cases c7 : t169 = true
 rotate_left
 ·replace c7 := Bool.eq_false_iff.mpr c7
  subst c7
  have H1 : (some false) = some r := by rw [if_neg (show ¬ (false = true) by decide)] at H; exact H
  clear H
  have H := H1
  clear H1
  obtain rfl := Option.some.inj H
  simp only [Option.some.injEq, Prod.mk.injEq] at H
  obtain ⟨rfl⟩ := H
  go_enter Tryz.func93, Tryz.ntmps93
  go_wp2_with (first | ((with_reducible refine gate_dst (N := 1) rfl ?_); refine box_event ?hg (N := 1) ?hd (cs := #[.string a0_0, .int .i64 a0_1, .int .i64 a0_2, .slice A0_3 l0_3.length c0_3]) (t := 33) ?hr ?_; (case hd => rfl); (case hg => rfl); (case hr => first | (go_simp; done) | (go_simp; rfl)); intro gb166 hg w16 hbox hb; have ⟨n0_, n2_⟩ := zV (w := w) hb hg (by repeat (first | (with_reducible first | exact HB.out | apply yA | apply yN | apply yD) | exact HB.out)); have n1_ := aK (hbox); have n3_ := n2_; clear HB; have HB := n0_; have BK166 := n1_; have GW166 := n2_; have GE166 := n3_; clear n0_ n1_ n2_ n3_; clear hb hbox hg; have hcz17_0 := zI BK166 0 rfl; have hcz17_1 := zI BK166 1 rfl; have hcz17_2 := zI BK166 2 rfl; have hcz17_3 := zI BK166 3 rfl; have hfz17_0 := zF BK166.out 0; have hfz17_1 := zF BK166.out 1; have hfz17_2 := zF BK166.out 2; have hfz17_3 := zF BK166.out 3) | ((with_reducible refine gate_callee (f := 67) rfl ?_); refine goesL_ (some 6) rfl rfl Tryz.func67 (by kernel_rfl) rfl #[.int .i64 a0_1] rfl (by (try simp only [List.map_toArray, List.map_cons, List.map_nil]); first | done | rfl | (simp only [List.length_drop, List.length_take]; rfl)) ?_; (with_reducible refine (boring_in.calls a0_1 true _ A2.out).mono ?_); rintro e w' ⟨rfl, ⟨nd, rfl⟩⟩; refine ⟨_, rfl, ?_⟩) | (go_at_call 67; (with_reducible refine (boring_in.calls a0_2 true _ A4.out).mono ?_); rintro e w' ⟨rfl, ⟨nd, rfl⟩⟩) | (go_at_call 67; (with_reducible refine (boring_in.calls (wrap64 (a0_1 + 1)) false _ A6.out).mono ?_); rintro e w' ⟨rfl, ⟨nd, rfl⟩⟩))
  go_ret
  exact ⟨rfl, by repeat (first | (with_reducible first | exact HB.out | apply yA | apply yN | apply yD | refine yS ?_ GE166.out) | exact HB.out)⟩
 subst c7
 have H1 : ((boring_in.f (wrap64 (a0_2 + 1))).bind fun t170 => (if t170 = true then ((boring_some.f a0_0 a0_1 a0_2 l0_3 (fun x_ => boring_formed_1_1.f x_.f0 x_.f1 x_.f2)).bind fun t171 => (some (!t171))) else (some false))) = some r := by rw [if_pos rfl] at H; exact H
 clear H
 have H := H1
 clear H1
 replace H := Option.bind_eq_some_iff.mp H
 obtain ⟨t170, A80, H⟩ := H
 replace H : (if t170 = true then ((boring_some.f a0_0 a0_1 a0_2 l0_3 (fun x_ => boring_formed_1_1.f x_.f0 x_.f1 x_.f2)).bind fun t171 => (some (!t171))) else (some false)) = some r := H
 have A8 := aK A80
 clear A80
 by_cases c9 : t170 = true
 rotate_left
 ·replace c9 := Bool.eq_false_iff.mpr c9
  subst c9
  have H1 : (some false) = some r := by rw [if_neg (show ¬ (false = true) by decide)] at H; exact H
  clear H
  have H := H1
  clear H1
  obtain rfl := Option.some.inj H
  simp only [Option.some.injEq, Prod.mk.injEq] at H
  obtain ⟨rfl⟩ := H
  go_enter Tryz.func93, Tryz.ntmps93
  go_wp2_with (first | ((with_reducible refine gate_dst (N := 1) rfl ?_); refine box_event ?hg (N := 1) ?hd (cs := #[.string a0_0, .int .i64 a0_1, .int .i64 a0_2, .slice A0_3 l0_3.length c0_3]) (t := 33) ?hr ?_; (case hd => rfl); (case hg => rfl); (case hr => first | (go_simp; done) | (go_simp; rfl)); intro gb166 hg w14 hbox hb; have ⟨n0_, n2_⟩ := zV (w := w) hb hg (by repeat (first | (with_reducible first | exact HB.out | apply yA | apply yN | apply yD) | exact HB.out)); have n1_ := aK (hbox); have n3_ := n2_; clear HB; have HB := n0_; have BK166 := n1_; have GW166 := n2_; have GE166 := n3_; clear n0_ n1_ n2_ n3_; clear hb hbox hg; have hcz15_0 := zI BK166 0 rfl; have hcz15_1 := zI BK166 1 rfl; have hcz15_2 := zI BK166 2 rfl; have hcz15_3 := zI BK166 3 rfl; have hfz15_0 := zF BK166.out 0; have hfz15_1 := zF BK166.out 1; have hfz15_2 := zF BK166.out 2; have hfz15_3 := zF BK166.out 3) | ((with_reducible refine gate_callee (f := 67) rfl ?_); refine goesL_ (some 6) rfl rfl Tryz.func67 (by kernel_rfl) rfl #[.int .i64 a0_1] rfl (by (try simp only [List.map_toArray, List.map_cons, List.map_nil]); first | done | rfl | (simp only [List.length_drop, List.length_take]; rfl)) ?_; (with_reducible refine (boring_in.calls a0_1 true _ A2.out).mono ?_); rintro e w' ⟨rfl, ⟨nd, rfl⟩⟩; refine ⟨_, rfl, ?_⟩) | (go_at_call 67; (with_reducible refine (boring_in.calls a0_2 true _ A4.out).mono ?_); rintro e w' ⟨rfl, ⟨nd, rfl⟩⟩) | (go_at_call 67; (with_reducible refine (boring_in.calls (wrap64 (a0_1 + 1)) true _ A6.out).mono ?_); rintro e w' ⟨rfl, ⟨nd, rfl⟩⟩) | (go_at_call 67; (with_reducible refine (boring_in.calls (wrap64 (a0_2 + 1)) false _ A8.out).mono ?_); rintro e w' ⟨rfl, ⟨nd, rfl⟩⟩))
  go_ret
  exact ⟨rfl, by repeat (first | (with_reducible first | exact HB.out | apply yA | apply yN | apply yD | refine yS ?_ GE166.out) | exact HB.out)⟩
 subst c9
 have H1 : ((boring_some.f a0_0 a0_1 a0_2 l0_3 (fun x_ => boring_formed_1_1.f x_.f0 x_.f1 x_.f2)).bind fun t171 => (some (!t171))) = some r := by rw [if_pos rfl] at H; exact H
 clear H
 have H := H1
 clear H1
 replace H := Option.bind_eq_some_iff.mp H
 obtain ⟨t171, A100, H⟩ := H
 replace H : (some (!t171)) = some r := H
 have A10 := aK A100
 clear A100
 obtain rfl := Option.some.inj H
 simp only [Option.some.injEq, Prod.mk.injEq] at H
 obtain ⟨rfl⟩ := H
 go_enter Tryz.func93, Tryz.ntmps93
 go_wp2_with (first | ((with_reducible refine gate_dst (N := 1) rfl ?_); refine box_event ?hg (N := 1) ?hd (cs := #[.string a0_0, .int .i64 a0_1, .int .i64 a0_2, .slice A0_3 l0_3.length c0_3]) (t := 33) ?hr ?_; (case hd => rfl); (case hg => rfl); (case hr => first | (go_simp; done) | (go_simp; rfl)); intro gb166 hg w11 hbox hb; have ⟨n0_, n2_⟩ := zV (w := w) hb hg (by repeat (first | (with_reducible first | exact HB.out | apply yA | apply yN | apply yD) | exact HB.out)); have n1_ := aK (hbox); have n3_ := n2_; clear HB; have HB := n0_; have BK166 := n1_; have GW166 := n2_; have GE166 := n3_; clear n0_ n1_ n2_ n3_; clear hb hbox hg; have hcz12_0 := zI BK166 0 rfl; have hcz12_1 := zI BK166 1 rfl; have hcz12_2 := zI BK166 2 rfl; have hcz12_3 := zI BK166 3 rfl; have hfz12_0 := zF BK166.out 0; have hfz12_1 := zF BK166.out 1; have hfz12_2 := zF BK166.out 2; have hfz12_3 := zF BK166.out 3) | ((with_reducible refine gate_callee (f := 67) rfl ?_); refine goesL_ (some 6) rfl rfl Tryz.func67 (by kernel_rfl) rfl #[.int .i64 a0_1] rfl (by (try simp only [List.map_toArray, List.map_cons, List.map_nil]); first | done | rfl | (simp only [List.length_drop, List.length_take]; rfl)) ?_; (with_reducible refine (boring_in.calls a0_1 true _ A2.out).mono ?_); rintro e w' ⟨rfl, ⟨nd, rfl⟩⟩; refine ⟨_, rfl, ?_⟩) | (go_at_call 67; (with_reducible refine (boring_in.calls a0_2 true _ A4.out).mono ?_); rintro e w' ⟨rfl, ⟨nd, rfl⟩⟩) | (go_at_call 67; (with_reducible refine (boring_in.calls (wrap64 (a0_1 + 1)) true _ A6.out).mono ?_); rintro e w' ⟨rfl, ⟨nd, rfl⟩⟩) | (go_at_call 67; (with_reducible refine (boring_in.calls (wrap64 (a0_2 + 1)) true _ A8.out).mono ?_); rintro e w' ⟨rfl, ⟨nd, rfl⟩⟩) | (go_at_call 53; (with_reducible refine (boring_some.calls a0_0 a0_1 a0_2 _ _ l0_3 (.func (.func 94) #[] #[]) (fun x_ => boring_formed_1_1.f x_.f0 x_.f1 x_.f2) t171 _ ?side1 ?side2 ?side3 A10.out).mono ?_); (case side1 => repeat (first | exact (Kd.C_below HR0_3.out (by repeat (first | (with_reducible first | exact HB.out | apply yA | apply yN | apply yD | refine yS ?_ GE166.out) | exact HB.out))) | (with_reducible refine Kd.C_alloc ?_ _) | (with_reducible refine Kd.C_drewN ?_ _) | (with_reducible refine Kd.C_drew ?_))); (case side2 => exact HC0_3.out); (case side3 => exact boring_formed_1_1.fn   _ ); rintro e w13 ⟨rfl, hb⟩; have n0_ := aK (zB (g := gb166) (o := .cells #[.string a0_0, .int .i64 a0_1, .int .i64 a0_2, .slice A0_3 l0_3.length c0_3] 33 (0, 0)) (by exact BK166.out) hb); have n1_ := aK (yT (by repeat (first | (with_reducible first | exact HB.out | apply yA | apply yN | apply yD | refine yS ?_ GE166.out) | exact HB.out)) hb); clear BK166; clear HB; have BK166 := n0_; have HB := n1_; clear n0_ n1_; (try clear hb)))
 go_ret
 exact ⟨rfl, HB.out⟩
def boring_joined.l0 : Nat → List (S48) → List (S48) → Int → Int → Option ((List (S48)))
 | 0, _, _, _, _ => none
 | k + 1, x3, x7, x8, x9 => if x9 < x8 then (if 0 ≤ x9 then (if x9 < (x7.length : Int) then (if (x3.length : Int) > 0 then (if 0 ≤ (wrap64 ((x3.length : Int) - 1)) then (if (wrap64 ((x3.length : Int) - 1)) < (x3.length : Int) then (if ((rd_T48 x3 (wrap64 ((x3.length : Int) - 1))).f1) = ((rd_T48 x7 x9).f0) then (if ((rd_T48 x3 (wrap64 ((x3.length : Int) - 1))).f2) = ((rd_T48 x7 x9).f2) then (boring_joined.l0 k (x3.set ((wrap64 ((x3.length : Int) - 1)) : Int).toNat (⟨(rd_T48 x3 (wrap64 ((x3.length : Int) - 1))).f0, (rd_T48 x7 x9).f1, (rd_T48 x3 (wrap64 ((x3.length : Int) - 1))).f2⟩ : S48)) x7 x8 (wrap64 (x9 + 1))) else (if x3.length < 5864062014805 then (boring_joined.l0 k (x3 ++ [(⟨(rd_T48 x7 x9).f0, (rd_T48 x7 x9).f1, (rd_T48 x7 x9).f2⟩ : S48)]) x7 x8 (wrap64 (x9 + 1))) else (none))) else (if x3.length < 5864062014805 then (boring_joined.l0 k (x3 ++ [(⟨(rd_T48 x7 x9).f0, (rd_T48 x7 x9).f1, (rd_T48 x7 x9).f2⟩ : S48)]) x7 x8 (wrap64 (x9 + 1))) else (none))) else (none)) else (none)) else (if x3.length < 5864062014805 then (boring_joined.l0 k (x3 ++ [(⟨(rd_T48 x7 x9).f0, (rd_T48 x7 x9).f1, (rd_T48 x7 x9).f2⟩ : S48)]) x7 x8 (wrap64 (x9 + 1))) else (none))) else (none)) else (none)) else (some x3)
def boring_joined.f (k : Nat) (l0 : List (S48)) : Option ((List (S48))) := boring_joined.l0 k ([] : List (S48)) l0 (l0.length : Int) 0
theorem boring_joined.mono_l : ∀ k, (∀ y0 y1 y2 y3, LeO (boring_joined.l0 k y0 y1 y2 y3) (boring_joined.l0 (k + 1) y0 y1 y2 y3))
 | 0 => fun _ _ _ _ r h => by simp [boring_joined.l0] at h
 | k + 1 => by
  have ih0 := boring_joined.mono_l k
  ·intro y0 y1 y2 y3
   unfold boring_joined.l0
   repeat' first
   | (with_reducible exact ih0 _ _ _ _)
   | (with_reducible exact LeO.refl _)
   | (with_reducible exact LeO.none _)
   | (with_reducible refine LeO.ite ?_ ?_)
   | (with_reducible refine LeO.bind ?_ (fun _ => ?_))
   | exact ih0 _ _ _ _
   | exact LeO.none _
   | refine LeO.ite ?_ ?_
   | refine LeO.bind ?_ (fun _ => ?_)
theorem boring_joined.mono : ∀ a0 k, LeO (boring_joined.f k a0) (boring_joined.f (k + 1) a0) := by
 intro a0 k
 have ih0 := boring_joined.mono_l k
 unfold boring_joined.f
 repeat' first
   | (with_reducible exact ih0 _ _ _ _)
   | (with_reducible exact LeO.refl _)
   | (with_reducible exact LeO.none _)
   | (with_reducible refine LeO.ite ?_ ?_)
   | (with_reducible refine LeO.bind ?_ (fun _ => ?_))
   | exact ih0 _ _ _ _
   | exact LeO.none _
   | refine LeO.ite ?_ ?_
   | refine LeO.bind ?_ (fun _ => ?_)
set_option maxHeartbeats 8000000 in
set_option maxRecDepth 100000 in
theorem boring_joined.calls (k : Nat) (A0 : Option Addr) (c0 : Nat) (l0 : List (S48)) (r : List (S48)) (w : World) (hr0 : Kd.C k48 w A0 l0.length l0) (hc0 : l0.length ≤ c0) (h : boring_joined.f k l0 = some r) :
  Calls Tryz.prog 47 #[.slice A0 l0.length c0] w fun e w' => ∃ v0_ : Value, e = .returned (v0_) ∧ Kd.R k48 48 w' w.heap.size (fun _ => True) v0_ r ∧ Below w.heap.size w w' := by
 have hu48 := Tryz.underlying48
 have HR0 := aK hr0
 have HC0 := aK hc0
 clear hr0 hc0
 have HB := aK (Below.refl w.heap.size w)
 have H : (boring_joined.l0 k ([] : List (S48)) l0 (l0.length : Int) 0) = some r := h
 clear h
 have H' := aK H
 clear H
 go_enter Tryz.func47, Tryz.ntmps47
 go_wp2
 go_loopg [3, 9] k (fun kq v3 v9 w' => ∃ (x3_1 : List (S48)) (x9_1 : Int), v9 = .int .i64 x9_1 ∧ Aside0 (boring_joined.l0 kq x3_1 l0 (l0.length : Int) x9_1 = some r) ∧ Aside0 (kq ≤ k) ∧ Aside0 (Kd.R k48 48 w' w.heap.size (fun _ => True) v3 x3_1) ∧ Aside0 (Below w.heap.size w w'))
 case atStart => exact ⟨(([] : List (S48))), (0), (by first | rfl | (simp; done) | (simp [*]; done)), H', ⟨Nat.le_refl _⟩, ⟨by first | exact Kd.R_nil _ _ _ _ _ | exact Kd.N_nil _ _ _ _ _ | exact Kd.V_nil _ _ _ _ _ | exact Kd.Q_nil _ _ _ _ _ | exact Kd.S_nil _ _ _ _ _⟩, ⟨HB.out⟩⟩
 case round =>
  clear H'
  obtain ⟨x3_1, x9_1, rfl, HA, HK1, HO_3, HB⟩ := hrel
  cases gk with
  | zero => exact absurd HA.out (by simp [boring_joined.l0])
  | succ k1 =>
   have H := HA.out
   clear HA
   simp only [boring_joined.l0] at H
   by_cases c2 : x9_1 < (l0.length : Int)
   rotate_left
   ·rw [if_neg c2] at H
    have c2b0 : decide (x9_1 < (l0.length : Int)) = false := decide_eq_false c2
    clear c2
    obtain rfl := Option.some.inj H
    simp only [Option.some.injEq, Prod.mk.injEq] at H
    obtain ⟨rfl⟩ := H
    go_wp2
    go_ret
    exact ⟨_, rfl, HO_3.out, HB.out⟩
   rw [if_pos c2] at H
   have c2b0 : decide (x9_1 < (l0.length : Int)) = true := decide_eq_true c2
   clear c2
   by_cases c3 : 0 ≤ x9_1
   rotate_left
   ·rw [if_neg c3] at H
    exact absurd H (by simp)
   rw [if_pos c3] at H
   have c3b0 : decide (0 ≤ x9_1) = true := decide_eq_true c3
   clear c3
   by_cases c4 : x9_1 < (l0.length : Int)
   rotate_left
   ·rw [if_neg c4] at H
    exact absurd H (by simp)
   rw [if_pos c4] at H
   have c4b0 : decide (x9_1 < (l0.length : Int)) = true := decide_eq_true c4
   clear c4
   by_cases c5 : (x3_1.length : Int) > 0
   rotate_left
   ·rw [if_neg c5] at H
    have c5b0 : decide (0 < (x3_1.length : Int)) = false := decide_eq_false c5
    have c5b1 : decide (0 < x3_1.length) = false := decide_eq_false (by omega)
    clear c5
    by_cases c29 : x3_1.length < 5864062014805
    rotate_left
    ·rw [if_neg c29] at H
     exact absurd H (by simp)
    rw [if_pos c29] at H
    have LMc29 := aK c29
    clear c29
    obtain ⟨y183, hy183⟩ : ∃ y_ : List (S48), y_ = (x3_1 ++ [(⟨(rd_T48 l0 x9_1).f0, (rd_T48 l0 x9_1).f1, (rd_T48 l0 x9_1).f2⟩ : S48)]) := ⟨_, rfl⟩
    replace H : (boring_joined.l0 k1 y183 l0 (l0.length : Int) (wrap64 (x9_1 + 1))) = some r := by first | (rw [hy183]; with_reducible exact H) | (have H2_ := (Option.bind_some _ _).symm.trans H; rw [hy183]; with_reducible exact H2_) | (have H2_ := (Option.bind_some _ _).symm.trans H; with_reducible exact H2_) | with_reducible exact H | (rw [hy183]; exact H) | exact H
    have Ny183 := aK hy183
    clear hy183
    have H' := aK H
    clear H
    have p172 : 0 ≤ (x9_1 : Int) := of_decide_eq_true (by assumption)
    have q172 : x9_1 < (l0.length : Int) := of_decide_eq_true (by assumption)
    obtain ⟨ad172, e172, hx172_0, hx172_1, hx172_2⟩ := at_T48 HR0.out x9_1 p172 q172
    cases e172
    replace hx172_0 := (HB.out.cell (World.block_lt_of_cell? w _ hx172_0)).trans hx172_0
    replace hx172_1 := (HB.out.cell (World.block_lt_of_cell? w _ hx172_1)).trans hx172_1
    replace hx172_2 := (HB.out.cell (World.block_lt_of_cell? w _ hx172_2)).trans hx172_2
    replace p172 := eq_true p172
    replace q172 := eq_true q172
    iterate 10 (first | go_quiet (fail) | go_wp2_with (first | ((with_reducible refine gate_dst (N := 5) rfl ?_); refine box_event ?hg (N := 5) ?hd (cs := #[.int .i64 0, .int .i64 0, .int .i64 0]) (t := 48) ?hr ?_; (case hd => rfl); (case hg => rfl); (case hr => first | (go_simp; done) | (go_simp; rfl)); intro gb173 hg w30 hbox hb; have n0_ := aK (Kd.R_below (Kd.R_elderB (HO_3.out) gb173 (Nat.le_of_eq hg.symm)) hb); have ⟨n1_, n3_⟩ := zV (w := w) hb hg (by repeat (first | (with_reducible first | exact HB.out | apply yA | apply yN | apply yD) | exact HB.out)); have n2_ := aK (hbox); have n4_ := n3_; clear HO_3; clear HB; have HO_3 := n0_; have HB := n1_; have BK173 := n2_; have GW173 := n3_; have GE173 := n4_; clear n0_ n1_ n2_ n3_ n4_; clear hb hbox hg; have hcz31_0 := zI BK173 0 rfl; have hcz31_1 := zI BK173 1 rfl; have hcz31_2 := zI BK173 2 rfl; have hfz31_0 := zF BK173.out 0; have hfz31_1 := zF BK173.out 1; have hfz31_2 := zF BK173.out 2; obtain ⟨Ao32, co32, eo32⟩ := Kd.R_slice HO_3.out; subst eo32) | ((with_reducible refine gate_builtin (b := .append) (xs := #[.tmp 46, .tmp 48]) rfl ?_); at_builtin; refine Kd.R_append k48 (w0 := w) w.heap.size rfl (.tmp 46) (.tmp 48) 31 48 (.agg #[(.int .i64 0), (.int .i64 0), (.int .i64 0)]) 24 rfl Tryz.underlying31 info48 rfl (by decide) (by omega) (.slice Ao32 x3_1.length co32) x3_1 (⟨(rd_T48 l0 x9_1).f0, (rd_T48 l0 x9_1).f1, (rd_T48 l0 x9_1).f2⟩ : S48) [.int .i64 ((rd_T48 l0 x9_1).f0), .int .i64 ((rd_T48 l0 x9_1).f1), .int .i64 ((rd_T48 l0 x9_1).f2)] (fun k_ => k_ ≠ gb173) (fun _ => False) rfl (by first | (go_simp; done) | (go_simp; rfl)) ?aP (fun _ hk => hk.elim) ?aF ?aO ?aB ?aS ?aL ?_; (case aP => exact k48_mkM _ _ _ (⟨(rd_T48 l0 x9_1).f0, (rd_T48 l0 x9_1).f1, (rd_T48 l0 x9_1).f2⟩ : S48)); (case aB => exact (by repeat (first | (with_reducible first | exact HB.out | apply yA | apply yN | apply yD | refine yS ?_ GE173.out) | exact HB.out))); (case aF => exact (fun k_ hk => Kd.freshB (g := gb173) (o := .cells #[.int .i64 ((rd_T48 l0 x9_1).f0), .int .i64 ((rd_T48 l0 x9_1).f1), .int .i64 ((rd_T48 l0 x9_1).f2)] 48 (0, 0)) (by refine blk_put (cs := #[.int .i64 ((rd_T48 l0 x9_1).f0), .int .i64 ((rd_T48 l0 x9_1).f1), .int .i64 0]) ?_ 2 _ rfl; refine blk_put (cs := #[.int .i64 ((rd_T48 l0 x9_1).f0), .int .i64 0, .int .i64 0]) ?_ 1 _ rfl; refine blk_put (cs := #[.int .i64 0, .int .i64 0, .int .i64 0]) ?_ 0 _ rfl; exact BK173.out) k_ hk)); (case aO => exact (by (with_reducible repeat (first | apply Kd.R_alloc | apply Kd.R_drewN | apply Kd.R_drew)); exact Kd.R_mono (Kd.R_far (p := ⟨gb173, 2, none⟩) (Kd.R_far (p := ⟨gb173, 1, none⟩) (Kd.R_far (p := ⟨gb173, 0, none⟩) (Kd.R_mono HO_3.out (fun k_ hk => (⟨hk, hk.2⟩ : _ ∧ k_ ≠ gb173))) (fun _ hk => hk.2) (.int .i64 ((rd_T48 l0 x9_1).f0))) (fun _ hk => hk.2) (.int .i64 ((rd_T48 l0 x9_1).f1))) (fun _ hk => hk.2) (.int .i64 ((rd_T48 l0 x9_1).f2))) (fun _ hk => hk.1.2))); (case aS => exact (yZ (by repeat (first | (with_reducible first | exact HB.out | apply yA | apply yN | apply yD | refine yS ?_ GE173.out) | exact HB.out)))); (case aL => have := LMc29.out; omega); intro v184 w33 ho hb hg hat; rw [← Ny183.out] at ho; have n0_ := aK (blk_grown (g := gb173) (o := .cells #[.int .i64 ((rd_T48 l0 x9_1).f0), .int .i64 ((rd_T48 l0 x9_1).f1), .int .i64 ((rd_T48 l0 x9_1).f2)] 48 (0, 0)) (by refine blk_put (cs := #[.int .i64 ((rd_T48 l0 x9_1).f0), .int .i64 ((rd_T48 l0 x9_1).f1), .int .i64 0]) ?_ 2 _ rfl; refine blk_put (cs := #[.int .i64 ((rd_T48 l0 x9_1).f0), .int .i64 0, .int .i64 0]) ?_ 1 _ rfl; refine blk_put (cs := #[.int .i64 0, .int .i64 0, .int .i64 0]) ?_ 0 _ rfl; exact BK173.out) hg (Kd.R_away HO_3.out (fun _ hk => hk.2))); have n1_ := aK (hb); have n2_ := aK (ho); clear BK173; clear HB; clear HO_3; have BK173 := n0_; have HB := n1_; have HO185 := n2_; clear n0_ n1_ n2_; clear ho hb hg hat)) | skip)
    go_roundg k1
    case measure => have := HK1.out; omega
    case rel => exact ⟨(y183), (wrap64 (x9_1 + 1)), (by first | rfl | (simp; done) | (simp [*]; done)), H', ⟨by have := HK1.out; omega⟩, ⟨by (with_reducible repeat (first | apply Kd.R_alloc | apply Kd.R_drewN | apply Kd.R_drew)); exact Kd.R_mono HO185.out (fun _ hk => trivial)⟩, ⟨HB.out⟩⟩
   rw [if_pos c5] at H
   have c5b0 : decide (0 < (x3_1.length : Int)) = true := decide_eq_true c5
   have c5b1 : decide (0 < x3_1.length) = true := decide_eq_true (by omega)
   clear c5
   obtain ⟨ji6, hji6⟩ : ∃ j_ : Int, (wrap64 ((x3_1.length : Int) - 1)) = j_ := ⟨_, rfl⟩
   replace H : (if 0 ≤ (ji6) then (if (ji6) < (x3_1.length : Int) then (if ((rd_T48 x3_1 (ji6)).f1) = ((rd_T48 l0 x9_1).f0) then (if ((rd_T48 x3_1 (ji6)).f2) = ((rd_T48 l0 x9_1).f2) then (boring_joined.l0 k1 (x3_1.set ((ji6) : Int).toNat (⟨(rd_T48 x3_1 (ji6)).f0, (rd_T48 l0 x9_1).f1, (rd_T48 x3_1 (ji6)).f2⟩ : S48)) l0 (l0.length : Int) (wrap64 (x9_1 + 1))) else (if x3_1.length < 5864062014805 then (boring_joined.l0 k1 (x3_1 ++ [(⟨(rd_T48 l0 x9_1).f0, (rd_T48 l0 x9_1).f1, (rd_T48 l0 x9_1).f2⟩ : S48)]) l0 (l0.length : Int) (wrap64 (x9_1 + 1))) else (none))) else (if x3_1.length < 5864062014805 then (boring_joined.l0 k1 (x3_1 ++ [(⟨(rd_T48 l0 x9_1).f0, (rd_T48 l0 x9_1).f1, (rd_T48 l0 x9_1).f2⟩ : S48)]) l0 (l0.length : Int) (wrap64 (x9_1 + 1))) else (none))) else (none)) else (none)) = some r := by first | (rw [hji6] at H; exact H) | (simp only [hji6] at H ⊢; exact H)
   have hji6w : (IntKind.i64.wrap ((x3_1.length : Int) - 1)) = ji6 := (i64_w _).trans hji6
   by_cases c7 : 0 ≤ (ji6)
   rotate_left
   ·rw [if_neg c7] at H
    exact absurd H (by simp)
   rw [if_pos c7] at H
   have c7b0 : decide (0 ≤ (ji6)) = true := decide_eq_true c7
   clear c7
   by_cases c8 : (ji6) < (x3_1.length : Int)
   rotate_left
   ·rw [if_neg c8] at H
    exact absurd H (by simp)
   rw [if_pos c8] at H
   have c8b0 : decide ((ji6) < (x3_1.length : Int)) = true := decide_eq_true c8
   clear c8
   by_cases c9 : ((rd_T48 x3_1 (ji6)).f1) = ((rd_T48 l0 x9_1).f0)
   rotate_left
   ·rw [if_neg c9] at H
    have c9b0 : (((rd_T48 x3_1 (ji6)).f1) == ((rd_T48 l0 x9_1).f0)) = false := beq_eq_false_iff_ne.mpr c9
    have c9b1 : (((rd_T48 x3_1 (ji6)).f1) != ((rd_T48 l0 x9_1).f0)) = true := bne_iff_ne.mpr c9
    by_cases c24 : x3_1.length < 5864062014805
    rotate_left
    ·rw [if_neg c24] at H
     exact absurd H (by simp)
    rw [if_pos c24] at H
    have LMc24 := aK c24
    clear c24
    obtain ⟨y180, hy180⟩ : ∃ y_ : List (S48), y_ = (x3_1 ++ [(⟨(rd_T48 l0 x9_1).f0, (rd_T48 l0 x9_1).f1, (rd_T48 l0 x9_1).f2⟩ : S48)]) := ⟨_, rfl⟩
    replace H : (boring_joined.l0 k1 y180 l0 (l0.length : Int) (wrap64 (x9_1 + 1))) = some r := by first | (rw [hy180]; with_reducible exact H) | (have H2_ := (Option.bind_some _ _).symm.trans H; rw [hy180]; with_reducible exact H2_) | (have H2_ := (Option.bind_some _ _).symm.trans H; with_reducible exact H2_) | with_reducible exact H | (rw [hy180]; exact H) | exact H
    have Ny180 := aK hy180
    clear hy180
    have H' := aK H
    clear H
    have p172 : 0 ≤ (x9_1 : Int) := of_decide_eq_true (by assumption)
    have q172 : x9_1 < (l0.length : Int) := of_decide_eq_true (by assumption)
    obtain ⟨ad172, e172, hx172_0, hx172_1, hx172_2⟩ := at_T48 HR0.out x9_1 p172 q172
    cases e172
    replace hx172_0 := (HB.out.cell (World.block_lt_of_cell? w _ hx172_0)).trans hx172_0
    replace hx172_1 := (HB.out.cell (World.block_lt_of_cell? w _ hx172_1)).trans hx172_1
    replace hx172_2 := (HB.out.cell (World.block_lt_of_cell? w _ hx172_2)).trans hx172_2
    replace p172 := eq_true p172
    replace q172 := eq_true q172
    iterate 10 (first | go_quiet (fail) | go_wp2_with (first | ((with_reducible refine gate_dst (N := 5) rfl ?_); refine box_event ?hg (N := 5) ?hd (cs := #[.int .i64 0, .int .i64 0, .int .i64 0]) (t := 48) ?hr ?_; (case hd => rfl); (case hg => rfl); (case hr => first | (go_simp; done) | (go_simp; rfl)); intro gb173 hg w25 hbox hb; have n0_ := aK (Kd.R_below (Kd.R_elderB (HO_3.out) gb173 (Nat.le_of_eq hg.symm)) hb); have ⟨n1_, n3_⟩ := zV (w := w) hb hg (by repeat (first | (with_reducible first | exact HB.out | apply yA | apply yN | apply yD) | exact HB.out)); have n2_ := aK (hbox); have n4_ := n3_; clear HO_3; clear HB; have HO_3 := n0_; have HB := n1_; have BK173 := n2_; have GW173 := n3_; have GE173 := n4_; clear n0_ n1_ n2_ n3_ n4_; clear hb hbox hg; have hcz26_0 := zI BK173 0 rfl; have hcz26_1 := zI BK173 1 rfl; have hcz26_2 := zI BK173 2 rfl; have hfz26_0 := zF BK173.out 0; have hfz26_1 := zF BK173.out 1; have hfz26_2 := zF BK173.out 2; obtain ⟨Ao27, co27, eo27⟩ := Kd.R_slice HO_3.out; subst eo27; have p174 : 0 ≤ ((ji6) : Int) := of_decide_eq_true (by assumption); have q174 : (ji6) < (x3_1.length : Int) := of_decide_eq_true (by assumption); obtain ⟨ad174, e174, hx174_0, hx174_1, hx174_2⟩ := at_T48 (Kd.R_reads' HO_3.out).2.2 (ji6) p174 q174; cases e174; have hn174_0 : ad174.block ≠ gb173 := Kd.own_blk (Kd.R_away HO_3.out (fun _ hk => hk.2)); have hn174_1 : ad174.block ≠ gb173 := Kd.own_blk (Kd.R_away HO_3.out (fun _ hk => hk.2)); have hn174_2 : ad174.block ≠ gb173 := Kd.own_blk (Kd.R_away HO_3.out (fun _ hk => hk.2)); replace hx174_0 := (cell_far (p := ⟨gb173, 0, none⟩) (by first | (rw [add_block]; exact hn174_0) | (show (Addr.add _ _).block ≠ _; rw [add_block]; exact hn174_0) | exact hn174_0) (.int .i64 ((rd_T48 l0 x9_1).f0))).trans hx174_0; replace hx174_1 := (cell_far (p := ⟨gb173, 0, none⟩) (by first | (rw [add_block]; exact hn174_0) | (show (Addr.add _ _).block ≠ _; rw [add_block]; exact hn174_0) | exact hn174_0) (.int .i64 ((rd_T48 l0 x9_1).f0))).trans hx174_1; replace hx174_2 := (cell_far (p := ⟨gb173, 0, none⟩) (by first | (rw [add_block]; exact hn174_0) | (show (Addr.add _ _).block ≠ _; rw [add_block]; exact hn174_0) | exact hn174_0) (.int .i64 ((rd_T48 l0 x9_1).f0))).trans hx174_2; replace hx174_0 := (cell_far (p := ⟨gb173, 1, none⟩) (by first | (rw [add_block]; exact hn174_1) | (show (Addr.add _ _).block ≠ _; rw [add_block]; exact hn174_1) | exact hn174_1) (.int .i64 ((rd_T48 l0 x9_1).f1))).trans hx174_0; replace hx174_1 := (cell_far (p := ⟨gb173, 1, none⟩) (by first | (rw [add_block]; exact hn174_1) | (show (Addr.add _ _).block ≠ _; rw [add_block]; exact hn174_1) | exact hn174_1) (.int .i64 ((rd_T48 l0 x9_1).f1))).trans hx174_1; replace hx174_2 := (cell_far (p := ⟨gb173, 1, none⟩) (by first | (rw [add_block]; exact hn174_1) | (show (Addr.add _ _).block ≠ _; rw [add_block]; exact hn174_1) | exact hn174_1) (.int .i64 ((rd_T48 l0 x9_1).f1))).trans hx174_2; replace hx174_0 := (cell_far (p := ⟨gb173, 2, none⟩) (by first | (rw [add_block]; exact hn174_2) | (show (Addr.add _ _).block ≠ _; rw [add_block]; exact hn174_2) | exact hn174_2) (.int .i64 ((rd_T48 l0 x9_1).f2))).trans hx174_0; replace hx174_1 := (cell_far (p := ⟨gb173, 2, none⟩) (by first | (rw [add_block]; exact hn174_2) | (show (Addr.add _ _).block ≠ _; rw [add_block]; exact hn174_2) | exact hn174_2) (.int .i64 ((rd_T48 l0 x9_1).f2))).trans hx174_1; replace hx174_2 := (cell_far (p := ⟨gb173, 2, none⟩) (by first | (rw [add_block]; exact hn174_2) | (show (Addr.add _ _).block ≠ _; rw [add_block]; exact hn174_2) | exact hn174_2) (.int .i64 ((rd_T48 l0 x9_1).f2))).trans hx174_2; (try have hy174_0 := fun (n_ : Nat) => (show (((((w25.drewN n_).setCell ⟨gb173, 0, none⟩ (.int .i64 ((rd_T48 l0 x9_1).f0))).setCell ⟨gb173, 1, none⟩ (.int .i64 ((rd_T48 l0 x9_1).f1))).setCell ⟨gb173, 2, none⟩ (.int .i64 ((rd_T48 l0 x9_1).f2)))).cell? _ = some _ from hx174_0)); (try have hy174_1 := fun (n_ : Nat) => (show (((((w25.drewN n_).setCell ⟨gb173, 0, none⟩ (.int .i64 ((rd_T48 l0 x9_1).f0))).setCell ⟨gb173, 1, none⟩ (.int .i64 ((rd_T48 l0 x9_1).f1))).setCell ⟨gb173, 2, none⟩ (.int .i64 ((rd_T48 l0 x9_1).f2)))).cell? _ = some _ from hx174_1)); (try have hy174_2 := fun (n_ : Nat) => (show (((((w25.drewN n_).setCell ⟨gb173, 0, none⟩ (.int .i64 ((rd_T48 l0 x9_1).f0))).setCell ⟨gb173, 1, none⟩ (.int .i64 ((rd_T48 l0 x9_1).f1))).setCell ⟨gb173, 2, none⟩ (.int .i64 ((rd_T48 l0 x9_1).f2)))).cell? _ = some _ from hx174_2)); clear hn174_0; clear hn174_1; clear hn174_2; replace p174 := eq_true p174; replace q174 := eq_true q174) | ((with_reducible refine gate_builtin (b := .append) (xs := #[.tmp 46, .tmp 48]) rfl ?_); at_builtin; refine Kd.R_append k48 (w0 := w) w.heap.size rfl (.tmp 46) (.tmp 48) 31 48 (.agg #[(.int .i64 0), (.int .i64 0), (.int .i64 0)]) 24 rfl Tryz.underlying31 info48 rfl (by decide) (by omega) (.slice (some ad174) x3_1.length co27) x3_1 (⟨(rd_T48 l0 x9_1).f0, (rd_T48 l0 x9_1).f1, (rd_T48 l0 x9_1).f2⟩ : S48) [.int .i64 ((rd_T48 l0 x9_1).f0), .int .i64 ((rd_T48 l0 x9_1).f1), .int .i64 ((rd_T48 l0 x9_1).f2)] (fun k_ => k_ ≠ gb173) (fun _ => False) rfl (by first | (go_simp; done) | (go_simp; rfl)) ?aP (fun _ hk => hk.elim) ?aF ?aO ?aB ?aS ?aL ?_; (case aP => exact k48_mkM _ _ _ (⟨(rd_T48 l0 x9_1).f0, (rd_T48 l0 x9_1).f1, (rd_T48 l0 x9_1).f2⟩ : S48)); (case aB => exact (by repeat (first | (with_reducible first | exact HB.out | apply yA | apply yN | apply yD | refine yS ?_ GE173.out) | exact HB.out))); (case aF => exact (fun k_ hk => Kd.freshB (g := gb173) (o := .cells #[.int .i64 ((rd_T48 l0 x9_1).f0), .int .i64 ((rd_T48 l0 x9_1).f1), .int .i64 ((rd_T48 l0 x9_1).f2)] 48 (0, 0)) (by refine blk_put (cs := #[.int .i64 ((rd_T48 l0 x9_1).f0), .int .i64 ((rd_T48 l0 x9_1).f1), .int .i64 0]) ?_ 2 _ rfl; refine blk_put (cs := #[.int .i64 ((rd_T48 l0 x9_1).f0), .int .i64 0, .int .i64 0]) ?_ 1 _ rfl; refine blk_put (cs := #[.int .i64 0, .int .i64 0, .int .i64 0]) ?_ 0 _ rfl; exact BK173.out) k_ hk)); (case aO => exact (by (with_reducible repeat (first | apply Kd.R_alloc | apply Kd.R_drewN | apply Kd.R_drew)); exact Kd.R_mono (Kd.R_far (p := ⟨gb173, 2, none⟩) (Kd.R_far (p := ⟨gb173, 1, none⟩) (Kd.R_far (p := ⟨gb173, 0, none⟩) (Kd.R_mono HO_3.out (fun k_ hk => (⟨hk, hk.2⟩ : _ ∧ k_ ≠ gb173))) (fun _ hk => hk.2) (.int .i64 ((rd_T48 l0 x9_1).f0))) (fun _ hk => hk.2) (.int .i64 ((rd_T48 l0 x9_1).f1))) (fun _ hk => hk.2) (.int .i64 ((rd_T48 l0 x9_1).f2))) (fun _ hk => hk.1.2))); (case aS => exact (yZ (by repeat (first | (with_reducible first | exact HB.out | apply yA | apply yN | apply yD | refine yS ?_ GE173.out) | exact HB.out)))); (case aL => have := LMc24.out; omega); intro v181 w28 ho hb hg hat; rw [← Ny180.out] at ho; have n0_ := aK (blk_grown (g := gb173) (o := .cells #[.int .i64 ((rd_T48 l0 x9_1).f0), .int .i64 ((rd_T48 l0 x9_1).f1), .int .i64 ((rd_T48 l0 x9_1).f2)] 48 (0, 0)) (by refine blk_put (cs := #[.int .i64 ((rd_T48 l0 x9_1).f0), .int .i64 ((rd_T48 l0 x9_1).f1), .int .i64 0]) ?_ 2 _ rfl; refine blk_put (cs := #[.int .i64 ((rd_T48 l0 x9_1).f0), .int .i64 0, .int .i64 0]) ?_ 1 _ rfl; refine blk_put (cs := #[.int .i64 0, .int .i64 0, .int .i64 0]) ?_ 0 _ rfl; exact BK173.out) hg (Kd.R_away HO_3.out (fun _ hk => hk.2))); have n1_ := aK (hb); have n2_ := aK (ho); clear BK173; clear HB; clear HO_3; have BK173 := n0_; have HB := n1_; have HO182 := n2_; clear n0_ n1_ n2_; clear ho hb hg hat)) | skip)
    go_roundg k1
    case measure => have := HK1.out; omega
    case rel => exact ⟨(y180), (wrap64 (x9_1 + 1)), (by first | rfl | (simp; done) | (simp [*]; done)), H', ⟨by have := HK1.out; omega⟩, ⟨by (with_reducible repeat (first | apply Kd.R_alloc | apply Kd.R_drewN | apply Kd.R_drew)); exact Kd.R_mono HO182.out (fun _ hk => trivial)⟩, ⟨HB.out⟩⟩
   rw [if_pos c9] at H
   have c9b0 : (((rd_T48 x3_1 (ji6)).f1) == ((rd_T48 l0 x9_1).f0)) = true := beq_iff_eq.mpr c9
   have c9b1 : (((rd_T48 x3_1 (ji6)).f1) != ((rd_T48 l0 x9_1).f0)) = false := bne_eq_false_iff_eq.mpr c9
   clear c9
   by_cases c10 : ((rd_T48 x3_1 (ji6)).f2) = ((rd_T48 l0 x9_1).f2)
   ·rw [if_pos c10] at H
    have c10b0 : (((rd_T48 x3_1 (ji6)).f2) == ((rd_T48 l0 x9_1).f2)) = true := beq_iff_eq.mpr c10
    have c10b1 : (((rd_T48 x3_1 (ji6)).f2) != ((rd_T48 l0 x9_1).f2)) = false := bne_eq_false_iff_eq.mpr c10
    clear c10
    obtain ⟨y176, hy176⟩ : ∃ y_ : List (S48), y_ = (x3_1.set ((ji6) : Int).toNat (⟨(rd_T48 x3_1 (ji6)).f0, (rd_T48 l0 x9_1).f1, (rd_T48 x3_1 (ji6)).f2⟩ : S48)) := ⟨_, rfl⟩
    replace H : (boring_joined.l0 k1 y176 l0 (l0.length : Int) (wrap64 (x9_1 + 1))) = some r := by first | (rw [hy176]; with_reducible exact H) | (have H2_ := (Option.bind_some _ _).symm.trans H; rw [hy176]; with_reducible exact H2_) | (have H2_ := (Option.bind_some _ _).symm.trans H; with_reducible exact H2_) | with_reducible exact H | (rw [hy176]; exact H) | exact H
    have Ny176 := aK hy176
    clear hy176
    have H' := aK H
    clear H
    have p172 : 0 ≤ (x9_1 : Int) := of_decide_eq_true (by assumption)
    have q172 : x9_1 < (l0.length : Int) := of_decide_eq_true (by assumption)
    obtain ⟨ad172, e172, hx172_0, hx172_1, hx172_2⟩ := at_T48 HR0.out x9_1 p172 q172
    cases e172
    replace hx172_0 := (HB.out.cell (World.block_lt_of_cell? w _ hx172_0)).trans hx172_0
    replace hx172_1 := (HB.out.cell (World.block_lt_of_cell? w _ hx172_1)).trans hx172_1
    replace hx172_2 := (HB.out.cell (World.block_lt_of_cell? w _ hx172_2)).trans hx172_2
    replace p172 := eq_true p172
    replace q172 := eq_true q172
    iterate 10 (first | go_quiet (fail) | go_wp2_with (first | ((with_reducible refine gate_dst (N := 5) rfl ?_); refine box_event ?hg (N := 5) ?hd (cs := #[.int .i64 0, .int .i64 0, .int .i64 0]) (t := 48) ?hr ?_; (case hd => rfl); (case hg => rfl); (case hr => first | (go_simp; done) | (go_simp; rfl)); intro gb173 hg w12 hbox hb; have n0_ := aK (Kd.R_below (Kd.R_elderB (HO_3.out) gb173 (Nat.le_of_eq hg.symm)) hb); have ⟨n1_, n3_⟩ := zV (w := w) hb hg (by repeat (first | (with_reducible first | exact HB.out | apply yA | apply yN | apply yD) | exact HB.out)); have n2_ := aK (hbox); have n4_ := n3_; clear HO_3; clear HB; have HO_3 := n0_; have HB := n1_; have BK173 := n2_; have GW173 := n3_; have GE173 := n4_; clear n0_ n1_ n2_ n3_ n4_; clear hb hbox hg; have hcz13_0 := zI BK173 0 rfl; have hcz13_1 := zI BK173 1 rfl; have hcz13_2 := zI BK173 2 rfl; have hfz13_0 := zF BK173.out 0; have hfz13_1 := zF BK173.out 1; have hfz13_2 := zF BK173.out 2) | ((with_reducible refine gate_store (t := 48) (p := 5) rfl ?_); (try (rw [drewN_self w12]; generalize hq_ : World.drewN w12 _ = w12; have n0_ := aK (Kd.R_at hq_ HO_3.out); have n1_ := aK (blk_at hq_ BK173.out); have n2_ := aK (below_at hq_ HB.out); clear hq_ HO_3 BK173 HB; have HO_3 := n0_; have BK173 := n1_; have HB := n2_; clear n0_ n1_ n2_)); refine store_event (t := 48) (p := 5) (v := ?vo_w14) (w1 := (((w12.setCell ⟨gb173, 0, none⟩ (.int .i64 ((rd_T48 l0 x9_1).f0))).setCell ⟨gb173, 1, none⟩ (.int .i64 ((rd_T48 l0 x9_1).f1))).setCell ⟨gb173, 2, none⟩ (.int .i64 ((rd_T48 l0 x9_1).f2)))) ?hg ?ho ?hn ?hr ?_; (case ho => rfl); (case hg => rfl); (case hn => rfl); (case hr => first | (go_simp; done) | (go_simp; rfl)); intro w14 hw; have n0_ : Aside0 (Kd.R k48 48 w14 w.heap.size (fun k_ => k_ ≠ gb173) u3 x3_1) := ⟨(by rw [hw]; exact (by (with_reducible repeat (first | apply Kd.R_alloc | apply Kd.R_drewN | apply Kd.R_drew)); exact Kd.R_mono (Kd.R_far (p := ⟨gb173, 2, none⟩) (Kd.R_far (p := ⟨gb173, 1, none⟩) (Kd.R_far (p := ⟨gb173, 0, none⟩) (Kd.R_mono HO_3.out (fun k_ hk => (⟨hk, hk.2⟩ : _ ∧ k_ ≠ gb173))) (fun _ hk => hk.2) (.int .i64 ((rd_T48 l0 x9_1).f0))) (fun _ hk => hk.2) (.int .i64 ((rd_T48 l0 x9_1).f1))) (fun _ hk => hk.2) (.int .i64 ((rd_T48 l0 x9_1).f2))) (fun _ hk => hk.1.2)))⟩; have n1_ : Aside0 (w14.heap[gb173]? = some (.cells #[.int .i64 ((rd_T48 l0 x9_1).f0), .int .i64 ((rd_T48 l0 x9_1).f1), .int .i64 ((rd_T48 l0 x9_1).f2)] 48 (0, 0))) := ⟨(by rw [hw]; exact (by refine blk_put (cs := #[.int .i64 ((rd_T48 l0 x9_1).f0), .int .i64 ((rd_T48 l0 x9_1).f1), .int .i64 0]) ?_ 2 _ rfl; refine blk_put (cs := #[.int .i64 ((rd_T48 l0 x9_1).f0), .int .i64 0, .int .i64 0]) ?_ 1 _ rfl; refine blk_put (cs := #[.int .i64 0, .int .i64 0, .int .i64 0]) ?_ 0 _ rfl; exact BK173.out))⟩; have n2_ : Aside0 (Below w.heap.size w w14) := ⟨(by rw [hw]; exact (by repeat (first | (with_reducible first | exact HB.out | apply yA | apply yN | apply yD | refine yS ?_ GE173.out) | exact HB.out)))⟩; clear hw; clear HO_3; clear BK173; clear HB; have HO_3 := n0_; have BK173 := n1_; have HB := n2_; clear n0_ n1_ n2_; obtain ⟨Ao15, co15, eo15⟩ := Kd.R_slice HO_3.out; subst eo15; have p174 : 0 ≤ ((ji6) : Int) := of_decide_eq_true (by assumption); have q174 : (ji6) < (x3_1.length : Int) := of_decide_eq_true (by assumption); obtain ⟨ad174, e174, hx174_0, hx174_1, hx174_2⟩ := at_T48 (Kd.R_reads' HO_3.out).2.2 (ji6) p174 q174; cases e174; replace p174 := eq_true p174; replace q174 := eq_true q174; have hcz16_0 := zI BK173 0 rfl; have hcz16_1 := zI BK173 1 rfl; have hcz16_2 := zI BK173 2 rfl; have hfz16_0 := zF BK173.out 0; have hfz16_1 := zF BK173.out 1; have hfz16_2 := zF BK173.out 2; have p175 : 0 ≤ ((ji6) : Int) := of_decide_eq_true (by assumption); have q175 : (ji6) < (x3_1.length : Int) := of_decide_eq_true (by assumption); obtain ⟨ad175, e175, hx175_0, hx175_1, hx175_2⟩ := at_T48 (Kd.R_reads' HO_3.out).2.2 (ji6) p175 q175; obtain rfl : ad174 = ad175 := (by injection e175); replace p175 := eq_true p175; replace q175 := eq_true q175; have p11 : 0 ≤ ((ji6) : Int) := of_decide_eq_true (by assumption); have q11 : ((ji6) : Int) < ((x3_1.length : Int) : Int) := of_decide_eq_true (by assumption); obtain ⟨go11, co11, eo11, gb11, gl11, cl11, HG11⟩ := Kd.R_form HO_3.out (by omega); (first | cases eo11 | (injection eo11 with ea_ en_ ec_; (first | subst ea_ | (injection ea_ with ea_; subst ea_)); subst ec_; clear en_)); have GB11 := aK gb11; have GG11 := aK HG11; clear gb11 gl11 HG11; (first | simp only [add_plain] at hx174_0 | skip); (first | simp only [add_plain] at hx174_1 | skip); (first | simp only [add_plain] at hx174_2 | skip); (first | simp only [add_plain] at hx175_0 | skip); (first | simp only [add_plain] at hx175_1 | skip); (first | simp only [add_plain] at hx175_2 | skip); obtain ⟨ce11, hcl11, hM11, hcc11, hfr11⟩ := Kd.R_elem HO_3.out z48 ((ji6) : Int) p11 q11; obtain rfl := k48_openM hM11; have hx11_0 : w14.cell? ⟨go11, ((ji6) : Int).toNat * 3, none⟩ = some (.int .i64 ((rd_T48 x3_1 (ji6)).f0)) := hcc11 0 _ rfl; have hx11_1 : w14.cell? ⟨go11, ((ji6) : Int).toNat * 3 + 1, none⟩ = some (.int .i64 ((rd_T48 x3_1 (ji6)).f1)) := hcc11 1 _ rfl; have hx11_2 : w14.cell? ⟨go11, ((ji6) : Int).toNat * 3 + 2, none⟩ = some (.int .i64 ((rd_T48 x3_1 (ji6)).f2)) := hcc11 2 _ rfl; have hf11_0 : w14.frozen? ⟨go11, ((ji6) : Int).toNat * 3, none⟩ = false := hfr11 0; have hf11_1 : w14.frozen? ⟨go11, ((ji6) : Int).toNat * 3 + 1, none⟩ = false := hfr11 1; have hf11_2 : w14.frozen? ⟨go11, ((ji6) : Int).toNat * 3 + 2, none⟩ = false := hfr11 2; clear hcl11 hcc11 hfr11 hM11; replace p11 := eq_true p11; replace q11 := eq_true q11; have HX17 := aK (show Kd.R k48 48 w14 w.heap.size (fun k_ => k_ ≠ gb173) (.slice (some ⟨go11, 0, none⟩) x3_1.length co15) x3_1 from (HO_3.out)); obtain ⟨ce17, hcl17, hM17, hcc17, hfr17⟩ := Kd.R_elem HX17.out z48 ((ji6) : Int) (of_decide_eq_true (by assumption)) (by have h_ : ((ji6) : Int) < ((x3_1.length : Int) : Int) := of_decide_eq_true (by assumption); first | exact h_ | (have e_ := (Kd.R_reads' HO_3.out).1; omega) | simpa using h_); obtain rfl := k48_openM hM17; have HP17 := Kd.R_seg HX17.out ((ji6) : Int) (of_decide_eq_true (by assumption)) (by have h_ : ((ji6) : Int) < ((x3_1.length : Int) : Int) := of_decide_eq_true (by assumption); first | exact h_ | (have e_ := (Kd.R_reads' HO_3.out).1; omega) | simpa using h_) (seg := [.int .i64 ((rd_T48 l0 x9_1).f1)]) (j := 1) hcl17 hcc17 (show 2 ≤ 3 from by decide) (x' := (⟨(rd_T48 x3_1 (ji6)).f0, (rd_T48 l0 x9_1).f1, (rd_T48 x3_1 (ji6)).f2⟩ : S48)) (k48_mkM _ _ _ (⟨(rd_T48 x3_1 (ji6)).f0, (rd_T48 l0 x9_1).f1, (rd_T48 x3_1 (ji6)).f2⟩ : S48) ) (fun _ hk => hk); have hx17_1 := hcc17 1 _ rfl; (try simp only [show (k48).sz = 3 from rfl, Nat.mul_one, Nat.add_zero] at hx17_1); have hf17_1 := hfr17 1; (try simp only [show (k48).sz = 3 from rfl, Nat.mul_one, Nat.add_zero] at hf17_1); clear hcl17 hcc17 hfr17 hM17) | ((with_reducible refine gate_store (t := 3) (p := 45) rfl ?_); (try (rw [drewN_self w14]; generalize hq_ : World.drewN w14 _ = w14; have n0_ := aK (Kd.R_at hq_ HO_3.out); have n1_ := aK (blk_at hq_ BK173.out); have n2_ := aK (below_at hq_ HB.out); clear hq_ HO_3 BK173 HB; have HO_3 := n0_; have BK173 := n1_; have HB := n2_; clear n0_ n1_ n2_; (try (have HX17 := aK (show Kd.R k48 48 w14 w.heap.size (fun k_ => k_ ≠ gb173) (.slice (some ⟨go11, 0, none⟩) x3_1.length co15) x3_1 from (HO_3.out)))); (try (obtain ⟨ce17, hcl17, hM17, hcc17, hfr17⟩ := Kd.R_elem HX17.out z48 ((ji6) : Int) (of_decide_eq_true (by assumption)) (by have h_ : ((ji6) : Int) < ((x3_1.length : Int) : Int) := of_decide_eq_true (by assumption); first | exact h_ | (have e_ := (Kd.R_reads' HO_3.out).1; omega) | simpa using h_))); (try (obtain rfl := k48_openM hM17)); (try (have HP17 := Kd.R_seg HX17.out ((ji6) : Int) (of_decide_eq_true (by assumption)) (by have h_ : ((ji6) : Int) < ((x3_1.length : Int) : Int) := of_decide_eq_true (by assumption); first | exact h_ | (have e_ := (Kd.R_reads' HO_3.out).1; omega) | simpa using h_) (seg := [.int .i64 ((rd_T48 l0 x9_1).f1)]) (j := 1) hcl17 hcc17 (show 2 ≤ 3 from by decide) (x' := (⟨(rd_T48 x3_1 (ji6)).f0, (rd_T48 l0 x9_1).f1, (rd_T48 x3_1 (ji6)).f2⟩ : S48)) (k48_mkM _ _ _ (⟨(rd_T48 x3_1 (ji6)).f0, (rd_T48 l0 x9_1).f1, (rd_T48 x3_1 (ji6)).f2⟩ : S48) ) (fun _ hk => hk))); (try (have hx17_1 := hcc17 1 _ rfl)); (try (try simp only [show (k48).sz = 3 from rfl, Nat.mul_one, Nat.add_zero] at hx17_1)); (try (have hf17_1 := hfr17 1)); (try (try simp only [show (k48).sz = 3 from rfl, Nat.mul_one, Nat.add_zero] at hf17_1)); (try (clear hcl17 hcc17 hfr17 hM17)))); refine store_event (t := 3) (p := 45) (v := ?vo_w18) (w1 := (w14.setCell ⟨go11, ((ji6) : Int).toNat * 3 + 1, none⟩ (.int .i64 ((rd_T48 l0 x9_1).f1)))) ?hg ?ho ?hn ?hr ?_; (case ho => rfl); (case hg => rfl); (case hn => rfl); (case hr => first | (go_simp; done) | (go_simp; rfl)); intro w18 hw; have hg : w14.grownBy w18 (some go11) := (by rw [hw]; exact HP17.2); have hp_ : Kd.R k48 48 w18 w.heap.size (fun k_ => k_ ≠ gb173) (.slice (some ⟨go11, 0, none⟩) x3_1.length co15) y176 := (by rw [hw, Ny176.out]; exact HP17.1); clear HP17; have n0_ := aK (hp_); have n1_ := aK (blk_grown (g := gb173) (o := .cells #[.int .i64 ((rd_T48 l0 x9_1).f0), .int .i64 ((rd_T48 l0 x9_1).f1), .int .i64 ((rd_T48 l0 x9_1).f2)] 48 (0, 0)) (BK173.out) hg (Kd.R_away HO_3.out (fun _ hk => hk))); have n2_ := aK ((by rw [hw]; exact yS (HB.out) GB11.out : Below w.heap.size w w18)); clear HO_3; clear BK173; clear HB; have HO_3 := n0_; have BK173 := n1_; have HB := n2_; clear n0_ n1_ n2_; clear hg hw hp_)) | skip)
    go_roundg k1
    case measure => have := HK1.out; omega
    case rel => exact ⟨(y176), (wrap64 (x9_1 + 1)), (by first | rfl | (simp; done) | (simp [*]; done)), H', ⟨by have := HK1.out; omega⟩, ⟨by (with_reducible repeat (first | apply Kd.R_alloc | apply Kd.R_drewN | apply Kd.R_drew)); exact Kd.R_mono HO_3.out (fun _ hk => trivial)⟩, ⟨HB.out⟩⟩
   rw [if_neg c10] at H
   have c10b0 : (((rd_T48 x3_1 (ji6)).f2) == ((rd_T48 l0 x9_1).f2)) = false := beq_eq_false_iff_ne.mpr c10
   have c10b1 : (((rd_T48 x3_1 (ji6)).f2) != ((rd_T48 l0 x9_1).f2)) = true := bne_iff_ne.mpr c10
   by_cases c19 : x3_1.length < 5864062014805
   rotate_left
   ·rw [if_neg c19] at H
    exact absurd H (by simp)
   rw [if_pos c19] at H
   have LMc19 := aK c19
   clear c19
   obtain ⟨y177, hy177⟩ : ∃ y_ : List (S48), y_ = (x3_1 ++ [(⟨(rd_T48 l0 x9_1).f0, (rd_T48 l0 x9_1).f1, (rd_T48 l0 x9_1).f2⟩ : S48)]) := ⟨_, rfl⟩
   replace H : (boring_joined.l0 k1 y177 l0 (l0.length : Int) (wrap64 (x9_1 + 1))) = some r := by first | (rw [hy177]; with_reducible exact H) | (have H2_ := (Option.bind_some _ _).symm.trans H; rw [hy177]; with_reducible exact H2_) | (have H2_ := (Option.bind_some _ _).symm.trans H; with_reducible exact H2_) | with_reducible exact H | (rw [hy177]; exact H) | exact H
   have Ny177 := aK hy177
   clear hy177
   have H' := aK H
   clear H
   have p172 : 0 ≤ (x9_1 : Int) := of_decide_eq_true (by assumption)
   have q172 : x9_1 < (l0.length : Int) := of_decide_eq_true (by assumption)
   obtain ⟨ad172, e172, hx172_0, hx172_1, hx172_2⟩ := at_T48 HR0.out x9_1 p172 q172
   cases e172
   replace hx172_0 := (HB.out.cell (World.block_lt_of_cell? w _ hx172_0)).trans hx172_0
   replace hx172_1 := (HB.out.cell (World.block_lt_of_cell? w _ hx172_1)).trans hx172_1
   replace hx172_2 := (HB.out.cell (World.block_lt_of_cell? w _ hx172_2)).trans hx172_2
   replace p172 := eq_true p172
   replace q172 := eq_true q172
   iterate 10 (first | go_quiet (fail) | go_wp2_with (first | ((with_reducible refine gate_dst (N := 5) rfl ?_); refine box_event ?hg (N := 5) ?hd (cs := #[.int .i64 0, .int .i64 0, .int .i64 0]) (t := 48) ?hr ?_; (case hd => rfl); (case hg => rfl); (case hr => first | (go_simp; done) | (go_simp; rfl)); intro gb173 hg w20 hbox hb; have n0_ := aK (Kd.R_below (Kd.R_elderB (HO_3.out) gb173 (Nat.le_of_eq hg.symm)) hb); have ⟨n1_, n3_⟩ := zV (w := w) hb hg (by repeat (first | (with_reducible first | exact HB.out | apply yA | apply yN | apply yD) | exact HB.out)); have n2_ := aK (hbox); have n4_ := n3_; clear HO_3; clear HB; have HO_3 := n0_; have HB := n1_; have BK173 := n2_; have GW173 := n3_; have GE173 := n4_; clear n0_ n1_ n2_ n3_ n4_; clear hb hbox hg; have hcz21_0 := zI BK173 0 rfl; have hcz21_1 := zI BK173 1 rfl; have hcz21_2 := zI BK173 2 rfl; have hfz21_0 := zF BK173.out 0; have hfz21_1 := zF BK173.out 1; have hfz21_2 := zF BK173.out 2; obtain ⟨Ao22, co22, eo22⟩ := Kd.R_slice HO_3.out; subst eo22; have p174 : 0 ≤ ((ji6) : Int) := of_decide_eq_true (by assumption); have q174 : (ji6) < (x3_1.length : Int) := of_decide_eq_true (by assumption); obtain ⟨ad174, e174, hx174_0, hx174_1, hx174_2⟩ := at_T48 (Kd.R_reads' HO_3.out).2.2 (ji6) p174 q174; cases e174; have hn174_0 : ad174.block ≠ gb173 := Kd.own_blk (Kd.R_away HO_3.out (fun _ hk => hk.2)); have hn174_1 : ad174.block ≠ gb173 := Kd.own_blk (Kd.R_away HO_3.out (fun _ hk => hk.2)); have hn174_2 : ad174.block ≠ gb173 := Kd.own_blk (Kd.R_away HO_3.out (fun _ hk => hk.2)); replace hx174_0 := (cell_far (p := ⟨gb173, 0, none⟩) (by first | (rw [add_block]; exact hn174_0) | (show (Addr.add _ _).block ≠ _; rw [add_block]; exact hn174_0) | exact hn174_0) (.int .i64 ((rd_T48 l0 x9_1).f0))).trans hx174_0; replace hx174_1 := (cell_far (p := ⟨gb173, 0, none⟩) (by first | (rw [add_block]; exact hn174_0) | (show (Addr.add _ _).block ≠ _; rw [add_block]; exact hn174_0) | exact hn174_0) (.int .i64 ((rd_T48 l0 x9_1).f0))).trans hx174_1; replace hx174_2 := (cell_far (p := ⟨gb173, 0, none⟩) (by first | (rw [add_block]; exact hn174_0) | (show (Addr.add _ _).block ≠ _; rw [add_block]; exact hn174_0) | exact hn174_0) (.int .i64 ((rd_T48 l0 x9_1).f0))).trans hx174_2; replace hx174_0 := (cell_far (p := ⟨gb173, 1, none⟩) (by first | (rw [add_block]; exact hn174_1) | (show (Addr.add _ _).block ≠ _; rw [add_block]; exact hn174_1) | exact hn174_1) (.int .i64 ((rd_T48 l0 x9_1).f1))).trans hx174_0; replace hx174_1 := (cell_far (p := ⟨gb173, 1, none⟩) (by first | (rw [add_block]; exact hn174_1) | (show (Addr.add _ _).block ≠ _; rw [add_block]; exact hn174_1) | exact hn174_1) (.int .i64 ((rd_T48 l0 x9_1).f1))).trans hx174_1; replace hx174_2 := (cell_far (p := ⟨gb173, 1, none⟩) (by first | (rw [add_block]; exact hn174_1) | (show (Addr.add _ _).block ≠ _; rw [add_block]; exact hn174_1) | exact hn174_1) (.int .i64 ((rd_T48 l0 x9_1).f1))).trans hx174_2; replace hx174_0 := (cell_far (p := ⟨gb173, 2, none⟩) (by first | (rw [add_block]; exact hn174_2) | (show (Addr.add _ _).block ≠ _; rw [add_block]; exact hn174_2) | exact hn174_2) (.int .i64 ((rd_T48 l0 x9_1).f2))).trans hx174_0; replace hx174_1 := (cell_far (p := ⟨gb173, 2, none⟩) (by first | (rw [add_block]; exact hn174_2) | (show (Addr.add _ _).block ≠ _; rw [add_block]; exact hn174_2) | exact hn174_2) (.int .i64 ((rd_T48 l0 x9_1).f2))).trans hx174_1; replace hx174_2 := (cell_far (p := ⟨gb173, 2, none⟩) (by first | (rw [add_block]; exact hn174_2) | (show (Addr.add _ _).block ≠ _; rw [add_block]; exact hn174_2) | exact hn174_2) (.int .i64 ((rd_T48 l0 x9_1).f2))).trans hx174_2; (try have hy174_0 := fun (n_ : Nat) => (show (((((w20.drewN n_).setCell ⟨gb173, 0, none⟩ (.int .i64 ((rd_T48 l0 x9_1).f0))).setCell ⟨gb173, 1, none⟩ (.int .i64 ((rd_T48 l0 x9_1).f1))).setCell ⟨gb173, 2, none⟩ (.int .i64 ((rd_T48 l0 x9_1).f2)))).cell? _ = some _ from hx174_0)); (try have hy174_1 := fun (n_ : Nat) => (show (((((w20.drewN n_).setCell ⟨gb173, 0, none⟩ (.int .i64 ((rd_T48 l0 x9_1).f0))).setCell ⟨gb173, 1, none⟩ (.int .i64 ((rd_T48 l0 x9_1).f1))).setCell ⟨gb173, 2, none⟩ (.int .i64 ((rd_T48 l0 x9_1).f2)))).cell? _ = some _ from hx174_1)); (try have hy174_2 := fun (n_ : Nat) => (show (((((w20.drewN n_).setCell ⟨gb173, 0, none⟩ (.int .i64 ((rd_T48 l0 x9_1).f0))).setCell ⟨gb173, 1, none⟩ (.int .i64 ((rd_T48 l0 x9_1).f1))).setCell ⟨gb173, 2, none⟩ (.int .i64 ((rd_T48 l0 x9_1).f2)))).cell? _ = some _ from hx174_2)); clear hn174_0; clear hn174_1; clear hn174_2; replace p174 := eq_true p174; replace q174 := eq_true q174; have p175 : 0 ≤ ((ji6) : Int) := of_decide_eq_true (by assumption); have q175 : (ji6) < (x3_1.length : Int) := of_decide_eq_true (by assumption); obtain ⟨ad175, e175, hx175_0, hx175_1, hx175_2⟩ := at_T48 (Kd.R_reads' HO_3.out).2.2 (ji6) p175 q175; obtain rfl : ad174 = ad175 := (by injection e175); have hn175_0 : ad174.block ≠ gb173 := Kd.own_blk (Kd.R_away HO_3.out (fun _ hk => hk.2)); have hn175_1 : ad174.block ≠ gb173 := Kd.own_blk (Kd.R_away HO_3.out (fun _ hk => hk.2)); have hn175_2 : ad174.block ≠ gb173 := Kd.own_blk (Kd.R_away HO_3.out (fun _ hk => hk.2)); replace hx175_0 := (cell_far (p := ⟨gb173, 0, none⟩) (by first | (rw [add_block]; exact hn175_0) | (show (Addr.add _ _).block ≠ _; rw [add_block]; exact hn175_0) | exact hn175_0) (.int .i64 ((rd_T48 l0 x9_1).f0))).trans hx175_0; replace hx175_1 := (cell_far (p := ⟨gb173, 0, none⟩) (by first | (rw [add_block]; exact hn175_0) | (show (Addr.add _ _).block ≠ _; rw [add_block]; exact hn175_0) | exact hn175_0) (.int .i64 ((rd_T48 l0 x9_1).f0))).trans hx175_1; replace hx175_2 := (cell_far (p := ⟨gb173, 0, none⟩) (by first | (rw [add_block]; exact hn175_0) | (show (Addr.add _ _).block ≠ _; rw [add_block]; exact hn175_0) | exact hn175_0) (.int .i64 ((rd_T48 l0 x9_1).f0))).trans hx175_2; replace hx175_0 := (cell_far (p := ⟨gb173, 1, none⟩) (by first | (rw [add_block]; exact hn175_1) | (show (Addr.add _ _).block ≠ _; rw [add_block]; exact hn175_1) | exact hn175_1) (.int .i64 ((rd_T48 l0 x9_1).f1))).trans hx175_0; replace hx175_1 := (cell_far (p := ⟨gb173, 1, none⟩) (by first | (rw [add_block]; exact hn175_1) | (show (Addr.add _ _).block ≠ _; rw [add_block]; exact hn175_1) | exact hn175_1) (.int .i64 ((rd_T48 l0 x9_1).f1))).trans hx175_1; replace hx175_2 := (cell_far (p := ⟨gb173, 1, none⟩) (by first | (rw [add_block]; exact hn175_1) | (show (Addr.add _ _).block ≠ _; rw [add_block]; exact hn175_1) | exact hn175_1) (.int .i64 ((rd_T48 l0 x9_1).f1))).trans hx175_2; replace hx175_0 := (cell_far (p := ⟨gb173, 2, none⟩) (by first | (rw [add_block]; exact hn175_2) | (show (Addr.add _ _).block ≠ _; rw [add_block]; exact hn175_2) | exact hn175_2) (.int .i64 ((rd_T48 l0 x9_1).f2))).trans hx175_0; replace hx175_1 := (cell_far (p := ⟨gb173, 2, none⟩) (by first | (rw [add_block]; exact hn175_2) | (show (Addr.add _ _).block ≠ _; rw [add_block]; exact hn175_2) | exact hn175_2) (.int .i64 ((rd_T48 l0 x9_1).f2))).trans hx175_1; replace hx175_2 := (cell_far (p := ⟨gb173, 2, none⟩) (by first | (rw [add_block]; exact hn175_2) | (show (Addr.add _ _).block ≠ _; rw [add_block]; exact hn175_2) | exact hn175_2) (.int .i64 ((rd_T48 l0 x9_1).f2))).trans hx175_2; (try have hy175_0 := fun (n_ : Nat) => (show (((((w20.drewN n_).setCell ⟨gb173, 0, none⟩ (.int .i64 ((rd_T48 l0 x9_1).f0))).setCell ⟨gb173, 1, none⟩ (.int .i64 ((rd_T48 l0 x9_1).f1))).setCell ⟨gb173, 2, none⟩ (.int .i64 ((rd_T48 l0 x9_1).f2)))).cell? _ = some _ from hx175_0)); (try have hy175_1 := fun (n_ : Nat) => (show (((((w20.drewN n_).setCell ⟨gb173, 0, none⟩ (.int .i64 ((rd_T48 l0 x9_1).f0))).setCell ⟨gb173, 1, none⟩ (.int .i64 ((rd_T48 l0 x9_1).f1))).setCell ⟨gb173, 2, none⟩ (.int .i64 ((rd_T48 l0 x9_1).f2)))).cell? _ = some _ from hx175_1)); (try have hy175_2 := fun (n_ : Nat) => (show (((((w20.drewN n_).setCell ⟨gb173, 0, none⟩ (.int .i64 ((rd_T48 l0 x9_1).f0))).setCell ⟨gb173, 1, none⟩ (.int .i64 ((rd_T48 l0 x9_1).f1))).setCell ⟨gb173, 2, none⟩ (.int .i64 ((rd_T48 l0 x9_1).f2)))).cell? _ = some _ from hx175_2)); clear hn175_0; clear hn175_1; clear hn175_2; replace p175 := eq_true p175; replace q175 := eq_true q175) | ((with_reducible refine gate_builtin (b := .append) (xs := #[.tmp 46, .tmp 48]) rfl ?_); at_builtin; refine Kd.R_append k48 (w0 := w) w.heap.size rfl (.tmp 46) (.tmp 48) 31 48 (.agg #[(.int .i64 0), (.int .i64 0), (.int .i64 0)]) 24 rfl Tryz.underlying31 info48 rfl (by decide) (by omega) (.slice (some ad174) x3_1.length co22) x3_1 (⟨(rd_T48 l0 x9_1).f0, (rd_T48 l0 x9_1).f1, (rd_T48 l0 x9_1).f2⟩ : S48) [.int .i64 ((rd_T48 l0 x9_1).f0), .int .i64 ((rd_T48 l0 x9_1).f1), .int .i64 ((rd_T48 l0 x9_1).f2)] (fun k_ => k_ ≠ gb173) (fun _ => False) rfl (by first | (go_simp; done) | (go_simp; rfl)) ?aP (fun _ hk => hk.elim) ?aF ?aO ?aB ?aS ?aL ?_; (case aP => exact k48_mkM _ _ _ (⟨(rd_T48 l0 x9_1).f0, (rd_T48 l0 x9_1).f1, (rd_T48 l0 x9_1).f2⟩ : S48)); (case aB => exact (by repeat (first | (with_reducible first | exact HB.out | apply yA | apply yN | apply yD | refine yS ?_ GE173.out) | exact HB.out))); (case aF => exact (fun k_ hk => Kd.freshB (g := gb173) (o := .cells #[.int .i64 ((rd_T48 l0 x9_1).f0), .int .i64 ((rd_T48 l0 x9_1).f1), .int .i64 ((rd_T48 l0 x9_1).f2)] 48 (0, 0)) (by refine blk_put (cs := #[.int .i64 ((rd_T48 l0 x9_1).f0), .int .i64 ((rd_T48 l0 x9_1).f1), .int .i64 0]) ?_ 2 _ rfl; refine blk_put (cs := #[.int .i64 ((rd_T48 l0 x9_1).f0), .int .i64 0, .int .i64 0]) ?_ 1 _ rfl; refine blk_put (cs := #[.int .i64 0, .int .i64 0, .int .i64 0]) ?_ 0 _ rfl; exact BK173.out) k_ hk)); (case aO => exact (by (with_reducible repeat (first | apply Kd.R_alloc | apply Kd.R_drewN | apply Kd.R_drew)); exact Kd.R_mono (Kd.R_far (p := ⟨gb173, 2, none⟩) (Kd.R_far (p := ⟨gb173, 1, none⟩) (Kd.R_far (p := ⟨gb173, 0, none⟩) (Kd.R_mono HO_3.out (fun k_ hk => (⟨hk, hk.2⟩ : _ ∧ k_ ≠ gb173))) (fun _ hk => hk.2) (.int .i64 ((rd_T48 l0 x9_1).f0))) (fun _ hk => hk.2) (.int .i64 ((rd_T48 l0 x9_1).f1))) (fun _ hk => hk.2) (.int .i64 ((rd_T48 l0 x9_1).f2))) (fun _ hk => hk.1.2))); (case aS => exact (yZ (by repeat (first | (with_reducible first | exact HB.out | apply yA | apply yN | apply yD | refine yS ?_ GE173.out) | exact HB.out)))); (case aL => have := LMc19.out; omega); intro v178 w23 ho hb hg hat; rw [← Ny177.out] at ho; have n0_ := aK (blk_grown (g := gb173) (o := .cells #[.int .i64 ((rd_T48 l0 x9_1).f0), .int .i64 ((rd_T48 l0 x9_1).f1), .int .i64 ((rd_T48 l0 x9_1).f2)] 48 (0, 0)) (by refine blk_put (cs := #[.int .i64 ((rd_T48 l0 x9_1).f0), .int .i64 ((rd_T48 l0 x9_1).f1), .int .i64 0]) ?_ 2 _ rfl; refine blk_put (cs := #[.int .i64 ((rd_T48 l0 x9_1).f0), .int .i64 0, .int .i64 0]) ?_ 1 _ rfl; refine blk_put (cs := #[.int .i64 0, .int .i64 0, .int .i64 0]) ?_ 0 _ rfl; exact BK173.out) hg (Kd.R_away HO_3.out (fun _ hk => hk.2))); have n1_ := aK (hb); have n2_ := aK (ho); clear BK173; clear HB; clear HO_3; have BK173 := n0_; have HB := n1_; have HO179 := n2_; clear n0_ n1_ n2_; clear ho hb hg hat)) | skip)
   go_roundg k1
   case measure => have := HK1.out; omega
   case rel => exact ⟨(y177), (wrap64 (x9_1 + 1)), (by first | rfl | (simp; done) | (simp [*]; done)), H', ⟨by have := HK1.out; omega⟩, ⟨by (with_reducible repeat (first | apply Kd.R_alloc | apply Kd.R_drewN | apply Kd.R_drew)); exact Kd.R_mono HO179.out (fun _ hk => trivial)⟩, ⟨HB.out⟩⟩

def gangsawref14_in.f (a0 : Int) (a1 : Int) (a2 : Int) : Option (Bool) := if a1 ≤ a0 then (some (decide (a0 ≤ a2))) else (some false)
set_option maxHeartbeats 8000000 in
set_option maxRecDepth 100000 in
theorem gangsawref14_in.calls (a0 : Int) (a1 : Int) (a2 : Int) (r : Bool) (w : World) (h : gangsawref14_in.f a0 a1 a2 = some r) :
  Calls Tryz.prog 70 #[.int .i64 a0, .int .i64 a1, .int .i64 a2] w fun e w' => e = .returned (.bool r) ∧ Drawn0 w w' := by
 have H : (if a1 ≤ a0 then (some (decide (a0 ≤ a2))) else (some false)) = some r := h
 clear h
 by_cases c4 : a1 ≤ a0
 ·rw [if_pos c4] at H
  have c4b0 : decide (a1 ≤ a0) = true := decide_eq_true c4
  clear c4
  obtain rfl := Option.some.inj H
  simp only [Option.some.injEq, Prod.mk.injEq] at H
  obtain ⟨rfl⟩ := H
  go_enter Tryz.func70, Tryz.ntmps70
  go_wp2
  go_ret
  exact ⟨by first | rfl | (simp; done) | (simp [*]; done), by repeat (first | exact Drawn0.refl _ | apply Drawn0.step)⟩
 rw [if_neg c4] at H
 have c4b0 : decide (a1 ≤ a0) = false := decide_eq_false c4
 clear c4
 obtain rfl := Option.some.inj H
 simp only [Option.some.injEq, Prod.mk.injEq] at H
 obtain ⟨rfl⟩ := H
 go_enter Tryz.func70, Tryz.ntmps70
 go_wp2
 go_ret
 exact ⟨by first | rfl | (simp; done) | (simp [*]; done), by repeat (first | exact Drawn0.refl _ | apply Drawn0.step)⟩

end Go.Proofs.YtfedmcehkpfciaaGreat.P
