/- What functions of the program return: each contract says so of one function, for every input at which its pure function yields. -/
import Derived.Test.YtfedmcehkpfciaaGreatPx0
import Derived.Test.YtfedmcehkpfciaaGreatPx4
import Derived.Test.YtfedmcehkpfciaaGreatPx19
import Derived.Test.YtfedmcehkpfciaaGreatPx24
import Derived.Test.YtfedmcehkpfciaaGreatPx28
import Derived.Test.YtfedmcehkpfciaaGreatAwk
namespace Go.Proofs.YtfedmcehkpfciaaGreat.P
open Go.RowKit Go.Proofs.YtfedmcehkpfciaaGreatW.PrintWords Go.Proofs.YtfedmcehkpfciaaGreatW.PrintLast Go.Proofs.YtfedmcehkpfciaaGreatW.PrintMore
attribute [local go_sem] max2_int min2_int max_two min_two max_three min_three max_four min_four   -- for this text's walks alone
set_option linter.unusedVariables false
set_option linter.unusedSimpArgs false

open Go.Proofs.YtfedmcehkpfciaaGreat.Awk
def gangsawlaw14_BoringMerges.j0 : Nat → Bool → ByteArray → Int → Int → List (S48) → ByteArray → Int → Int → List (S48) → Option (Bool)
 | 0, _, _, _, _, _, _, _, _, _ => none
 | k + 1, x18, x459000, x459001, x459002, x459003, x460000, x460001, x460002, x460003 => if x18 = true then (some true) else ((boring_Merge.f k x459000 x459001 x459002 x459003 x460000 x460001 x460002 x460003).bind fun bt463 => ((gangsawref14_Merge.f k x459000 x459001 x459002 x459003 x460000 x460001 x460002 x460003).bind fun bt471 => (if bt463.2.2.2.2 = bt471.2.2.2.2 then ((gangsawref14_Equal.f k bt463.1 bt463.2.1 bt463.2.2.1 bt463.2.2.2.1 bt471.1 bt471.2.1 bt471.2.2.1 bt471.2.2.2.1).bind fun t479 => (some t479)) else (some false))))
def gangsawlaw14_BoringMerges.f (k : Nat) (a0_0 : ByteArray) (a0_1 : Int) (a0_2 : Int) (l0_3 : List (S48)) (a1_0 : ByteArray) (a1_1 : Int) (a1_2 : Int) (l1_3 : List (S48)) : Option (Bool) := (gangsawlaw14_awake.f).bind fun t460 => (if t460 = true then ((gangsawref14_Small.f a0_0 a0_1 a0_2 l0_3).bind fun t461 => (if t461 = true then ((gangsawref14_Small.f a1_0 a1_1 a1_2 l1_3).bind fun t462 => (gangsawlaw14_BoringMerges.j0 k (!t462) a0_0 a0_1 a0_2 l0_3 a1_0 a1_1 a1_2 l1_3)) else (gangsawlaw14_BoringMerges.j0 k true a0_0 a0_1 a0_2 l0_3 a1_0 a1_1 a1_2 l1_3))) else (some false))
theorem gangsawlaw14_BoringMerges.mono_l : ∀ k, (∀ y0 y1 y2 y3 y4 y5 y6 y7 y8, LeO (gangsawlaw14_BoringMerges.j0 k y0 y1 y2 y3 y4 y5 y6 y7 y8) (gangsawlaw14_BoringMerges.j0 (k + 1) y0 y1 y2 y3 y4 y5 y6 y7 y8))
 | 0 => fun _ _ _ _ _ _ _ _ _ r h => by simp [gangsawlaw14_BoringMerges.j0] at h
 | k + 1 => by
  have ih0 := gangsawlaw14_BoringMerges.mono_l k
  ·intro y0 y1 y2 y3 y4 y5 y6 y7 y8
   unfold gangsawlaw14_BoringMerges.j0
   repeat' first
   | (with_reducible exact ih0 _ _ _ _ _ _ _ _ _)
   | (with_reducible exact boring_Merge.mono _ _ _ _ _ _ _ _ _)
   | (with_reducible exact gangsawref14_Equal.mono _ _ _ _ _ _ _ _ _)
   | (with_reducible exact gangsawref14_Merge.mono _ _ _ _ _ _ _ _ _)
   | (with_reducible exact LeO.refl _)
   | (with_reducible exact LeO.none _)
   | (with_reducible refine LeO.ite ?_ ?_)
   | (with_reducible refine LeO.bind ?_ (fun _ => ?_))
   | exact ih0 _ _ _ _ _ _ _ _ _
   | exact boring_Merge.mono _ _ _ _ _ _ _ _ _
   | exact gangsawref14_Equal.mono _ _ _ _ _ _ _ _ _
   | exact gangsawref14_Merge.mono _ _ _ _ _ _ _ _ _
   | exact LeO.none _
   | refine LeO.ite ?_ ?_
   | refine LeO.bind ?_ (fun _ => ?_)
theorem gangsawlaw14_BoringMerges.mono : ∀ a0 a1 a2 a3 a4 a5 a6 a7 k, LeO (gangsawlaw14_BoringMerges.f k a0 a1 a2 a3 a4 a5 a6 a7) (gangsawlaw14_BoringMerges.f (k + 1) a0 a1 a2 a3 a4 a5 a6 a7) := by
 intro a0 a1 a2 a3 a4 a5 a6 a7 k
 have ih0 := gangsawlaw14_BoringMerges.mono_l k
 unfold gangsawlaw14_BoringMerges.f
 repeat' first
   | (with_reducible exact ih0 _ _ _ _ _ _ _ _ _)
   | (with_reducible exact boring_Merge.mono _ _ _ _ _ _ _ _ _)
   | (with_reducible exact gangsawref14_Equal.mono _ _ _ _ _ _ _ _ _)
   | (with_reducible exact gangsawref14_Merge.mono _ _ _ _ _ _ _ _ _)
   | (with_reducible exact LeO.refl _)
   | (with_reducible exact LeO.none _)
   | (with_reducible refine LeO.ite ?_ ?_)
   | (with_reducible refine LeO.bind ?_ (fun _ => ?_))
   | exact ih0 _ _ _ _ _ _ _ _ _
   | exact boring_Merge.mono _ _ _ _ _ _ _ _ _
   | exact gangsawref14_Equal.mono _ _ _ _ _ _ _ _ _
   | exact gangsawref14_Merge.mono _ _ _ _ _ _ _ _ _
   | exact LeO.none _
   | refine LeO.ite ?_ ?_
   | refine LeO.bind ?_ (fun _ => ?_)
set_option maxHeartbeats 8000000 in
set_option maxRecDepth 100000 in
theorem gangsawlaw14_BoringMerges.calls (k : Nat) (a0_0 : ByteArray) (a0_1 : Int) (a0_2 : Int) (A0_3 : Option Addr) (c0_3 : Nat) (l0_3 : List (S48)) (a1_0 : ByteArray) (a1_1 : Int) (a1_2 : Int) (A1_3 : Option Addr) (c1_3 : Nat) (l1_3 : List (S48)) (r : Bool) (w : World) (hr0_3 : Kd.C k48 w A0_3 l0_3.length l0_3) (hc0_3 : l0_3.length ≤ c0_3) (hr1_3 : Kd.C k48 w A1_3 l1_3.length l1_3) (hc1_3 : l1_3.length ≤ c1_3) (h : gangsawlaw14_BoringMerges.f k a0_0 a0_1 a0_2 l0_3 a1_0 a1_1 a1_2 l1_3 = some r) (hr : r = true) :
  Calls Tryz.prog 5 #[.agg #[.string a0_0, .int .i64 a0_1, .int .i64 a0_2, .slice A0_3 l0_3.length c0_3], .agg #[.string a1_0, .int .i64 a1_1, .int .i64 a1_2, .slice A1_3 l1_3.length c1_3]] w fun e w' => e = .returned (.bool r) ∧ Below w.heap.size w w' := by
 have hu33 := Tryz.underlying33
 have HR0_3 := aK hr0_3
 have HC0_3 := aK hc0_3
 clear hr0_3 hc0_3
 have HR1_3 := aK hr1_3
 have HC1_3 := aK hc1_3
 clear hr1_3 hc1_3
 have HB := aK (Below.refl w.heap.size w)
 have H : ((gangsawlaw14_awake.f).bind fun t460 => (if t460 = true then ((gangsawref14_Small.f a0_0 a0_1 a0_2 l0_3).bind fun t461 => (if t461 = true then ((gangsawref14_Small.f a1_0 a1_1 a1_2 l1_3).bind fun t462 => (gangsawlaw14_BoringMerges.j0 k (!t462) a0_0 a0_1 a0_2 l0_3 a1_0 a1_1 a1_2 l1_3)) else (gangsawlaw14_BoringMerges.j0 k true a0_0 a0_1 a0_2 l0_3 a1_0 a1_1 a1_2 l1_3))) else (some false))) = some r := h
 clear h
 replace H := Option.bind_eq_some_iff.mp H
 obtain ⟨t460, A30, H⟩ := H
 replace H : (if t460 = true then ((gangsawref14_Small.f a0_0 a0_1 a0_2 l0_3).bind fun t461 => (if t461 = true then ((gangsawref14_Small.f a1_0 a1_1 a1_2 l1_3).bind fun t462 => (gangsawlaw14_BoringMerges.j0 k (!t462) a0_0 a0_1 a0_2 l0_3 a1_0 a1_1 a1_2 l1_3)) else (gangsawlaw14_BoringMerges.j0 k true a0_0 a0_1 a0_2 l0_3 a1_0 a1_1 a1_2 l1_3))) else (some false)) = some r := H
 have A3 := aK A30
 clear A30
 by_cases c4 : t460 = true
 rotate_left
 ·replace c4 := Bool.eq_false_iff.mpr c4
  subst c4
  have H1 : (some false) = some r := by rw [if_neg (show ¬ (false = true) by decide)] at H; exact H
  clear H
  have H := H1
  clear H1
  obtain rfl := Option.some.inj H
  exact absurd hr (by decide)
 subst c4
 have H1 : ((gangsawref14_Small.f a0_0 a0_1 a0_2 l0_3).bind fun t461 => (if t461 = true then ((gangsawref14_Small.f a1_0 a1_1 a1_2 l1_3).bind fun t462 => (gangsawlaw14_BoringMerges.j0 k (!t462) a0_0 a0_1 a0_2 l0_3 a1_0 a1_1 a1_2 l1_3)) else (gangsawlaw14_BoringMerges.j0 k true a0_0 a0_1 a0_2 l0_3 a1_0 a1_1 a1_2 l1_3))) = some r := by rw [if_pos rfl] at H; exact H
 clear H
 have H := H1
 clear H1
 have HC5 := aK H
 clear H
 go_enter Tryz.func5, Tryz.ntmps5
 go_upto_region 3 with (first | ((with_reducible refine gate_dst (N := 2) rfl ?_); refine box_event ?hg (N := 2) ?hd (cs := #[.string a0_0, .int .i64 a0_1, .int .i64 a0_2, .slice A0_3 l0_3.length c0_3]) (t := 33) ?hr ?_; (case hd => rfl); (case hg => rfl); (case hr => first | (go_simp; done) | (go_simp; rfl)); intro gb458 hg w6 hbox hb; have n0_ := aK (yT (HB.out) hb); have n1_ := aK (hbox); have n2_ := aK ((by rw [hg]; exact (yZ (HB.out)) : w.heap.size ≤ gb458)); have n3_ := n2_; clear HB; have HB := n0_; have BK458 := n1_; have GW458 := n2_; have GE458 := n3_; clear n0_ n1_ n2_ n3_; clear hb hbox hg) | ((with_reducible refine gate_dst (N := 3) rfl ?_); refine box_event ?hg (N := 3) ?hd (cs := #[.string a1_0, .int .i64 a1_1, .int .i64 a1_2, .slice A1_3 l1_3.length c1_3]) (t := 33) ?hr ?_; (case hd => rfl); (case hg => rfl); (case hr => first | (go_simp; done) | (go_simp; rfl)); intro gb459 hg w7 hbox hb; have n0_ := aK (zB (g := gb458) (o := .cells #[.string a0_0, .int .i64 a0_1, .int .i64 a0_2, .slice A0_3 l0_3.length c0_3] 33 (0, 0)) (BK458.out) hb); have n1_ := aK (yT (HB.out) hb); have n2_ := aK (hbox); have n3_ := aK ((by rw [hg]; exact (yZ (HB.out)) : w.heap.size ≤ gb459)); have n4_ := n3_; have n5_ := aK ((by rw [hg]; exact Nat.ne_of_lt (blk_lt (g := gb458) (o := .cells #[.string a0_0, .int .i64 a0_1, .int .i64 a0_2, .slice A0_3 l0_3.length c0_3] 33 (0, 0)) (BK458.out)) : gb458 ≠ gb459)); have n6_ := aK ((by rw [hg]; exact Nat.ne_of_gt (blk_lt (g := gb458) (o := .cells #[.string a0_0, .int .i64 a0_1, .int .i64 a0_2, .slice A0_3 l0_3.length c0_3] 33 (0, 0)) (BK458.out)) : gb459 ≠ gb458)); clear BK458; clear HB; have BK458 := n0_; have HB := n1_; have BK459 := n2_; have GW459 := n3_; have GE459 := n4_; have NB458_459 := n5_; have NB459_458 := n6_; clear n0_ n1_ n2_ n3_ n4_ n5_ n6_; clear hb hbox hg) | ((with_reducible refine gate_callee (f := 11) rfl ?_); refine goesL_ (some 9) rfl rfl Tryz.func11 (by kernel_rfl) rfl #[] rfl (by (try simp only [List.map_toArray, List.map_cons, List.map_nil]); first | done | rfl | (simp only [List.length_drop, List.length_take]; rfl)) ?_; (with_reducible refine (gangsawlaw14_awake.calls  true _ A3.out).mono ?_); rintro e w8 ⟨rfl, hb⟩; refine ⟨_, rfl, ?_⟩; have n0_ := aK (zB (g := gb458) (o := .cells #[.string a0_0, .int .i64 a0_1, .int .i64 a0_2, .slice A0_3 l0_3.length c0_3] 33 (0, 0)) (BK458.out) hb); have n1_ := aK (zB (g := gb459) (o := .cells #[.string a1_0, .int .i64 a1_1, .int .i64 a1_2, .slice A1_3 l1_3.length c1_3] 33 (0, 0)) (BK459.out) hb); have n2_ := aK (yT (HB.out) hb); clear BK458; clear BK459; clear HB; have BK458 := n0_; have BK459 := n1_; have HB := n2_; clear n0_ n1_ n2_; (try clear hb)))
 (try simp only [Act.put, sA, sZ, sS])
 go_cut [18] (fun v18 wc => ∃ (kq : Nat) (x18_4 : Bool), v18 = .bool x18_4 ∧ Aside0 (gangsawlaw14_BoringMerges.j0 kq x18_4 a0_0 a0_1 a0_2 l0_3 a1_0 a1_1 a1_2 l1_3 = some r) ∧ Aside0 (kq ≤ k) ∧ Aside0 (wc.heap[gb458]? = some (.cells #[.string a0_0, .int .i64 a0_1, .int .i64 a0_2, (.slice A0_3 l0_3.length c0_3)] 33 (0, 0))) ∧ Aside0 (wc.heap[gb459]? = some (.cells #[.string a1_0, .int .i64 a1_1, .int .i64 a1_2, (.slice A1_3 l1_3.length c1_3)] 33 (0, 0))) ∧ Aside0 (Below w.heap.size w wc))
 case first =>
  have H := HC5.out
  clear HC5
  replace H := Option.bind_eq_some_iff.mp H
  obtain ⟨t461, A90, H⟩ := H
  replace H : (if t461 = true then ((gangsawref14_Small.f a1_0 a1_1 a1_2 l1_3).bind fun t462 => (gangsawlaw14_BoringMerges.j0 k (!t462) a0_0 a0_1 a0_2 l0_3 a1_0 a1_1 a1_2 l1_3)) else (gangsawlaw14_BoringMerges.j0 k true a0_0 a0_1 a0_2 l0_3 a1_0 a1_1 a1_2 l1_3)) = some r := H
  have A9 := aK A90
  clear A90
  by_cases c10 : t461 = true
  rotate_left
  ·replace c10 := Bool.eq_false_iff.mpr c10
   subst c10
   have H1 : (gangsawlaw14_BoringMerges.j0 k true a0_0 a0_1 a0_2 l0_3 a1_0 a1_1 a1_2 l1_3) = some r := by rw [if_neg (show ¬ (false = true) by decide)] at H; exact H
   clear H
   have H := H1
   clear H1
   have H' := aK H
   clear H
   have hnb17 := NB458_459.out
   have hnc17 := NB459_458.out
   have hcz18_0 := zI BK458 0 rfl
   have hcz18_1 := zI BK458 1 rfl
   have hcz18_2 := zI BK458 2 rfl
   have hcz18_3 := zI BK458 3 rfl
   have hfz18_0 := zF BK458.out 0
   have hfz18_1 := zF BK458.out 1
   have hfz18_2 := zF BK458.out 2
   have hfz18_3 := zF BK458.out 3
   go_wp2_with (first | ((with_reducible refine gate_callee (f := 12) rfl ?_); refine goesL_ (some 12) rfl rfl Tryz.func12 (by kernel_rfl) rfl #[.agg #[.string a0_0, .int .i64 a0_1, .int .i64 a0_2, .slice A0_3 l0_3.length c0_3]] rfl (by (try simp only [List.map_toArray, List.map_cons, List.map_nil]); first | done | rfl | (simp only [List.length_drop, List.length_take]; rfl)) ?_; (with_reducible refine (gangsawref14_Small.calls a0_0 a0_1 a0_2 _ _ l0_3 false _ ?side1 ?side2 A9.out).mono ?_); (case side1 => repeat (first | exact (Kd.C_below HR0_3.out HB.out) | (with_reducible refine Kd.C_alloc ?_ _) | (with_reducible refine Kd.C_drewN ?_ _) | (with_reducible refine Kd.C_drew ?_))); (case side2 => exact HC0_3.out); rintro e w19 ⟨rfl, hb⟩; refine ⟨_, rfl, ?_⟩; have n0_ := aK (zB (g := gb458) (o := .cells #[.string a0_0, .int .i64 a0_1, .int .i64 a0_2, .slice A0_3 l0_3.length c0_3] 33 (0, 0)) (BK458.out) hb); have n1_ := aK (zB (g := gb459) (o := .cells #[.string a1_0, .int .i64 a1_1, .int .i64 a1_2, .slice A1_3 l1_3.length c1_3] 33 (0, 0)) (BK459.out) hb); have n2_ := aK (yT (HB.out) hb); clear BK458; clear BK459; clear HB; have BK458 := n0_; have BK459 := n1_; have HB := n2_; clear n0_ n1_ n2_; (try clear hb)))
   go_meet
   case rel => exact ⟨_, (true), (by first | rfl | (simp; done) | (simp [*]; done)), H', ⟨by first | omega | exact Nat.le_refl _⟩, ⟨BK458.out⟩, ⟨BK459.out⟩, ⟨HB.out⟩⟩
  subst c10
  have H1 : ((gangsawref14_Small.f a1_0 a1_1 a1_2 l1_3).bind fun t462 => (gangsawlaw14_BoringMerges.j0 k (!t462) a0_0 a0_1 a0_2 l0_3 a1_0 a1_1 a1_2 l1_3)) = some r := by rw [if_pos rfl] at H; exact H
  clear H
  have H := H1
  clear H1
  replace H := Option.bind_eq_some_iff.mp H
  obtain ⟨t462, A110, H⟩ := H
  replace H : (gangsawlaw14_BoringMerges.j0 k (!t462) a0_0 a0_1 a0_2 l0_3 a1_0 a1_1 a1_2 l1_3) = some r := H
  have A11 := aK A110
  clear A110
  have H' := aK H
  clear H
  have hnb12 := NB458_459.out
  have hnc12 := NB459_458.out
  have hcz13_0 := zI BK458 0 rfl
  have hcz13_1 := zI BK458 1 rfl
  have hcz13_2 := zI BK458 2 rfl
  have hcz13_3 := zI BK458 3 rfl
  have hfz13_0 := zF BK458.out 0
  have hfz13_1 := zF BK458.out 1
  have hfz13_2 := zF BK458.out 2
  have hfz13_3 := zF BK458.out 3
  go_wp2_with (first | ((with_reducible refine gate_callee (f := 12) rfl ?_); refine goesL_ (some 12) rfl rfl Tryz.func12 (by kernel_rfl) rfl #[.agg #[.string a0_0, .int .i64 a0_1, .int .i64 a0_2, .slice A0_3 l0_3.length c0_3]] rfl (by (try simp only [List.map_toArray, List.map_cons, List.map_nil]); first | done | rfl | (simp only [List.length_drop, List.length_take]; rfl)) ?_; (with_reducible refine (gangsawref14_Small.calls a0_0 a0_1 a0_2 _ _ l0_3 true _ ?side1 ?side2 A9.out).mono ?_); (case side1 => repeat (first | exact (Kd.C_below HR0_3.out HB.out) | (with_reducible refine Kd.C_alloc ?_ _) | (with_reducible refine Kd.C_drewN ?_ _) | (with_reducible refine Kd.C_drew ?_))); (case side2 => exact HC0_3.out); rintro e w14 ⟨rfl, hb⟩; refine ⟨_, rfl, ?_⟩; have n0_ := aK (zB (g := gb458) (o := .cells #[.string a0_0, .int .i64 a0_1, .int .i64 a0_2, .slice A0_3 l0_3.length c0_3] 33 (0, 0)) (BK458.out) hb); have n1_ := aK (zB (g := gb459) (o := .cells #[.string a1_0, .int .i64 a1_1, .int .i64 a1_2, .slice A1_3 l1_3.length c1_3] 33 (0, 0)) (BK459.out) hb); have n2_ := aK (yT (HB.out) hb); clear BK458; clear BK459; clear HB; have BK458 := n0_; have BK459 := n1_; have HB := n2_; clear n0_ n1_ n2_; (try clear hb); have hcz15_0 := zI BK459 0 rfl; have hcz15_1 := zI BK459 1 rfl; have hcz15_2 := zI BK459 2 rfl; have hcz15_3 := zI BK459 3 rfl; have hfz15_0 := zF BK459.out 0; have hfz15_1 := zF BK459.out 1; have hfz15_2 := zF BK459.out 2; have hfz15_3 := zF BK459.out 3) | (go_at_call 12; (with_reducible refine (gangsawref14_Small.calls a1_0 a1_1 a1_2 _ _ l1_3 t462 _ ?side1 ?side2 A11.out).mono ?_); (case side1 => repeat (first | exact (Kd.C_below HR1_3.out HB.out) | (with_reducible refine Kd.C_alloc ?_ _) | (with_reducible refine Kd.C_drewN ?_ _) | (with_reducible refine Kd.C_drew ?_))); (case side2 => exact HC1_3.out); rintro e w16 ⟨rfl, hb⟩; have n0_ := aK (zB (g := gb458) (o := .cells #[.string a0_0, .int .i64 a0_1, .int .i64 a0_2, .slice A0_3 l0_3.length c0_3] 33 (0, 0)) (BK458.out) hb); have n1_ := aK (zB (g := gb459) (o := .cells #[.string a1_0, .int .i64 a1_1, .int .i64 a1_2, .slice A1_3 l1_3.length c1_3] 33 (0, 0)) (BK459.out) hb); have n2_ := aK (yT (HB.out) hb); clear BK458; clear BK459; clear HB; have BK458 := n0_; have BK459 := n1_; have HB := n2_; clear n0_ n1_ n2_; (try clear hb)))
  go_meet
  case rel => exact ⟨_, (!t462), (by first | rfl | (simp; done) | (simp [*]; done)), H', ⟨by first | omega | exact Nat.le_refl _⟩, ⟨BK458.out⟩, ⟨BK459.out⟩, ⟨HB.out⟩⟩
 case rest =>
  clear HC5
  try clear c1
  try clear p2
  try clear c4
  try clear c5
  try clear c10
  try clear c11
  try clear c12
  try clear c17
  try clear hcz13_0
  try clear hcz13_1
  try clear hcz13_2
  try clear hcz13_3
  try clear hcz15_0
  try clear hcz15_1
  try clear hcz15_2
  try clear hcz15_3
  try clear hcz18_0
  try clear hcz18_1
  try clear hcz18_2
  try clear hcz18_3
  try clear hfz13_0
  try clear hfz13_1
  try clear hfz13_2
  try clear hfz13_3
  try clear hfz15_0
  try clear hfz15_1
  try clear hfz15_2
  try clear hfz15_3
  try clear hfz18_0
  try clear hfz18_1
  try clear hfz18_2
  try clear hfz18_3
  obtain ⟨kq, x18_4, rfl, HA, HJ4, BK458, BK459, HB⟩ := hcut
  cases kq with
  | zero => exact absurd HA.out (by simp [gangsawlaw14_BoringMerges.j0])
  | succ kj4 =>
   have H := HA.out
   clear HA
   simp only [gangsawlaw14_BoringMerges.j0] at H
   by_cases c20 : x18_4 = true
   ·subst c20
    have H1 : (some true) = some r := by rw [if_pos rfl] at H; exact H
    clear H
    have H := H1
    clear H1
    obtain rfl := Option.some.inj H
    simp only [Option.some.injEq, Prod.mk.injEq] at H
    obtain ⟨rfl⟩ := H
    go_wp2
    go_ret
    exact ⟨rfl, HB.out⟩
   replace c20 := Bool.eq_false_iff.mpr c20
   subst c20
   have H1 : ((boring_Merge.f kj4 a0_0 a0_1 a0_2 l0_3 a1_0 a1_1 a1_2 l1_3).bind fun bt463 => ((gangsawref14_Merge.f kj4 a0_0 a0_1 a0_2 l0_3 a1_0 a1_1 a1_2 l1_3).bind fun bt471 => (if bt463.2.2.2.2 = bt471.2.2.2.2 then ((gangsawref14_Equal.f kj4 bt463.1 bt463.2.1 bt463.2.2.1 bt463.2.2.2.1 bt471.1 bt471.2.1 bt471.2.2.1 bt471.2.2.2.1).bind fun t479 => (some t479)) else (some false)))) = some r := by rw [if_neg (show ¬ (false = true) by decide)] at H; exact H
   clear H
   have H := H1
   clear H1
   replace H := Option.bind_eq_some_iff.mp H
   obtain ⟨⟨t463, t464, t465, t466, t469⟩, A210, H⟩ := H
   replace H : ((gangsawref14_Merge.f kj4 a0_0 a0_1 a0_2 l0_3 a1_0 a1_1 a1_2 l1_3).bind fun bt471 => (if t469 = bt471.2.2.2.2 then ((gangsawref14_Equal.f kj4 t463 t464 t465 t466 bt471.1 bt471.2.1 bt471.2.2.1 bt471.2.2.2.1).bind fun t479 => (some t479)) else (some false))) = some r := H
   have A21 := aK A210
   clear A210
   replace H := Option.bind_eq_some_iff.mp H
   obtain ⟨⟨t471, t472, t473, t474, t477⟩, A220, H⟩ := H
   replace H : (if t469 = t477 then ((gangsawref14_Equal.f kj4 t463 t464 t465 t466 t471 t472 t473 t474).bind fun t479 => (some t479)) else (some false)) = some r := H
   have A22 := aK A220
   clear A220
   by_cases c23 : t469 = t477
   rotate_left
   ·rw [if_neg c23] at H
    have c23b0 : (t469 == t477) = false := beq_eq_false_iff_ne.mpr c23
    have c23b1 : (t469 != t477) = true := bne_iff_ne.mpr c23
    obtain rfl := Option.some.inj H
    exact absurd hr (by decide)
   rw [if_pos c23] at H
   have c23b0 : (t469 == t477) = true := beq_iff_eq.mpr c23
   have c23b1 : (t469 != t477) = false := bne_eq_false_iff_eq.mpr c23
   clear c23
   replace H := Option.bind_eq_some_iff.mp H
   obtain ⟨t479, A240, H⟩ := H
   replace H : (some t479) = some r := H
   have A24 := aK A240
   clear A240
   obtain rfl := Option.some.inj H
   simp only [Option.some.injEq, Prod.mk.injEq] at H
   obtain ⟨rfl⟩ := H
   have hnb25 := NB458_459.out
   have hnc25 := NB459_458.out
   have hcz26_0 := zI BK458 0 rfl
   have hcz26_1 := zI BK458 1 rfl
   have hcz26_2 := zI BK458 2 rfl
   have hcz26_3 := zI BK458 3 rfl
   have hfz26_0 := zF BK458.out 0
   have hfz26_1 := zF BK458.out 1
   have hfz26_2 := zF BK458.out 2
   have hfz26_3 := zF BK458.out 3
   have hcz27_0 := zI BK459 0 rfl
   have hcz27_1 := zI BK459 1 rfl
   have hcz27_2 := zI BK459 2 rfl
   have hcz27_3 := zI BK459 3 rfl
   have hfz27_0 := zF BK459.out 0
   have hfz27_1 := zF BK459.out 1
   have hfz27_2 := zF BK459.out 2
   have hfz27_3 := zF BK459.out 3
   go_wp2_with (first | ((with_reducible refine gate_callee (f := 26) rfl ?_); refine goesL_ (some 22) rfl rfl Tryz.func26 (by kernel_rfl) rfl #[.agg #[.string a0_0, .int .i64 a0_1, .int .i64 a0_2, .slice A0_3 l0_3.length c0_3], .agg #[.string a1_0, .int .i64 a1_1, .int .i64 a1_2, .slice A1_3 l1_3.length c1_3]] rfl (by (try simp only [List.map_toArray, List.map_cons, List.map_nil]); first | done | rfl | (simp only [List.length_drop, List.length_take]; rfl)) ?_; (with_reducible refine (boring_Merge.calls kj4 a0_0 a0_1 a0_2 (fun k_ => k_ < w.heap.size) _ _ l0_3 a1_0 a1_1 a1_2 (fun k_ => k_ < w.heap.size) _ _ l1_3 t463 t464 t465 t466 t469 _ ?side1 ?side2 A21.out).mono ?_); (case side1 => exact Kd.V_mk HC0_3.out (Kd.F_below (Kd.C_F k48_heap HR0_3.out) (by repeat (first | (with_reducible first | exact HB.out | apply yA | apply yN | apply yD | refine yS ?_ GE458.out | refine yS ?_ GE459.out) | exact HB.out)))); (case side2 => exact Kd.V_mk HC1_3.out (Kd.F_below (Kd.C_F k48_heap HR1_3.out) (by repeat (first | (with_reducible first | exact HB.out | apply yA | apply yN | apply yD | refine yS ?_ GE458.out | refine yS ?_ GE459.out) | exact HB.out)))); rintro e w28 ⟨v467, rfl, ho0, hb⟩; refine ⟨_, rfl, ?_⟩; have n0_ := aK (Kd.R_lower (Kd.R_mono (ok' := fun k_ => True) ho0 (fun _ hk_ => trivial)) (yZ (by repeat (first | (with_reducible first | exact HB.out | apply yA | apply yN | apply yD | refine yS ?_ GE458.out | refine yS ?_ GE459.out) | exact HB.out)))); have n1_ := aK (zB (g := gb458) (o := .cells #[.string a0_0, .int .i64 a0_1, .int .i64 a0_2, .slice A0_3 l0_3.length c0_3] 33 (0, 0)) (BK458.out) hb); have n2_ := aK (zB (g := gb459) (o := .cells #[.string a1_0, .int .i64 a1_1, .int .i64 a1_2, .slice A1_3 l1_3.length c1_3] 33 (0, 0)) (BK459.out) hb); have n3_ := aK (yT (by repeat (first | (with_reducible first | exact HB.out | apply yA | apply yN | apply yD | refine yS ?_ GE458.out | refine yS ?_ GE459.out) | exact HB.out)) hb); clear BK458; clear BK459; clear HB; have HO468 := n0_; have BK458 := n1_; have BK459 := n2_; have HB := n3_; clear n0_ n1_ n2_ n3_; (try clear hb); (try clear ho0)) | ((with_reducible refine gate_dst (N := 5) rfl ?_); refine box_event ?hg (N := 5) ?hd (cs := #[.string (⟨#[]⟩ : ByteArray), .int .i64 0, .int .i64 0, .slice none 0 0]) (t := 33) ?hr ?_; (case hd => rfl); (case hg => rfl); (case hr => first | (go_simp; done) | (go_simp; rfl)); intro gb470 hg w29 hbox hb; have n0_ := aK (Kd.R_below (HO468.out) hb); have n1_ := aK (zB (g := gb458) (o := .cells #[.string a0_0, .int .i64 a0_1, .int .i64 a0_2, .slice A0_3 l0_3.length c0_3] 33 (0, 0)) (BK458.out) hb); have n2_ := aK (zB (g := gb459) (o := .cells #[.string a1_0, .int .i64 a1_1, .int .i64 a1_2, .slice A1_3 l1_3.length c1_3] 33 (0, 0)) (BK459.out) hb); have ⟨n3_, n5_⟩ := zV (w := w) hb hg (by repeat (first | (with_reducible first | exact HB.out | apply yA | apply yN | apply yD | refine yS ?_ GE458.out | refine yS ?_ GE459.out) | exact HB.out)); have n4_ := aK (hbox); have n6_ := n5_; have n7_ := aK ((by rw [hg]; exact Nat.ne_of_lt (blk_lt (g := gb458) (o := .cells #[.string a0_0, .int .i64 a0_1, .int .i64 a0_2, .slice A0_3 l0_3.length c0_3] 33 (0, 0)) (BK458.out)) : gb458 ≠ gb470)); have n8_ := aK ((by rw [hg]; exact Nat.ne_of_gt (blk_lt (g := gb458) (o := .cells #[.string a0_0, .int .i64 a0_1, .int .i64 a0_2, .slice A0_3 l0_3.length c0_3] 33 (0, 0)) (BK458.out)) : gb470 ≠ gb458)); have n9_ := aK ((by rw [hg]; exact Nat.ne_of_lt (blk_lt (g := gb459) (o := .cells #[.string a1_0, .int .i64 a1_1, .int .i64 a1_2, .slice A1_3 l1_3.length c1_3] 33 (0, 0)) (BK459.out)) : gb459 ≠ gb470)); have n10_ := aK ((by rw [hg]; exact Nat.ne_of_gt (blk_lt (g := gb459) (o := .cells #[.string a1_0, .int .i64 a1_1, .int .i64 a1_2, .slice A1_3 l1_3.length c1_3] 33 (0, 0)) (BK459.out)) : gb470 ≠ gb459)); clear HO468; clear BK458; clear BK459; clear HB; have HO468 := n0_; have BK458 := n1_; have BK459 := n2_; have HB := n3_; have BK470 := n4_; have GW470 := n5_; have GE470 := n6_; have NB458_470 := n7_; have NB470_458 := n8_; have NB459_470 := n9_; have NB470_459 := n10_; clear n0_ n1_ n2_ n3_ n4_ n5_ n6_ n7_ n8_ n9_ n10_; clear hb hbox hg; have hnb30 := NB470_458.out; have hnc30 := NB458_470.out; have hnb31 := NB470_459.out; have hnc31 := NB459_470.out; have hcz32_0 := zI BK470 0 rfl; have hcz32_1 := zI BK470 1 rfl; have hcz32_2 := zI BK470 2 rfl; have hcz32_3 := zI BK470 3 rfl; have hfz32_0 := zF BK470.out 0; have hfz32_1 := zF BK470.out 1; have hfz32_2 := zF BK470.out 2; have hfz32_3 := zF BK470.out 3; obtain ⟨Ao33, co33, eo33⟩ := Kd.R_slice HO468.out; subst eo33; have hcz34_0 := zI BK458 0 rfl; have hcz34_1 := zI BK458 1 rfl; have hcz34_2 := zI BK458 2 rfl; have hcz34_3 := zI BK458 3 rfl; have hfz34_0 := zF BK458.out 0; have hfz34_1 := zF BK458.out 1; have hfz34_2 := zF BK458.out 2; have hfz34_3 := zF BK458.out 3; have hcz35_0 := zI BK459 0 rfl; have hcz35_1 := zI BK459 1 rfl; have hcz35_2 := zI BK459 2 rfl; have hcz35_3 := zI BK459 3 rfl; have hfz35_0 := zF BK459.out 0; have hfz35_1 := zF BK459.out 1; have hfz35_2 := zF BK459.out 2; have hfz35_3 := zF BK459.out 3) | ((with_reducible refine gate_callee (f := 27) rfl ?_); refine goesL_ (some 28) rfl rfl Tryz.func27 (by kernel_rfl) rfl #[.agg #[.string a0_0, .int .i64 a0_1, .int .i64 a0_2, .slice A0_3 l0_3.length c0_3], .agg #[.string a1_0, .int .i64 a1_1, .int .i64 a1_2, .slice A1_3 l1_3.length c1_3]] rfl (by (try simp only [List.map_toArray, List.map_cons, List.map_nil]); first | done | rfl | (simp only [List.length_drop, List.length_take]; rfl)) ?_; (with_reducible refine (gangsawref14_Merge.calls kj4 a0_0 a0_1 a0_2 _ _ l0_3 a1_0 a1_1 a1_2 _ _ l1_3 t471 t472 t473 t474 t477 _ ?side1 ?side2 ?side3 ?side4 A22.out).mono ?_); (case side1 => exact Kd.C_below HR0_3.out (by repeat (first | (with_reducible first | exact HB.out | apply yA | apply yN | apply yD | refine yS ?_ GE458.out | refine yS ?_ GE459.out | refine yS ?_ GE470.out) | exact HB.out))); (case side2 => exact HC0_3.out); (case side3 => exact Kd.C_below HR1_3.out (by repeat (first | (with_reducible first | exact HB.out | apply yA | apply yN | apply yD | refine yS ?_ GE458.out | refine yS ?_ GE459.out | refine yS ?_ GE470.out) | exact HB.out))); (case side4 => exact HC1_3.out); rintro e w36 ⟨v475, rfl, ho0, hb⟩; refine ⟨_, rfl, ?_⟩; have n0_ := aK (Kd.R_elder' (by (with_reducible repeat (first | apply Kd.R_alloc | apply Kd.R_drewN | apply Kd.R_drew)); exact (Kd.R_mono (Kd.R_far (p := ⟨gb470, 3, none⟩) (Kd.R_far (p := ⟨gb470, 2, none⟩) (Kd.R_far (p := ⟨gb470, 1, none⟩) (Kd.R_far (p := ⟨gb470, 0, none⟩) (Kd.R_types HO468.out BK470.out (by decide)) (fun _ hk => hk.2) (.string t463)) (fun _ hk => hk.2) (.int .i64 t464)) (fun _ hk => hk.2) (.int .i64 t465)) (fun _ hk => hk.2) (.slice Ao33 t466.length co33)) (fun _ h_ => h_.1))) (Kd.R_base ho0) hb); have n1_ := aK (Kd.R_lower (Kd.R_new' ho0 (Kd.R_lt (by (with_reducible repeat (first | apply Kd.R_alloc | apply Kd.R_drewN | apply Kd.R_drew)); exact (Kd.R_mono (Kd.R_far (p := ⟨gb470, 3, none⟩) (Kd.R_far (p := ⟨gb470, 2, none⟩) (Kd.R_far (p := ⟨gb470, 1, none⟩) (Kd.R_far (p := ⟨gb470, 0, none⟩) (Kd.R_types HO468.out BK470.out (by decide)) (fun _ hk => hk.2) (.string t463)) (fun _ hk => hk.2) (.int .i64 t464)) (fun _ hk => hk.2) (.int .i64 t465)) (fun _ hk => hk.2) (.slice Ao33 t466.length co33)) (fun _ h_ => h_.1))))) (yZ (by repeat (first | (with_reducible first | exact HB.out | apply yA | apply yN | apply yD | refine yS ?_ GE458.out | refine yS ?_ GE459.out | refine yS ?_ GE470.out) | exact HB.out)))); have n2_ := aK (zB (g := gb458) (o := .cells #[.string a0_0, .int .i64 a0_1, .int .i64 a0_2, .slice A0_3 l0_3.length c0_3] 33 (0, 0)) (by refine blk_far ?_ NB458_470.out _; refine blk_far ?_ NB458_470.out _; refine blk_far ?_ NB458_470.out _; refine blk_far ?_ NB458_470.out _; exact BK458.out) hb); have n3_ := aK (zB (g := gb459) (o := .cells #[.string a1_0, .int .i64 a1_1, .int .i64 a1_2, .slice A1_3 l1_3.length c1_3] 33 (0, 0)) (by refine blk_far ?_ NB459_470.out _; refine blk_far ?_ NB459_470.out _; refine blk_far ?_ NB459_470.out _; refine blk_far ?_ NB459_470.out _; exact BK459.out) hb); have n4_ := aK (zB (g := gb470) (o := .cells #[.string t463, .int .i64 t464, .int .i64 t465, .slice Ao33 t466.length co33] 33 (0, 0)) (by refine blk_put (cs := #[.string t463, .int .i64 t464, .int .i64 t465, .slice none 0 0]) ?_ 3 _ rfl; refine blk_put (cs := #[.string t463, .int .i64 t464, .int .i64 0, .slice none 0 0]) ?_ 2 _ rfl; refine blk_put (cs := #[.string t463, .int .i64 0, .int .i64 0, .slice none 0 0]) ?_ 1 _ rfl; refine blk_put (cs := #[.string (⟨#[]⟩ : ByteArray), .int .i64 0, .int .i64 0, .slice none 0 0]) ?_ 0 _ rfl; exact BK470.out) hb); have n5_ := aK (yT (by repeat (first | (with_reducible first | exact HB.out | apply yA | apply yN | apply yD | refine yS ?_ GE458.out | refine yS ?_ GE459.out | refine yS ?_ GE470.out) | exact HB.out)) hb); clear HO468; clear BK458; clear BK459; clear BK470; clear HB; have HO468 := n0_; have HO476 := n1_; have BK458 := n2_; have BK459 := n3_; have BK470 := n4_; have HB := n5_; clear n0_ n1_ n2_ n3_ n4_ n5_; (try clear hb); (try clear ho0)) | ((with_reducible refine gate_dst (N := 7) rfl ?_); refine box_event ?hg (N := 7) ?hd (cs := #[.string (⟨#[]⟩ : ByteArray), .int .i64 0, .int .i64 0, .slice none 0 0]) (t := 33) ?hr ?_; (case hd => rfl); (case hg => rfl); (case hr => first | (go_simp; done) | (go_simp; rfl)); intro gb478 hg w37 hbox hb; have n0_ := aK (Kd.R_below (HO468.out) hb); have n1_ := aK (Kd.R_below (HO476.out) hb); have n2_ := aK (zB (g := gb458) (o := .cells #[.string a0_0, .int .i64 a0_1, .int .i64 a0_2, .slice A0_3 l0_3.length c0_3] 33 (0, 0)) (BK458.out) hb); have n3_ := aK (zB (g := gb459) (o := .cells #[.string a1_0, .int .i64 a1_1, .int .i64 a1_2, .slice A1_3 l1_3.length c1_3] 33 (0, 0)) (BK459.out) hb); have n4_ := aK (zB (g := gb470) (o := .cells #[.string t463, .int .i64 t464, .int .i64 t465, .slice Ao33 t466.length co33] 33 (0, 0)) (BK470.out) hb); have ⟨n5_, n7_⟩ := zV (w := w) hb hg (by repeat (first | (with_reducible first | exact HB.out | apply yA | apply yN | apply yD | refine yS ?_ GE458.out | refine yS ?_ GE459.out | refine yS ?_ GE470.out) | exact HB.out)); have n6_ := aK (hbox); have n8_ := n7_; have n9_ := aK ((by rw [hg]; exact Nat.ne_of_lt (blk_lt (g := gb458) (o := .cells #[.string a0_0, .int .i64 a0_1, .int .i64 a0_2, .slice A0_3 l0_3.length c0_3] 33 (0, 0)) (BK458.out)) : gb458 ≠ gb478)); have n10_ := aK ((by rw [hg]; exact Nat.ne_of_gt (blk_lt (g := gb458) (o := .cells #[.string a0_0, .int .i64 a0_1, .int .i64 a0_2, .slice A0_3 l0_3.length c0_3] 33 (0, 0)) (BK458.out)) : gb478 ≠ gb458)); have n11_ := aK ((by rw [hg]; exact Nat.ne_of_lt (blk_lt (g := gb459) (o := .cells #[.string a1_0, .int .i64 a1_1, .int .i64 a1_2, .slice A1_3 l1_3.length c1_3] 33 (0, 0)) (BK459.out)) : gb459 ≠ gb478)); have n12_ := aK ((by rw [hg]; exact Nat.ne_of_gt (blk_lt (g := gb459) (o := .cells #[.string a1_0, .int .i64 a1_1, .int .i64 a1_2, .slice A1_3 l1_3.length c1_3] 33 (0, 0)) (BK459.out)) : gb478 ≠ gb459)); have n13_ := aK ((by rw [hg]; exact Nat.ne_of_lt (blk_lt (g := gb470) (o := .cells #[.string t463, .int .i64 t464, .int .i64 t465, .slice Ao33 t466.length co33] 33 (0, 0)) (BK470.out)) : gb470 ≠ gb478)); have n14_ := aK ((by rw [hg]; exact Nat.ne_of_gt (blk_lt (g := gb470) (o := .cells #[.string t463, .int .i64 t464, .int .i64 t465, .slice Ao33 t466.length co33] 33 (0, 0)) (BK470.out)) : gb478 ≠ gb470)); clear HO468; clear HO476; clear BK458; clear BK459; clear BK470; clear HB; have HO468 := n0_; have HO476 := n1_; have BK458 := n2_; have BK459 := n3_; have BK470 := n4_; have HB := n5_; have BK478 := n6_; have GW478 := n7_; have GE478 := n8_; have NB458_478 := n9_; have NB478_458 := n10_; have NB459_478 := n11_; have NB478_459 := n12_; have NB470_478 := n13_; have NB478_470 := n14_; clear n0_ n1_ n2_ n3_ n4_ n5_ n6_ n7_ n8_ n9_ n10_ n11_ n12_ n13_ n14_; clear hb hbox hg; have hnb38 := NB478_458.out; have hnc38 := NB458_478.out; have hnb39 := NB478_459.out; have hnc39 := NB459_478.out; have hnb40 := NB478_470.out; have hnc40 := NB470_478.out; have hcz41_0 := zI BK478 0 rfl; have hcz41_1 := zI BK478 1 rfl; have hcz41_2 := zI BK478 2 rfl; have hcz41_3 := zI BK478 3 rfl; have hfz41_0 := zF BK478.out 0; have hfz41_1 := zF BK478.out 1; have hfz41_2 := zF BK478.out 2; have hfz41_3 := zF BK478.out 3; obtain ⟨Ao42, co42, eo42⟩ := Kd.R_slice HO476.out; subst eo42; have hcz43_0 := zI BK470 0 rfl; have hcz43_1 := zI BK470 1 rfl; have hcz43_2 := zI BK470 2 rfl; have hcz43_3 := zI BK470 3 rfl; have hfz43_0 := zF BK470.out 0; have hfz43_1 := zF BK470.out 1; have hfz43_2 := zF BK470.out 2; have hfz43_3 := zF BK470.out 3) | (go_at_call 23; (with_reducible refine (gangsawref14_Equal.calls kj4 t463 t464 t465 _ _ t466 t471 t472 t473 _ _ t474 t479 _ ?side1 ?side2 ?side3 ?side4 A24.out).mono ?_); (case side1 => refine (Kd.R_reads' (e := 48) (base := w.heap.size) (ok := fun k_ => (True ∧ some k_ ≠ (.slice Ao42 t474.length co42 : Value).ownBlock)) (n := t466.length) (c := co33) ?_).2.2; exact (by (with_reducible repeat (first | apply Kd.R_alloc | apply Kd.R_drewN | apply Kd.R_drew)); exact (Kd.R_mono (Kd.R_far (p := ⟨gb478, 3, none⟩) (Kd.R_far (p := ⟨gb478, 2, none⟩) (Kd.R_far (p := ⟨gb478, 1, none⟩) (Kd.R_far (p := ⟨gb478, 0, none⟩) (Kd.R_types HO468.out BK478.out (by decide)) (fun _ hk => hk.2) (.string t471)) (fun _ hk => hk.2) (.int .i64 t472)) (fun _ hk => hk.2) (.int .i64 t473)) (fun _ hk => hk.2) (.slice Ao42 t474.length co42)) (fun _ h_ => h_.1)))); (case side2 => exact (Kd.R_reads' HO468.out).2.1); (case side3 => refine (Kd.R_reads' (e := 48) (base := w.heap.size) (ok := fun k_ => (True ∧ some k_ ≠ (.slice Ao33 t466.length co33 : Value).ownBlock)) (n := t474.length) (c := co42) ?_).2.2; exact (by (with_reducible repeat (first | apply Kd.R_alloc | apply Kd.R_drewN | apply Kd.R_drew)); exact (Kd.R_mono (Kd.R_far (p := ⟨gb478, 3, none⟩) (Kd.R_far (p := ⟨gb478, 2, none⟩) (Kd.R_far (p := ⟨gb478, 1, none⟩) (Kd.R_far (p := ⟨gb478, 0, none⟩) (Kd.R_types HO476.out BK478.out (by decide)) (fun _ hk => hk.2) (.string t471)) (fun _ hk => hk.2) (.int .i64 t472)) (fun _ hk => hk.2) (.int .i64 t473)) (fun _ hk => hk.2) (.slice Ao42 t474.length co42)) (fun _ h_ => h_.1)))); (case side4 => exact (Kd.R_reads' HO476.out).2.1); rintro e w44 ⟨rfl, hb⟩; have n0_ := aK (Kd.R_below (by (with_reducible repeat (first | apply Kd.R_alloc | apply Kd.R_drewN | apply Kd.R_drew)); exact (Kd.R_mono (Kd.R_far (p := ⟨gb478, 3, none⟩) (Kd.R_far (p := ⟨gb478, 2, none⟩) (Kd.R_far (p := ⟨gb478, 1, none⟩) (Kd.R_far (p := ⟨gb478, 0, none⟩) (Kd.R_types HO468.out BK478.out (by decide)) (fun _ hk => hk.2) (.string t471)) (fun _ hk => hk.2) (.int .i64 t472)) (fun _ hk => hk.2) (.int .i64 t473)) (fun _ hk => hk.2) (.slice Ao42 t474.length co42)) (fun _ h_ => h_.1))) hb); have n1_ := aK (Kd.R_below (by (with_reducible repeat (first | apply Kd.R_alloc | apply Kd.R_drewN | apply Kd.R_drew)); exact (Kd.R_mono (Kd.R_far (p := ⟨gb478, 3, none⟩) (Kd.R_far (p := ⟨gb478, 2, none⟩) (Kd.R_far (p := ⟨gb478, 1, none⟩) (Kd.R_far (p := ⟨gb478, 0, none⟩) (Kd.R_types HO476.out BK478.out (by decide)) (fun _ hk => hk.2) (.string t471)) (fun _ hk => hk.2) (.int .i64 t472)) (fun _ hk => hk.2) (.int .i64 t473)) (fun _ hk => hk.2) (.slice Ao42 t474.length co42)) (fun _ h_ => h_.1))) hb); have n2_ := aK (zB (g := gb458) (o := .cells #[.string a0_0, .int .i64 a0_1, .int .i64 a0_2, .slice A0_3 l0_3.length c0_3] 33 (0, 0)) (by refine blk_far ?_ NB458_478.out _; refine blk_far ?_ NB458_478.out _; refine blk_far ?_ NB458_478.out _; refine blk_far ?_ NB458_478.out _; exact BK458.out) hb); have n3_ := aK (zB (g := gb459) (o := .cells #[.string a1_0, .int .i64 a1_1, .int .i64 a1_2, .slice A1_3 l1_3.length c1_3] 33 (0, 0)) (by refine blk_far ?_ NB459_478.out _; refine blk_far ?_ NB459_478.out _; refine blk_far ?_ NB459_478.out _; refine blk_far ?_ NB459_478.out _; exact BK459.out) hb); have n4_ := aK (zB (g := gb470) (o := .cells #[.string t463, .int .i64 t464, .int .i64 t465, .slice Ao33 t466.length co33] 33 (0, 0)) (by refine blk_far ?_ NB470_478.out _; refine blk_far ?_ NB470_478.out _; refine blk_far ?_ NB470_478.out _; refine blk_far ?_ NB470_478.out _; exact BK470.out) hb); have n5_ := aK (zB (g := gb478) (o := .cells #[.string t471, .int .i64 t472, .int .i64 t473, .slice Ao42 t474.length co42] 33 (0, 0)) (by refine blk_put (cs := #[.string t471, .int .i64 t472, .int .i64 t473, .slice none 0 0]) ?_ 3 _ rfl; refine blk_put (cs := #[.string t471, .int .i64 t472, .int .i64 0, .slice none 0 0]) ?_ 2 _ rfl; refine blk_put (cs := #[.string t471, .int .i64 0, .int .i64 0, .slice none 0 0]) ?_ 1 _ rfl; refine blk_put (cs := #[.string (⟨#[]⟩ : ByteArray), .int .i64 0, .int .i64 0, .slice none 0 0]) ?_ 0 _ rfl; exact BK478.out) hb); have n6_ := aK (yT (by repeat (first | (with_reducible first | exact HB.out | apply yA | apply yN | apply yD | refine yS ?_ GE458.out | refine yS ?_ GE459.out | refine yS ?_ GE470.out | refine yS ?_ GE478.out) | exact HB.out)) hb); clear HO468; clear HO476; clear BK458; clear BK459; clear BK470; clear BK478; clear HB; have HO468 := n0_; have HO476 := n1_; have BK458 := n2_; have BK459 := n3_; have BK470 := n4_; have BK478 := n5_; have HB := n6_; clear n0_ n1_ n2_ n3_ n4_ n5_ n6_; (try clear hb)))
   go_ret
   exact ⟨by first | rfl | (simp [errW_none, errW_some] <;> rfl) | (simp [*, errW_none, errW_some] <;> rfl), HB.out⟩

end Go.Proofs.YtfedmcehkpfciaaGreat.P
