/- What functions of the program return: each contract says so of one function, for every input at which its pure function yields. -/
import Derived.Test.YtfedmcehkpfciaaGreatPx0
import Derived.Test.YtfedmcehkpfciaaGreatPx7
import Derived.Test.YtfedmcehkpfciaaGreatPx13
import Derived.Test.YtfedmcehkpfciaaGreatPx14
namespace Go.Proofs.YtfedmcehkpfciaaGreat.P
open Go.RowKit Go.Proofs.YtfedmcehkpfciaaGreatW.PrintWords Go.Proofs.YtfedmcehkpfciaaGreatW.PrintLast Go.Proofs.YtfedmcehkpfciaaGreatW.PrintMore
attribute [local go_sem] max2_int min2_int max_two min_two max_three min_three max_four min_four   -- for this text's walks alone
set_option linter.unusedVariables false
set_option linter.unusedSimpArgs false

mutual
def gangsawref14_Formed.j0 : Nat → Bool → ByteArray → Int → Int → List (S48) → Option (Int)
 | 0, _, _, _, _, _ => none
 | k + 1, x4, x191000, x191001, x191002, x191003 => gangsawref14_Formed.l0 k x4 0 x191000 x191001 x191002 x191003
def gangsawref14_Formed.l0 : Nat → Bool → Int → ByteArray → Int → Int → List (S48) → Option (Int)
 | 0, _, _, _, _, _, _ => none
 | k + 1, x4, x5, x191000, x191001, x191002, x191003 => if x5 < (x191003.length : Int) then (if x4 = true then (if 0 ≤ x5 then ((gangsawref14_in.f ((rd_T48 x191003 x5).f0) (-1000000) 1000000).bind fun t195 => (if t195 = true then ((gangsawref14_in.f ((rd_T48 x191003 x5).f1) (-1000000) 1000000).bind fun t197 => (gangsawref14_Formed.l0 k t197 (wrap64 (x5 + 1)) x191000 x191001 x191002 x191003)) else (gangsawref14_Formed.l0 k false (wrap64 (x5 + 1)) x191000 x191001 x191002 x191003))) else (none)) else (gangsawref14_Formed.l0 k false (wrap64 (x5 + 1)) x191000 x191001 x191002 x191003)) else (if x4 = true then ((gangsawref14_stacked.f k x191000 x191001 x191002 x191003).bind fun t198 => (if t198 = true then (some 0) else (some 11))) else (some 6))
end
def gangsawref14_Formed.f (k : Nat) (a0_0 : ByteArray) (a0_1 : Int) (a0_2 : Int) (l0_3 : List (S48)) : Option (Int) := (gangsawref14_named.f k a0_0 a0_1 a0_2 l0_3).bind fun t191 => (if t191 = 0 then ((gangsawref14_in.f a0_1 (-1000000) 999999).bind fun t192 => (if t192 = true then ((gangsawref14_in.f a0_2 (-1000000) 999999).bind fun t193 => (gangsawref14_Formed.j0 k t193 a0_0 a0_1 a0_2 l0_3)) else (gangsawref14_Formed.j0 k false a0_0 a0_1 a0_2 l0_3))) else (some t191))
theorem gangsawref14_Formed.mono_l : ∀ k, (∀ y0 y1 y2 y3 y4, LeO (gangsawref14_Formed.j0 k y0 y1 y2 y3 y4) (gangsawref14_Formed.j0 (k + 1) y0 y1 y2 y3 y4)) ∧ (∀ y0 y1 y2 y3 y4 y5, LeO (gangsawref14_Formed.l0 k y0 y1 y2 y3 y4 y5) (gangsawref14_Formed.l0 (k + 1) y0 y1 y2 y3 y4 y5))
 | 0 => ⟨fun _ _ _ _ _ r h => by simp [gangsawref14_Formed.j0] at h, fun _ _ _ _ _ _ r h => by simp [gangsawref14_Formed.l0] at h⟩
 | k + 1 => by
  obtain ⟨ih0, ih1⟩ := gangsawref14_Formed.mono_l k
  refine ⟨?_, ?_⟩
  ·intro y0 y1 y2 y3 y4
   unfold gangsawref14_Formed.j0
   repeat' first
   | (with_reducible exact ih0 _ _ _ _ _)
   | (with_reducible exact ih1 _ _ _ _ _ _)
   | (with_reducible exact gangsawref14_named.mono _ _ _ _ _)
   | (with_reducible exact gangsawref14_stacked.mono _ _ _ _ _)
   | (with_reducible exact LeO.refl _)
   | (with_reducible exact LeO.none _)
   | (with_reducible refine LeO.ite ?_ ?_)
   | (with_reducible refine LeO.bind ?_ (fun _ => ?_))
   | exact ih0 _ _ _ _ _
   | exact ih1 _ _ _ _ _ _
   | exact gangsawref14_named.mono _ _ _ _ _
   | exact gangsawref14_stacked.mono _ _ _ _ _
   | exact LeO.none _
   | refine LeO.ite ?_ ?_
   | refine LeO.bind ?_ (fun _ => ?_)
  ·intro y0 y1 y2 y3 y4 y5
   unfold gangsawref14_Formed.l0
   repeat' first
   | (with_reducible exact ih0 _ _ _ _ _)
   | (with_reducible exact ih1 _ _ _ _ _ _)
   | (with_reducible exact gangsawref14_named.mono _ _ _ _ _)
   | (with_reducible exact gangsawref14_stacked.mono _ _ _ _ _)
   | (with_reducible exact LeO.refl _)
   | (with_reducible exact LeO.none _)
   | (with_reducible refine LeO.ite ?_ ?_)
   | (with_reducible refine LeO.bind ?_ (fun _ => ?_))
   | exact ih0 _ _ _ _ _
   | exact ih1 _ _ _ _ _ _
   | exact gangsawref14_named.mono _ _ _ _ _
   | exact gangsawref14_stacked.mono _ _ _ _ _
   | exact LeO.none _
   | refine LeO.ite ?_ ?_
   | refine LeO.bind ?_ (fun _ => ?_)
theorem gangsawref14_Formed.mono : ∀ a0 a1 a2 a3 k, LeO (gangsawref14_Formed.f k a0 a1 a2 a3) (gangsawref14_Formed.f (k + 1) a0 a1 a2 a3) := by
 intro a0 a1 a2 a3 k
 obtain ⟨ih0, ih1⟩ := gangsawref14_Formed.mono_l k
 unfold gangsawref14_Formed.f
 repeat' first
   | (with_reducible exact ih0 _ _ _ _ _)
   | (with_reducible exact ih1 _ _ _ _ _ _)
   | (with_reducible exact gangsawref14_named.mono _ _ _ _ _)
   | (with_reducible exact gangsawref14_stacked.mono _ _ _ _ _)
   | (with_reducible exact LeO.refl _)
   | (with_reducible exact LeO.none _)
   | (with_reducible refine LeO.ite ?_ ?_)
   | (with_reducible refine LeO.bind ?_ (fun _ => ?_))
   | exact ih0 _ _ _ _ _
   | exact ih1 _ _ _ _ _ _
   | exact gangsawref14_named.mono _ _ _ _ _
   | exact gangsawref14_stacked.mono _ _ _ _ _
   | exact LeO.none _
   | refine LeO.ite ?_ ?_
   | refine LeO.bind ?_ (fun _ => ?_)
set_option maxHeartbeats 8000000 in
set_option maxRecDepth 100000 in
theorem gangsawref14_Formed.calls (k : Nat) (a0_0 : ByteArray) (a0_1 : Int) (a0_2 : Int) (A0_3 : Option Addr) (c0_3 : Nat) (l0_3 : List (S48)) (r : Int) (w : World) (hr0_3 : Kd.C k48 w A0_3 l0_3.length l0_3) (hc0_3 : l0_3.length ≤ c0_3) (h : gangsawref14_Formed.f k a0_0 a0_1 a0_2 l0_3 = some r) :
  Calls Tryz.prog 48 #[.agg #[.string a0_0, .int .i64 a0_1, .int .i64 a0_2, .slice A0_3 l0_3.length c0_3]] w fun e w' => e = .returned (.int .i64 r) ∧ Below w.heap.size w w' := by
 have hu33 := Tryz.underlying33
 have HR0_3 := aK hr0_3
 have HC0_3 := aK hc0_3
 clear hr0_3 hc0_3
 have HB := aK (Below.refl w.heap.size w)
 have H : ((gangsawref14_named.f k a0_0 a0_1 a0_2 l0_3).bind fun t191 => (if t191 = 0 then ((gangsawref14_in.f a0_1 (-1000000) 999999).bind fun t192 => (if t192 = true then ((gangsawref14_in.f a0_2 (-1000000) 999999).bind fun t193 => (gangsawref14_Formed.j0 k t193 a0_0 a0_1 a0_2 l0_3)) else (gangsawref14_Formed.j0 k false a0_0 a0_1 a0_2 l0_3))) else (some t191))) = some r := h
 clear h
 replace H := Option.bind_eq_some_iff.mp H
 obtain ⟨t191, A20, H⟩ := H
 replace H : (if t191 = 0 then ((gangsawref14_in.f a0_1 (-1000000) 999999).bind fun t192 => (if t192 = true then ((gangsawref14_in.f a0_2 (-1000000) 999999).bind fun t193 => (gangsawref14_Formed.j0 k t193 a0_0 a0_1 a0_2 l0_3)) else (gangsawref14_Formed.j0 k false a0_0 a0_1 a0_2 l0_3))) else (some t191)) = some r := H
 have A2 := aK A20
 clear A20
 by_cases c3 : t191 = 0
 rotate_left
 ·rw [if_neg c3] at H
  have c3b0 : (t191 == 0) = false := beq_eq_false_iff_ne.mpr c3
  have c3b1 : (t191 != 0) = true := bne_iff_ne.mpr c3
  obtain rfl := Option.some.inj H
  simp only [Option.some.injEq, Prod.mk.injEq] at H
  obtain ⟨rfl⟩ := H
  go_enter Tryz.func48, Tryz.ntmps48
  go_wp2_with (first | ((with_reducible refine gate_dst (N := 1) rfl ?_); refine box_event ?hg (N := 1) ?hd (cs := #[.string a0_0, .int .i64 a0_1, .int .i64 a0_2, .slice A0_3 l0_3.length c0_3]) (t := 33) ?hr ?_; (case hd => rfl); (case hg => rfl); (case hr => first | (go_simp; done) | (go_simp; rfl)); intro gb190 hg w30 hbox hb; have n0_ := aK (yT (HB.out) hb); have n1_ := aK (hbox); have n2_ := aK ((by rw [hg]; exact (yZ (HB.out)) : w.heap.size ≤ gb190)); have n3_ := n2_; clear HB; have HB := n0_; have BK190 := n1_; have GW190 := n2_; have GE190 := n3_; clear n0_ n1_ n2_ n3_; clear hb hbox hg; have hcz31_0 := zI BK190 0 rfl; have hcz31_1 := zI BK190 1 rfl; have hcz31_2 := zI BK190 2 rfl; have hcz31_3 := zI BK190 3 rfl; have hfz31_0 := zF BK190.out 0; have hfz31_1 := zF BK190.out 1; have hfz31_2 := zF BK190.out 2; have hfz31_3 := zF BK190.out 3) | ((with_reducible refine gate_callee (f := 95) rfl ?_); refine goesL_ (some 7) rfl rfl Tryz.func95 (by kernel_rfl) rfl #[.agg #[.string a0_0, .int .i64 a0_1, .int .i64 a0_2, .slice A0_3 l0_3.length c0_3]] rfl (by (try simp only [List.map_toArray, List.map_cons, List.map_nil]); first | done | rfl | (simp only [List.length_drop, List.length_take]; rfl)) ?_; (with_reducible refine (gangsawref14_named.calls k a0_0 a0_1 a0_2 _ _ l0_3 t191 _ ?side1 ?side2 A2.out).mono ?_); (case side1 => repeat (first | exact (Kd.C_below HR0_3.out HB.out) | (with_reducible refine Kd.C_alloc ?_ _) | (with_reducible refine Kd.C_drewN ?_ _) | (with_reducible refine Kd.C_drew ?_))); (case side2 => exact HC0_3.out); rintro e w32 ⟨rfl, hb⟩; refine ⟨_, rfl, ?_⟩; have n0_ := aK (zB (g := gb190) (o := .cells #[.string a0_0, .int .i64 a0_1, .int .i64 a0_2, .slice A0_3 l0_3.length c0_3] 33 (0, 0)) (BK190.out) hb); have n1_ := aK (yT (HB.out) hb); clear BK190; clear HB; have BK190 := n0_; have HB := n1_; clear n0_ n1_; (try clear hb)))
  go_ret
  exact ⟨rfl, HB.out⟩
 rw [if_pos c3] at H
 have c3b0 : (t191 == 0) = true := beq_iff_eq.mpr c3
 have c3b1 : (t191 != 0) = false := bne_eq_false_iff_eq.mpr c3
 clear c3
 have HC4 := aK H
 clear H
 go_enter Tryz.func48, Tryz.ntmps48
 go_upto_region 4 with (first | ((with_reducible refine gate_dst (N := 1) rfl ?_); refine box_event ?hg (N := 1) ?hd (cs := #[.string a0_0, .int .i64 a0_1, .int .i64 a0_2, .slice A0_3 l0_3.length c0_3]) (t := 33) ?hr ?_; (case hd => rfl); (case hg => rfl); (case hr => first | (go_simp; done) | (go_simp; rfl)); intro gb190 hg w5 hbox hb; have n0_ := aK (yT (HB.out) hb); have n1_ := aK (hbox); have n2_ := aK ((by rw [hg]; exact (yZ (HB.out)) : w.heap.size ≤ gb190)); have n3_ := n2_; clear HB; have HB := n0_; have BK190 := n1_; have GW190 := n2_; have GE190 := n3_; clear n0_ n1_ n2_ n3_; clear hb hbox hg; have hcz6_0 := zI BK190 0 rfl; have hcz6_1 := zI BK190 1 rfl; have hcz6_2 := zI BK190 2 rfl; have hcz6_3 := zI BK190 3 rfl; have hfz6_0 := zF BK190.out 0; have hfz6_1 := zF BK190.out 1; have hfz6_2 := zF BK190.out 2; have hfz6_3 := zF BK190.out 3) | ((with_reducible refine gate_callee (f := 95) rfl ?_); refine goesL_ (some 7) rfl rfl Tryz.func95 (by kernel_rfl) rfl #[.agg #[.string a0_0, .int .i64 a0_1, .int .i64 a0_2, .slice A0_3 l0_3.length c0_3]] rfl (by (try simp only [List.map_toArray, List.map_cons, List.map_nil]); first | done | rfl | (simp only [List.length_drop, List.length_take]; rfl)) ?_; (with_reducible refine (gangsawref14_named.calls k a0_0 a0_1 a0_2 _ _ l0_3 t191 _ ?side1 ?side2 A2.out).mono ?_); (case side1 => repeat (first | exact (Kd.C_below HR0_3.out HB.out) | (with_reducible refine Kd.C_alloc ?_ _) | (with_reducible refine Kd.C_drewN ?_ _) | (with_reducible refine Kd.C_drew ?_))); (case side2 => exact HC0_3.out); rintro e w7 ⟨rfl, hb⟩; refine ⟨_, rfl, ?_⟩; have n0_ := aK (zB (g := gb190) (o := .cells #[.string a0_0, .int .i64 a0_1, .int .i64 a0_2, .slice A0_3 l0_3.length c0_3] 33 (0, 0)) (BK190.out) hb); have n1_ := aK (yT (HB.out) hb); clear BK190; clear HB; have BK190 := n0_; have HB := n1_; clear n0_ n1_; (try clear hb)))
 (try simp only [Act.put, sA, sZ, sS])
 go_cut [4] (fun v4 wc => ∃ (kq : Nat) (x4_3 : Bool), v4 = .bool x4_3 ∧ Aside0 (gangsawref14_Formed.j0 kq x4_3 a0_0 a0_1 a0_2 l0_3 = some r) ∧ Aside0 (kq ≤ k) ∧ Aside0 (wc.heap[gb190]? = some (.cells #[.string a0_0, .int .i64 a0_1, .int .i64 a0_2, (.slice A0_3 l0_3.length c0_3)] 33 (0, 0))) ∧ Aside0 (Below w.heap.size w wc))
 case first =>
  have H := HC4.out
  clear HC4
  replace H := Option.bind_eq_some_iff.mp H
  obtain ⟨t192, A80, H⟩ := H
  replace H : (if t192 = true then ((gangsawref14_in.f a0_2 (-1000000) 999999).bind fun t193 => (gangsawref14_Formed.j0 k t193 a0_0 a0_1 a0_2 l0_3)) else (gangsawref14_Formed.j0 k false a0_0 a0_1 a0_2 l0_3)) = some r := H
  have A8 := aK A80
  clear A80
  by_cases c9 : t192 = true
  rotate_left
  ·replace c9 := Bool.eq_false_iff.mpr c9
   subst c9
   have H1 : (gangsawref14_Formed.j0 k false a0_0 a0_1 a0_2 l0_3) = some r := by rw [if_neg (show ¬ (false = true) by decide)] at H; exact H
   clear H
   have H := H1
   clear H1
   have H' := aK H
   clear H
   have hcz12_0 := zI BK190 0 rfl
   have hcz12_1 := zI BK190 1 rfl
   have hcz12_2 := zI BK190 2 rfl
   have hcz12_3 := zI BK190 3 rfl
   have hfz12_0 := zF BK190.out 0
   have hfz12_1 := zF BK190.out 1
   have hfz12_2 := zF BK190.out 2
   have hfz12_3 := zF BK190.out 3
   go_wp2_with (first | ((with_reducible refine gate_callee (f := 70) rfl ?_); refine goesL_ (some 14) rfl rfl Tryz.func70 (by kernel_rfl) rfl #[.int .i64 a0_1, .int .i64 (-1000000), .int .i64 999999] rfl (by (try simp only [List.map_toArray, List.map_cons, List.map_nil]); first | done | rfl | (simp only [List.length_drop, List.length_take]; rfl)) ?_; (with_reducible refine (gangsawref14_in.calls a0_1 (-1000000) 999999 false _ A8.out).mono ?_); rintro e w' ⟨rfl, ⟨nd, rfl⟩⟩; refine ⟨_, rfl, ?_⟩))
   go_meet
   case rel => exact ⟨_, (false), (by first | rfl | (simp; done) | (simp [*]; done)), H', ⟨by first | omega | exact Nat.le_refl _⟩, ⟨BK190.out⟩, ⟨by repeat (first | (with_reducible first | exact HB.out | apply yA | apply yN | apply yD | refine yS ?_ GE190.out) | exact HB.out)⟩⟩
  subst c9
  have H1 : ((gangsawref14_in.f a0_2 (-1000000) 999999).bind fun t193 => (gangsawref14_Formed.j0 k t193 a0_0 a0_1 a0_2 l0_3)) = some r := by rw [if_pos rfl] at H; exact H
  clear H
  have H := H1
  clear H1
  replace H := Option.bind_eq_some_iff.mp H
  obtain ⟨t193, A100, H⟩ := H
  replace H : (gangsawref14_Formed.j0 k t193 a0_0 a0_1 a0_2 l0_3) = some r := H
  have A10 := aK A100
  clear A100
  have H' := aK H
  clear H
  have hcz11_0 := zI BK190 0 rfl
  have hcz11_1 := zI BK190 1 rfl
  have hcz11_2 := zI BK190 2 rfl
  have hcz11_3 := zI BK190 3 rfl
  have hfz11_0 := zF BK190.out 0
  have hfz11_1 := zF BK190.out 1
  have hfz11_2 := zF BK190.out 2
  have hfz11_3 := zF BK190.out 3
  go_wp2_with (first | ((with_reducible refine gate_callee (f := 70) rfl ?_); refine goesL_ (some 14) rfl rfl Tryz.func70 (by kernel_rfl) rfl #[.int .i64 a0_1, .int .i64 (-1000000), .int .i64 999999] rfl (by (try simp only [List.map_toArray, List.map_cons, List.map_nil]); first | done | rfl | (simp only [List.length_drop, List.length_take]; rfl)) ?_; (with_reducible refine (gangsawref14_in.calls a0_1 (-1000000) 999999 true _ A8.out).mono ?_); rintro e w' ⟨rfl, ⟨nd, rfl⟩⟩; refine ⟨_, rfl, ?_⟩) | (go_at_call 70; (with_reducible refine (gangsawref14_in.calls a0_2 (-1000000) 999999 t193 _ A10.out).mono ?_); rintro e w' ⟨rfl, ⟨nd, rfl⟩⟩))
  go_meet
  case rel => exact ⟨_, (t193), (by first | rfl | (simp; done) | (simp [*]; done)), H', ⟨by first | omega | exact Nat.le_refl _⟩, ⟨BK190.out⟩, ⟨by repeat (first | (with_reducible first | exact HB.out | apply yA | apply yN | apply yD | refine yS ?_ GE190.out) | exact HB.out)⟩⟩
 case rest =>
  clear HC4
  try clear p2
  try clear c3
  try clear c3b0
  try clear c3b1
  try clear c4
  try clear c7
  try clear c9
  try clear hcz11_0
  try clear hcz11_1
  try clear hcz11_2
  try clear hcz11_3
  try clear hcz12_0
  try clear hcz12_1
  try clear hcz12_2
  try clear hcz12_3
  try clear hcz6_0
  try clear hcz6_1
  try clear hcz6_2
  try clear hcz6_3
  try clear hfz11_0
  try clear hfz11_1
  try clear hfz11_2
  try clear hfz11_3
  try clear hfz12_0
  try clear hfz12_1
  try clear hfz12_2
  try clear hfz12_3
  try clear hfz6_0
  try clear hfz6_1
  try clear hfz6_2
  try clear hfz6_3
  obtain ⟨kq, x4_3, rfl, HA, HJ3, BK190, HB⟩ := hcut
  cases kq with
  | zero => exact absurd HA.out (by simp [gangsawref14_Formed.j0])
  | succ kj3 =>
   have H := HA.out
   clear HA
   simp only [gangsawref14_Formed.j0] at H
   have H' := aK H
   clear H
   go_wp2
   go_loopg [4, 5] kj3 (fun kq v4 v5 w' => ∃ (x4_2 : Bool) (x5_2 : Int), v4 = .bool x4_2 ∧ v5 = .int .i64 x5_2 ∧ Aside0 (gangsawref14_Formed.l0 kq x4_2 x5_2 a0_0 a0_1 a0_2 l0_3 = some r) ∧ Aside0 (kq ≤ kj3) ∧ Aside0 (w'.heap[gb190]? = some (.cells #[.string a0_0, .int .i64 a0_1, .int .i64 a0_2, (.slice A0_3 l0_3.length c0_3)] 33 (0, 0))) ∧ Aside0 (Below w.heap.size w w'))
   case atStart => exact ⟨(x4_3), (0), (by first | rfl | (simp; done) | (simp [*]; done)), (by first | rfl | (simp; done) | (simp [*]; done)), H', ⟨Nat.le_refl _⟩, ⟨BK190.out⟩, ⟨HB.out⟩⟩
   case round =>
    clear H'
    try clear p2
    try clear c3
    try clear c3b0
    try clear c3b1
    try clear c4
    try clear c7
    try clear c9
    try clear hcz11_0
    try clear hcz11_1
    try clear hcz11_2
    try clear hcz11_3
    try clear hcz12_0
    try clear hcz12_1
    try clear hcz12_2
    try clear hcz12_3
    try clear hcz6_0
    try clear hcz6_1
    try clear hcz6_2
    try clear hcz6_3
    try clear hfz11_0
    try clear hfz11_1
    try clear hfz11_2
    try clear hfz11_3
    try clear hfz12_0
    try clear hfz12_1
    try clear hfz12_2
    try clear hfz12_3
    try clear hfz6_0
    try clear hfz6_1
    try clear hfz6_2
    try clear hfz6_3
    try clear p2
    obtain ⟨x4_2, x5_2, rfl, rfl, HA, HK2, BK190, HB⟩ := hrel
    cases gk with
    | zero => exact absurd HA.out (by simp [gangsawref14_Formed.l0])
    | succ k2 =>
     have H := HA.out
     clear HA
     simp only [gangsawref14_Formed.l0] at H
     by_cases c13 : x5_2 < (l0_3.length : Int)
     rotate_left
     ·rw [if_neg c13] at H
      have c13b0 : decide (x5_2 < (l0_3.length : Int)) = false := decide_eq_false c13
      clear c13
      by_cases c22 : x4_2 = true
      rotate_left
      ·replace c22 := Bool.eq_false_iff.mpr c22
       subst c22
       have H1 : (some 6) = some r := by rw [if_neg (show ¬ (false = true) by decide)] at H; exact H
       clear H
       have H := H1
       clear H1
       obtain rfl := Option.some.inj H
       simp only [Option.some.injEq, Prod.mk.injEq] at H
       obtain ⟨rfl⟩ := H
       have hcz29_0 := zI BK190 0 rfl
       have hcz29_1 := zI BK190 1 rfl
       have hcz29_2 := zI BK190 2 rfl
       have hcz29_3 := zI BK190 3 rfl
       have hfz29_0 := zF BK190.out 0
       have hfz29_1 := zF BK190.out 1
       have hfz29_2 := zF BK190.out 2
       have hfz29_3 := zF BK190.out 3
       go_wp2
       go_ret
       exact ⟨rfl, HB.out⟩
      subst c22
      have H1 : ((gangsawref14_stacked.f k2 a0_0 a0_1 a0_2 l0_3).bind fun t198 => (if t198 = true then (some 0) else (some 11))) = some r := by rw [if_pos rfl] at H; exact H
      clear H
      have H := H1
      clear H1
      replace H := Option.bind_eq_some_iff.mp H
      obtain ⟨t198, A230, H⟩ := H
      replace H : (if t198 = true then (some 0) else (some 11)) = some r := H
      have A23 := aK A230
      clear A230
      by_cases c24 : t198 = true
      ·subst c24
       have H1 : (some 0) = some r := by rw [if_pos rfl] at H; exact H
       clear H
       have H := H1
       clear H1
       obtain rfl := Option.some.inj H
       simp only [Option.some.injEq, Prod.mk.injEq] at H
       obtain ⟨rfl⟩ := H
       have hcz25_0 := zI BK190 0 rfl
       have hcz25_1 := zI BK190 1 rfl
       have hcz25_2 := zI BK190 2 rfl
       have hcz25_3 := zI BK190 3 rfl
       have hfz25_0 := zF BK190.out 0
       have hfz25_1 := zF BK190.out 1
       have hfz25_2 := zF BK190.out 2
       have hfz25_3 := zF BK190.out 3
       go_wp2_with (first | ((with_reducible refine gate_callee (f := 55) rfl ?_); refine goesL_ (some 50) rfl rfl Tryz.func55 (by kernel_rfl) rfl #[.agg #[.string a0_0, .int .i64 a0_1, .int .i64 a0_2, .slice A0_3 l0_3.length c0_3]] rfl (by (try simp only [List.map_toArray, List.map_cons, List.map_nil]); first | done | rfl | (simp only [List.length_drop, List.length_take]; rfl)) ?_; (with_reducible refine (gangsawref14_stacked.calls k2 a0_0 a0_1 a0_2 _ _ l0_3 true _ ?side1 ?side2 A23.out).mono ?_); (case side1 => repeat (first | exact (Kd.C_below HR0_3.out HB.out) | (with_reducible refine Kd.C_alloc ?_ _) | (with_reducible refine Kd.C_drewN ?_ _) | (with_reducible refine Kd.C_drew ?_))); (case side2 => exact HC0_3.out); rintro e w26 ⟨rfl, hb⟩; refine ⟨_, rfl, ?_⟩; have n0_ := aK (zB (g := gb190) (o := .cells #[.string a0_0, .int .i64 a0_1, .int .i64 a0_2, .slice A0_3 l0_3.length c0_3] 33 (0, 0)) (BK190.out) hb); have n1_ := aK (yT (HB.out) hb); clear BK190; clear HB; have BK190 := n0_; have HB := n1_; clear n0_ n1_; (try clear hb)))
       go_ret
       exact ⟨rfl, HB.out⟩
      replace c24 := Bool.eq_false_iff.mpr c24
      subst c24
      have H1 : (some 11) = some r := by rw [if_neg (show ¬ (false = true) by decide)] at H; exact H
      clear H
      have H := H1
      clear H1
      obtain rfl := Option.some.inj H
      simp only [Option.some.injEq, Prod.mk.injEq] at H
      obtain ⟨rfl⟩ := H
      have hcz27_0 := zI BK190 0 rfl
      have hcz27_1 := zI BK190 1 rfl
      have hcz27_2 := zI BK190 2 rfl
      have hcz27_3 := zI BK190 3 rfl
      have hfz27_0 := zF BK190.out 0
      have hfz27_1 := zF BK190.out 1
      have hfz27_2 := zF BK190.out 2
      have hfz27_3 := zF BK190.out 3
      go_wp2_with (first | ((with_reducible refine gate_callee (f := 55) rfl ?_); refine goesL_ (some 50) rfl rfl Tryz.func55 (by kernel_rfl) rfl #[.agg #[.string a0_0, .int .i64 a0_1, .int .i64 a0_2, .slice A0_3 l0_3.length c0_3]] rfl (by (try simp only [List.map_toArray, List.map_cons, List.map_nil]); first | done | rfl | (simp only [List.length_drop, List.length_take]; rfl)) ?_; (with_reducible refine (gangsawref14_stacked.calls k2 a0_0 a0_1 a0_2 _ _ l0_3 false _ ?side1 ?side2 A23.out).mono ?_); (case side1 => repeat (first | exact (Kd.C_below HR0_3.out HB.out) | (with_reducible refine Kd.C_alloc ?_ _) | (with_reducible refine Kd.C_drewN ?_ _) | (with_reducible refine Kd.C_drew ?_))); (case side2 => exact HC0_3.out); rintro e w28 ⟨rfl, hb⟩; refine ⟨_, rfl, ?_⟩; have n0_ := aK (zB (g := gb190) (o := .cells #[.string a0_0, .int .i64 a0_1, .int .i64 a0_2, .slice A0_3 l0_3.length c0_3] 33 (0, 0)) (BK190.out) hb); have n1_ := aK (yT (HB.out) hb); clear BK190; clear HB; have BK190 := n0_; have HB := n1_; clear n0_ n1_; (try clear hb)))
      go_ret
      exact ⟨rfl, HB.out⟩
     rw [if_pos c13] at H
     have c13b0 : decide (x5_2 < (l0_3.length : Int)) = true := decide_eq_true c13
     clear c13
     by_cases c14 : x4_2 = true
     rotate_left
     ·replace c14 := Bool.eq_false_iff.mpr c14
      subst c14
      have H1 : (gangsawref14_Formed.l0 k2 false (wrap64 (x5_2 + 1)) a0_0 a0_1 a0_2 l0_3) = some r := by rw [if_neg (show ¬ (false = true) by decide)] at H; exact H
      clear H
      have H := H1
      clear H1
      have H' := aK H
      clear H
      have hcz21_0 := zI BK190 0 rfl
      have hcz21_1 := zI BK190 1 rfl
      have hcz21_2 := zI BK190 2 rfl
      have hcz21_3 := zI BK190 3 rfl
      have hfz21_0 := zF BK190.out 0
      have hfz21_1 := zF BK190.out 1
      have hfz21_2 := zF BK190.out 2
      have hfz21_3 := zF BK190.out 3
      go_wp2
      go_roundg k2
      case measure => have := HJ3.out; have := HK2.out; omega
      case rel => exact ⟨(false), (wrap64 (x5_2 + 1)), (by first | rfl | (simp; done) | (simp [*]; done)), (by first | rfl | (simp; done) | (simp [*]; done)), H', ⟨by have := HJ3.out; have := HK2.out; omega⟩, ⟨BK190.out⟩, ⟨HB.out⟩⟩
     subst c14
     have H1 : (if 0 ≤ x5_2 then ((gangsawref14_in.f ((rd_T48 l0_3 x5_2).f0) (-1000000) 1000000).bind fun t195 => (if t195 = true then ((gangsawref14_in.f ((rd_T48 l0_3 x5_2).f1) (-1000000) 1000000).bind fun t197 => (gangsawref14_Formed.l0 k2 t197 (wrap64 (x5_2 + 1)) a0_0 a0_1 a0_2 l0_3)) else (gangsawref14_Formed.l0 k2 false (wrap64 (x5_2 + 1)) a0_0 a0_1 a0_2 l0_3))) else (none)) = some r := by rw [if_pos rfl] at H; exact H
     clear H
     have H := H1
     clear H1
     by_cases c15 : 0 ≤ x5_2
     rotate_left
     ·rw [if_neg c15] at H
      exact absurd H (by simp)
     rw [if_pos c15] at H
     have c15b0 : decide (0 ≤ x5_2) = true := decide_eq_true c15
     clear c15
     replace H := Option.bind_eq_some_iff.mp H
     obtain ⟨t195, A160, H⟩ := H
     replace H : (if t195 = true then ((gangsawref14_in.f ((rd_T48 l0_3 x5_2).f1) (-1000000) 1000000).bind fun t197 => (gangsawref14_Formed.l0 k2 t197 (wrap64 (x5_2 + 1)) a0_0 a0_1 a0_2 l0_3)) else (gangsawref14_Formed.l0 k2 false (wrap64 (x5_2 + 1)) a0_0 a0_1 a0_2 l0_3)) = some r := H
     have A16 := aK A160
     clear A160
     by_cases c17 : t195 = true
     rotate_left
     ·replace c17 := Bool.eq_false_iff.mpr c17
      subst c17
      have H1 : (gangsawref14_Formed.l0 k2 false (wrap64 (x5_2 + 1)) a0_0 a0_1 a0_2 l0_3) = some r := by rw [if_neg (show ¬ (false = true) by decide)] at H; exact H
      clear H
      have H := H1
      clear H1
      have H' := aK H
      clear H
      have hcz20_0 := zI BK190 0 rfl
      have hcz20_1 := zI BK190 1 rfl
      have hcz20_2 := zI BK190 2 rfl
      have hcz20_3 := zI BK190 3 rfl
      have hfz20_0 := zF BK190.out 0
      have hfz20_1 := zF BK190.out 1
      have hfz20_2 := zF BK190.out 2
      have hfz20_3 := zF BK190.out 3
      have p194 : 0 ≤ (x5_2 : Int) := of_decide_eq_true (by assumption)
      have q194 : x5_2 < (l0_3.length : Int) := of_decide_eq_true (by assumption)
      obtain ⟨ad194, e194, hx194_0, hx194_1, hx194_2⟩ := at_T48 HR0_3.out x5_2 p194 q194
      cases e194
      replace hx194_0 := (HB.out.cell (World.block_lt_of_cell? w _ hx194_0)).trans hx194_0
      replace hx194_1 := (HB.out.cell (World.block_lt_of_cell? w _ hx194_1)).trans hx194_1
      replace hx194_2 := (HB.out.cell (World.block_lt_of_cell? w _ hx194_2)).trans hx194_2
      replace p194 := eq_true p194
      replace q194 := eq_true q194
      go_wp2_with (first | (go_at_call 70; (with_reducible refine (gangsawref14_in.calls ((rd_T48 l0_3 x5_2).f0) (-1000000) 1000000 false _ A16.out).mono ?_); rintro e w' ⟨rfl, ⟨nd, rfl⟩⟩))
      go_roundg k2
      case measure => have := HJ3.out; have := HK2.out; omega
      case rel => exact ⟨(false), (wrap64 (x5_2 + 1)), (by first | rfl | (simp; done) | (simp [*]; done)), (by first | rfl | (simp; done) | (simp [*]; done)), H', ⟨by have := HJ3.out; have := HK2.out; omega⟩, ⟨BK190.out⟩, ⟨by repeat (first | (with_reducible first | exact HB.out | apply yA | apply yN | apply yD | refine yS ?_ GE190.out) | exact HB.out)⟩⟩
     subst c17
     have H1 : ((gangsawref14_in.f ((rd_T48 l0_3 x5_2).f1) (-1000000) 1000000).bind fun t197 => (gangsawref14_Formed.l0 k2 t197 (wrap64 (x5_2 + 1)) a0_0 a0_1 a0_2 l0_3)) = some r := by rw [if_pos rfl] at H; exact H
     clear H
     have H := H1
     clear H1
     replace H := Option.bind_eq_some_iff.mp H
     obtain ⟨t197, A180, H⟩ := H
     replace H : (gangsawref14_Formed.l0 k2 t197 (wrap64 (x5_2 + 1)) a0_0 a0_1 a0_2 l0_3) = some r := H
     have A18 := aK A180
     clear A180
     have H' := aK H
     clear H
     have hcz19_0 := zI BK190 0 rfl
     have hcz19_1 := zI BK190 1 rfl
     have hcz19_2 := zI BK190 2 rfl
     have hcz19_3 := zI BK190 3 rfl
     have hfz19_0 := zF BK190.out 0
     have hfz19_1 := zF BK190.out 1
     have hfz19_2 := zF BK190.out 2
     have hfz19_3 := zF BK190.out 3
     have p194 : 0 ≤ (x5_2 : Int) := of_decide_eq_true (by assumption)
     have q194 : x5_2 < (l0_3.length : Int) := of_decide_eq_true (by assumption)
     obtain ⟨ad194, e194, hx194_0, hx194_1, hx194_2⟩ := at_T48 HR0_3.out x5_2 p194 q194
     cases e194
     replace hx194_0 := (HB.out.cell (World.block_lt_of_cell? w _ hx194_0)).trans hx194_0
     replace hx194_1 := (HB.out.cell (World.block_lt_of_cell? w _ hx194_1)).trans hx194_1
     replace hx194_2 := (HB.out.cell (World.block_lt_of_cell? w _ hx194_2)).trans hx194_2
     replace p194 := eq_true p194
     replace q194 := eq_true q194
     go_wp2_with (first | (go_at_call 70; (with_reducible refine (gangsawref14_in.calls ((rd_T48 l0_3 x5_2).f0) (-1000000) 1000000 true _ A16.out).mono ?_); rintro e w' ⟨rfl, ⟨nd, rfl⟩⟩; have p196 : 0 ≤ (x5_2 : Int) := of_decide_eq_true (by assumption); have q196 : x5_2 < (l0_3.length : Int) := of_decide_eq_true (by assumption); obtain ⟨ad196, e196, hx196_0, hx196_1, hx196_2⟩ := at_T48 HR0_3.out x5_2 p196 q196; obtain rfl : ad194 = ad196 := (by injection e196); replace hx196_0 := (HB.out.cell (World.block_lt_of_cell? w _ hx196_0)).trans hx196_0; replace hx196_1 := (HB.out.cell (World.block_lt_of_cell? w _ hx196_1)).trans hx196_1; replace hx196_2 := (HB.out.cell (World.block_lt_of_cell? w _ hx196_2)).trans hx196_2; replace p196 := eq_true p196; replace q196 := eq_true q196) | (go_at_call 70; (with_reducible refine (gangsawref14_in.calls ((rd_T48 l0_3 x5_2).f1) (-1000000) 1000000 t197 _ A18.out).mono ?_); rintro e w' ⟨rfl, ⟨nd, rfl⟩⟩))
     go_roundg k2
     case measure => have := HJ3.out; have := HK2.out; omega
     case rel => exact ⟨(t197), (wrap64 (x5_2 + 1)), (by first | rfl | (simp; done) | (simp [*]; done)), (by first | rfl | (simp; done) | (simp [*]; done)), H', ⟨by have := HJ3.out; have := HK2.out; omega⟩, ⟨BK190.out⟩, ⟨by repeat (first | (with_reducible first | exact HB.out | apply yA | apply yN | apply yD | refine yS ?_ GE190.out) | exact HB.out)⟩⟩

end Go.Proofs.YtfedmcehkpfciaaGreat.P
