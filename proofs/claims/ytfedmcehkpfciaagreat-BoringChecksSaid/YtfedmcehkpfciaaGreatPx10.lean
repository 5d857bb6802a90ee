/- What functions of the program return: each contract says so of one function, for every input at which its pure function yields. -/
import Derived.Test.YtfedmcehkpfciaaGreatPx0
namespace Go.Proofs.YtfedmcehkpfciaaGreat.P
open Go.RowKit Go.Proofs.YtfedmcehkpfciaaGreatW.PrintWords Go.Proofs.YtfedmcehkpfciaaGreatW.PrintLast Go.Proofs.YtfedmcehkpfciaaGreatW.PrintMore
attribute [local go_sem] max2_int min2_int max_two min_two max_three min_three max_four min_four   -- for this text's walks alone
set_option linter.unusedVariables false
set_option linter.unusedSimpArgs false

mutual
def gangsawref14_within.j0 : Nat → Bool → ByteArray → Int → Int → List (S48) → Int → Int → Int → Int → Int → Int → Option (Bool)
 | 0, _, _, _, _, _, _, _, _, _, _, _ => none
 | k + 1, x5, x135000, x135001, x135002, x135003, x136000, x136001, x136002, x136003, x136004, x136005 => gangsawref14_within.l0 k x5 0 x135000 x135001 x135002 x135003 x136000 x136001 x136002 x136003 x136004 x136005
def gangsawref14_within.l0 : Nat → Bool → Int → ByteArray → Int → Int → List (S48) → Int → Int → Int → Int → Int → Int → Option (Bool)
 | 0, _, _, _, _, _, _, _, _, _, _, _, _ => none
 | k + 1, x5, x6, x135000, x135001, x135002, x135003, x136000, x136001, x136002, x136003, x136004, x136005 => if x6 < (x135003.length : Int) then (if x5 = true then (if 0 ≤ x6 then (if ((rd_T48 x135003 x6).f0) ≥ x136002 then (gangsawref14_within.l0 k (decide (((rd_T48 x135003 x6).f1) ≤ x136005)) (wrap64 (x6 + 1)) x135000 x135001 x135002 x135003 x136000 x136001 x136002 x136003 x136004 x136005) else (gangsawref14_within.l0 k false (wrap64 (x6 + 1)) x135000 x135001 x135002 x135003 x136000 x136001 x136002 x136003 x136004 x136005)) else (none)) else (gangsawref14_within.l0 k false (wrap64 (x6 + 1)) x135000 x135001 x135002 x135003 x136000 x136001 x136002 x136003 x136004 x136005)) else (some x5)
end
def gangsawref14_within.f (k : Nat) (a0_0 : ByteArray) (a0_1 : Int) (a0_2 : Int) (l0_3 : List (S48)) (a1_0 : Int) (a1_1 : Int) (a1_2 : Int) (a1_3 : Int) (a1_4 : Int) (a1_5 : Int) : Option (Bool) := if a0_1 ≥ a1_0 then (if a0_1 < a1_3 then (if a0_2 ≥ a1_1 then (gangsawref14_within.j0 k (decide (a0_2 < a1_4)) a0_0 a0_1 a0_2 l0_3 a1_0 a1_1 a1_2 a1_3 a1_4 a1_5) else (gangsawref14_within.j0 k false a0_0 a0_1 a0_2 l0_3 a1_0 a1_1 a1_2 a1_3 a1_4 a1_5)) else (gangsawref14_within.j0 k false a0_0 a0_1 a0_2 l0_3 a1_0 a1_1 a1_2 a1_3 a1_4 a1_5)) else (gangsawref14_within.j0 k false a0_0 a0_1 a0_2 l0_3 a1_0 a1_1 a1_2 a1_3 a1_4 a1_5)
theorem gangsawref14_within.mono_l : ∀ k, (∀ y0 y1 y2 y3 y4 y5 y6 y7 y8 y9 y10, LeO (gangsawref14_within.j0 k y0 y1 y2 y3 y4 y5 y6 y7 y8 y9 y10) (gangsawref14_within.j0 (k + 1) y0 y1 y2 y3 y4 y5 y6 y7 y8 y9 y10)) ∧ (∀ y0 y1 y2 y3 y4 y5 y6 y7 y8 y9 y10 y11, LeO (gangsawref14_within.l0 k y0 y1 y2 y3 y4 y5 y6 y7 y8 y9 y10 y11) (gangsawref14_within.l0 (k + 1) y0 y1 y2 y3 y4 y5 y6 y7 y8 y9 y10 y11))
 | 0 => ⟨fun _ _ _ _ _ _ _ _ _ _ _ r h => by simp [gangsawref14_within.j0] at h, fun _ _ _ _ _ _ _ _ _ _ _ _ r h => by simp [gangsawref14_within.l0] at h⟩
 | k + 1 => by
  obtain ⟨ih0, ih1⟩ := gangsawref14_within.mono_l k
  refine ⟨?_, ?_⟩
  ·intro y0 y1 y2 y3 y4 y5 y6 y7 y8 y9 y10
   unfold gangsawref14_within.j0
   repeat' first
   | (with_reducible exact ih0 _ _ _ _ _ _ _ _ _ _ _)
   | (with_reducible exact ih1 _ _ _ _ _ _ _ _ _ _ _ _)
   | (with_reducible refine contains3.mono2 (fun x_ => ?_))
   | (with_reducible refine contains33.mono2 (fun x_ => ?_))
   | (with_reducible refine contains48.mono2 (fun x_ => ?_))
   | (with_reducible refine contains9.mono2 (fun x_ => ?_))
   | (with_reducible refine index3.mono2 (fun x_ => ?_))
   | (with_reducible refine index33.mono2 (fun x_ => ?_))
   | (with_reducible refine index48.mono2 (fun x_ => ?_))
   | (with_reducible refine index9.mono2 (fun x_ => ?_))
   | (with_reducible exact LeO.refl _)
   | (with_reducible exact LeO.none _)
   | (with_reducible refine LeO.ite ?_ ?_)
   | (with_reducible refine LeO.bind ?_ (fun _ => ?_))
   | exact ih0 _ _ _ _ _ _ _ _ _ _ _
   | exact ih1 _ _ _ _ _ _ _ _ _ _ _ _
   | exact LeO.none _
   | refine LeO.ite ?_ ?_
   | refine LeO.bind ?_ (fun _ => ?_)
  ·intro y0 y1 y2 y3 y4 y5 y6 y7 y8 y9 y10 y11
   unfold gangsawref14_within.l0
   repeat' first
   | (with_reducible exact ih0 _ _ _ _ _ _ _ _ _ _ _)
   | (with_reducible exact ih1 _ _ _ _ _ _ _ _ _ _ _ _)
   | (with_reducible refine contains3.mono2 (fun x_ => ?_))
   | (with_reducible refine contains33.mono2 (fun x_ => ?_))
   | (with_reducible refine contains48.mono2 (fun x_ => ?_))
   | (with_reducible refine contains9.mono2 (fun x_ => ?_))
   | (with_reducible refine index3.mono2 (fun x_ => ?_))
   | (with_reducible refine index33.mono2 (fun x_ => ?_))
   | (with_reducible refine index48.mono2 (fun x_ => ?_))
   | (with_reducible refine index9.mono2 (fun x_ => ?_))
   | (with_reducible exact LeO.refl _)
   | (with_reducible exact LeO.none _)
   | (with_reducible refine LeO.ite ?_ ?_)
   | (with_reducible refine LeO.bind ?_ (fun _ => ?_))
   | exact ih0 _ _ _ _ _ _ _ _ _ _ _
   | exact ih1 _ _ _ _ _ _ _ _ _ _ _ _
   | exact LeO.none _
   | refine LeO.ite ?_ ?_
   | refine LeO.bind ?_ (fun _ => ?_)
theorem gangsawref14_within.mono : ∀ a0 a1 a2 a3 a4 a5 a6 a7 a8 a9 k, LeO (gangsawref14_within.f k a0 a1 a2 a3 a4 a5 a6 a7 a8 a9) (gangsawref14_within.f (k + 1) a0 a1 a2 a3 a4 a5 a6 a7 a8 a9) := by
 intro a0 a1 a2 a3 a4 a5 a6 a7 a8 a9 k
 obtain ⟨ih0, ih1⟩ := gangsawref14_within.mono_l k
 unfold gangsawref14_within.f
 repeat' first
   | (with_reducible exact ih0 _ _ _ _ _ _ _ _ _ _ _)
   | (with_reducible exact ih1 _ _ _ _ _ _ _ _ _ _ _ _)
   | (with_reducible refine contains3.mono2 (fun x_ => ?_))
   | (with_reducible refine contains33.mono2 (fun x_ => ?_))
   | (with_reducible refine contains48.mono2 (fun x_ => ?_))
   | (with_reducible refine contains9.mono2 (fun x_ => ?_))
   | (with_reducible refine index3.mono2 (fun x_ => ?_))
   | (with_reducible refine index33.mono2 (fun x_ => ?_))
   | (with_reducible refine index48.mono2 (fun x_ => ?_))
   | (with_reducible refine index9.mono2 (fun x_ => ?_))
   | (with_reducible exact LeO.refl _)
   | (with_reducible exact LeO.none _)
   | (with_reducible refine LeO.ite ?_ ?_)
   | (with_reducible refine LeO.bind ?_ (fun _ => ?_))
   | exact ih0 _ _ _ _ _ _ _ _ _ _ _
   | exact ih1 _ _ _ _ _ _ _ _ _ _ _ _
   | exact LeO.none _
   | refine LeO.ite ?_ ?_
   | refine LeO.bind ?_ (fun _ => ?_)
set_option maxHeartbeats 8000000 in
set_option maxRecDepth 100000 in
theorem gangsawref14_within.calls (k : Nat) (a0_0 : ByteArray) (a0_1 : Int) (a0_2 : Int) (A0_3 : Option Addr) (c0_3 : Nat) (l0_3 : List (S48)) (a1_0 : Int) (a1_1 : Int) (a1_2 : Int) (a1_3 : Int) (a1_4 : Int) (a1_5 : Int) (r : Bool) (w : World) (hr0_3 : Kd.C k48 w A0_3 l0_3.length l0_3) (hc0_3 : l0_3.length ≤ c0_3) (h : gangsawref14_within.f k a0_0 a0_1 a0_2 l0_3 a1_0 a1_1 a1_2 a1_3 a1_4 a1_5 = some r) :
  Calls Tryz.prog 91 #[.agg #[.string a0_0, .int .i64 a0_1, .int .i64 a0_2, .slice A0_3 l0_3.length c0_3], .agg #[.int .i64 a1_0, .int .i64 a1_1, .int .i64 a1_2, .int .i64 a1_3, .int .i64 a1_4, .int .i64 a1_5]] w fun e w' => e = .returned (.bool r) ∧ Below w.heap.size w w' := by
 have hu33 := Tryz.underlying33
 have hu26 := Tryz.underlying26
 have HR0_3 := aK hr0_3
 have HC0_3 := aK hc0_3
 clear hr0_3 hc0_3
 have HB := aK (Below.refl w.heap.size w)
 have H : (if a0_1 ≥ a1_0 then (if a0_1 < a1_3 then (if a0_2 ≥ a1_1 then (gangsawref14_within.j0 k (decide (a0_2 < a1_4)) a0_0 a0_1 a0_2 l0_3 a1_0 a1_1 a1_2 a1_3 a1_4 a1_5) else (gangsawref14_within.j0 k false a0_0 a0_1 a0_2 l0_3 a1_0 a1_1 a1_2 a1_3 a1_4 a1_5)) else (gangsawref14_within.j0 k false a0_0 a0_1 a0_2 l0_3 a1_0 a1_1 a1_2 a1_3 a1_4 a1_5)) else (gangsawref14_within.j0 k false a0_0 a0_1 a0_2 l0_3 a1_0 a1_1 a1_2 a1_3 a1_4 a1_5)) = some r := h
 clear h
 have HC3 := aK H
 clear H
 go_enter Tryz.func91, Tryz.ntmps91
 go_upto_region 1 with (first | ((with_reducible refine gate_dst (N := 2) rfl ?_); refine box_event ?hg (N := 2) ?hd (cs := #[.string a0_0, .int .i64 a0_1, .int .i64 a0_2, .slice A0_3 l0_3.length c0_3]) (t := 33) ?hr ?_; (case hd => rfl); (case hg => rfl); (case hr => first | (go_simp; done) | (go_simp; rfl)); intro gb134 hg w4 hbox hb; have ⟨n0_, n2_⟩ := zV (w := w) hb hg (by repeat (first | (with_reducible first | exact HB.out | apply yA | apply yN | apply yD) | exact HB.out)); have n1_ := aK (hbox); have n3_ := n2_; clear HB; have HB := n0_; have BK134 := n1_; have GW134 := n2_; have GE134 := n3_; clear n0_ n1_ n2_ n3_; clear hb hbox hg) | ((with_reducible refine gate_dst (N := 3) rfl ?_); refine box_event ?hg (N := 3) ?hd (cs := #[.int .i64 a1_0, .int .i64 a1_1, .int .i64 a1_2, .int .i64 a1_3, .int .i64 a1_4, .int .i64 a1_5]) (t := 26) ?hr ?_; (case hd => rfl); (case hg => rfl); (case hr => first | (go_simp; done) | (go_simp; rfl)); intro gb135 hg w5 hbox hb; have n0_ := zG BK134 hb (fun h => by (with_reducible repeat (first | refine zN ?_ _ | refine zD ?_ | refine zA ?_ _)); exact h); have ⟨n1_, n3_⟩ := zV (w := w) hb hg (by repeat (first | (with_reducible first | exact HB.out | apply yA | apply yN | apply yD | refine yS ?_ GE134.out) | exact HB.out)); have n2_ := aK (hbox); have n4_ := n3_; have n5_ := aK ((by rw [hg]; exact Nat.ne_of_lt (blk_lt (g := gb134) (o := .cells #[.string a0_0, .int .i64 a0_1, .int .i64 a0_2, .slice A0_3 l0_3.length c0_3] 33 (0, 0)) (by (with_reducible repeat (first | refine zN ?_ _ | refine zD ?_ | refine zA ?_ _)); exact BK134.out)) : gb134 ≠ gb135)); have n6_ := aK ((by rw [hg]; exact Nat.ne_of_gt (blk_lt (g := gb134) (o := .cells #[.string a0_0, .int .i64 a0_1, .int .i64 a0_2, .slice A0_3 l0_3.length c0_3] 33 (0, 0)) (by (with_reducible repeat (first | refine zN ?_ _ | refine zD ?_ | refine zA ?_ _)); exact BK134.out)) : gb135 ≠ gb134)); clear BK134; clear HB; have BK134 := n0_; have HB := n1_; have BK135 := n2_; have GW135 := n3_; have GE135 := n4_; have NB134_135 := n5_; have NB135_134 := n6_; clear n0_ n1_ n2_ n3_ n4_ n5_ n6_; clear hb hbox hg))
 (try simp only [Act.put, sA, sZ, sS])
 go_cut [5] (fun v5 wc => ∃ (kq : Nat) (x5_2 : Bool), v5 = .bool x5_2 ∧ Aside0 (gangsawref14_within.j0 kq x5_2 a0_0 a0_1 a0_2 l0_3 a1_0 a1_1 a1_2 a1_3 a1_4 a1_5 = some r) ∧ Aside0 (kq ≤ k) ∧ Aside0 (wc.heap[gb134]? = some (.cells #[.string a0_0, .int .i64 a0_1, .int .i64 a0_2, (.slice A0_3 l0_3.length c0_3)] 33 (0, 0))) ∧ Aside0 (wc.heap[gb135]? = some (.cells #[.int .i64 a1_0, .int .i64 a1_1, .int .i64 a1_2, .int .i64 a1_3, .int .i64 a1_4, .int .i64 a1_5] 26 (0, 0))) ∧ Aside0 (Below w.heap.size w wc))
 case first =>
  have H := HC3.out
  clear HC3
  by_cases c6 : a0_1 ≥ a1_0
  ·rw [if_pos c6] at H
   have c6b0 : decide (a1_0 ≤ a0_1) = true := decide_eq_true c6
   clear c6
   (first | rw [c6b0] | (simp only [i64_w, i32_w]; rw [c6b0]) | skip)
   by_cases c7 : a0_1 < a1_3
   ·rw [if_pos c7] at H
    have c7b0 : decide (a0_1 < a1_3) = true := decide_eq_true c7
    clear c7
    by_cases c8 : a0_2 ≥ a1_1
    ·rw [if_pos c8] at H
     have c8b0 : decide (a1_1 ≤ a0_2) = true := decide_eq_true c8
     clear c8
     have H' := aK H
     clear H
     have hnb9 := NB134_135.out
     have hnc9 := NB135_134.out
     have hcz10_0 := zI BK134 0 rfl
     have hcz10_1 := zI BK134 1 rfl
     have hcz10_2 := zI BK134 2 rfl
     have hcz10_3 := zI BK134 3 rfl
     have hfz10_0 := zF BK134.out 0
     have hfz10_1 := zF BK134.out 1
     have hfz10_2 := zF BK134.out 2
     have hfz10_3 := zF BK134.out 3
     have hcz11_0 := zI BK135 0 rfl
     have hcz11_1 := zI BK135 1 rfl
     have hcz11_2 := zI BK135 2 rfl
     have hcz11_3 := zI BK135 3 rfl
     have hcz11_4 := zI BK135 4 rfl
     have hcz11_5 := zI BK135 5 rfl
     have hfz11_0 := zF BK135.out 0
     have hfz11_1 := zF BK135.out 1
     have hfz11_2 := zF BK135.out 2
     have hfz11_3 := zF BK135.out 3
     have hfz11_4 := zF BK135.out 4
     have hfz11_5 := zF BK135.out 5
     go_wp2
     go_meet
     case rel => exact ⟨_, (decide (a0_2 < a1_4)), (by first | rfl | (simp; done) | (simp [*]; done)), H', ⟨by first | omega | exact Nat.le_refl _⟩, ⟨by (with_reducible repeat (first | refine zN ?_ _ | refine zD ?_ | refine zA ?_ _)); exact BK134.out⟩, ⟨by (with_reducible repeat (first | refine zN ?_ _ | refine zD ?_ | refine zA ?_ _)); exact BK135.out⟩, ⟨by repeat (first | (with_reducible first | exact HB.out | apply yA | apply yN | apply yD | refine yS ?_ GE134.out | refine yS ?_ GE135.out) | exact HB.out)⟩⟩
    ·rw [if_neg c8] at H
     have c8b0 : decide (a1_1 ≤ a0_2) = false := decide_eq_false c8
     clear c8
     have H' := aK H
     clear H
     have hnb12 := NB134_135.out
     have hnc12 := NB135_134.out
     have hcz13_0 := zI BK134 0 rfl
     have hcz13_1 := zI BK134 1 rfl
     have hcz13_2 := zI BK134 2 rfl
     have hcz13_3 := zI BK134 3 rfl
     have hfz13_0 := zF BK134.out 0
     have hfz13_1 := zF BK134.out 1
     have hfz13_2 := zF BK134.out 2
     have hfz13_3 := zF BK134.out 3
     have hcz14_0 := zI BK135 0 rfl
     have hcz14_1 := zI BK135 1 rfl
     have hcz14_2 := zI BK135 2 rfl
     have hcz14_3 := zI BK135 3 rfl
     have hcz14_4 := zI BK135 4 rfl
     have hcz14_5 := zI BK135 5 rfl
     have hfz14_0 := zF BK135.out 0
     have hfz14_1 := zF BK135.out 1
     have hfz14_2 := zF BK135.out 2
     have hfz14_3 := zF BK135.out 3
     have hfz14_4 := zF BK135.out 4
     have hfz14_5 := zF BK135.out 5
     go_wp2
     go_meet
     case rel => exact ⟨_, (false), (by first | rfl | (simp; done) | (simp [*]; done)), H', ⟨by first | omega | exact Nat.le_refl _⟩, ⟨by (with_reducible repeat (first | refine zN ?_ _ | refine zD ?_ | refine zA ?_ _)); exact BK134.out⟩, ⟨by (with_reducible repeat (first | refine zN ?_ _ | refine zD ?_ | refine zA ?_ _)); exact BK135.out⟩, ⟨by repeat (first | (with_reducible first | exact HB.out | apply yA | apply yN | apply yD | refine yS ?_ GE134.out | refine yS ?_ GE135.out) | exact HB.out)⟩⟩
   ·rw [if_neg c7] at H
    have c7b0 : decide (a0_1 < a1_3) = false := decide_eq_false c7
    clear c7
    have H' := aK H
    clear H
    have hnb15 := NB134_135.out
    have hnc15 := NB135_134.out
    have hcz16_0 := zI BK134 0 rfl
    have hcz16_1 := zI BK134 1 rfl
    have hcz16_2 := zI BK134 2 rfl
    have hcz16_3 := zI BK134 3 rfl
    have hfz16_0 := zF BK134.out 0
    have hfz16_1 := zF BK134.out 1
    have hfz16_2 := zF BK134.out 2
    have hfz16_3 := zF BK134.out 3
    have hcz17_0 := zI BK135 0 rfl
    have hcz17_1 := zI BK135 1 rfl
    have hcz17_2 := zI BK135 2 rfl
    have hcz17_3 := zI BK135 3 rfl
    have hcz17_4 := zI BK135 4 rfl
    have hcz17_5 := zI BK135 5 rfl
    have hfz17_0 := zF BK135.out 0
    have hfz17_1 := zF BK135.out 1
    have hfz17_2 := zF BK135.out 2
    have hfz17_3 := zF BK135.out 3
    have hfz17_4 := zF BK135.out 4
    have hfz17_5 := zF BK135.out 5
    go_wp2
    go_meet
    case rel => exact ⟨_, (false), (by first | rfl | (simp; done) | (simp [*]; done)), H', ⟨by first | omega | exact Nat.le_refl _⟩, ⟨by (with_reducible repeat (first | refine zN ?_ _ | refine zD ?_ | refine zA ?_ _)); exact BK134.out⟩, ⟨by (with_reducible repeat (first | refine zN ?_ _ | refine zD ?_ | refine zA ?_ _)); exact BK135.out⟩, ⟨by repeat (first | (with_reducible first | exact HB.out | apply yA | apply yN | apply yD | refine yS ?_ GE134.out | refine yS ?_ GE135.out) | exact HB.out)⟩⟩
  ·rw [if_neg c6] at H
   have c6b0 : decide (a1_0 ≤ a0_1) = false := decide_eq_false c6
   clear c6
   (first | rw [c6b0] | (simp only [i64_w, i32_w]; rw [c6b0]) | skip)
   have H' := aK H
   clear H
   have hnb18 := NB134_135.out
   have hnc18 := NB135_134.out
   have hcz19_0 := zI BK134 0 rfl
   have hcz19_1 := zI BK134 1 rfl
   have hcz19_2 := zI BK134 2 rfl
   have hcz19_3 := zI BK134 3 rfl
   have hfz19_0 := zF BK134.out 0
   have hfz19_1 := zF BK134.out 1
   have hfz19_2 := zF BK134.out 2
   have hfz19_3 := zF BK134.out 3
   have hcz20_0 := zI BK135 0 rfl
   have hcz20_1 := zI BK135 1 rfl
   have hcz20_2 := zI BK135 2 rfl
   have hcz20_3 := zI BK135 3 rfl
   have hcz20_4 := zI BK135 4 rfl
   have hcz20_5 := zI BK135 5 rfl
   have hfz20_0 := zF BK135.out 0
   have hfz20_1 := zF BK135.out 1
   have hfz20_2 := zF BK135.out 2
   have hfz20_3 := zF BK135.out 3
   have hfz20_4 := zF BK135.out 4
   have hfz20_5 := zF BK135.out 5
   go_wp2
   go_meet
   case rel => exact ⟨_, (false), (by first | rfl | (simp; done) | (simp [*]; done)), H', ⟨by first | omega | exact Nat.le_refl _⟩, ⟨by (with_reducible repeat (first | refine zN ?_ _ | refine zD ?_ | refine zA ?_ _)); exact BK134.out⟩, ⟨by (with_reducible repeat (first | refine zN ?_ _ | refine zD ?_ | refine zA ?_ _)); exact BK135.out⟩, ⟨by repeat (first | (with_reducible first | exact HB.out | apply yA | apply yN | apply yD | refine yS ?_ GE134.out | refine yS ?_ GE135.out) | exact HB.out)⟩⟩
 case rest =>
  clear HC3
  try clear c1
  try clear p2
  try clear c6
  try clear c6b0
  try clear c7
  try clear c7b0
  try clear c8
  try clear c8b0
  try clear c9
  try clear c12
  try clear c15
  try clear c18
  try clear hcz10_0
  try clear hcz10_1
  try clear hcz10_2
  try clear hcz10_3
  try clear hcz11_0
  try clear hcz11_1
  try clear hcz11_2
  try clear hcz11_3
  try clear hcz11_4
  try clear hcz11_5
  try clear hcz13_0
  try clear hcz13_1
  try clear hcz13_2
  try clear hcz13_3
  try clear hcz14_0
  try clear hcz14_1
  try clear hcz14_2
  try clear hcz14_3
  try clear hcz14_4
  try clear hcz14_5
  try clear hcz16_0
  try clear hcz16_1
  try clear hcz16_2
  try clear hcz16_3
  try clear hcz17_0
  try clear hcz17_1
  try clear hcz17_2
  try clear hcz17_3
  try clear hcz17_4
  try clear hcz17_5
  try clear hcz19_0
  try clear hcz19_1
  try clear hcz19_2
  try clear hcz19_3
  try clear hcz20_0
  try clear hcz20_1
  try clear hcz20_2
  try clear hcz20_3
  try clear hcz20_4
  try clear hcz20_5
  try clear hfz10_0
  try clear hfz10_1
  try clear hfz10_2
  try clear hfz10_3
  try clear hfz11_0
  try clear hfz11_1
  try clear hfz11_2
  try clear hfz11_3
  try clear hfz11_4
  try clear hfz11_5
  try clear hfz13_0
  try clear hfz13_1
  try clear hfz13_2
  try clear hfz13_3
  try clear hfz14_0
  try clear hfz14_1
  try clear hfz14_2
  try clear hfz14_3
  try clear hfz14_4
  try clear hfz14_5
  try clear hfz16_0
  try clear hfz16_1
  try clear hfz16_2
  try clear hfz16_3
  try clear hfz17_0
  try clear hfz17_1
  try clear hfz17_2
  try clear hfz17_3
  try clear hfz17_4
  try clear hfz17_5
  try clear hfz19_0
  try clear hfz19_1
  try clear hfz19_2
  try clear hfz19_3
  try clear hfz20_0
  try clear hfz20_1
  try clear hfz20_2
  try clear hfz20_3
  try clear hfz20_4
  try clear hfz20_5
  obtain ⟨kq, x5_2, rfl, HA, HJ2, BK134, BK135, HB⟩ := hcut
  cases kq with
  | zero => exact absurd HA.out (by simp [gangsawref14_within.j0])
  | succ kj2 =>
   have H := HA.out
   clear HA
   simp only [gangsawref14_within.j0] at H
   have H' := aK H
   clear H
   go_wp2
   go_loopg [5, 6] kj2 (fun kq v5 v6 w' => ∃ (x5_2 : Bool) (x6_2 : Int), v5 = .bool x5_2 ∧ v6 = .int .i64 x6_2 ∧ Aside0 (gangsawref14_within.l0 kq x5_2 x6_2 a0_0 a0_1 a0_2 l0_3 a1_0 a1_1 a1_2 a1_3 a1_4 a1_5 = some r) ∧ Aside0 (kq ≤ kj2) ∧ Aside0 (w'.heap[gb134]? = some (.cells #[.string a0_0, .int .i64 a0_1, .int .i64 a0_2, (.slice A0_3 l0_3.length c0_3)] 33 (0, 0))) ∧ Aside0 (w'.heap[gb135]? = some (.cells #[.int .i64 a1_0, .int .i64 a1_1, .int .i64 a1_2, .int .i64 a1_3, .int .i64 a1_4, .int .i64 a1_5] 26 (0, 0))) ∧ Aside0 (Below w.heap.size w w'))
   case atStart => exact ⟨(x5_2), (0), (by first | rfl | (simp; done) | (simp [*]; done)), (by first | rfl | (simp; done) | (simp [*]; done)), H', ⟨Nat.le_refl _⟩, ⟨by (with_reducible repeat (first | refine zN ?_ _ | refine zD ?_ | refine zA ?_ _)); exact BK134.out⟩, ⟨by (with_reducible repeat (first | refine zN ?_ _ | refine zD ?_ | refine zA ?_ _)); exact BK135.out⟩, ⟨by repeat (first | (with_reducible first | exact HB.out | apply yA | apply yN | apply yD | refine yS ?_ GE134.out | refine yS ?_ GE135.out) | exact HB.out)⟩⟩
   case round =>
    clear H'
    try clear c1
    try clear p2
    try clear c6
    try clear c6b0
    try clear c7
    try clear c7b0
    try clear c8
    try clear c8b0
    try clear c9
    try clear c12
    try clear c15
    try clear c18
    try clear hcz10_0
    try clear hcz10_1
    try clear hcz10_2
    try clear hcz10_3
    try clear hcz11_0
    try clear hcz11_1
    try clear hcz11_2
    try clear hcz11_3
    try clear hcz11_4
    try clear hcz11_5
    try clear hcz13_0
    try clear hcz13_1
    try clear hcz13_2
    try clear hcz13_3
    try clear hcz14_0
    try clear hcz14_1
    try clear hcz14_2
    try clear hcz14_3
    try clear hcz14_4
    try clear hcz14_5
    try clear hcz16_0
    try clear hcz16_1
    try clear hcz16_2
    try clear hcz16_3
    try clear hcz17_0
    try clear hcz17_1
    try clear hcz17_2
    try clear hcz17_3
    try clear hcz17_4
    try clear hcz17_5
    try clear hcz19_0
    try clear hcz19_1
    try clear hcz19_2
    try clear hcz19_3
    try clear hcz20_0
    try clear hcz20_1
    try clear hcz20_2
    try clear hcz20_3
    try clear hcz20_4
    try clear hcz20_5
    try clear hfz10_0
    try clear hfz10_1
    try clear hfz10_2
    try clear hfz10_3
    try clear hfz11_0
    try clear hfz11_1
    try clear hfz11_2
    try clear hfz11_3
    try clear hfz11_4
    try clear hfz11_5
    try clear hfz13_0
    try clear hfz13_1
    try clear hfz13_2
    try clear hfz13_3
    try clear hfz14_0
    try clear hfz14_1
    try clear hfz14_2
    try clear hfz14_3
    try clear hfz14_4
    try clear hfz14_5
    try clear hfz16_0
    try clear hfz16_1
    try clear hfz16_2
    try clear hfz16_3
    try clear hfz17_0
    try clear hfz17_1
    try clear hfz17_2
    try clear hfz17_3
    try clear hfz17_4
    try clear hfz17_5
    try clear hfz19_0
    try clear hfz19_1
    try clear hfz19_2
    try clear hfz19_3
    try clear hfz20_0
    try clear hfz20_1
    try clear hfz20_2
    try clear hfz20_3
    try clear hfz20_4
    try clear hfz20_5
    try clear p2
    obtain ⟨x5_2, x6_2, rfl, rfl, HA, HK2, BK134, BK135, HB⟩ := hrel
    cases gk with
    | zero => exact absurd HA.out (by simp [gangsawref14_within.l0])
    | succ k2 =>
     have H := HA.out
     clear HA
     simp only [gangsawref14_within.l0] at H
     by_cases c21 : x6_2 < (l0_3.length : Int)
     ·rw [if_pos c21] at H
      have c21b0 : decide (x6_2 < (l0_3.length : Int)) = true := decide_eq_true c21
      clear c21
      by_cases c22 : x5_2 = true
      ·subst c22
       have H1 : (if 0 ≤ x6_2 then (if ((rd_T48 l0_3 x6_2).f0) ≥ a1_2 then (gangsawref14_within.l0 k2 (decide (((rd_T48 l0_3 x6_2).f1) ≤ a1_5)) (wrap64 (x6_2 + 1)) a0_0 a0_1 a0_2 l0_3 a1_0 a1_1 a1_2 a1_3 a1_4 a1_5) else (gangsawref14_within.l0 k2 false (wrap64 (x6_2 + 1)) a0_0 a0_1 a0_2 l0_3 a1_0 a1_1 a1_2 a1_3 a1_4 a1_5)) else (none)) = some r := by rw [if_pos rfl] at H; exact H
       clear H
       have H := H1
       clear H1
       by_cases c23 : 0 ≤ x6_2
       ·rw [if_pos c23] at H
        have c23b0 : decide (0 ≤ x6_2) = true := decide_eq_true c23
        clear c23
        by_cases c24 : ((rd_T48 l0_3 x6_2).f0) ≥ a1_2
        ·rw [if_pos c24] at H
         have c24b0 : decide (a1_2 ≤ ((rd_T48 l0_3 x6_2).f0)) = true := decide_eq_true c24
         clear c24
         have H' := aK H
         clear H
         have hnb25 := NB134_135.out
         have hnc25 := NB135_134.out
         have hcz26_0 := zI BK134 0 rfl
         have hcz26_1 := zI BK134 1 rfl
         have hcz26_2 := zI BK134 2 rfl
         have hcz26_3 := zI BK134 3 rfl
         have hfz26_0 := zF BK134.out 0
         have hfz26_1 := zF BK134.out 1
         have hfz26_2 := zF BK134.out 2
         have hfz26_3 := zF BK134.out 3
         have p136 : 0 ≤ (x6_2 : Int) := of_decide_eq_true (by first | (with_reducible assumption) | assumption)
         have q136 : x6_2 < (l0_3.length : Int) := of_decide_eq_true (by first | (with_reducible assumption) | assumption)
         obtain ⟨ad136, e136, hx136_0, hx136_1, hx136_2⟩ := at_T48 HR0_3.out x6_2 p136 q136
         cases e136
         replace hx136_0 := (HB.out.cell (World.block_lt_of_cell? w _ hx136_0)).trans hx136_0
         replace hx136_1 := (HB.out.cell (World.block_lt_of_cell? w _ hx136_1)).trans hx136_1
         replace hx136_2 := (HB.out.cell (World.block_lt_of_cell? w _ hx136_2)).trans hx136_2
         replace p136 := eq_true p136
         replace q136 := eq_true q136
         have hcz27_0 := zI BK135 0 rfl
         have hcz27_1 := zI BK135 1 rfl
         have hcz27_2 := zI BK135 2 rfl
         have hcz27_3 := zI BK135 3 rfl
         have hcz27_4 := zI BK135 4 rfl
         have hcz27_5 := zI BK135 5 rfl
         have hfz27_0 := zF BK135.out 0
         have hfz27_1 := zF BK135.out 1
         have hfz27_2 := zF BK135.out 2
         have hfz27_3 := zF BK135.out 3
         have hfz27_4 := zF BK135.out 4
         have hfz27_5 := zF BK135.out 5
         have p137 : 0 ≤ (x6_2 : Int) := of_decide_eq_true (by first | (with_reducible assumption) | assumption)
         have q137 : x6_2 < (l0_3.length : Int) := of_decide_eq_true (by first | (with_reducible assumption) | assumption)
         obtain ⟨ad137, e137, hx137_0, hx137_1, hx137_2⟩ := at_T48 HR0_3.out x6_2 p137 q137
         obtain rfl : ad136 = ad137 := (by injection e137)
         replace hx137_0 := (HB.out.cell (World.block_lt_of_cell? w _ hx137_0)).trans hx137_0
         replace hx137_1 := (HB.out.cell (World.block_lt_of_cell? w _ hx137_1)).trans hx137_1
         replace hx137_2 := (HB.out.cell (World.block_lt_of_cell? w _ hx137_2)).trans hx137_2
         replace p137 := eq_true p137
         replace q137 := eq_true q137
         go_wp2
         repeat (go_quiet (fail); try go_wp2)
         go_roundg k2
         case measure => have := HJ2.out; have := HK2.out; omega
         case rel => exact ⟨(decide (((rd_T48 l0_3 x6_2).f1) ≤ a1_5)), (wrap64 (x6_2 + 1)), (by first | rfl | (simp; done) | (simp [*]; done)), (by first | rfl | (simp; done) | (simp [*]; done)), H', ⟨by have := HJ2.out; have := HK2.out; omega⟩, ⟨by (with_reducible repeat (first | refine zN ?_ _ | refine zD ?_ | refine zA ?_ _)); exact BK134.out⟩, ⟨by (with_reducible repeat (first | refine zN ?_ _ | refine zD ?_ | refine zA ?_ _)); exact BK135.out⟩, ⟨by repeat (first | (with_reducible first | exact HB.out | apply yA | apply yN | apply yD | refine yS ?_ GE134.out | refine yS ?_ GE135.out) | exact HB.out)⟩⟩
        ·rw [if_neg c24] at H
         have c24b0 : decide (a1_2 ≤ ((rd_T48 l0_3 x6_2).f0)) = false := decide_eq_false c24
         clear c24
         have H' := aK H
         clear H
         have hnb28 := NB134_135.out
         have hnc28 := NB135_134.out
         have hcz29_0 := zI BK134 0 rfl
         have hcz29_1 := zI BK134 1 rfl
         have hcz29_2 := zI BK134 2 rfl
         have hcz29_3 := zI BK134 3 rfl
         have hfz29_0 := zF BK134.out 0
         have hfz29_1 := zF BK134.out 1
         have hfz29_2 := zF BK134.out 2
         have hfz29_3 := zF BK134.out 3
         have p136 : 0 ≤ (x6_2 : Int) := of_decide_eq_true (by first | (with_reducible assumption) | assumption)
         have q136 : x6_2 < (l0_3.length : Int) := of_decide_eq_true (by first | (with_reducible assumption) | assumption)
         obtain ⟨ad136, e136, hx136_0, hx136_1, hx136_2⟩ := at_T48 HR0_3.out x6_2 p136 q136
         cases e136
         replace hx136_0 := (HB.out.cell (World.block_lt_of_cell? w _ hx136_0)).trans hx136_0
         replace hx136_1 := (HB.out.cell (World.block_lt_of_cell? w _ hx136_1)).trans hx136_1
         replace hx136_2 := (HB.out.cell (World.block_lt_of_cell? w _ hx136_2)).trans hx136_2
         replace p136 := eq_true p136
         replace q136 := eq_true q136
         have hcz30_0 := zI BK135 0 rfl
         have hcz30_1 := zI BK135 1 rfl
         have hcz30_2 := zI BK135 2 rfl
         have hcz30_3 := zI BK135 3 rfl
         have hcz30_4 := zI BK135 4 rfl
         have hcz30_5 := zI BK135 5 rfl
         have hfz30_0 := zF BK135.out 0
         have hfz30_1 := zF BK135.out 1
         have hfz30_2 := zF BK135.out 2
         have hfz30_3 := zF BK135.out 3
         have hfz30_4 := zF BK135.out 4
         have hfz30_5 := zF BK135.out 5
         go_wp2
         repeat (go_quiet (fail); try go_wp2)
         go_roundg k2
         case measure => have := HJ2.out; have := HK2.out; omega
         case rel => exact ⟨(false), (wrap64 (x6_2 + 1)), (by first | rfl | (simp; done) | (simp [*]; done)), (by first | rfl | (simp; done) | (simp [*]; done)), H', ⟨by have := HJ2.out; have := HK2.out; omega⟩, ⟨by (with_reducible repeat (first | refine zN ?_ _ | refine zD ?_ | refine zA ?_ _)); exact BK134.out⟩, ⟨by (with_reducible repeat (first | refine zN ?_ _ | refine zD ?_ | refine zA ?_ _)); exact BK135.out⟩, ⟨by repeat (first | (with_reducible first | exact HB.out | apply yA | apply yN | apply yD | refine yS ?_ GE134.out | refine yS ?_ GE135.out) | exact HB.out)⟩⟩
       ·rw [if_neg c23] at H
        exact absurd H (by simp)
      ·replace c22 := Bool.eq_false_iff.mpr c22
       subst c22
       have H1 : (gangsawref14_within.l0 k2 false (wrap64 (x6_2 + 1)) a0_0 a0_1 a0_2 l0_3 a1_0 a1_1 a1_2 a1_3 a1_4 a1_5) = some r := by rw [if_neg (show ¬ (false = true) by decide)] at H; exact H
       clear H
       have H := H1
       clear H1
       have H' := aK H
       clear H
       have hnb31 := NB134_135.out
       have hnc31 := NB135_134.out
       have hcz32_0 := zI BK134 0 rfl
       have hcz32_1 := zI BK134 1 rfl
       have hcz32_2 := zI BK134 2 rfl
       have hcz32_3 := zI BK134 3 rfl
       have hfz32_0 := zF BK134.out 0
       have hfz32_1 := zF BK134.out 1
       have hfz32_2 := zF BK134.out 2
       have hfz32_3 := zF BK134.out 3
       go_wp2
       repeat (go_quiet (fail); try go_wp2)
       go_roundg k2
       case measure => have := HJ2.out; have := HK2.out; omega
       case rel => exact ⟨(false), (wrap64 (x6_2 + 1)), (by first | rfl | (simp; done) | (simp [*]; done)), (by first | rfl | (simp; done) | (simp [*]; done)), H', ⟨by have := HJ2.out; have := HK2.out; omega⟩, ⟨by (with_reducible repeat (first | refine zN ?_ _ | refine zD ?_ | refine zA ?_ _)); exact BK134.out⟩, ⟨by (with_reducible repeat (first | refine zN ?_ _ | refine zD ?_ | refine zA ?_ _)); exact BK135.out⟩, ⟨by repeat (first | (with_reducible first | exact HB.out | apply yA | apply yN | apply yD | refine yS ?_ GE134.out | refine yS ?_ GE135.out) | exact HB.out)⟩⟩
     ·rw [if_neg c21] at H
      have c21b0 : decide (x6_2 < (l0_3.length : Int)) = false := decide_eq_false c21
      clear c21
      obtain rfl := Option.some.inj H
      simp only [Option.some.injEq, Prod.mk.injEq] at H
      obtain ⟨rfl⟩ := H
      have hnb33 := NB134_135.out
      have hnc33 := NB135_134.out
      have hcz34_0 := zI BK134 0 rfl
      have hcz34_1 := zI BK134 1 rfl
      have hcz34_2 := zI BK134 2 rfl
      have hcz34_3 := zI BK134 3 rfl
      have hfz34_0 := zF BK134.out 0
      have hfz34_1 := zF BK134.out 1
      have hfz34_2 := zF BK134.out 2
      have hfz34_3 := zF BK134.out 3
      go_wp2
      go_ret
      exact ⟨by first | rfl | (simp [errW_none, errW_some] <;> rfl) | (simp [*, errW_none, errW_some] <;> rfl), by repeat (first | (with_reducible first | exact HB.out | apply yA | apply yN | apply yD | refine yS ?_ GE134.out | refine yS ?_ GE135.out) | exact HB.out)⟩

end Go.Proofs.YtfedmcehkpfciaaGreat.P
