/- What functions of the program return: each contract says so of one function, for every input at which its pure function yields. -/
import Derived.Test.YtfedmcehkpfciaaGreatPx0
import Derived.Test.YtfedmcehkpfciaaGreatPx6
import Derived.Test.YtfedmcehkpfciaaGreatPx10
namespace Go.Proofs.YtfedmcehkpfciaaGreat.P
open Go.RowKit Go.Proofs.YtfedmcehkpfciaaGreatW.PrintWords Go.Proofs.YtfedmcehkpfciaaGreatW.PrintLast Go.Proofs.YtfedmcehkpfciaaGreatW.PrintMore
attribute [local go_sem] max2_int min2_int max_two min_two max_three min_three max_four min_four   -- for this text's walks alone
set_option linter.unusedVariables false
set_option linter.unusedSimpArgs false

mutual
def gangsawref14_Seen.j0 : Nat → Int → Bool → ByteArray → Int → Int → List (S48) → Option (Int × Int)
 | 0, _, _, _, _, _, _ => none
 | k + 1, x1, x21, x229000, x229001, x229002, x229003 => if x21 = true then (some (0, 0)) else (gangsawref14_Seen.l0 k x1 0 x229000 x229001 x229002 x229003)
def gangsawref14_Seen.l0 : Nat → Int → Int → ByteArray → Int → Int → List (S48) → Option (Int × Int)
 | 0, _, _, _, _, _, _ => none
 | k + 1, x1, x6, x229000, x229001, x229002, x229003 => if x6 < (x229003.length : Int) then (if 0 ≤ x6 then (if ((rd_T48 x229003 x6).f0) ≥ ((rd_T48 x229003 x6).f1) then (some (0, 0)) else (gangsawref14_Seen.l0 k x1 (wrap64 (x6 + 1)) x229000 x229001 x229002 x229003)) else (none)) else ((gangsawref14_joined.f k x229003).bind fun t233 => (gangsawref14_Seen.l1 k x1 0 0 t233 0))
def gangsawref14_Seen.l1 : Nat → Int → Int → Int → List (S48) → Int → Option (Int × Int)
 | 0, _, _, _, _, _ => none
 | k + 1, x1, x7, x8, x9, x10 => if x10 < (x9.length : Int) then (if 0 ≤ x10 then (if ((rd_T48 x9 x10).f2) = x1 then (gangsawref14_Seen.l1 k x1 (wrap64 (x7 + (wrap64 (((rd_T48 x9 x10).f1) - ((rd_T48 x9 x10).f0))))) (mx x8 (wrap64 (((rd_T48 x9 x10).f1) - ((rd_T48 x9 x10).f0)))) x9 (wrap64 (x10 + 1))) else (gangsawref14_Seen.l1 k x1 x7 x8 x9 (wrap64 (x10 + 1)))) else (none)) else (some (x7, x8))
end
def gangsawref14_Seen.f (k : Nat) (a0_0 : ByteArray) (a0_1 : Int) (a0_2 : Int) (l0_3 : List (S48)) (a1 : Int) : Option (Int × Int) := if a1 = 1 then ((gangsawref14_stacked.f k a0_0 a0_1 a0_2 l0_3).bind fun t229 => (gangsawref14_Seen.j0 k a1 (!t229) a0_0 a0_1 a0_2 l0_3)) else (if a1 = 2 then ((gangsawref14_stacked.f k a0_0 a0_1 a0_2 l0_3).bind fun t230 => (gangsawref14_Seen.j0 k a1 (!t230) a0_0 a0_1 a0_2 l0_3)) else (gangsawref14_Seen.j0 k a1 true a0_0 a0_1 a0_2 l0_3))
theorem gangsawref14_Seen.mono_l : ∀ k, (∀ y0 y1 y2 y3 y4 y5, LeO (gangsawref14_Seen.j0 k y0 y1 y2 y3 y4 y5) (gangsawref14_Seen.j0 (k + 1) y0 y1 y2 y3 y4 y5)) ∧ (∀ y0 y1 y2 y3 y4 y5, LeO (gangsawref14_Seen.l0 k y0 y1 y2 y3 y4 y5) (gangsawref14_Seen.l0 (k + 1) y0 y1 y2 y3 y4 y5)) ∧ (∀ y0 y1 y2 y3 y4, LeO (gangsawref14_Seen.l1 k y0 y1 y2 y3 y4) (gangsawref14_Seen.l1 (k + 1) y0 y1 y2 y3 y4))
 | 0 => ⟨fun _ _ _ _ _ _ r h => by simp [gangsawref14_Seen.j0] at h, fun _ _ _ _ _ _ r h => by simp [gangsawref14_Seen.l0] at h, fun _ _ _ _ _ r h => by simp [gangsawref14_Seen.l1] at h⟩
 | k + 1 => by
  obtain ⟨ih0, ih1, ih2⟩ := gangsawref14_Seen.mono_l k
  refine ⟨?_, ?_, ?_⟩
  ·intro y0 y1 y2 y3 y4 y5
   unfold gangsawref14_Seen.j0
   repeat' first
   | (with_reducible exact ih0 _ _ _ _ _ _)
   | (with_reducible exact ih1 _ _ _ _ _ _)
   | (with_reducible exact ih2 _ _ _ _ _)
   | (with_reducible exact gangsawref14_joined.mono _ _)
   | (with_reducible exact gangsawref14_stacked.mono _ _ _ _ _)
   | (with_reducible refine contains3.mono2 (fun x_ => ?_))
   | (with_reducible refine contains33.mono2 (fun x_ => ?_))
   | (with_reducible refine contains48.mono2 (fun x_ => ?_))
   | (with_reducible refine contains9.mono2 (fun x_ => ?_))
   | (with_reducible refine index3.mono2 (fun x_ => ?_))
   | (with_reducible refine index33.mono2 (fun x_ => ?_))
   | (with_reducible refine index48.mono2 (fun x_ => ?_))
   | (with_reducible refine index9.mono2 (fun x_ => ?_))
   | (with_reducible exact LeO.refl _)
   | (with_reducible exact LeO.none _)
   | (with_reducible refine LeO.ite ?_ ?_)
   | (with_reducible refine LeO.bind ?_ (fun _ => ?_))
   | exact ih0 _ _ _ _ _ _
   | exact ih1 _ _ _ _ _ _
   | exact ih2 _ _ _ _ _
   | exact gangsawref14_joined.mono _ _
   | exact gangsawref14_stacked.mono _ _ _ _ _
   | exact LeO.none _
   | refine LeO.ite ?_ ?_
   | refine LeO.bind ?_ (fun _ => ?_)
  ·intro y0 y1 y2 y3 y4 y5
   unfold gangsawref14_Seen.l0
   repeat' first
   | (with_reducible exact ih0 _ _ _ _ _ _)
   | (with_reducible exact ih1 _ _ _ _ _ _)
   | (with_reducible exact ih2 _ _ _ _ _)
   | (with_reducible exact gangsawref14_joined.mono _ _)
   | (with_reducible exact gangsawref14_stacked.mono _ _ _ _ _)
   | (with_reducible refine contains3.mono2 (fun x_ => ?_))
   | (with_reducible refine contains33.mono2 (fun x_ => ?_))
   | (with_reducible refine contains48.mono2 (fun x_ => ?_))
   | (with_reducible refine contains9.mono2 (fun x_ => ?_))
   | (with_reducible refine index3.mono2 (fun x_ => ?_))
   | (with_reducible refine index33.mono2 (fun x_ => ?_))
   | (with_reducible refine index48.mono2 (fun x_ => ?_))
   | (with_reducible refine index9.mono2 (fun x_ => ?_))
   | (with_reducible exact LeO.refl _)
   | (with_reducible exact LeO.none _)
   | (with_reducible refine LeO.ite ?_ ?_)
   | (with_reducible refine LeO.bind ?_ (fun _ => ?_))
   | exact ih0 _ _ _ _ _ _
   | exact ih1 _ _ _ _ _ _
   | exact ih2 _ _ _ _ _
   | exact gangsawref14_joined.mono _ _
   | exact gangsawref14_stacked.mono _ _ _ _ _
   | exact LeO.none _
   | refine LeO.ite ?_ ?_
   | refine LeO.bind ?_ (fun _ => ?_)
  ·intro y0 y1 y2 y3 y4
   unfold gangsawref14_Seen.l1
   repeat' first
   | (with_reducible exact ih0 _ _ _ _ _ _)
   | (with_reducible exact ih1 _ _ _ _ _ _)
   | (with_reducible exact ih2 _ _ _ _ _)
   | (with_reducible exact gangsawref14_joined.mono _ _)
   | (with_reducible exact gangsawref14_stacked.mono _ _ _ _ _)
   | (with_reducible refine contains3.mono2 (fun x_ => ?_))
   | (with_reducible refine contains33.mono2 (fun x_ => ?_))
   | (with_reducible refine contains48.mono2 (fun x_ => ?_))
   | (with_reducible refine contains9.mono2 (fun x_ => ?_))
   | (with_reducible refine index3.mono2 (fun x_ => ?_))
   | (with_reducible refine index33.mono2 (fun x_ => ?_))
   | (with_reducible refine index48.mono2 (fun x_ => ?_))
   | (with_reducible refine index9.mono2 (fun x_ => ?_))
   | (with_reducible exact LeO.refl _)
   | (with_reducible exact LeO.none _)
   | (with_reducible refine LeO.ite ?_ ?_)
   | (with_reducible refine LeO.bind ?_ (fun _ => ?_))
   | exact ih0 _ _ _ _ _ _
   | exact ih1 _ _ _ _ _ _
   | exact ih2 _ _ _ _ _
   | exact gangsawref14_joined.mono _ _
   | exact gangsawref14_stacked.mono _ _ _ _ _
   | exact LeO.none _
   | refine LeO.ite ?_ ?_
   | refine LeO.bind ?_ (fun _ => ?_)
theorem gangsawref14_Seen.mono : ∀ a0 a1 a2 a3 a4 k, LeO (gangsawref14_Seen.f k a0 a1 a2 a3 a4) (gangsawref14_Seen.f (k + 1) a0 a1 a2 a3 a4) := by
 intro a0 a1 a2 a3 a4 k
 obtain ⟨ih0, ih1, ih2⟩ := gangsawref14_Seen.mono_l k
 unfold gangsawref14_Seen.f
 repeat' first
   | (with_reducible exact ih0 _ _ _ _ _ _)
   | (with_reducible exact ih1 _ _ _ _ _ _)
   | (with_reducible exact ih2 _ _ _ _ _)
   | (with_reducible exact gangsawref14_joined.mono _ _)
   | (with_reducible exact gangsawref14_stacked.mono _ _ _ _ _)
   | (with_reducible refine contains3.mono2 (fun x_ => ?_))
   | (with_reducible refine contains33.mono2 (fun x_ => ?_))
   | (with_reducible refine contains48.mono2 (fun x_ => ?_))
   | (with_reducible refine contains9.mono2 (fun x_ => ?_))
   | (with_reducible refine index3.mono2 (fun x_ => ?_))
   | (with_reducible refine index33.mono2 (fun x_ => ?_))
   | (with_reducible refine index48.mono2 (fun x_ => ?_))
   | (with_reducible refine index9.mono2 (fun x_ => ?_))
   | (with_reducible exact LeO.refl _)
   | (with_reducible exact LeO.none _)
   | (with_reducible refine LeO.ite ?_ ?_)
   | (with_reducible refine LeO.bind ?_ (fun _ => ?_))
   | exact ih0 _ _ _ _ _ _
   | exact ih1 _ _ _ _ _ _
   | exact ih2 _ _ _ _ _
   | exact gangsawref14_joined.mono _ _
   | exact gangsawref14_stacked.mono _ _ _ _ _
   | exact LeO.none _
   | refine LeO.ite ?_ ?_
   | refine LeO.bind ?_ (fun _ => ?_)
set_option maxHeartbeats 8000000 in
set_option maxRecDepth 100000 in
theorem gangsawref14_Seen.calls (k : Nat) (a0_0 : ByteArray) (a0_1 : Int) (a0_2 : Int) (A0_3 : Option Addr) (c0_3 : Nat) (l0_3 : List (S48)) (a1 : Int) (r1 : Int) (r2 : Int) (w : World) (hr0_3 : Kd.C k48 w A0_3 l0_3.length l0_3) (hc0_3 : l0_3.length ≤ c0_3) (h : gangsawref14_Seen.f k a0_0 a0_1 a0_2 l0_3 a1 = some (r1, r2)) :
  Calls Tryz.prog 25 #[.agg #[.string a0_0, .int .i64 a0_1, .int .i64 a0_2, .slice A0_3 l0_3.length c0_3], .int .i64 a1] w fun e w' => e = .returned (.tuple #[.int .i64 r1, .int .i64 r2]) ∧ Below w.heap.size w w' := by
 have hu33 := Tryz.underlying33
 have HR0_3 := aK hr0_3
 have HC0_3 := aK hc0_3
 clear hr0_3 hc0_3
 have HB := aK (Below.refl w.heap.size w)
 have H : (if a1 = 1 then ((gangsawref14_stacked.f k a0_0 a0_1 a0_2 l0_3).bind fun t229 => (gangsawref14_Seen.j0 k a1 (!t229) a0_0 a0_1 a0_2 l0_3)) else (if a1 = 2 then ((gangsawref14_stacked.f k a0_0 a0_1 a0_2 l0_3).bind fun t230 => (gangsawref14_Seen.j0 k a1 (!t230) a0_0 a0_1 a0_2 l0_3)) else (gangsawref14_Seen.j0 k a1 true a0_0 a0_1 a0_2 l0_3))) = some (r1, r2) := h
 clear h
 have HC3 := aK H
 clear H
 go_enter Tryz.func25, Tryz.ntmps25
 go_upto_region 1 with (first | ((with_reducible refine gate_dst (N := 2) rfl ?_); refine box_event ?hg (N := 2) ?hd (cs := #[.string a0_0, .int .i64 a0_1, .int .i64 a0_2, .slice A0_3 l0_3.length c0_3]) (t := 33) ?hr ?_; (case hd => rfl); (case hg => rfl); (case hr => first | (go_simp; done) | (go_simp; rfl)); intro gb228 hg w4 hbox hb; have ⟨n0_, n2_⟩ := zV (w := w) hb hg (by repeat (first | (with_reducible first | exact HB.out | apply yA | apply yN | apply yD) | exact HB.out)); have n1_ := aK (hbox); have n3_ := n2_; clear HB; have HB := n0_; have BK228 := n1_; have GW228 := n2_; have GE228 := n3_; clear n0_ n1_ n2_ n3_; clear hb hbox hg))
 (try simp only [Act.put, sA, sZ, sS])
 go_cut [21] (fun v21 wc => ∃ (kq : Nat) (x21_2 : Bool), v21 = .bool x21_2 ∧ Aside0 (gangsawref14_Seen.j0 kq a1 x21_2 a0_0 a0_1 a0_2 l0_3 = some (r1, r2)) ∧ Aside0 (kq ≤ k) ∧ Aside0 (wc.heap[gb228]? = some (.cells #[.string a0_0, .int .i64 a0_1, .int .i64 a0_2, (.slice A0_3 l0_3.length c0_3)] 33 (0, 0))) ∧ Aside0 (Below w.heap.size w wc))
 case first =>
  have H := HC3.out
  clear HC3
  by_cases c5 : a1 = 1
  ·rw [if_pos c5] at H
   have c5b0 : (a1 == 1) = true := beq_iff_eq.mpr c5
   have c5b1 : (a1 != 1) = false := bne_eq_false_iff_eq.mpr c5
   clear c5
   (first | rw [c5b0] | (simp only [i64_w, i32_w]; rw [c5b0]) | skip)
   replace H := Option.bind_eq_some_iff.mp H
   obtain ⟨t229, A60, H⟩ := H
   replace H : (gangsawref14_Seen.j0 k a1 (!t229) a0_0 a0_1 a0_2 l0_3) = some (r1, r2) := H
   have A6 := aK A60
   clear A60
   have H' := aK H
   clear H
   have hcz7_0 := zI BK228 0 rfl
   have hcz7_1 := zI BK228 1 rfl
   have hcz7_2 := zI BK228 2 rfl
   have hcz7_3 := zI BK228 3 rfl
   have hfz7_0 := zF BK228.out 0
   have hfz7_1 := zF BK228.out 1
   have hfz7_2 := zF BK228.out 2
   have hfz7_3 := zF BK228.out 3
   go_wp2_with (first | (go_at_call 55; (with_reducible refine (gangsawref14_stacked.calls k a0_0 a0_1 a0_2 _ _ l0_3 t229 _ ?side1 ?side2 A6.out).mono ?_); (case side1 => repeat (first | exact (Kd.C_below HR0_3.out HB.out) | (with_reducible refine Kd.C_alloc ?_ _) | (with_reducible refine Kd.C_drewN ?_ _) | (with_reducible refine Kd.C_drew ?_))); (case side2 => exact HC0_3.out); rintro e w8 ⟨rfl, hb⟩; have n0_ := zG BK228 hb (fun h => by (with_reducible repeat (first | refine zN ?_ _ | refine zD ?_ | refine zA ?_ _)); exact h); have n1_ := aK (yT (by repeat (first | (with_reducible first | exact HB.out | apply yA | apply yN | apply yD | refine yS ?_ GE228.out) | exact HB.out)) hb); clear BK228; clear HB; have BK228 := n0_; have HB := n1_; clear n0_ n1_; (try clear hb); (try clear hb2); (try clear hk); (try clear hi)))
   go_meet
   case rel => exact ⟨_, (!t229), (by first | rfl | (simp; done) | (simp [*]; done)), H', ⟨by first | omega | exact Nat.le_refl _⟩, ⟨by (with_reducible repeat (first | refine zN ?_ _ | refine zD ?_ | refine zA ?_ _)); exact BK228.out⟩, ⟨by repeat (first | (with_reducible first | exact HB.out | apply yA | apply yN | apply yD | refine yS ?_ GE228.out) | exact HB.out)⟩⟩
  ·rw [if_neg c5] at H
   have c5b0 : (a1 == 1) = false := beq_eq_false_iff_ne.mpr c5
   have c5b1 : (a1 != 1) = true := bne_iff_ne.mpr c5
   (first | rw [c5b0] | (simp only [i64_w, i32_w]; rw [c5b0]) | skip)
   by_cases c9 : a1 = 2
   ·rw [if_pos c9] at H
    have c9b0 : (a1 == 2) = true := beq_iff_eq.mpr c9
    have c9b1 : (a1 != 2) = false := bne_eq_false_iff_eq.mpr c9
    clear c9
    replace H := Option.bind_eq_some_iff.mp H
    obtain ⟨t230, A100, H⟩ := H
    replace H : (gangsawref14_Seen.j0 k a1 (!t230) a0_0 a0_1 a0_2 l0_3) = some (r1, r2) := H
    have A10 := aK A100
    clear A100
    have H' := aK H
    clear H
    have hcz11_0 := zI BK228 0 rfl
    have hcz11_1 := zI BK228 1 rfl
    have hcz11_2 := zI BK228 2 rfl
    have hcz11_3 := zI BK228 3 rfl
    have hfz11_0 := zF BK228.out 0
    have hfz11_1 := zF BK228.out 1
    have hfz11_2 := zF BK228.out 2
    have hfz11_3 := zF BK228.out 3
    go_wp2_with (first | (go_at_call 55; (with_reducible refine (gangsawref14_stacked.calls k a0_0 a0_1 a0_2 _ _ l0_3 t230 _ ?side1 ?side2 A10.out).mono ?_); (case side1 => repeat (first | exact (Kd.C_below HR0_3.out HB.out) | (with_reducible refine Kd.C_alloc ?_ _) | (with_reducible refine Kd.C_drewN ?_ _) | (with_reducible refine Kd.C_drew ?_))); (case side2 => exact HC0_3.out); rintro e w12 ⟨rfl, hb⟩; have n0_ := zG BK228 hb (fun h => by (with_reducible repeat (first | refine zN ?_ _ | refine zD ?_ | refine zA ?_ _)); exact h); have n1_ := aK (yT (by repeat (first | (with_reducible first | exact HB.out | apply yA | apply yN | apply yD | refine yS ?_ GE228.out) | exact HB.out)) hb); clear BK228; clear HB; have BK228 := n0_; have HB := n1_; clear n0_ n1_; (try clear hb); (try clear hb2); (try clear hk); (try clear hi)))
    go_meet
    case rel => exact ⟨_, (!t230), (by first | rfl | (simp; done) | (simp [*]; done)), H', ⟨by first | omega | exact Nat.le_refl _⟩, ⟨by (with_reducible repeat (first | refine zN ?_ _ | refine zD ?_ | refine zA ?_ _)); exact BK228.out⟩, ⟨by repeat (first | (with_reducible first | exact HB.out | apply yA | apply yN | apply yD | refine yS ?_ GE228.out) | exact HB.out)⟩⟩
   ·rw [if_neg c9] at H
    have c9b0 : (a1 == 2) = false := beq_eq_false_iff_ne.mpr c9
    have c9b1 : (a1 != 2) = true := bne_iff_ne.mpr c9
    have H' := aK H
    clear H
    go_wp2
    go_meet
    case rel => exact ⟨_, (true), (by first | rfl | (simp; done) | (simp [*]; done)), H', ⟨by first | omega | exact Nat.le_refl _⟩, ⟨by (with_reducible repeat (first | refine zN ?_ _ | refine zD ?_ | refine zA ?_ _)); exact BK228.out⟩, ⟨by repeat (first | (with_reducible first | exact HB.out | apply yA | apply yN | apply yD | refine yS ?_ GE228.out) | exact HB.out)⟩⟩
 case rest =>
  clear HC3
  try clear c2
  try clear p2
  try clear c5
  try clear c5b0
  try clear c5b1
  try clear c9
  try clear c9b0
  try clear c9b1
  try clear hcz11_0
  try clear hcz11_1
  try clear hcz11_2
  try clear hcz11_3
  try clear hcz7_0
  try clear hcz7_1
  try clear hcz7_2
  try clear hcz7_3
  try clear hfz11_0
  try clear hfz11_1
  try clear hfz11_2
  try clear hfz11_3
  try clear hfz7_0
  try clear hfz7_1
  try clear hfz7_2
  try clear hfz7_3
  obtain ⟨kq, x21_2, rfl, HA, HJ2, BK228, HB⟩ := hcut
  cases kq with
  | zero => exact absurd HA.out (by simp [gangsawref14_Seen.j0])
  | succ kj2 =>
   have H := HA.out
   clear HA
   simp only [gangsawref14_Seen.j0] at H
   by_cases c13 : x21_2 = true
   ·subst c13
    have H1 : (some (0, 0)) = some (r1, r2) := by rw [if_pos rfl] at H; exact H
    clear H
    have H := H1
    clear H1
    simp only [Option.some.injEq, Prod.mk.injEq] at H
    obtain ⟨rfl, rfl⟩ := H
    go_wp2
    go_ret2
    exact ⟨by first | rfl | (simp [errW_none, errW_some] <;> rfl) | (simp [*, errW_none, errW_some] <;> rfl), by repeat (first | (with_reducible first | exact HB.out | apply yA | apply yN | apply yD | refine yS ?_ GE228.out) | exact HB.out)⟩
   ·replace c13 := Bool.eq_false_iff.mpr c13
    subst c13
    have H1 : (gangsawref14_Seen.l0 kj2 a1 0 a0_0 a0_1 a0_2 l0_3) = some (r1, r2) := by rw [if_neg (show ¬ (false = true) by decide)] at H; exact H
    clear H
    have H := H1
    clear H1
    have H' := aK H
    clear H
    go_wp2
    go_loopg [6] kj2 (fun kq v6 w' => ∃ (x6_2 : Int), v6 = .int .i64 x6_2 ∧ Aside0 (gangsawref14_Seen.l0 kq a1 x6_2 a0_0 a0_1 a0_2 l0_3 = some (r1, r2)) ∧ Aside0 (kq ≤ kj2) ∧ Aside0 (w'.heap[gb228]? = some (.cells #[.string a0_0, .int .i64 a0_1, .int .i64 a0_2, (.slice A0_3 l0_3.length c0_3)] 33 (0, 0))) ∧ Aside0 (Below w.heap.size w w'))
    case atStart => exact ⟨(0), (by first | rfl | (simp; done) | (simp [*]; done)), H', ⟨Nat.le_refl _⟩, ⟨by (with_reducible repeat (first | refine zN ?_ _ | refine zD ?_ | refine zA ?_ _)); exact BK228.out⟩, ⟨by repeat (first | (with_reducible first | exact HB.out | apply yA | apply yN | apply yD | refine yS ?_ GE228.out) | exact HB.out)⟩⟩
    case round =>
     clear H'
     try clear c1
     try clear c2
     try clear p2
     try clear c5
     try clear c5b0
     try clear c5b1
     try clear c9
     try clear c9b0
     try clear c9b1
     try clear c13
     try clear hcz11_0
     try clear hcz11_1
     try clear hcz11_2
     try clear hcz11_3
     try clear hcz7_0
     try clear hcz7_1
     try clear hcz7_2
     try clear hcz7_3
     try clear hfz11_0
     try clear hfz11_1
     try clear hfz11_2
     try clear hfz11_3
     try clear hfz7_0
     try clear hfz7_1
     try clear hfz7_2
     try clear hfz7_3
     try clear p2
     obtain ⟨x6_2, rfl, HA, HK2, BK228, HB⟩ := hrel
     cases gk with
     | zero => exact absurd HA.out (by simp [gangsawref14_Seen.l0])
     | succ k2 =>
      have H := HA.out
      clear HA
      simp only [gangsawref14_Seen.l0] at H
      by_cases c14 : x6_2 < (l0_3.length : Int)
      ·rw [if_pos c14] at H
       have c14b0 : decide (x6_2 < (l0_3.length : Int)) = true := decide_eq_true c14
       clear c14
       by_cases c15 : 0 ≤ x6_2
       ·rw [if_pos c15] at H
        have c15b0 : decide (0 ≤ x6_2) = true := decide_eq_true c15
        clear c15
        by_cases c16 : ((rd_T48 l0_3 x6_2).f0) ≥ ((rd_T48 l0_3 x6_2).f1)
        ·rw [if_pos c16] at H
         have c16b0 : decide (((rd_T48 l0_3 x6_2).f1) ≤ ((rd_T48 l0_3 x6_2).f0)) = true := decide_eq_true c16
         clear c16
         simp only [Option.some.injEq, Prod.mk.injEq] at H
         obtain ⟨rfl, rfl⟩ := H
         have hcz17_0 := zI BK228 0 rfl
         have hcz17_1 := zI BK228 1 rfl
         have hcz17_2 := zI BK228 2 rfl
         have hcz17_3 := zI BK228 3 rfl
         have hfz17_0 := zF BK228.out 0
         have hfz17_1 := zF BK228.out 1
         have hfz17_2 := zF BK228.out 2
         have hfz17_3 := zF BK228.out 3
         have p231 : 0 ≤ (x6_2 : Int) := of_decide_eq_true (by first | (with_reducible assumption) | assumption)
         have q231 : x6_2 < (l0_3.length : Int) := of_decide_eq_true (by first | (with_reducible assumption) | assumption)
         obtain ⟨ad231, e231, hx231_0, hx231_1, hx231_2⟩ := at_T48 HR0_3.out x6_2 p231 q231
         cases e231
         replace hx231_0 := (HB.out.cell (World.block_lt_of_cell? w _ hx231_0)).trans hx231_0
         replace hx231_1 := (HB.out.cell (World.block_lt_of_cell? w _ hx231_1)).trans hx231_1
         replace hx231_2 := (HB.out.cell (World.block_lt_of_cell? w _ hx231_2)).trans hx231_2
         replace p231 := eq_true p231
         replace q231 := eq_true q231
         have p232 : 0 ≤ (x6_2 : Int) := of_decide_eq_true (by first | (with_reducible assumption) | assumption)
         have q232 : x6_2 < (l0_3.length : Int) := of_decide_eq_true (by first | (with_reducible assumption) | assumption)
         obtain ⟨ad232, e232, hx232_0, hx232_1, hx232_2⟩ := at_T48 HR0_3.out x6_2 p232 q232
         obtain rfl : ad231 = ad232 := (by injection e232)
         replace hx232_0 := (HB.out.cell (World.block_lt_of_cell? w _ hx232_0)).trans hx232_0
         replace hx232_1 := (HB.out.cell (World.block_lt_of_cell? w _ hx232_1)).trans hx232_1
         replace hx232_2 := (HB.out.cell (World.block_lt_of_cell? w _ hx232_2)).trans hx232_2
         replace p232 := eq_true p232
         replace q232 := eq_true q232
         go_wp2
         repeat (go_quiet (fail); try go_wp2)
         go_ret2
         exact ⟨by first | rfl | (simp [errW_none, errW_some] <;> rfl) | (simp [*, errW_none, errW_some] <;> rfl), by repeat (first | (with_reducible first | exact HB.out | apply yA | apply yN | apply yD | refine yS ?_ GE228.out) | exact HB.out)⟩
        ·rw [if_neg c16] at H
         have c16b0 : decide (((rd_T48 l0_3 x6_2).f1) ≤ ((rd_T48 l0_3 x6_2).f0)) = false := decide_eq_false c16
         clear c16
         have H' := aK H
         clear H
         have hcz18_0 := zI BK228 0 rfl
         have hcz18_1 := zI BK228 1 rfl
         have hcz18_2 := zI BK228 2 rfl
         have hcz18_3 := zI BK228 3 rfl
         have hfz18_0 := zF BK228.out 0
         have hfz18_1 := zF BK228.out 1
         have hfz18_2 := zF BK228.out 2
         have hfz18_3 := zF BK228.out 3
         have p231 : 0 ≤ (x6_2 : Int) := of_decide_eq_true (by first | (with_reducible assumption) | assumption)
         have q231 : x6_2 < (l0_3.length : Int) := of_decide_eq_true (by first | (with_reducible assumption) | assumption)
         obtain ⟨ad231, e231, hx231_0, hx231_1, hx231_2⟩ := at_T48 HR0_3.out x6_2 p231 q231
         cases e231
         replace hx231_0 := (HB.out.cell (World.block_lt_of_cell? w _ hx231_0)).trans hx231_0
         replace hx231_1 := (HB.out.cell (World.block_lt_of_cell? w _ hx231_1)).trans hx231_1
         replace hx231_2 := (HB.out.cell (World.block_lt_of_cell? w _ hx231_2)).trans hx231_2
         replace p231 := eq_true p231
         replace q231 := eq_true q231
         have p232 : 0 ≤ (x6_2 : Int) := of_decide_eq_true (by first | (with_reducible assumption) | assumption)
         have q232 : x6_2 < (l0_3.length : Int) := of_decide_eq_true (by first | (with_reducible assumption) | assumption)
         obtain ⟨ad232, e232, hx232_0, hx232_1, hx232_2⟩ := at_T48 HR0_3.out x6_2 p232 q232
         obtain rfl : ad231 = ad232 := (by injection e232)
         replace hx232_0 := (HB.out.cell (World.block_lt_of_cell? w _ hx232_0)).trans hx232_0
         replace hx232_1 := (HB.out.cell (World.block_lt_of_cell? w _ hx232_1)).trans hx232_1
         replace hx232_2 := (HB.out.cell (World.block_lt_of_cell? w _ hx232_2)).trans hx232_2
         replace p232 := eq_true p232
         replace q232 := eq_true q232
         go_wp2
         repeat (go_quiet (fail); try go_wp2)
         go_roundg k2
         case measure => have := HJ2.out; have := HK2.out; omega
         case rel => exact ⟨(wrap64 (x6_2 + 1)), (by first | rfl | (simp; done) | (simp [*]; done)), H', ⟨by have := HJ2.out; have := HK2.out; omega⟩, ⟨by (with_reducible repeat (first | refine zN ?_ _ | refine zD ?_ | refine zA ?_ _)); exact BK228.out⟩, ⟨by repeat (first | (with_reducible first | exact HB.out | apply yA | apply yN | apply yD | refine yS ?_ GE228.out) | exact HB.out)⟩⟩
       ·rw [if_neg c15] at H
        exact absurd H (by simp)
      ·rw [if_neg c14] at H
       have c14b0 : decide (x6_2 < (l0_3.length : Int)) = false := decide_eq_false c14
       clear c14
       replace H := Option.bind_eq_some_iff.mp H
       obtain ⟨t233, A190, H⟩ := H
       replace H : (gangsawref14_Seen.l1 k2 a1 0 0 t233 0) = some (r1, r2) := H
       have A19 := aK A190
       clear A190
       have H' := aK H
       clear H
       have hcz20_0 := zI BK228 0 rfl
       have hcz20_1 := zI BK228 1 rfl
       have hcz20_2 := zI BK228 2 rfl
       have hcz20_3 := zI BK228 3 rfl
       have hfz20_0 := zF BK228.out 0
       have hfz20_1 := zF BK228.out 1
       have hfz20_2 := zF BK228.out 2
       have hfz20_3 := zF BK228.out 3
       go_wp2_with (first | (go_at_call 49; (with_reducible refine (gangsawref14_joined.calls k2 _ _ l0_3 t233 _ ?side1 ?side2 A19.out).mono ?_); (case side1 => repeat (first | exact (Kd.C_below HR0_3.out HB.out) | (with_reducible refine Kd.C_alloc ?_ _) | (with_reducible refine Kd.C_drewN ?_ _) | (with_reducible refine Kd.C_drew ?_))); (case side2 => exact HC0_3.out); rintro e w21 ⟨v234, rfl, ho0, hb⟩; have n0_ := aK (Kd.R_lower ho0 (yZ (by repeat (first | (with_reducible first | exact HB.out | apply yA | apply yN | apply yD | refine yS ?_ GE228.out) | exact HB.out)))); have n1_ := zG BK228 hb (fun h => by (with_reducible repeat (first | refine zN ?_ _ | refine zD ?_ | refine zA ?_ _)); exact h); have n2_ := aK (yT (by repeat (first | (with_reducible first | exact HB.out | apply yA | apply yN | apply yD | refine yS ?_ GE228.out) | exact HB.out)) hb); clear BK228; clear HB; have HO235 := n0_; have BK228 := n1_; have HB := n2_; clear n0_ n1_ n2_; (try clear hb); (try clear hb2); (try clear hk); (try clear hi); (try clear ho0)))
       go_loopg [7, 8, 10] k2 (fun kq v7 v8 v10 w' => ∃ (x7_3 : Int) (x8_3 : Int) (x10_3 : Int), v7 = .int .i64 x7_3 ∧ v8 = .int .i64 x8_3 ∧ v10 = .int .i64 x10_3 ∧ Aside0 (gangsawref14_Seen.l1 kq a1 x7_3 x8_3 t233 x10_3 = some (r1, r2)) ∧ Aside0 (kq ≤ k2) ∧ Aside0 (Kd.R k48 48 w' w.heap.size (fun _ => True) v234 t233) ∧ Aside0 (w'.heap[gb228]? = some (.cells #[.string a0_0, .int .i64 a0_1, .int .i64 a0_2, (.slice A0_3 l0_3.length c0_3)] 33 (0, 0))) ∧ Aside0 (Below w.heap.size w w'))
       case atStart => exact ⟨(0), (0), (0), (by first | rfl | (simp; done) | (simp [*]; done)), (by first | rfl | (simp; done) | (simp [*]; done)), (by first | rfl | (simp; done) | (simp [*]; done)), H', ⟨Nat.le_refl _⟩, ⟨by (with_reducible repeat (first | apply Kd.R_alloc | apply Kd.R_drewN | apply Kd.R_drew)); exact HO235.out⟩, ⟨by (with_reducible repeat (first | refine zN ?_ _ | refine zD ?_ | refine zA ?_ _)); exact BK228.out⟩, ⟨by repeat (first | (with_reducible first | exact HB.out | apply yA | apply yN | apply yD | refine yS ?_ GE228.out) | exact HB.out)⟩⟩
       case round =>
        clear H'
        try clear c1
        try clear c2
        try clear p2
        try clear q2
        try clear hx2
        try clear c5
        try clear c5b0
        try clear c5b1
        try clear p6
        try clear c9
        try clear c9b0
        try clear c9b1
        try clear c13
        try clear c14
        try clear c14b0
        try clear c15
        try clear c15b0
        try clear c16
        try clear c16b0
        try clear hcz11_0
        try clear hcz11_1
        try clear hcz11_2
        try clear hcz11_3
        try clear hcz17_0
        try clear hcz17_1
        try clear hcz17_2
        try clear hcz17_3
        try clear hcz18_0
        try clear hcz18_1
        try clear hcz18_2
        try clear hcz18_3
        try clear hcz20_0
        try clear hcz20_1
        try clear hcz20_2
        try clear hcz20_3
        try clear hcz7_0
        try clear hcz7_1
        try clear hcz7_2
        try clear hcz7_3
        try clear hfz11_0
        try clear hfz11_1
        try clear hfz11_2
        try clear hfz11_3
        try clear hfz17_0
        try clear hfz17_1
        try clear hfz17_2
        try clear hfz17_3
        try clear hfz18_0
        try clear hfz18_1
        try clear hfz18_2
        try clear hfz18_3
        try clear hfz20_0
        try clear hfz20_1
        try clear hfz20_2
        try clear hfz20_3
        try clear hfz7_0
        try clear hfz7_1
        try clear hfz7_2
        try clear hfz7_3
        try clear hx231_0
        try clear hx231_1
        try clear hx231_2
        try clear hx232_0
        try clear hx232_1
        try clear hx232_2
        try clear p2
        try clear p231
        try clear p232
        try clear q231
        try clear q232
        obtain ⟨x7_3, x8_3, x10_3, rfl, rfl, rfl, HA, HK3, HO_9, BK228, HB⟩ := hrel
        cases gk with
        | zero => exact absurd HA.out (by simp [gangsawref14_Seen.l1])
        | succ k3 =>
         have H := HA.out
         clear HA
         simp only [gangsawref14_Seen.l1] at H
         by_cases c22 : x10_3 < (t233.length : Int)
         ·rw [if_pos c22] at H
          have c22b0 : decide (x10_3 < (t233.length : Int)) = true := decide_eq_true c22
          clear c22
          by_cases c23 : 0 ≤ x10_3
          ·rw [if_pos c23] at H
           have c23b0 : decide (0 ≤ x10_3) = true := decide_eq_true c23
           clear c23
           by_cases c24 : ((rd_T48 t233 x10_3).f2) = a1
           ·rw [if_pos c24] at H
            have c24b0 : (((rd_T48 t233 x10_3).f2) == a1) = true := beq_iff_eq.mpr c24
            have c24b1 : (((rd_T48 t233 x10_3).f2) != a1) = false := bne_eq_false_iff_eq.mpr c24
            clear c24
            obtain ⟨ji25, hji25⟩ : ∃ j_ : Int, (mx x8_3 (wrap64 (((rd_T48 t233 x10_3).f1) - ((rd_T48 t233 x10_3).f0)))) = j_ := ⟨_, rfl⟩
            replace H : (gangsawref14_Seen.l1 k3 a1 (wrap64 (x7_3 + (wrap64 (((rd_T48 t233 x10_3).f1) - ((rd_T48 t233 x10_3).f0))))) ji25 t233 (wrap64 (x10_3 + 1))) = some (r1, r2) := by first | (rw [hji25] at H; exact H) | (simp only [hji25] at H ⊢; exact H)
            have hji25_ : (if x8_3 < (wrap64 (((rd_T48 t233 x10_3).f1) - ((rd_T48 t233 x10_3).f0))) then (wrap64 (((rd_T48 t233 x10_3).f1) - ((rd_T48 t233 x10_3).f0))) else x8_3) = ji25 := hji25
            have H' := aK H
            clear H
            obtain ⟨Ao26, co26, eo26⟩ := Kd.R_slice HO_9.out
            subst eo26
            have p236 : 0 ≤ (x10_3 : Int) := of_decide_eq_true (by first | (with_reducible assumption) | assumption)
            have q236 : x10_3 < (t233.length : Int) := of_decide_eq_true (by first | (with_reducible assumption) | assumption)
            obtain ⟨ad236, e236, hx236_0, hx236_1, hx236_2⟩ := at_T48 (Kd.R_reads' HO_9.out).2.2 x10_3 p236 q236
            cases e236
            replace p236 := eq_true p236
            replace q236 := eq_true q236
            have p237 : 0 ≤ (x10_3 : Int) := of_decide_eq_true (by first | (with_reducible assumption) | assumption)
            have q237 : x10_3 < (t233.length : Int) := of_decide_eq_true (by first | (with_reducible assumption) | assumption)
            obtain ⟨ad237, e237, hx237_0, hx237_1, hx237_2⟩ := at_T48 (Kd.R_reads' HO_9.out).2.2 x10_3 p237 q237
            obtain rfl : ad236 = ad237 := (by injection e237)
            replace p237 := eq_true p237
            replace q237 := eq_true q237
            have p238 : 0 ≤ (x10_3 : Int) := of_decide_eq_true (by first | (with_reducible assumption) | assumption)
            have q238 : x10_3 < (t233.length : Int) := of_decide_eq_true (by first | (with_reducible assumption) | assumption)
            obtain ⟨ad238, e238, hx238_0, hx238_1, hx238_2⟩ := at_T48 (Kd.R_reads' HO_9.out).2.2 x10_3 p238 q238
            obtain rfl : ad236 = ad238 := (by injection e238)
            replace p238 := eq_true p238
            replace q238 := eq_true q238
            have p239 : 0 ≤ (x10_3 : Int) := of_decide_eq_true (by first | (with_reducible assumption) | assumption)
            have q239 : x10_3 < (t233.length : Int) := of_decide_eq_true (by first | (with_reducible assumption) | assumption)
            obtain ⟨ad239, e239, hx239_0, hx239_1, hx239_2⟩ := at_T48 (Kd.R_reads' HO_9.out).2.2 x10_3 p239 q239
            obtain rfl : ad236 = ad239 := (by injection e239)
            replace p239 := eq_true p239
            replace q239 := eq_true q239
            have p240 : 0 ≤ (x10_3 : Int) := of_decide_eq_true (by first | (with_reducible assumption) | assumption)
            have q240 : x10_3 < (t233.length : Int) := of_decide_eq_true (by first | (with_reducible assumption) | assumption)
            obtain ⟨ad240, e240, hx240_0, hx240_1, hx240_2⟩ := at_T48 (Kd.R_reads' HO_9.out).2.2 x10_3 p240 q240
            obtain rfl : ad236 = ad240 := (by injection e240)
            replace p240 := eq_true p240
            replace q240 := eq_true q240
            go_wp2
            repeat (go_quiet (fail); try go_wp2)
            go_roundg k3
            case measure => have := HJ2.out; have := HK2.out; have := HK3.out; omega
            case rel => exact ⟨(wrap64 (x7_3 + (wrap64 (((rd_T48 t233 x10_3).f1) - ((rd_T48 t233 x10_3).f0))))), (ji25), (wrap64 (x10_3 + 1)), (by first | rfl | (simp; done) | (simp [*]; done)), (by first | rfl | (simp; done) | (simp only [← hji25] <;> (first | rfl | simp)) | (simp [*]; done)), (by first | rfl | (simp; done) | (simp [*]; done)), H', ⟨by have := HJ2.out; have := HK2.out; have := HK3.out; omega⟩, ⟨by (with_reducible repeat (first | apply Kd.R_alloc | apply Kd.R_drewN | apply Kd.R_drew)); exact HO_9.out⟩, ⟨by (with_reducible repeat (first | refine zN ?_ _ | refine zD ?_ | refine zA ?_ _)); exact BK228.out⟩, ⟨by repeat (first | (with_reducible first | exact HB.out | apply yA | apply yN | apply yD | refine yS ?_ GE228.out) | exact HB.out)⟩⟩
           ·rw [if_neg c24] at H
            have c24b0 : (((rd_T48 t233 x10_3).f2) == a1) = false := beq_eq_false_iff_ne.mpr c24
            have c24b1 : (((rd_T48 t233 x10_3).f2) != a1) = true := bne_iff_ne.mpr c24
            have H' := aK H
            clear H
            obtain ⟨Ao27, co27, eo27⟩ := Kd.R_slice HO_9.out
            subst eo27
            have p236 : 0 ≤ (x10_3 : Int) := of_decide_eq_true (by first | (with_reducible assumption) | assumption)
            have q236 : x10_3 < (t233.length : Int) := of_decide_eq_true (by first | (with_reducible assumption) | assumption)
            obtain ⟨ad236, e236, hx236_0, hx236_1, hx236_2⟩ := at_T48 (Kd.R_reads' HO_9.out).2.2 x10_3 p236 q236
            cases e236
            replace p236 := eq_true p236
            replace q236 := eq_true q236
            go_wp2
            go_roundg k3
            case measure => have := HJ2.out; have := HK2.out; have := HK3.out; omega
            case rel => exact ⟨(x7_3), (x8_3), (wrap64 (x10_3 + 1)), (by first | rfl | (simp; done) | (simp [*]; done)), (by first | rfl | (simp; done) | (simp [*]; done)), (by first | rfl | (simp; done) | (simp [*]; done)), H', ⟨by have := HJ2.out; have := HK2.out; have := HK3.out; omega⟩, ⟨by (with_reducible repeat (first | apply Kd.R_alloc | apply Kd.R_drewN | apply Kd.R_drew)); exact HO_9.out⟩, ⟨by (with_reducible repeat (first | refine zN ?_ _ | refine zD ?_ | refine zA ?_ _)); exact BK228.out⟩, ⟨by repeat (first | (with_reducible first | exact HB.out | apply yA | apply yN | apply yD | refine yS ?_ GE228.out) | exact HB.out)⟩⟩
          ·rw [if_neg c23] at H
           exact absurd H (by simp)
         ·rw [if_neg c22] at H
          have c22b0 : decide (x10_3 < (t233.length : Int)) = false := decide_eq_false c22
          clear c22
          simp only [Option.some.injEq, Prod.mk.injEq] at H
          obtain ⟨rfl, rfl⟩ := H
          obtain ⟨Ao28, co28, eo28⟩ := Kd.R_slice HO_9.out
          subst eo28
          go_wp2
          go_ret2
          exact ⟨by first | rfl | (simp [errW_none, errW_some] <;> rfl) | (simp [*, errW_none, errW_some] <;> rfl), by repeat (first | (with_reducible first | exact HB.out | apply yA | apply yN | apply yD | refine yS ?_ GE228.out) | exact HB.out)⟩

end Go.Proofs.YtfedmcehkpfciaaGreat.P
