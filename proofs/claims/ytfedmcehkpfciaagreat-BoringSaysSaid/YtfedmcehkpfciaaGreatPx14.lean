/- What functions of the program return: each contract says so of one function, for every input at which its pure function yields. -/
import Derived.Test.YtfedmcehkpfciaaGreatPx0
import Derived.Test.YtfedmcehkpfciaaGreatPx4
import Derived.Test.YtfedmcehkpfciaaGreatPx5
import Derived.Test.YtfedmcehkpfciaaGreatHof
namespace Go.Proofs.YtfedmcehkpfciaaGreat.P
open Go.RowKit Go.Proofs.YtfedmcehkpfciaaGreatW.PrintWords Go.Proofs.YtfedmcehkpfciaaGreatW.PrintLast Go.Proofs.YtfedmcehkpfciaaGreatW.PrintMore
attribute [local go_sem] max2_int min2_int max_two min_two max_three min_three max_four min_four   -- for this text's walks alone
set_option linter.unusedVariables false
set_option linter.unusedSimpArgs false

open Go.Proofs.YtfedmcehkpfciaaGreat.Hof
def boring_Seen_1.f (a0_0 : Int) (a0_1 : Int) (a0_2 : Int) : Option (Bool) := some (decide (a0_0 ≥ a0_1))
set_option maxHeartbeats 8000000 in
set_option maxRecDepth 100000 in
theorem boring_Seen_1.calls (a0_0 : Int) (a0_1 : Int) (a0_2 : Int) (r : Bool) (w : World) (h : boring_Seen_1.f a0_0 a0_1 a0_2 = some r) :
  Calls Tryz.prog 54 #[.agg #[.int .i64 a0_0, .int .i64 a0_1, .int .i64 a0_2]] w fun e w' => e = .returned (.bool r) ∧ Below w.heap.size w w' := by
 have hu48 := Tryz.underlying48
 have HB := aK (Below.refl w.heap.size w)
 have H : (some (decide (a0_0 ≥ a0_1))) = some r := h
 clear h
 obtain rfl := Option.some.inj H
 simp only [Option.some.injEq, Prod.mk.injEq] at H
 obtain ⟨rfl⟩ := H
 go_enter Tryz.func54, Tryz.ntmps54
 go_wp2_with (first | ((with_reducible refine gate_dst (N := 1) rfl ?_); refine box_event ?hg (N := 1) ?hd (cs := #[.int .i64 a0_0, .int .i64 a0_1, .int .i64 a0_2]) (t := 48) ?hr ?_; (case hd => rfl); (case hg => rfl); (case hr => first | (go_simp; done) | (go_simp; rfl)); intro gb217 hg w2 hbox hb; have ⟨n0_, n2_⟩ := zV (w := w) hb hg (by repeat (first | (with_reducible first | exact HB.out | apply yA | apply yN | apply yD) | exact HB.out)); have n1_ := aK (hbox); have n3_ := n2_; clear HB; have HB := n0_; have BK217 := n1_; have GW217 := n2_; have GE217 := n3_; clear n0_ n1_ n2_ n3_; clear hb hbox hg; have hcz3_0 := zI BK217 0 rfl; have hcz3_1 := zI BK217 1 rfl; have hcz3_2 := zI BK217 2 rfl; have hfz3_0 := zF BK217.out 0; have hfz3_1 := zF BK217.out 1; have hfz3_2 := zF BK217.out 2))
 go_ret
 exact ⟨by first | rfl | (simp [errW_none, errW_some] <;> rfl) | (simp [*, errW_none, errW_some] <;> rfl), by repeat (first | (with_reducible first | exact HB.out | apply yA | apply yN | apply yD | refine yS ?_ GE217.out) | exact HB.out)⟩
theorem boring_Seen_1.fn  (w : World)  : FnE Tryz.prog k48 vAgg Value.bool (.func (.func 54) #[] #[]) (fun x_ => boring_Seen_1.f x_.f0 x_.f1 x_.f2) w :=
 ⟨54, _, rfl, enters_of Tryz.func54 (by kernel_rfl) rfl, fun W x cs r hW hk0 h => by
  obtain rfl := k48_open hk0
  exact (boring_Seen_1.calls (a0_0 := x.f0) (a0_1 := x.f1) (a0_2 := x.f2)  (r := r) (w := W) (h := h)).mono fun e w' ⟨he, hb⟩ => ⟨he, hb⟩⟩

mutual
def boring_Seen.j0 : Nat → Int → Bool → ByteArray → Int → Int → List (S48) → Option (Int × Int)
 | 0, _, _, _, _, _, _ => none
 | k + 1, x1, x24, x219000, x219001, x219002, x219003 => if x24 = true then (some (0, 0)) else ((boring_joined.f k x219003).bind fun t223 => (boring_Seen.l0 k x1 0 0 t223 (t223.length : Int) 0))
def boring_Seen.l0 : Nat → Int → Int → Int → List (S48) → Int → Int → Option (Int × Int)
 | 0, _, _, _, _, _, _ => none
 | k + 1, x1, x6, x7, x27, x28, x29 => if x29 < x28 then (if 0 ≤ x29 then (if x29 < (x27.length : Int) then (if ((rd_T48 x27 x29).f2) = x1 then (boring_Seen.l0 k x1 (wrap64 (x6 + (wrap64 (((rd_T48 x27 x29).f1) - ((rd_T48 x27 x29).f0))))) (mx x7 (wrap64 (((rd_T48 x27 x29).f1) - ((rd_T48 x27 x29).f0)))) x27 x28 (wrap64 (x29 + 1))) else (boring_Seen.l0 k x1 x6 x7 x27 x28 (wrap64 (x29 + 1)))) else (none)) else (none)) else (some (x6, x7))
end
def boring_Seen.f (k : Nat) (a0_0 : ByteArray) (a0_1 : Int) (a0_2 : Int) (l0_3 : List (S48)) (a1 : Int) : Option (Int × Int) := if a1 = 1 then ((boring_increasing.f k a0_0 a0_1 a0_2 l0_3).bind fun t219 => (if t219 = true then ((boring_some.f a0_0 a0_1 a0_2 l0_3 (fun x_ => boring_Seen_1.f x_.f0 x_.f1 x_.f2)).bind fun t220 => (boring_Seen.j0 k a1 t220 a0_0 a0_1 a0_2 l0_3)) else (boring_Seen.j0 k a1 true a0_0 a0_1 a0_2 l0_3))) else (if a1 = 2 then ((boring_increasing.f k a0_0 a0_1 a0_2 l0_3).bind fun t221 => (if t221 = true then ((boring_some.f a0_0 a0_1 a0_2 l0_3 (fun x_ => boring_Seen_1.f x_.f0 x_.f1 x_.f2)).bind fun t222 => (boring_Seen.j0 k a1 t222 a0_0 a0_1 a0_2 l0_3)) else (boring_Seen.j0 k a1 true a0_0 a0_1 a0_2 l0_3))) else (boring_Seen.j0 k a1 true a0_0 a0_1 a0_2 l0_3))
theorem boring_Seen.mono_l : ∀ k, (∀ y0 y1 y2 y3 y4 y5, LeO (boring_Seen.j0 k y0 y1 y2 y3 y4 y5) (boring_Seen.j0 (k + 1) y0 y1 y2 y3 y4 y5)) ∧ (∀ y0 y1 y2 y3 y4 y5, LeO (boring_Seen.l0 k y0 y1 y2 y3 y4 y5) (boring_Seen.l0 (k + 1) y0 y1 y2 y3 y4 y5))
 | 0 => ⟨fun _ _ _ _ _ _ r h => by simp [boring_Seen.j0] at h, fun _ _ _ _ _ _ r h => by simp [boring_Seen.l0] at h⟩
 | k + 1 => by
  obtain ⟨ih0, ih1⟩ := boring_Seen.mono_l k
  refine ⟨?_, ?_⟩
  ·intro y0 y1 y2 y3 y4 y5
   unfold boring_Seen.j0
   repeat' first
   | (with_reducible exact ih0 _ _ _ _ _ _)
   | (with_reducible exact ih1 _ _ _ _ _ _)
   | (with_reducible exact boring_increasing.mono _ _ _ _ _)
   | (with_reducible exact boring_joined.mono _ _)
   | (with_reducible refine contains3.mono2 (fun x_ => ?_))
   | (with_reducible refine contains33.mono2 (fun x_ => ?_))
   | (with_reducible refine contains48.mono2 (fun x_ => ?_))
   | (with_reducible refine contains9.mono2 (fun x_ => ?_))
   | (with_reducible refine index3.mono2 (fun x_ => ?_))
   | (with_reducible refine index33.mono2 (fun x_ => ?_))
   | (with_reducible refine index48.mono2 (fun x_ => ?_))
   | (with_reducible refine index9.mono2 (fun x_ => ?_))
   | (with_reducible exact LeO.refl _)
   | (with_reducible exact LeO.none _)
   | (with_reducible refine LeO.ite ?_ ?_)
   | (with_reducible refine LeO.bind ?_ (fun _ => ?_))
   | exact ih0 _ _ _ _ _ _
   | exact ih1 _ _ _ _ _ _
   | exact boring_increasing.mono _ _ _ _ _
   | exact boring_joined.mono _ _
   | exact LeO.none _
   | refine LeO.ite ?_ ?_
   | refine LeO.bind ?_ (fun _ => ?_)
  ·intro y0 y1 y2 y3 y4 y5
   unfold boring_Seen.l0
   repeat' first
   | (with_reducible exact ih0 _ _ _ _ _ _)
   | (with_reducible exact ih1 _ _ _ _ _ _)
   | (with_reducible exact boring_increasing.mono _ _ _ _ _)
   | (with_reducible exact boring_joined.mono _ _)
   | (with_reducible refine contains3.mono2 (fun x_ => ?_))
   | (with_reducible refine contains33.mono2 (fun x_ => ?_))
   | (with_reducible refine contains48.mono2 (fun x_ => ?_))
   | (with_reducible refine contains9.mono2 (fun x_ => ?_))
   | (with_reducible refine index3.mono2 (fun x_ => ?_))
   | (with_reducible refine index33.mono2 (fun x_ => ?_))
   | (with_reducible refine index48.mono2 (fun x_ => ?_))
   | (with_reducible refine index9.mono2 (fun x_ => ?_))
   | (with_reducible exact LeO.refl _)
   | (with_reducible exact LeO.none _)
   | (with_reducible refine LeO.ite ?_ ?_)
   | (with_reducible refine LeO.bind ?_ (fun _ => ?_))
   | exact ih0 _ _ _ _ _ _
   | exact ih1 _ _ _ _ _ _
   | exact boring_increasing.mono _ _ _ _ _
   | exact boring_joined.mono _ _
   | exact LeO.none _
   | refine LeO.ite ?_ ?_
   | refine LeO.bind ?_ (fun _ => ?_)
theorem boring_Seen.mono : ∀ a0 a1 a2 a3 a4 k, LeO (boring_Seen.f k a0 a1 a2 a3 a4) (boring_Seen.f (k + 1) a0 a1 a2 a3 a4) := by
 intro a0 a1 a2 a3 a4 k
 obtain ⟨ih0, ih1⟩ := boring_Seen.mono_l k
 unfold boring_Seen.f
 repeat' first
   | (with_reducible exact ih0 _ _ _ _ _ _)
   | (with_reducible exact ih1 _ _ _ _ _ _)
   | (with_reducible exact boring_increasing.mono _ _ _ _ _)
   | (with_reducible exact boring_joined.mono _ _)
   | (with_reducible refine contains3.mono2 (fun x_ => ?_))
   | (with_reducible refine contains33.mono2 (fun x_ => ?_))
   | (with_reducible refine contains48.mono2 (fun x_ => ?_))
   | (with_reducible refine contains9.mono2 (fun x_ => ?_))
   | (with_reducible refine index3.mono2 (fun x_ => ?_))
   | (with_reducible refine index33.mono2 (fun x_ => ?_))
   | (with_reducible refine index48.mono2 (fun x_ => ?_))
   | (with_reducible refine index9.mono2 (fun x_ => ?_))
   | (with_reducible exact LeO.refl _)
   | (with_reducible exact LeO.none _)
   | (with_reducible refine LeO.ite ?_ ?_)
   | (with_reducible refine LeO.bind ?_ (fun _ => ?_))
   | exact ih0 _ _ _ _ _ _
   | exact ih1 _ _ _ _ _ _
   | exact boring_increasing.mono _ _ _ _ _
   | exact boring_joined.mono _ _
   | exact LeO.none _
   | refine LeO.ite ?_ ?_
   | refine LeO.bind ?_ (fun _ => ?_)
set_option maxHeartbeats 8000000 in
set_option maxRecDepth 100000 in
theorem boring_Seen.calls (k : Nat) (a0_0 : ByteArray) (a0_1 : Int) (a0_2 : Int) (A0_3 : Option Addr) (c0_3 : Nat) (l0_3 : List (S48)) (a1 : Int) (r1 : Int) (r2 : Int) (w : World) (hr0_3 : Kd.C k48 w A0_3 l0_3.length l0_3) (hc0_3 : l0_3.length ≤ c0_3) (h : boring_Seen.f k a0_0 a0_1 a0_2 l0_3 a1 = some (r1, r2)) :
  Calls Tryz.prog 24 #[.agg #[.string a0_0, .int .i64 a0_1, .int .i64 a0_2, .slice A0_3 l0_3.length c0_3], .int .i64 a1] w fun e w' => e = .returned (.tuple #[.int .i64 r1, .int .i64 r2]) ∧ Below w.heap.size w w' := by
 have hu33 := Tryz.underlying33
 have hu48 := Tryz.underlying48
 have HR0_3 := aK hr0_3
 have HC0_3 := aK hc0_3
 clear hr0_3 hc0_3
 have HB := aK (Below.refl w.heap.size w)
 have H : (if a1 = 1 then ((boring_increasing.f k a0_0 a0_1 a0_2 l0_3).bind fun t219 => (if t219 = true then ((boring_some.f a0_0 a0_1 a0_2 l0_3 (fun x_ => boring_Seen_1.f x_.f0 x_.f1 x_.f2)).bind fun t220 => (boring_Seen.j0 k a1 t220 a0_0 a0_1 a0_2 l0_3)) else (boring_Seen.j0 k a1 true a0_0 a0_1 a0_2 l0_3))) else (if a1 = 2 then ((boring_increasing.f k a0_0 a0_1 a0_2 l0_3).bind fun t221 => (if t221 = true then ((boring_some.f a0_0 a0_1 a0_2 l0_3 (fun x_ => boring_Seen_1.f x_.f0 x_.f1 x_.f2)).bind fun t222 => (boring_Seen.j0 k a1 t222 a0_0 a0_1 a0_2 l0_3)) else (boring_Seen.j0 k a1 true a0_0 a0_1 a0_2 l0_3))) else (boring_Seen.j0 k a1 true a0_0 a0_1 a0_2 l0_3))) = some (r1, r2) := h
 clear h
 have HC3 := aK H
 clear H
 go_enter Tryz.func24, Tryz.ntmps24
 go_upto_region 1 with (first | ((with_reducible refine gate_dst (N := 2) rfl ?_); refine box_event ?hg (N := 2) ?hd (cs := #[.string a0_0, .int .i64 a0_1, .int .i64 a0_2, .slice A0_3 l0_3.length c0_3]) (t := 33) ?hr ?_; (case hd => rfl); (case hg => rfl); (case hr => first | (go_simp; done) | (go_simp; rfl)); intro gb218 hg w4 hbox hb; have ⟨n0_, n2_⟩ := zV (w := w) hb hg (by repeat (first | (with_reducible first | exact HB.out | apply yA | apply yN | apply yD) | exact HB.out)); have n1_ := aK (hbox); have n3_ := n2_; clear HB; have HB := n0_; have BK218 := n1_; have GW218 := n2_; have GE218 := n3_; clear n0_ n1_ n2_ n3_; clear hb hbox hg))
 (try simp only [Act.put, sA, sZ, sS])
 go_cut [24] (fun v24 wc => ∃ (kq : Nat) (x24_2 : Bool), v24 = .bool x24_2 ∧ Aside0 (boring_Seen.j0 kq a1 x24_2 a0_0 a0_1 a0_2 l0_3 = some (r1, r2)) ∧ Aside0 (kq ≤ k) ∧ Aside0 (wc.heap[gb218]? = some (.cells #[.string a0_0, .int .i64 a0_1, .int .i64 a0_2, (.slice A0_3 l0_3.length c0_3)] 33 (0, 0))) ∧ Aside0 (Below w.heap.size w wc))
 case first =>
  have H := HC3.out
  clear HC3
  by_cases c5 : a1 = 1
  ·rw [if_pos c5] at H
   have c5b0 : (a1 == 1) = true := beq_iff_eq.mpr c5
   have c5b1 : (a1 != 1) = false := bne_eq_false_iff_eq.mpr c5
   clear c5
   (first | rw [c5b0] | (simp only [i64_w, i32_w]; rw [c5b0]) | skip)
   replace H := Option.bind_eq_some_iff.mp H
   obtain ⟨t219, A60, H⟩ := H
   replace H : (if t219 = true then ((boring_some.f a0_0 a0_1 a0_2 l0_3 (fun x_ => boring_Seen_1.f x_.f0 x_.f1 x_.f2)).bind fun t220 => (boring_Seen.j0 k a1 t220 a0_0 a0_1 a0_2 l0_3)) else (boring_Seen.j0 k a1 true a0_0 a0_1 a0_2 l0_3)) = some (r1, r2) := H
   have A6 := aK A60
   clear A60
   by_cases c7 : t219 = true
   ·subst c7
    have H1 : ((boring_some.f a0_0 a0_1 a0_2 l0_3 (fun x_ => boring_Seen_1.f x_.f0 x_.f1 x_.f2)).bind fun t220 => (boring_Seen.j0 k a1 t220 a0_0 a0_1 a0_2 l0_3)) = some (r1, r2) := by rw [if_pos rfl] at H; exact H
    clear H
    have H := H1
    clear H1
    replace H := Option.bind_eq_some_iff.mp H
    obtain ⟨t220, A80, H⟩ := H
    replace H : (boring_Seen.j0 k a1 t220 a0_0 a0_1 a0_2 l0_3) = some (r1, r2) := H
    have A8 := aK A80
    clear A80
    have H' := aK H
    clear H
    have hcz9_0 := zI BK218 0 rfl
    have hcz9_1 := zI BK218 1 rfl
    have hcz9_2 := zI BK218 2 rfl
    have hcz9_3 := zI BK218 3 rfl
    have hfz9_0 := zF BK218.out 0
    have hfz9_1 := zF BK218.out 1
    have hfz9_2 := zF BK218.out 2
    have hfz9_3 := zF BK218.out 3
    go_wp2_with (first | (go_at_call 52; (with_reducible refine (boring_increasing.calls k a0_0 a0_1 a0_2 _ _ l0_3 true _ ?side1 ?side2 A6.out).mono ?_); (case side1 => repeat (first | exact (Kd.C_below HR0_3.out HB.out) | (with_reducible refine Kd.C_alloc ?_ _) | (with_reducible refine Kd.C_drewN ?_ _) | (with_reducible refine Kd.C_drew ?_))); (case side2 => exact HC0_3.out); rintro e w10 ⟨rfl, hb⟩; have n0_ := zG BK218 hb (fun h => by (with_reducible repeat (first | refine zN ?_ _ | refine zD ?_ | refine zA ?_ _)); exact h); have n1_ := aK (yT (by repeat (first | (with_reducible first | exact HB.out | apply yA | apply yN | apply yD | refine yS ?_ GE218.out) | exact HB.out)) hb); clear BK218; clear HB; have BK218 := n0_; have HB := n1_; clear n0_ n1_; (try clear hb); (try clear hb2); (try clear hk); (try clear hi); have hcz11_0 := zI BK218 0 rfl; have hcz11_1 := zI BK218 1 rfl; have hcz11_2 := zI BK218 2 rfl; have hcz11_3 := zI BK218 3 rfl; have hfz11_0 := zF BK218.out 0; have hfz11_1 := zF BK218.out 1; have hfz11_2 := zF BK218.out 2; have hfz11_3 := zF BK218.out 3) | (go_at_call 53; (with_reducible refine (boring_some.calls a0_0 a0_1 a0_2 _ _ l0_3 (.func (.func 54) #[] #[]) (fun x_ => boring_Seen_1.f x_.f0 x_.f1 x_.f2) t220 _ ?side1 ?side2 ?side3 A8.out).mono ?_); (case side1 => repeat (first | exact (Kd.C_below HR0_3.out HB.out) | (with_reducible refine Kd.C_alloc ?_ _) | (with_reducible refine Kd.C_drewN ?_ _) | (with_reducible refine Kd.C_drew ?_))); (case side2 => exact HC0_3.out); (case side3 => exact boring_Seen_1.fn   _ ); rintro e w12 ⟨rfl, hb⟩; have n0_ := zG BK218 hb (fun h => by (with_reducible repeat (first | refine zN ?_ _ | refine zD ?_ | refine zA ?_ _)); exact h); have n1_ := aK (yT (by repeat (first | (with_reducible first | exact HB.out | apply yA | apply yN | apply yD | refine yS ?_ GE218.out) | exact HB.out)) hb); clear BK218; clear HB; have BK218 := n0_; have HB := n1_; clear n0_ n1_; (try clear hb); (try clear hb2); (try clear hk); (try clear hi)))
    go_meet
    case rel => exact ⟨_, (t220), (by first | rfl | (simp; done) | (simp [*]; done)), H', ⟨by first | omega | exact Nat.le_refl _⟩, ⟨by (with_reducible repeat (first | refine zN ?_ _ | refine zD ?_ | refine zA ?_ _)); exact BK218.out⟩, ⟨by repeat (first | (with_reducible first | exact HB.out | apply yA | apply yN | apply yD | refine yS ?_ GE218.out) | exact HB.out)⟩⟩
   ·replace c7 := Bool.eq_false_iff.mpr c7
    subst c7
    have H1 : (boring_Seen.j0 k a1 true a0_0 a0_1 a0_2 l0_3) = some (r1, r2) := by rw [if_neg (show ¬ (false = true) by decide)] at H; exact H
    clear H
    have H := H1
    clear H1
    have H' := aK H
    clear H
    have hcz13_0 := zI BK218 0 rfl
    have hcz13_1 := zI BK218 1 rfl
    have hcz13_2 := zI BK218 2 rfl
    have hcz13_3 := zI BK218 3 rfl
    have hfz13_0 := zF BK218.out 0
    have hfz13_1 := zF BK218.out 1
    have hfz13_2 := zF BK218.out 2
    have hfz13_3 := zF BK218.out 3
    go_wp2_with (first | (go_at_call 52; (with_reducible refine (boring_increasing.calls k a0_0 a0_1 a0_2 _ _ l0_3 false _ ?side1 ?side2 A6.out).mono ?_); (case side1 => repeat (first | exact (Kd.C_below HR0_3.out HB.out) | (with_reducible refine Kd.C_alloc ?_ _) | (with_reducible refine Kd.C_drewN ?_ _) | (with_reducible refine Kd.C_drew ?_))); (case side2 => exact HC0_3.out); rintro e w14 ⟨rfl, hb⟩; have n0_ := zG BK218 hb (fun h => by (with_reducible repeat (first | refine zN ?_ _ | refine zD ?_ | refine zA ?_ _)); exact h); have n1_ := aK (yT (by repeat (first | (with_reducible first | exact HB.out | apply yA | apply yN | apply yD | refine yS ?_ GE218.out) | exact HB.out)) hb); clear BK218; clear HB; have BK218 := n0_; have HB := n1_; clear n0_ n1_; (try clear hb); (try clear hb2); (try clear hk); (try clear hi)))
    go_meet
    case rel => exact ⟨_, (true), (by first | rfl | (simp; done) | (simp [*]; done)), H', ⟨by first | omega | exact Nat.le_refl _⟩, ⟨by (with_reducible repeat (first | refine zN ?_ _ | refine zD ?_ | refine zA ?_ _)); exact BK218.out⟩, ⟨by repeat (first | (with_reducible first | exact HB.out | apply yA | apply yN | apply yD | refine yS ?_ GE218.out) | exact HB.out)⟩⟩
  ·rw [if_neg c5] at H
   have c5b0 : (a1 == 1) = false := beq_eq_false_iff_ne.mpr c5
   have c5b1 : (a1 != 1) = true := bne_iff_ne.mpr c5
   (first | rw [c5b0] | (simp only [i64_w, i32_w]; rw [c5b0]) | skip)
   by_cases c15 : a1 = 2
   ·rw [if_pos c15] at H
    have c15b0 : (a1 == 2) = true := beq_iff_eq.mpr c15
    have c15b1 : (a1 != 2) = false := bne_eq_false_iff_eq.mpr c15
    clear c15
    replace H := Option.bind_eq_some_iff.mp H
    obtain ⟨t221, A160, H⟩ := H
    replace H : (if t221 = true then ((boring_some.f a0_0 a0_1 a0_2 l0_3 (fun x_ => boring_Seen_1.f x_.f0 x_.f1 x_.f2)).bind fun t222 => (boring_Seen.j0 k a1 t222 a0_0 a0_1 a0_2 l0_3)) else (boring_Seen.j0 k a1 true a0_0 a0_1 a0_2 l0_3)) = some (r1, r2) := H
    have A16 := aK A160
    clear A160
    by_cases c17 : t221 = true
    ·subst c17
     have H1 : ((boring_some.f a0_0 a0_1 a0_2 l0_3 (fun x_ => boring_Seen_1.f x_.f0 x_.f1 x_.f2)).bind fun t222 => (boring_Seen.j0 k a1 t222 a0_0 a0_1 a0_2 l0_3)) = some (r1, r2) := by rw [if_pos rfl] at H; exact H
     clear H
     have H := H1
     clear H1
     replace H := Option.bind_eq_some_iff.mp H
     obtain ⟨t222, A180, H⟩ := H
     replace H : (boring_Seen.j0 k a1 t222 a0_0 a0_1 a0_2 l0_3) = some (r1, r2) := H
     have A18 := aK A180
     clear A180
     have H' := aK H
     clear H
     have hcz19_0 := zI BK218 0 rfl
     have hcz19_1 := zI BK218 1 rfl
     have hcz19_2 := zI BK218 2 rfl
     have hcz19_3 := zI BK218 3 rfl
     have hfz19_0 := zF BK218.out 0
     have hfz19_1 := zF BK218.out 1
     have hfz19_2 := zF BK218.out 2
     have hfz19_3 := zF BK218.out 3
     go_wp2_with (first | (go_at_call 52; (with_reducible refine (boring_increasing.calls k a0_0 a0_1 a0_2 _ _ l0_3 true _ ?side1 ?side2 A16.out).mono ?_); (case side1 => repeat (first | exact (Kd.C_below HR0_3.out HB.out) | (with_reducible refine Kd.C_alloc ?_ _) | (with_reducible refine Kd.C_drewN ?_ _) | (with_reducible refine Kd.C_drew ?_))); (case side2 => exact HC0_3.out); rintro e w20 ⟨rfl, hb⟩; have n0_ := zG BK218 hb (fun h => by (with_reducible repeat (first | refine zN ?_ _ | refine zD ?_ | refine zA ?_ _)); exact h); have n1_ := aK (yT (by repeat (first | (with_reducible first | exact HB.out | apply yA | apply yN | apply yD | refine yS ?_ GE218.out) | exact HB.out)) hb); clear BK218; clear HB; have BK218 := n0_; have HB := n1_; clear n0_ n1_; (try clear hb); (try clear hb2); (try clear hk); (try clear hi); have hcz21_0 := zI BK218 0 rfl; have hcz21_1 := zI BK218 1 rfl; have hcz21_2 := zI BK218 2 rfl; have hcz21_3 := zI BK218 3 rfl; have hfz21_0 := zF BK218.out 0; have hfz21_1 := zF BK218.out 1; have hfz21_2 := zF BK218.out 2; have hfz21_3 := zF BK218.out 3) | (go_at_call 53; (with_reducible refine (boring_some.calls a0_0 a0_1 a0_2 _ _ l0_3 (.func (.func 54) #[] #[]) (fun x_ => boring_Seen_1.f x_.f0 x_.f1 x_.f2) t222 _ ?side1 ?side2 ?side3 A18.out).mono ?_); (case side1 => repeat (first | exact (Kd.C_below HR0_3.out HB.out) | (with_reducible refine Kd.C_alloc ?_ _) | (with_reducible refine Kd.C_drewN ?_ _) | (with_reducible refine Kd.C_drew ?_))); (case side2 => exact HC0_3.out); (case side3 => exact boring_Seen_1.fn   _ ); rintro e w22 ⟨rfl, hb⟩; have n0_ := zG BK218 hb (fun h => by (with_reducible repeat (first | refine zN ?_ _ | refine zD ?_ | refine zA ?_ _)); exact h); have n1_ := aK (yT (by repeat (first | (with_reducible first | exact HB.out | apply yA | apply yN | apply yD | refine yS ?_ GE218.out) | exact HB.out)) hb); clear BK218; clear HB; have BK218 := n0_; have HB := n1_; clear n0_ n1_; (try clear hb); (try clear hb2); (try clear hk); (try clear hi)))
     go_meet
     case rel => exact ⟨_, (t222), (by first | rfl | (simp; done) | (simp [*]; done)), H', ⟨by first | omega | exact Nat.le_refl _⟩, ⟨by (with_reducible repeat (first | refine zN ?_ _ | refine zD ?_ | refine zA ?_ _)); exact BK218.out⟩, ⟨by repeat (first | (with_reducible first | exact HB.out | apply yA | apply yN | apply yD | refine yS ?_ GE218.out) | exact HB.out)⟩⟩
    ·replace c17 := Bool.eq_false_iff.mpr c17
     subst c17
     have H1 : (boring_Seen.j0 k a1 true a0_0 a0_1 a0_2 l0_3) = some (r1, r2) := by rw [if_neg (show ¬ (false = true) by decide)] at H; exact H
     clear H
     have H := H1
     clear H1
     have H' := aK H
     clear H
     have hcz23_0 := zI BK218 0 rfl
     have hcz23_1 := zI BK218 1 rfl
     have hcz23_2 := zI BK218 2 rfl
     have hcz23_3 := zI BK218 3 rfl
     have hfz23_0 := zF BK218.out 0
     have hfz23_1 := zF BK218.out 1
     have hfz23_2 := zF BK218.out 2
     have hfz23_3 := zF BK218.out 3
     go_wp2_with (first | (go_at_call 52; (with_reducible refine (boring_increasing.calls k a0_0 a0_1 a0_2 _ _ l0_3 false _ ?side1 ?side2 A16.out).mono ?_); (case side1 => repeat (first | exact (Kd.C_below HR0_3.out HB.out) | (with_reducible refine Kd.C_alloc ?_ _) | (with_reducible refine Kd.C_drewN ?_ _) | (with_reducible refine Kd.C_drew ?_))); (case side2 => exact HC0_3.out); rintro e w24 ⟨rfl, hb⟩; have n0_ := zG BK218 hb (fun h => by (with_reducible repeat (first | refine zN ?_ _ | refine zD ?_ | refine zA ?_ _)); exact h); have n1_ := aK (yT (by repeat (first | (with_reducible first | exact HB.out | apply yA | apply yN | apply yD | refine yS ?_ GE218.out) | exact HB.out)) hb); clear BK218; clear HB; have BK218 := n0_; have HB := n1_; clear n0_ n1_; (try clear hb); (try clear hb2); (try clear hk); (try clear hi)))
     go_meet
     case rel => exact ⟨_, (true), (by first | rfl | (simp; done) | (simp [*]; done)), H', ⟨by first | omega | exact Nat.le_refl _⟩, ⟨by (with_reducible repeat (first | refine zN ?_ _ | refine zD ?_ | refine zA ?_ _)); exact BK218.out⟩, ⟨by repeat (first | (with_reducible first | exact HB.out | apply yA | apply yN | apply yD | refine yS ?_ GE218.out) | exact HB.out)⟩⟩
   ·rw [if_neg c15] at H
    have c15b0 : (a1 == 2) = false := beq_eq_false_iff_ne.mpr c15
    have c15b1 : (a1 != 2) = true := bne_iff_ne.mpr c15
    have H' := aK H
    clear H
    go_wp2
    go_meet
    case rel => exact ⟨_, (true), (by first | rfl | (simp; done) | (simp [*]; done)), H', ⟨by first | omega | exact Nat.le_refl _⟩, ⟨by (with_reducible repeat (first | refine zN ?_ _ | refine zD ?_ | refine zA ?_ _)); exact BK218.out⟩, ⟨by repeat (first | (with_reducible first | exact HB.out | apply yA | apply yN | apply yD | refine yS ?_ GE218.out) | exact HB.out)⟩⟩
 case rest =>
  clear HC3
  try clear c1
  try clear c2
  try clear p2
  try clear c5
  try clear c5b0
  try clear c5b1
  try clear c7
  try clear c15
  try clear c15b0
  try clear c15b1
  try clear c17
  try clear c24
  try clear hcz11_0
  try clear hcz11_1
  try clear hcz11_2
  try clear hcz11_3
  try clear hcz13_0
  try clear hcz13_1
  try clear hcz13_2
  try clear hcz13_3
  try clear hcz19_0
  try clear hcz19_1
  try clear hcz19_2
  try clear hcz19_3
  try clear hcz21_0
  try clear hcz21_1
  try clear hcz21_2
  try clear hcz21_3
  try clear hcz23_0
  try clear hcz23_1
  try clear hcz23_2
  try clear hcz23_3
  try clear hcz9_0
  try clear hcz9_1
  try clear hcz9_2
  try clear hcz9_3
  try clear hfz11_0
  try clear hfz11_1
  try clear hfz11_2
  try clear hfz11_3
  try clear hfz13_0
  try clear hfz13_1
  try clear hfz13_2
  try clear hfz13_3
  try clear hfz19_0
  try clear hfz19_1
  try clear hfz19_2
  try clear hfz19_3
  try clear hfz21_0
  try clear hfz21_1
  try clear hfz21_2
  try clear hfz21_3
  try clear hfz23_0
  try clear hfz23_1
  try clear hfz23_2
  try clear hfz23_3
  try clear hfz9_0
  try clear hfz9_1
  try clear hfz9_2
  try clear hfz9_3
  obtain ⟨kq, x24_2, rfl, HA, HJ2, BK218, HB⟩ := hcut
  cases kq with
  | zero => exact absurd HA.out (by simp [boring_Seen.j0])
  | succ kj2 =>
   have H := HA.out
   clear HA
   simp only [boring_Seen.j0] at H
   by_cases c25 : x24_2 = true
   ·subst c25
    have H1 : (some (0, 0)) = some (r1, r2) := by rw [if_pos rfl] at H; exact H
    clear H
    have H := H1
    clear H1
    simp only [Option.some.injEq, Prod.mk.injEq] at H
    obtain ⟨rfl, rfl⟩ := H
    go_wp2
    go_ret2
    exact ⟨by first | rfl | (simp [errW_none, errW_some] <;> rfl) | (simp [*, errW_none, errW_some] <;> rfl), by repeat (first | (with_reducible first | exact HB.out | apply yA | apply yN | apply yD | refine yS ?_ GE218.out) | exact HB.out)⟩
   ·replace c25 := Bool.eq_false_iff.mpr c25
    subst c25
    have H1 : ((boring_joined.f kj2 l0_3).bind fun t223 => (boring_Seen.l0 kj2 a1 0 0 t223 (t223.length : Int) 0)) = some (r1, r2) := by rw [if_neg (show ¬ (false = true) by decide)] at H; exact H
    clear H
    have H := H1
    clear H1
    replace H := Option.bind_eq_some_iff.mp H
    obtain ⟨t223, A260, H⟩ := H
    replace H : (boring_Seen.l0 kj2 a1 0 0 t223 (t223.length : Int) 0) = some (r1, r2) := H
    have A26 := aK A260
    clear A260
    have H' := aK H
    clear H
    have hcz27_0 := zI BK218 0 rfl
    have hcz27_1 := zI BK218 1 rfl
    have hcz27_2 := zI BK218 2 rfl
    have hcz27_3 := zI BK218 3 rfl
    have hfz27_0 := zF BK218.out 0
    have hfz27_1 := zF BK218.out 1
    have hfz27_2 := zF BK218.out 2
    have hfz27_3 := zF BK218.out 3
    go_wp2_with (first | ((with_reducible refine gate_callee (f := 47) rfl ?_); refine goesL_ (some 27) rfl rfl Tryz.func47 (by kernel_rfl) rfl #[.slice A0_3 l0_3.length c0_3] rfl (by (try simp only [List.map_toArray, List.map_cons, List.map_nil]); first | done | rfl | (simp only [List.length_drop, List.length_take]; rfl)) ?_; (with_reducible refine (boring_joined.calls kj2 _ _ l0_3 t223 _ ?side1 ?side2 A26.out).mono ?_); (case side1 => repeat (first | exact (Kd.C_below HR0_3.out HB.out) | (with_reducible refine Kd.C_alloc ?_ _) | (with_reducible refine Kd.C_drewN ?_ _) | (with_reducible refine Kd.C_drew ?_))); (case side2 => exact HC0_3.out); rintro e w28 ⟨v224, rfl, ho0, hb⟩; refine ⟨_, rfl, ?_⟩; have n0_ := aK (Kd.R_lower ho0 (yZ (by repeat (first | (with_reducible first | exact HB.out | apply yA | apply yN | apply yD | refine yS ?_ GE218.out) | exact HB.out)))); have n1_ := zG BK218 hb (fun h => by (with_reducible repeat (first | refine zN ?_ _ | refine zD ?_ | refine zA ?_ _)); exact h); have n2_ := aK (yT (by repeat (first | (with_reducible first | exact HB.out | apply yA | apply yN | apply yD | refine yS ?_ GE218.out) | exact HB.out)) hb); clear BK218; clear HB; have HO225 := n0_; have BK218 := n1_; have HB := n2_; clear n0_ n1_ n2_; (try clear hb); (try clear hb2); (try clear hk); (try clear hi); (try clear ho0); obtain ⟨Ao29, co29, eo29⟩ := Kd.R_slice HO225.out; subst eo29))
    go_loopg [6, 7, 29] kj2 (fun kq v6 v7 v29 w' => ∃ (x6_2 : Int) (x7_2 : Int) (x29_2 : Int), v6 = .int .i64 x6_2 ∧ v7 = .int .i64 x7_2 ∧ v29 = .int .i64 x29_2 ∧ Aside0 (boring_Seen.l0 kq a1 x6_2 x7_2 t223 (t223.length : Int) x29_2 = some (r1, r2)) ∧ Aside0 (kq ≤ kj2) ∧ Aside0 (Kd.R k48 48 w' w.heap.size (fun _ => True) (.slice Ao29 t223.length co29) t223) ∧ Aside0 (w'.heap[gb218]? = some (.cells #[.string a0_0, .int .i64 a0_1, .int .i64 a0_2, (.slice A0_3 l0_3.length c0_3)] 33 (0, 0))) ∧ Aside0 (Below w.heap.size w w'))
    case atStart => exact ⟨(0), (0), (0), (by first | rfl | (simp; done) | (simp [*]; done)), (by first | rfl | (simp; done) | (simp [*]; done)), (by first | rfl | (simp; done) | (simp [*]; done)), H', ⟨Nat.le_refl _⟩, ⟨by (with_reducible repeat (first | apply Kd.R_alloc | apply Kd.R_drewN | apply Kd.R_drew)); exact HO225.out⟩, ⟨by (with_reducible repeat (first | refine zN ?_ _ | refine zD ?_ | refine zA ?_ _)); exact BK218.out⟩, ⟨by repeat (first | (with_reducible first | exact HB.out | apply yA | apply yN | apply yD | refine yS ?_ GE218.out) | exact HB.out)⟩⟩
    case round =>
     clear H'
     try clear c1
     try clear c2
     try clear p2
     try clear c4
     try clear c5
     try clear c5b0
     try clear c5b1
     try clear c7
     try clear c15
     try clear c15b0
     try clear c15b1
     try clear c17
     try clear c24
     try clear c25
     try clear hcz11_0
     try clear hcz11_1
     try clear hcz11_2
     try clear hcz11_3
     try clear hcz13_0
     try clear hcz13_1
     try clear hcz13_2
     try clear hcz13_3
     try clear hcz19_0
     try clear hcz19_1
     try clear hcz19_2
     try clear hcz19_3
     try clear hcz21_0
     try clear hcz21_1
     try clear hcz21_2
     try clear hcz21_3
     try clear hcz23_0
     try clear hcz23_1
     try clear hcz23_2
     try clear hcz23_3
     try clear hcz27_0
     try clear hcz27_1
     try clear hcz27_2
     try clear hcz27_3
     try clear hcz9_0
     try clear hcz9_1
     try clear hcz9_2
     try clear hcz9_3
     try clear hfz11_0
     try clear hfz11_1
     try clear hfz11_2
     try clear hfz11_3
     try clear hfz13_0
     try clear hfz13_1
     try clear hfz13_2
     try clear hfz13_3
     try clear hfz19_0
     try clear hfz19_1
     try clear hfz19_2
     try clear hfz19_3
     try clear hfz21_0
     try clear hfz21_1
     try clear hfz21_2
     try clear hfz21_3
     try clear hfz23_0
     try clear hfz23_1
     try clear hfz23_2
     try clear hfz23_3
     try clear hfz27_0
     try clear hfz27_1
     try clear hfz27_2
     try clear hfz27_3
     try clear hfz9_0
     try clear hfz9_1
     try clear hfz9_2
     try clear hfz9_3
     try clear p2
     obtain ⟨x6_2, x7_2, x29_2, rfl, rfl, rfl, HA, HK2, HO_27, BK218, HB⟩ := hrel
     cases gk with
     | zero => exact absurd HA.out (by simp [boring_Seen.l0])
     | succ k2 =>
      have H := HA.out
      clear HA
      simp only [boring_Seen.l0] at H
      by_cases c30 : x29_2 < (t223.length : Int)
      ·rw [if_pos c30] at H
       have c30b0 : decide (x29_2 < (t223.length : Int)) = true := decide_eq_true c30
       clear c30
       by_cases c31 : 0 ≤ x29_2
       ·rw [if_pos c31] at H
        have c31b0 : decide (0 ≤ x29_2) = true := decide_eq_true c31
        clear c31
        by_cases c32 : x29_2 < (t223.length : Int)
        ·rw [if_pos c32] at H
         have c32b0 : decide (x29_2 < (t223.length : Int)) = true := decide_eq_true c32
         clear c32
         by_cases c33 : ((rd_T48 t223 x29_2).f2) = a1
         ·rw [if_pos c33] at H
          have c33b0 : (((rd_T48 t223 x29_2).f2) == a1) = true := beq_iff_eq.mpr c33
          have c33b1 : (((rd_T48 t223 x29_2).f2) != a1) = false := bne_eq_false_iff_eq.mpr c33
          clear c33
          obtain ⟨ji34, hji34⟩ : ∃ j_ : Int, (mx x7_2 (wrap64 (((rd_T48 t223 x29_2).f1) - ((rd_T48 t223 x29_2).f0)))) = j_ := ⟨_, rfl⟩
          replace H : (boring_Seen.l0 k2 a1 (wrap64 (x6_2 + (wrap64 (((rd_T48 t223 x29_2).f1) - ((rd_T48 t223 x29_2).f0))))) ji34 t223 (t223.length : Int) (wrap64 (x29_2 + 1))) = some (r1, r2) := by first | (rw [hji34] at H; exact H) | (simp only [hji34] at H ⊢; exact H)
          have hji34_ : (if x7_2 < (wrap64 (((rd_T48 t223 x29_2).f1) - ((rd_T48 t223 x29_2).f0))) then (wrap64 (((rd_T48 t223 x29_2).f1) - ((rd_T48 t223 x29_2).f0))) else x7_2) = ji34 := hji34
          have H' := aK H
          clear H
          have p226 : 0 ≤ (x29_2 : Int) := of_decide_eq_true (by first | (with_reducible assumption) | assumption)
          have q226 : x29_2 < (t223.length : Int) := of_decide_eq_true (by first | (with_reducible assumption) | assumption)
          obtain ⟨ad226, e226, hx226_0, hx226_1, hx226_2⟩ := at_T48 (Kd.R_reads' HO_27.out).2.2 x29_2 p226 q226
          cases e226
          replace p226 := eq_true p226
          replace q226 := eq_true q226
          go_wp2_with (first | ((with_reducible refine gate_dst (N := 9) rfl ?_); refine box_event ?hg (N := 9) ?hd (cs := #[.int .i64 0, .int .i64 0, .int .i64 0]) (t := 48) ?hr ?_; (case hd => rfl); (case hg => rfl); (case hr => first | (go_simp; done) | (go_simp; rfl)); intro gb227 hg w35 hbox hb; have n0_ := aK (Kd.R_below (Kd.R_elderB (by (with_reducible repeat (first | apply Kd.R_alloc | apply Kd.R_drewN | apply Kd.R_drew)); exact HO_27.out) gb227 (Nat.le_of_eq hg.symm)) hb); have n1_ := zG BK218 hb (fun h => by (with_reducible repeat (first | refine zN ?_ _ | refine zD ?_ | refine zA ?_ _)); exact h); have ⟨n2_, n4_⟩ := zV (w := w) hb hg (by repeat (first | (with_reducible first | exact HB.out | apply yA | apply yN | apply yD | refine yS ?_ GE218.out) | exact HB.out)); have n3_ := aK (hbox); have n5_ := n4_; have n6_ := aK ((by rw [hg]; exact Nat.ne_of_lt (blk_lt (g := gb218) (o := .cells #[.string a0_0, .int .i64 a0_1, .int .i64 a0_2, .slice A0_3 l0_3.length c0_3] 33 (0, 0)) (by (with_reducible repeat (first | refine zN ?_ _ | refine zD ?_ | refine zA ?_ _)); exact BK218.out)) : gb218 ≠ gb227)); have n7_ := aK ((by rw [hg]; exact Nat.ne_of_gt (blk_lt (g := gb218) (o := .cells #[.string a0_0, .int .i64 a0_1, .int .i64 a0_2, .slice A0_3 l0_3.length c0_3] 33 (0, 0)) (by (with_reducible repeat (first | refine zN ?_ _ | refine zD ?_ | refine zA ?_ _)); exact BK218.out)) : gb227 ≠ gb218)); clear HO_27; clear BK218; clear HB; have HO_27 := n0_; have BK218 := n1_; have HB := n2_; have BK227 := n3_; have GW227 := n4_; have GE227 := n5_; have NB218_227 := n6_; have NB227_218 := n7_; clear n0_ n1_ n2_ n3_ n4_ n5_ n6_ n7_; clear hb hbox hg; have hnb36 := NB227_218.out; have hnc36 := NB218_227.out; have hcz37_0 := zI BK227 0 rfl; have hcz37_1 := zI BK227 1 rfl; have hcz37_2 := zI BK227 2 rfl; have hfz37_0 := zF BK227.out 0; have hfz37_1 := zF BK227.out 1; have hfz37_2 := zF BK227.out 2))
          go_roundg k2
          case measure => have := HJ2.out; have := HK2.out; omega
          case rel => exact ⟨(wrap64 (x6_2 + (wrap64 (((rd_T48 t223 x29_2).f1) - ((rd_T48 t223 x29_2).f0))))), (ji34), (wrap64 (x29_2 + 1)), (by first | rfl | (simp; done) | (simp [*]; done)), (by first | rfl | (simp; done) | (simp only [← hji34] <;> (first | rfl | simp)) | (simp [*]; done)), (by first | rfl | (simp; done) | (simp [*]; done)), H', ⟨by have := HJ2.out; have := HK2.out; omega⟩, ⟨by (with_reducible repeat (first | apply Kd.R_alloc | apply Kd.R_drewN | apply Kd.R_drew)); exact Kd.R_mono (Kd.R_far (p := ⟨gb227, 2, none⟩) (Kd.R_far (p := ⟨gb227, 1, none⟩) (Kd.R_far (p := ⟨gb227, 0, none⟩) (Kd.R_mono HO_27.out (fun k_ hk => (⟨hk, hk.2⟩ : _ ∧ k_ ≠ gb227))) (fun _ hk => hk.2) (.int .i64 ((rd_T48 t223 x29_2).f0))) (fun _ hk => hk.2) (.int .i64 ((rd_T48 t223 x29_2).f1))) (fun _ hk => hk.2) (.int .i64 ((rd_T48 t223 x29_2).f2))) (fun _ hk => trivial)⟩, ⟨by (with_reducible repeat (first | refine zN ?_ _ | refine zD ?_ | refine zA ?_ _)); refine blk_far ?_ NB218_227.out _; (with_reducible repeat (first | refine zN ?_ _ | refine zD ?_ | refine zA ?_ _)); refine blk_far ?_ NB218_227.out _; (with_reducible repeat (first | refine zN ?_ _ | refine zD ?_ | refine zA ?_ _)); refine blk_far ?_ NB218_227.out _; (with_reducible repeat (first | refine zN ?_ _ | refine zD ?_ | refine zA ?_ _)); exact BK218.out⟩, ⟨by repeat (first | (with_reducible first | exact HB.out | apply yA | apply yN | apply yD | refine yS ?_ GE218.out | refine yS ?_ GE227.out) | exact HB.out)⟩⟩
         ·rw [if_neg c33] at H
          have c33b0 : (((rd_T48 t223 x29_2).f2) == a1) = false := beq_eq_false_iff_ne.mpr c33
          have c33b1 : (((rd_T48 t223 x29_2).f2) != a1) = true := bne_iff_ne.mpr c33
          have H' := aK H
          clear H
          have p226 : 0 ≤ (x29_2 : Int) := of_decide_eq_true (by first | (with_reducible assumption) | assumption)
          have q226 : x29_2 < (t223.length : Int) := of_decide_eq_true (by first | (with_reducible assumption) | assumption)
          obtain ⟨ad226, e226, hx226_0, hx226_1, hx226_2⟩ := at_T48 (Kd.R_reads' HO_27.out).2.2 x29_2 p226 q226
          cases e226
          replace p226 := eq_true p226
          replace q226 := eq_true q226
          go_wp2_with (first | ((with_reducible refine gate_dst (N := 9) rfl ?_); refine box_event ?hg (N := 9) ?hd (cs := #[.int .i64 0, .int .i64 0, .int .i64 0]) (t := 48) ?hr ?_; (case hd => rfl); (case hg => rfl); (case hr => first | (go_simp; done) | (go_simp; rfl)); intro gb227 hg w38 hbox hb; have n0_ := aK (Kd.R_below (Kd.R_elderB (by (with_reducible repeat (first | apply Kd.R_alloc | apply Kd.R_drewN | apply Kd.R_drew)); exact HO_27.out) gb227 (Nat.le_of_eq hg.symm)) hb); have n1_ := zG BK218 hb (fun h => by (with_reducible repeat (first | refine zN ?_ _ | refine zD ?_ | refine zA ?_ _)); exact h); have ⟨n2_, n4_⟩ := zV (w := w) hb hg (by repeat (first | (with_reducible first | exact HB.out | apply yA | apply yN | apply yD | refine yS ?_ GE218.out) | exact HB.out)); have n3_ := aK (hbox); have n5_ := n4_; have n6_ := aK ((by rw [hg]; exact Nat.ne_of_lt (blk_lt (g := gb218) (o := .cells #[.string a0_0, .int .i64 a0_1, .int .i64 a0_2, .slice A0_3 l0_3.length c0_3] 33 (0, 0)) (by (with_reducible repeat (first | refine zN ?_ _ | refine zD ?_ | refine zA ?_ _)); exact BK218.out)) : gb218 ≠ gb227)); have n7_ := aK ((by rw [hg]; exact Nat.ne_of_gt (blk_lt (g := gb218) (o := .cells #[.string a0_0, .int .i64 a0_1, .int .i64 a0_2, .slice A0_3 l0_3.length c0_3] 33 (0, 0)) (by (with_reducible repeat (first | refine zN ?_ _ | refine zD ?_ | refine zA ?_ _)); exact BK218.out)) : gb227 ≠ gb218)); clear HO_27; clear BK218; clear HB; have HO_27 := n0_; have BK218 := n1_; have HB := n2_; have BK227 := n3_; have GW227 := n4_; have GE227 := n5_; have NB218_227 := n6_; have NB227_218 := n7_; clear n0_ n1_ n2_ n3_ n4_ n5_ n6_ n7_; clear hb hbox hg; have hnb39 := NB227_218.out; have hnc39 := NB218_227.out; have hcz40_0 := zI BK227 0 rfl; have hcz40_1 := zI BK227 1 rfl; have hcz40_2 := zI BK227 2 rfl; have hfz40_0 := zF BK227.out 0; have hfz40_1 := zF BK227.out 1; have hfz40_2 := zF BK227.out 2))
          go_roundg k2
          case measure => have := HJ2.out; have := HK2.out; omega
          case rel => exact ⟨(x6_2), (x7_2), (wrap64 (x29_2 + 1)), (by first | rfl | (simp; done) | (simp [*]; done)), (by first | rfl | (simp; done) | (simp [*]; done)), (by first | rfl | (simp; done) | (simp [*]; done)), H', ⟨by have := HJ2.out; have := HK2.out; omega⟩, ⟨by (with_reducible repeat (first | apply Kd.R_alloc | apply Kd.R_drewN | apply Kd.R_drew)); exact Kd.R_mono (Kd.R_far (p := ⟨gb227, 2, none⟩) (Kd.R_far (p := ⟨gb227, 1, none⟩) (Kd.R_far (p := ⟨gb227, 0, none⟩) (Kd.R_mono HO_27.out (fun k_ hk => (⟨hk, hk.2⟩ : _ ∧ k_ ≠ gb227))) (fun _ hk => hk.2) (.int .i64 ((rd_T48 t223 x29_2).f0))) (fun _ hk => hk.2) (.int .i64 ((rd_T48 t223 x29_2).f1))) (fun _ hk => hk.2) (.int .i64 ((rd_T48 t223 x29_2).f2))) (fun _ hk => trivial)⟩, ⟨by (with_reducible repeat (first | refine zN ?_ _ | refine zD ?_ | refine zA ?_ _)); refine blk_far ?_ NB218_227.out _; (with_reducible repeat (first | refine zN ?_ _ | refine zD ?_ | refine zA ?_ _)); refine blk_far ?_ NB218_227.out _; (with_reducible repeat (first | refine zN ?_ _ | refine zD ?_ | refine zA ?_ _)); refine blk_far ?_ NB218_227.out _; (with_reducible repeat (first | refine zN ?_ _ | refine zD ?_ | refine zA ?_ _)); exact BK218.out⟩, ⟨by repeat (first | (with_reducible first | exact HB.out | apply yA | apply yN | apply yD | refine yS ?_ GE218.out | refine yS ?_ GE227.out) | exact HB.out)⟩⟩
        ·rw [if_neg c32] at H
         exact absurd H (by simp)
       ·rw [if_neg c31] at H
        exact absurd H (by simp)
      ·rw [if_neg c30] at H
       have c30b0 : decide (x29_2 < (t223.length : Int)) = false := decide_eq_false c30
       clear c30
       simp only [Option.some.injEq, Prod.mk.injEq] at H
       obtain ⟨rfl, rfl⟩ := H
       go_wp2
       go_ret2
       exact ⟨by first | rfl | (simp [errW_none, errW_some] <;> rfl) | (simp [*, errW_none, errW_some] <;> rfl), by repeat (first | (with_reducible first | exact HB.out | apply yA | apply yN | apply yD | refine yS ?_ GE218.out) | exact HB.out)⟩

end Go.Proofs.YtfedmcehkpfciaaGreat.P
