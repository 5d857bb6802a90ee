/- What functions of the program return: each contract says so of one function, for every input at which its pure function yields. -/
import Derived.Test.YtnaahepnabmibaaGreatDoorPx0
import Derived.Test.YtnaahepnabmibaaGreatDoorPx2
namespace Go.Proofs.YtnaahepnabmibaaGreatDoor.P
open Go.RowKit Go.Proofs.YtnaahepnabmibaaGreatDoorW.PrintWords Go.Proofs.YtnaahepnabmibaaGreatDoorW.PrintLast Go.Proofs.YtnaahepnabmibaaGreatDoorW.PrintMore
attribute [local go_sem] max2_int min2_int max_two min_two max_three min_three max_four min_four   -- for this text's walks alone
set_option linter.unusedVariables false
set_option linter.unusedSimpArgs false

mutual
def gangsawref30_Count.j0 : Nat → Int → Bool → Int → Int → Int → Int → Option (Int × Int)
 | 0, _, _, _, _, _, _ => none
 | k + 1, x1, x14, x110000, x110001, x110002, x110003 => if x14 = true then (some (0, 6)) else (gangsawref30_Count.l0 k x1 0 x110000 x110001 x110002 x110003)
def gangsawref30_Count.l0 : Nat → Int → Int → Int → Int → Int → Int → Option (Int × Int)
 | 0, _, _, _, _, _, _ => none
 | k + 1, x1, x6, x110000, x110001, x110002, x110003 => if (wrap64 ((wrap64 (x6 * (wrap64 (x110001 + x110002)))) + x110001)) ≤ x1 then (gangsawref30_Count.l0 k x1 (wrap64 (x6 + 1)) x110000 x110001 x110002 x110003) else (some (x6, 0))
end
def gangsawref30_Count.f (k : Nat) (a0_0 : Int) (a0_1 : Int) (a0_2 : Int) (a0_3 : Int) (a1 : Int) : Option (Int × Int) := (gangsawref30_Check.f a0_0 a0_1 a0_2 a0_3).bind fun t110 => (if t110 = 0 then ((gangsawref30_in.f a1 1 2000000).bind fun t111 => (gangsawref30_Count.j0 k a1 (!t111) a0_0 a0_1 a0_2 a0_3)) else (gangsawref30_Count.j0 k a1 true a0_0 a0_1 a0_2 a0_3))
theorem gangsawref30_Count.mono_l : ∀ k, (∀ y0 y1 y2 y3 y4 y5, LeO (gangsawref30_Count.j0 k y0 y1 y2 y3 y4 y5) (gangsawref30_Count.j0 (k + 1) y0 y1 y2 y3 y4 y5)) ∧ (∀ y0 y1 y2 y3 y4 y5, LeO (gangsawref30_Count.l0 k y0 y1 y2 y3 y4 y5) (gangsawref30_Count.l0 (k + 1) y0 y1 y2 y3 y4 y5))
 | 0 => ⟨fun _ _ _ _ _ _ r h => by simp [gangsawref30_Count.j0] at h, fun _ _ _ _ _ _ r h => by simp [gangsawref30_Count.l0] at h⟩
 | k + 1 => by
  obtain ⟨ih0, ih1⟩ := gangsawref30_Count.mono_l k
  refine ⟨?_, ?_⟩
  ·intro y0 y1 y2 y3 y4 y5
   unfold gangsawref30_Count.j0
   repeat' first
   | (with_reducible exact ih0 _ _ _ _ _ _)
   | (with_reducible exact ih1 _ _ _ _ _ _)
   | (with_reducible exact LeO.refl _)
   | (with_reducible exact LeO.none _)
   | (with_reducible refine LeO.ite ?_ ?_)
   | (with_reducible refine LeO.bind ?_ (fun _ => ?_))
   | exact ih0 _ _ _ _ _ _
   | exact ih1 _ _ _ _ _ _
   | exact LeO.none _
   | refine LeO.ite ?_ ?_
   | refine LeO.bind ?_ (fun _ => ?_)
  ·intro y0 y1 y2 y3 y4 y5
   unfold gangsawref30_Count.l0
   repeat' first
   | (with_reducible exact ih0 _ _ _ _ _ _)
   | (with_reducible exact ih1 _ _ _ _ _ _)
   | (with_reducible exact LeO.refl _)
   | (with_reducible exact LeO.none _)
   | (with_reducible refine LeO.ite ?_ ?_)
   | (with_reducible refine LeO.bind ?_ (fun _ => ?_))
   | exact ih0 _ _ _ _ _ _
   | exact ih1 _ _ _ _ _ _
   | exact LeO.none _
   | refine LeO.ite ?_ ?_
   | refine LeO.bind ?_ (fun _ => ?_)
theorem gangsawref30_Count.mono : ∀ a0 a1 a2 a3 a4 k, LeO (gangsawref30_Count.f k a0 a1 a2 a3 a4) (gangsawref30_Count.f (k + 1) a0 a1 a2 a3 a4) := by
 intro a0 a1 a2 a3 a4 k
 obtain ⟨ih0, ih1⟩ := gangsawref30_Count.mono_l k
 unfold gangsawref30_Count.f
 repeat' first
   | (with_reducible exact ih0 _ _ _ _ _ _)
   | (with_reducible exact ih1 _ _ _ _ _ _)
   | (with_reducible exact LeO.refl _)
   | (with_reducible exact LeO.none _)
   | (with_reducible refine LeO.ite ?_ ?_)
   | (with_reducible refine LeO.bind ?_ (fun _ => ?_))
   | exact ih0 _ _ _ _ _ _
   | exact ih1 _ _ _ _ _ _
   | exact LeO.none _
   | refine LeO.ite ?_ ?_
   | refine LeO.bind ?_ (fun _ => ?_)
set_option maxHeartbeats 8000000 in
set_option maxRecDepth 100000 in
theorem gangsawref30_Count.calls (k : Nat) (a0_0 : Int) (a0_1 : Int) (a0_2 : Int) (a0_3 : Int) (a1 : Int) (r1 : Int) (r2 : Int) (w : World) (h : gangsawref30_Count.f k a0_0 a0_1 a0_2 a0_3 a1 = some (r1, r2)) :
  Calls Tryz.prog 20 #[.agg #[.int .i64 a0_0, .int .i64 a0_1, .int .i64 a0_2, .int .i64 a0_3], .int .i64 a1] w fun e w' => e = .returned (.tuple #[.int .i64 r1, .int .i64 r2]) ∧ Below w.heap.size w w' := by
 have hu47 := Tryz.underlying47
 have HB := aK (Below.refl w.heap.size w)
 have H : ((gangsawref30_Check.f a0_0 a0_1 a0_2 a0_3).bind fun t110 => (if t110 = 0 then ((gangsawref30_in.f a1 1 2000000).bind fun t111 => (gangsawref30_Count.j0 k a1 (!t111) a0_0 a0_1 a0_2 a0_3)) else (gangsawref30_Count.j0 k a1 true a0_0 a0_1 a0_2 a0_3))) = some (r1, r2) := h
 clear h
 have HC3 := aK H
 clear H
 go_enter Tryz.func20, Tryz.ntmps20
 go_upto_region 1 with (first | ((with_reducible refine gate_dst (N := 2) rfl ?_); refine box_event ?hg (N := 2) ?hd (cs := #[.int .i64 a0_0, .int .i64 a0_1, .int .i64 a0_2, .int .i64 a0_3]) (t := 47) ?hr ?_; (case hd => rfl); (case hg => rfl); (case hr => first | (go_simp; done) | (go_simp; rfl)); intro gb109 hg w4 hbox hb; have ⟨n0_, n2_⟩ := zV (w := w) hb hg (by repeat (first | (with_reducible first | exact HB.out | apply yA | apply yN | apply yD) | exact HB.out)); have n1_ := aK (hbox); have n3_ := n2_; clear HB; have HB := n0_; have BK109 := n1_; have GW109 := n2_; have GE109 := n3_; clear n0_ n1_ n2_ n3_; clear hb hbox hg))
 (try simp only [Act.put, sA, sZ, sS])
 go_cut [14] (fun v14 wc => ∃ (kq : Nat) (x14_2 : Bool), v14 = .bool x14_2 ∧ Aside0 (gangsawref30_Count.j0 kq a1 x14_2 a0_0 a0_1 a0_2 a0_3 = some (r1, r2)) ∧ Aside0 (kq ≤ k) ∧ Aside0 (wc.heap[gb109]? = some (.cells #[.int .i64 a0_0, .int .i64 a0_1, .int .i64 a0_2, .int .i64 a0_3] 47 (0, 0))) ∧ Aside0 (Below w.heap.size w wc))
 case first =>
  have H := HC3.out
  clear HC3
  replace H := Option.bind_eq_some_iff.mp H
  obtain ⟨t110, A50, H⟩ := H
  replace H : (if t110 = 0 then ((gangsawref30_in.f a1 1 2000000).bind fun t111 => (gangsawref30_Count.j0 k a1 (!t111) a0_0 a0_1 a0_2 a0_3)) else (gangsawref30_Count.j0 k a1 true a0_0 a0_1 a0_2 a0_3)) = some (r1, r2) := H
  have A5 := aK A50
  clear A50
  by_cases c6 : t110 = 0
  ·rw [if_pos c6] at H
   have c6b0 : (t110 == 0) = true := beq_iff_eq.mpr c6
   have c6b1 : (t110 != 0) = false := bne_eq_false_iff_eq.mpr c6
   clear c6
   (first | rw [c6b0] | (simp only [i64_w, i32_w]; rw [c6b0]) | skip)
   replace H := Option.bind_eq_some_iff.mp H
   obtain ⟨t111, A70, H⟩ := H
   replace H : (gangsawref30_Count.j0 k a1 (!t111) a0_0 a0_1 a0_2 a0_3) = some (r1, r2) := H
   have A7 := aK A70
   clear A70
   have H' := aK H
   clear H
   have hcz8_0 := zI BK109 0 rfl
   have hcz8_1 := zI BK109 1 rfl
   have hcz8_2 := zI BK109 2 rfl
   have hcz8_3 := zI BK109 3 rfl
   have hfz8_0 := zF BK109.out 0
   have hfz8_1 := zF BK109.out 1
   have hfz8_2 := zF BK109.out 2
   have hfz8_3 := zF BK109.out 3
   go_wp2_with (first | ((with_reducible refine gate_callee (f := 24) rfl ?_); refine goesL_ (some 8) rfl rfl Tryz.func24 (by kernel_rfl) rfl #[.agg #[.int .i64 a0_0, .int .i64 a0_1, .int .i64 a0_2, .int .i64 a0_3]] rfl (by (try simp only [List.map_toArray, List.map_cons, List.map_nil]); first | done | rfl | (simp only [List.length_drop, List.length_take]; rfl)) ?_; (with_reducible refine (gangsawref30_Check.calls a0_0 a0_1 a0_2 a0_3 t110 _ A5.out).mono ?_); rintro e w9 ⟨rfl, hb⟩; refine ⟨_, rfl, ?_⟩; have n0_ := zG BK109 hb (fun h => by (with_reducible repeat (first | refine zN ?_ _ | refine zD ?_ | refine zA ?_ _)); exact h); have n1_ := aK (yT (by repeat (first | (with_reducible first | exact HB.out | apply yA | apply yN | apply yD | refine yS ?_ GE109.out) | exact HB.out)) hb); clear BK109; clear HB; have BK109 := n0_; have HB := n1_; clear n0_ n1_; (try clear hb); (try clear hb2); (try clear hk); (try clear hi)) | (go_at_call 57; (with_reducible refine (gangsawref30_in.calls a1 1 2000000 t111 _ A7.out).mono ?_); rintro e w' ⟨rfl, ⟨nd, rfl⟩⟩))
   go_meet
   case rel => exact ⟨_, (!t111), (by first | rfl | (simp; done) | (simp [*]; done)), H', ⟨by first | omega | exact Nat.le_refl _⟩, ⟨by (with_reducible repeat (first | refine zN ?_ _ | refine zD ?_ | refine zA ?_ _)); exact BK109.out⟩, ⟨by repeat (first | (with_reducible first | exact HB.out | apply yA | apply yN | apply yD | refine yS ?_ GE109.out) | exact HB.out)⟩⟩
  ·rw [if_neg c6] at H
   have c6b0 : (t110 == 0) = false := beq_eq_false_iff_ne.mpr c6
   have c6b1 : (t110 != 0) = true := bne_iff_ne.mpr c6
   (first | rw [c6b0] | (simp only [i64_w, i32_w]; rw [c6b0]) | skip)
   have H' := aK H
   clear H
   have hcz10_0 := zI BK109 0 rfl
   have hcz10_1 := zI BK109 1 rfl
   have hcz10_2 := zI BK109 2 rfl
   have hcz10_3 := zI BK109 3 rfl
   have hfz10_0 := zF BK109.out 0
   have hfz10_1 := zF BK109.out 1
   have hfz10_2 := zF BK109.out 2
   have hfz10_3 := zF BK109.out 3
   go_wp2_with (first | ((with_reducible refine gate_callee (f := 24) rfl ?_); refine goesL_ (some 8) rfl rfl Tryz.func24 (by kernel_rfl) rfl #[.agg #[.int .i64 a0_0, .int .i64 a0_1, .int .i64 a0_2, .int .i64 a0_3]] rfl (by (try simp only [List.map_toArray, List.map_cons, List.map_nil]); first | done | rfl | (simp only [List.length_drop, List.length_take]; rfl)) ?_; (with_reducible refine (gangsawref30_Check.calls a0_0 a0_1 a0_2 a0_3 t110 _ A5.out).mono ?_); rintro e w11 ⟨rfl, hb⟩; refine ⟨_, rfl, ?_⟩; have n0_ := zG BK109 hb (fun h => by (with_reducible repeat (first | refine zN ?_ _ | refine zD ?_ | refine zA ?_ _)); exact h); have n1_ := aK (yT (by repeat (first | (with_reducible first | exact HB.out | apply yA | apply yN | apply yD | refine yS ?_ GE109.out) | exact HB.out)) hb); clear BK109; clear HB; have BK109 := n0_; have HB := n1_; clear n0_ n1_; (try clear hb); (try clear hb2); (try clear hk); (try clear hi)))
   go_meet
   case rel => exact ⟨_, (true), (by first | rfl | (simp; done) | (simp [*]; done)), H', ⟨by first | omega | exact Nat.le_refl _⟩, ⟨by (with_reducible repeat (first | refine zN ?_ _ | refine zD ?_ | refine zA ?_ _)); exact BK109.out⟩, ⟨by repeat (first | (with_reducible first | exact HB.out | apply yA | apply yN | apply yD | refine yS ?_ GE109.out) | exact HB.out)⟩⟩
 case rest =>
  clear HC3
  try clear c2
  try clear p2
  try clear c6
  try clear c6b0
  try clear c6b1
  try clear hcz10_0
  try clear hcz10_1
  try clear hcz10_2
  try clear hcz10_3
  try clear hcz8_0
  try clear hcz8_1
  try clear hcz8_2
  try clear hcz8_3
  try clear hfz10_0
  try clear hfz10_1
  try clear hfz10_2
  try clear hfz10_3
  try clear hfz8_0
  try clear hfz8_1
  try clear hfz8_2
  try clear hfz8_3
  obtain ⟨kq, x14_2, rfl, HA, HJ2, BK109, HB⟩ := hcut
  cases kq with
  | zero => exact absurd HA.out (by simp [gangsawref30_Count.j0])
  | succ kj2 =>
   have H := HA.out
   clear HA
   simp only [gangsawref30_Count.j0] at H
   by_cases c12 : x14_2 = true
   ·subst c12
    have H1 : (some (0, 6)) = some (r1, r2) := by rw [if_pos rfl] at H; exact H
    clear H
    have H := H1
    clear H1
    simp only [Option.some.injEq, Prod.mk.injEq] at H
    obtain ⟨rfl, rfl⟩ := H
    go_wp2
    go_ret2
    exact ⟨by first | rfl | (simp [errW_none, errW_some] <;> rfl) | (simp [*, errW_none, errW_some] <;> rfl), by repeat (first | (with_reducible first | exact HB.out | apply yA | apply yN | apply yD | refine yS ?_ GE109.out) | exact HB.out)⟩
   ·replace c12 := Bool.eq_false_iff.mpr c12
    subst c12
    have H1 : (gangsawref30_Count.l0 kj2 a1 0 a0_0 a0_1 a0_2 a0_3) = some (r1, r2) := by rw [if_neg (show ¬ (false = true) by decide)] at H; exact H
    clear H
    have H := H1
    clear H1
    have H' := aK H
    clear H
    go_wp2
    go_loopg [6] kj2 (fun kq v6 w' => ∃ (x6_2 : Int), v6 = .int .i64 x6_2 ∧ Aside0 (gangsawref30_Count.l0 kq a1 x6_2 a0_0 a0_1 a0_2 a0_3 = some (r1, r2)) ∧ Aside0 (kq ≤ kj2) ∧ Aside0 (w'.heap[gb109]? = some (.cells #[.int .i64 a0_0, .int .i64 a0_1, .int .i64 a0_2, .int .i64 a0_3] 47 (0, 0))) ∧ Aside0 (Below w.heap.size w w'))
    case atStart => exact ⟨(0), (by first | rfl | (simp; done) | (simp [*]; done)), H', ⟨Nat.le_refl _⟩, ⟨by (with_reducible repeat (first | refine zN ?_ _ | refine zD ?_ | refine zA ?_ _)); exact BK109.out⟩, ⟨by repeat (first | (with_reducible first | exact HB.out | apply yA | apply yN | apply yD | refine yS ?_ GE109.out) | exact HB.out)⟩⟩
    case round =>
     clear H'
     try clear c1
     try clear c2
     try clear p2
     try clear c6
     try clear c6b0
     try clear c6b1
     try clear c12
     try clear hcz10_0
     try clear hcz10_1
     try clear hcz10_2
     try clear hcz10_3
     try clear hcz8_0
     try clear hcz8_1
     try clear hcz8_2
     try clear hcz8_3
     try clear hfz10_0
     try clear hfz10_1
     try clear hfz10_2
     try clear hfz10_3
     try clear hfz8_0
     try clear hfz8_1
     try clear hfz8_2
     try clear hfz8_3
     try clear p2
     obtain ⟨x6_2, rfl, HA, HK2, BK109, HB⟩ := hrel
     cases gk with
     | zero => exact absurd HA.out (by simp [gangsawref30_Count.l0])
     | succ k2 =>
      have H := HA.out
      clear HA
      simp only [gangsawref30_Count.l0] at H
      by_cases c13 : (wrap64 ((wrap64 (x6_2 * (wrap64 (a0_1 + a0_2)))) + a0_1)) ≤ a1
      ·rw [if_pos c13] at H
       have c13b0 : decide ((wrap64 ((wrap64 (x6_2 * (wrap64 (a0_1 + a0_2)))) + a0_1)) ≤ a1) = true := decide_eq_true c13
       clear c13
       have H' := aK H
       clear H
       have hcz14_0 := zI BK109 0 rfl
       have hcz14_1 := zI BK109 1 rfl
       have hcz14_2 := zI BK109 2 rfl
       have hcz14_3 := zI BK109 3 rfl
       have hfz14_0 := zF BK109.out 0
       have hfz14_1 := zF BK109.out 1
       have hfz14_2 := zF BK109.out 2
       have hfz14_3 := zF BK109.out 3
       go_wp2
       go_roundg k2
       case measure => have := HJ2.out; have := HK2.out; omega
       case rel => exact ⟨(wrap64 (x6_2 + 1)), (by first | rfl | (simp; done) | (simp [*]; done)), H', ⟨by have := HJ2.out; have := HK2.out; omega⟩, ⟨by (with_reducible repeat (first | refine zN ?_ _ | refine zD ?_ | refine zA ?_ _)); exact BK109.out⟩, ⟨by repeat (first | (with_reducible first | exact HB.out | apply yA | apply yN | apply yD | refine yS ?_ GE109.out) | exact HB.out)⟩⟩
      ·rw [if_neg c13] at H
       have c13b0 : decide ((wrap64 ((wrap64 (x6_2 * (wrap64 (a0_1 + a0_2)))) + a0_1)) ≤ a1) = false := decide_eq_false c13
       clear c13
       simp only [Option.some.injEq, Prod.mk.injEq] at H
       obtain ⟨rfl, rfl⟩ := H
       have hcz15_0 := zI BK109 0 rfl
       have hcz15_1 := zI BK109 1 rfl
       have hcz15_2 := zI BK109 2 rfl
       have hcz15_3 := zI BK109 3 rfl
       have hfz15_0 := zF BK109.out 0
       have hfz15_1 := zF BK109.out 1
       have hfz15_2 := zF BK109.out 2
       have hfz15_3 := zF BK109.out 3
       go_wp2
       go_ret2
       exact ⟨by first | rfl | (simp [errW_none, errW_some] <;> rfl) | (simp [*, errW_none, errW_some] <;> rfl), by repeat (first | (with_reducible first | exact HB.out | apply yA | apply yN | apply yD | refine yS ?_ GE109.out) | exact HB.out)⟩

end Go.Proofs.YtnaahepnabmibaaGreatDoor.P
