/- What functions of the program return: each contract says so of one function, for every input at which its pure function yields. -/
import Derived.Test.YthkpgjjakdbbfaaPx0
import Derived.Test.YthkpgjjakdbbfaaPx4
import Derived.Test.YthkpgjjakdbbfaaPx6
import Derived.Test.YthkpgjjakdbbfaaPx10
namespace Go.Proofs.Ythkpgjjakdbbfaa.P
open Go.RowKit Go.Proofs.YthkpgjjakdbbfaaW.PrintWords Go.Proofs.YthkpgjjakdbbfaaW.PrintLast Go.Proofs.YthkpgjjakdbbfaaW.PrintMore
attribute [local go_sem] max2_int min2_int max_two min_two max_three min_three max_four min_four   -- for this text's walks alone
set_option linter.unusedVariables false
set_option linter.unusedSimpArgs false

mutual
def sample_Least.j0 : Nat → Int → Bool → Int → Int → Int → Int → Option (Int × Int)
 | 0, _, _, _, _, _, _ => none
 | k + 1, x0, x26, x202000, x202001, x203000, x203001 => if x26 = true then (some (0, 1)) else (sample_Least.l0 k x0 x0 x202000 x202001 x203000 x203001)
def sample_Least.l0 : Nat → Int → Int → Int → Int → Int → Int → Option (Int × Int)
 | 0, _, _, _, _, _, _ => none
 | k + 1, x0, x8, x202000, x202001, x203000, x203001 => if x8 ≤ 59 then ((sample_confidence.f k x8 x0 x202000 x202001).bind fun bt205 => (if bt205.2.2 = 0 then ((fraction_Cmp.f k bt205.1 bt205.2.1 x203000 x203001).bind fun t209 => (if t209 ≥ 0 then (some (x8, 0)) else (sample_Least.l0 k x0 (wrap64 (x8 + 1)) x202000 x202001 x203000 x203001))) else (some (0, 9)))) else (some (0, 9))
end
def sample_Least.f (k : Nat) (a0 : Int) (a1_0 : Int) (a1_1 : Int) (a2_0 : Int) (a2_1 : Int) : Option (Int × Int) := (sample_chance.f k a1_0 a1_1).bind fun t203 => (if t203 = true then ((sample_chance.f k a2_0 a2_1).bind fun t204 => (if t204 = true then (if a0 < 1 then (sample_Least.j0 k a0 true a1_0 a1_1 a2_0 a2_1) else (sample_Least.j0 k a0 (decide (a0 > 59)) a1_0 a1_1 a2_0 a2_1)) else (sample_Least.j0 k a0 true a1_0 a1_1 a2_0 a2_1))) else (sample_Least.j0 k a0 true a1_0 a1_1 a2_0 a2_1))
set_option maxHeartbeats 8000000 in
set_option maxRecDepth 100000 in
theorem sample_Least.calls (k : Nat) (a0 : Int) (a1_0 : Int) (a1_1 : Int) (a2_0 : Int) (a2_1 : Int) (r1 : Int) (r2 : Int) (w : World) (h : sample_Least.f k a0 a1_0 a1_1 a2_0 a2_1 = some (r1, r2)) :
  Calls Try.prog 22 #[.int .i64 a0, .agg #[.int .i64 a1_0, .int .i64 a1_1], .agg #[.int .i64 a2_0, .int .i64 a2_1]] w fun e w' => e = .returned (.tuple #[.int .i64 r1, .int .i64 r2]) ∧ Below w.heap.size w w' := by
 have hu33 := Try.underlying33
 have HB := aK (Below.refl w.heap.size w)
 have H : ((sample_chance.f k a1_0 a1_1).bind fun t203 => (if t203 = true then ((sample_chance.f k a2_0 a2_1).bind fun t204 => (if t204 = true then (if a0 < 1 then (sample_Least.j0 k a0 true a1_0 a1_1 a2_0 a2_1) else (sample_Least.j0 k a0 (decide (a0 > 59)) a1_0 a1_1 a2_0 a2_1)) else (sample_Least.j0 k a0 true a1_0 a1_1 a2_0 a2_1))) else (sample_Least.j0 k a0 true a1_0 a1_1 a2_0 a2_1))) = some (r1, r2) := h
 clear h
 have HC4 := aK H
 clear H
 go_enter Try.func22, Try.ntmps22
 go_upto_region 1 with (first | ((with_reducible refine gate_dst (N := 4) rfl ?_); refine box_event ?hg (N := 4) ?hd (cs := #[.int .i64 a1_0, .int .i64 a1_1]) (t := 33) ?hr ?_; (case hd => rfl); (case hg => rfl); (case hr => first | (go_simp; done) | (go_simp; rfl)); intro gb201 hg w5 hbox hb; have n0_ := aK (yT (HB.out) hb); have n1_ := aK (hbox); have n2_ := aK ((by rw [hg]; exact (yZ (HB.out)) : w.heap.size ≤ gb201)); have n3_ := n2_; clear HB; have HB := n0_; have BK201 := n1_; have GW201 := n2_; have GE201 := n3_; clear n0_ n1_ n2_ n3_; clear hb hbox hg) | ((with_reducible refine gate_dst (N := 5) rfl ?_); refine box_event ?hg (N := 5) ?hd (cs := #[.int .i64 a2_0, .int .i64 a2_1]) (t := 33) ?hr ?_; (case hd => rfl); (case hg => rfl); (case hr => first | (go_simp; done) | (go_simp; rfl)); intro gb202 hg w6 hbox hb; have n0_ := aK (zB (g := gb201) (o := .cells #[.int .i64 a1_0, .int .i64 a1_1] 33 (0, 0)) (BK201.out) hb); have n1_ := aK (yT (HB.out) hb); have n2_ := aK (hbox); have n3_ := aK ((by rw [hg]; exact (yZ (HB.out)) : w.heap.size ≤ gb202)); have n4_ := n3_; have n5_ := aK ((by rw [hg]; exact Nat.ne_of_lt (blk_lt (g := gb201) (o := .cells #[.int .i64 a1_0, .int .i64 a1_1] 33 (0, 0)) (BK201.out)) : gb201 ≠ gb202)); have n6_ := aK ((by rw [hg]; exact Nat.ne_of_gt (blk_lt (g := gb201) (o := .cells #[.int .i64 a1_0, .int .i64 a1_1] 33 (0, 0)) (BK201.out)) : gb202 ≠ gb201)); clear BK201; clear HB; have BK201 := n0_; have HB := n1_; have BK202 := n2_; have GW202 := n3_; have GE202 := n4_; have NB201_202 := n5_; have NB202_201 := n6_; clear n0_ n1_ n2_ n3_ n4_ n5_ n6_; clear hb hbox hg))
 (try simp only [Act.put, sA, sZ, sS])
 go_cut [26] (fun v26 wc => ∃ (kq : Nat) (x26_3 : Bool), v26 = .bool x26_3 ∧ Aside0 (sample_Least.j0 kq a0 x26_3 a1_0 a1_1 a2_0 a2_1 = some (r1, r2)) ∧ Aside0 (kq ≤ k) ∧ Aside0 (wc.heap[gb201]? = some (.cells #[.int .i64 a1_0, .int .i64 a1_1] 33 (0, 0))) ∧ Aside0 (wc.heap[gb202]? = some (.cells #[.int .i64 a2_0, .int .i64 a2_1] 33 (0, 0))) ∧ Aside0 (Below w.heap.size w wc))
 case first =>
  have H := HC4.out
  clear HC4
  replace H := Option.bind_eq_some_iff.mp H
  obtain ⟨t203, A70, H⟩ := H
  replace H : (if t203 = true then ((sample_chance.f k a2_0 a2_1).bind fun t204 => (if t204 = true then (if a0 < 1 then (sample_Least.j0 k a0 true a1_0 a1_1 a2_0 a2_1) else (sample_Least.j0 k a0 (decide (a0 > 59)) a1_0 a1_1 a2_0 a2_1)) else (sample_Least.j0 k a0 true a1_0 a1_1 a2_0 a2_1))) else (sample_Least.j0 k a0 true a1_0 a1_1 a2_0 a2_1)) = some (r1, r2) := H
  have A7 := aK A70
  clear A70
  by_cases c8 : t203 = true
  rotate_left
  ·replace c8 := Bool.eq_false_iff.mpr c8
   subst c8
   have H1 : (sample_Least.j0 k a0 true a1_0 a1_1 a2_0 a2_1) = some (r1, r2) := by rw [if_neg (show ¬ (false = true) by decide)] at H; exact H
   clear H
   have H := H1
   clear H1
   have H' := aK H
   clear H
   have hnb27 := NB201_202.out
   have hnc27 := NB202_201.out
   have hcz28_0 := zI BK201 0 rfl
   have hcz28_1 := zI BK201 1 rfl
   have hfz28_0 := zF BK201.out 0
   have hfz28_1 := zF BK201.out 1
   go_wp2_with (first | ((with_reducible refine gate_callee (f := 44) rfl ?_); refine goesL_ (some 12) rfl rfl Try.func44 (by kernel_rfl) rfl #[.agg #[.int .i64 a1_0, .int .i64 a1_1]] rfl (by (try simp only [List.map_toArray, List.map_cons, List.map_nil]); first | done | rfl | (simp only [List.length_drop, List.length_take]; rfl)) ?_; (with_reducible refine (sample_chance.calls k a1_0 a1_1 false _ A7.out).mono ?_); rintro e w29 ⟨rfl, hb⟩; refine ⟨_, rfl, ?_⟩; have n0_ := aK (zB (g := gb201) (o := .cells #[.int .i64 a1_0, .int .i64 a1_1] 33 (0, 0)) (BK201.out) hb); have n1_ := aK (zB (g := gb202) (o := .cells #[.int .i64 a2_0, .int .i64 a2_1] 33 (0, 0)) (BK202.out) hb); have n2_ := aK (yT (HB.out) hb); clear BK201; clear BK202; clear HB; have BK201 := n0_; have BK202 := n1_; have HB := n2_; clear n0_ n1_ n2_; (try clear hb)))
   go_meet
   case rel => exact ⟨_, (true), (by first | rfl | (simp; done) | (simp [*]; done)), H', ⟨by first | omega | exact Nat.le_refl _⟩, ⟨BK201.out⟩, ⟨BK202.out⟩, ⟨HB.out⟩⟩
  subst c8
  have H1 : ((sample_chance.f k a2_0 a2_1).bind fun t204 => (if t204 = true then (if a0 < 1 then (sample_Least.j0 k a0 true a1_0 a1_1 a2_0 a2_1) else (sample_Least.j0 k a0 (decide (a0 > 59)) a1_0 a1_1 a2_0 a2_1)) else (sample_Least.j0 k a0 true a1_0 a1_1 a2_0 a2_1))) = some (r1, r2) := by rw [if_pos rfl] at H; exact H
  clear H
  have H := H1
  clear H1
  replace H := Option.bind_eq_some_iff.mp H
  obtain ⟨t204, A90, H⟩ := H
  replace H : (if t204 = true then (if a0 < 1 then (sample_Least.j0 k a0 true a1_0 a1_1 a2_0 a2_1) else (sample_Least.j0 k a0 (decide (a0 > 59)) a1_0 a1_1 a2_0 a2_1)) else (sample_Least.j0 k a0 true a1_0 a1_1 a2_0 a2_1)) = some (r1, r2) := H
  have A9 := aK A90
  clear A90
  by_cases c10 : t204 = true
  rotate_left
  ·replace c10 := Bool.eq_false_iff.mpr c10
   subst c10
   have H1 : (sample_Least.j0 k a0 true a1_0 a1_1 a2_0 a2_1) = some (r1, r2) := by rw [if_neg (show ¬ (false = true) by decide)] at H; exact H
   clear H
   have H := H1
   clear H1
   have H' := aK H
   clear H
   have hnb22 := NB201_202.out
   have hnc22 := NB202_201.out
   have hcz23_0 := zI BK201 0 rfl
   have hcz23_1 := zI BK201 1 rfl
   have hfz23_0 := zF BK201.out 0
   have hfz23_1 := zF BK201.out 1
   go_wp2_with (first | ((with_reducible refine gate_callee (f := 44) rfl ?_); refine goesL_ (some 12) rfl rfl Try.func44 (by kernel_rfl) rfl #[.agg #[.int .i64 a1_0, .int .i64 a1_1]] rfl (by (try simp only [List.map_toArray, List.map_cons, List.map_nil]); first | done | rfl | (simp only [List.length_drop, List.length_take]; rfl)) ?_; (with_reducible refine (sample_chance.calls k a1_0 a1_1 true _ A7.out).mono ?_); rintro e w24 ⟨rfl, hb⟩; refine ⟨_, rfl, ?_⟩; have n0_ := aK (zB (g := gb201) (o := .cells #[.int .i64 a1_0, .int .i64 a1_1] 33 (0, 0)) (BK201.out) hb); have n1_ := aK (zB (g := gb202) (o := .cells #[.int .i64 a2_0, .int .i64 a2_1] 33 (0, 0)) (BK202.out) hb); have n2_ := aK (yT (HB.out) hb); clear BK201; clear BK202; clear HB; have BK201 := n0_; have BK202 := n1_; have HB := n2_; clear n0_ n1_ n2_; (try clear hb); have hcz25_0 := zI BK202 0 rfl; have hcz25_1 := zI BK202 1 rfl; have hfz25_0 := zF BK202.out 0; have hfz25_1 := zF BK202.out 1) | (go_at_call 44; (with_reducible refine (sample_chance.calls k a2_0 a2_1 false _ A9.out).mono ?_); rintro e w26 ⟨rfl, hb⟩; have n0_ := aK (zB (g := gb201) (o := .cells #[.int .i64 a1_0, .int .i64 a1_1] 33 (0, 0)) (BK201.out) hb); have n1_ := aK (zB (g := gb202) (o := .cells #[.int .i64 a2_0, .int .i64 a2_1] 33 (0, 0)) (BK202.out) hb); have n2_ := aK (yT (HB.out) hb); clear BK201; clear BK202; clear HB; have BK201 := n0_; have BK202 := n1_; have HB := n2_; clear n0_ n1_ n2_; (try clear hb)))
   go_meet
   case rel => exact ⟨_, (true), (by first | rfl | (simp; done) | (simp [*]; done)), H', ⟨by first | omega | exact Nat.le_refl _⟩, ⟨BK201.out⟩, ⟨BK202.out⟩, ⟨HB.out⟩⟩
  subst c10
  have H1 : (if a0 < 1 then (sample_Least.j0 k a0 true a1_0 a1_1 a2_0 a2_1) else (sample_Least.j0 k a0 (decide (a0 > 59)) a1_0 a1_1 a2_0 a2_1)) = some (r1, r2) := by rw [if_pos rfl] at H; exact H
  clear H
  have H := H1
  clear H1
  by_cases c11 : a0 < 1
  ·rw [if_pos c11] at H
   have c11b0 : decide (a0 < 1) = true := decide_eq_true c11
   clear c11
   (first | rw [c11b0] | (simp only [i64_w, i32_w]; rw [c11b0]) | skip)
   have H' := aK H
   clear H
   have hnb12 := NB201_202.out
   have hnc12 := NB202_201.out
   have hcz13_0 := zI BK201 0 rfl
   have hcz13_1 := zI BK201 1 rfl
   have hfz13_0 := zF BK201.out 0
   have hfz13_1 := zF BK201.out 1
   go_wp2_with (first | ((with_reducible refine gate_callee (f := 44) rfl ?_); refine goesL_ (some 12) rfl rfl Try.func44 (by kernel_rfl) rfl #[.agg #[.int .i64 a1_0, .int .i64 a1_1]] rfl (by (try simp only [List.map_toArray, List.map_cons, List.map_nil]); first | done | rfl | (simp only [List.length_drop, List.length_take]; rfl)) ?_; (with_reducible refine (sample_chance.calls k a1_0 a1_1 true _ A7.out).mono ?_); rintro e w14 ⟨rfl, hb⟩; refine ⟨_, rfl, ?_⟩; have n0_ := aK (zB (g := gb201) (o := .cells #[.int .i64 a1_0, .int .i64 a1_1] 33 (0, 0)) (BK201.out) hb); have n1_ := aK (zB (g := gb202) (o := .cells #[.int .i64 a2_0, .int .i64 a2_1] 33 (0, 0)) (BK202.out) hb); have n2_ := aK (yT (HB.out) hb); clear BK201; clear BK202; clear HB; have BK201 := n0_; have BK202 := n1_; have HB := n2_; clear n0_ n1_ n2_; (try clear hb); have hcz15_0 := zI BK202 0 rfl; have hcz15_1 := zI BK202 1 rfl; have hfz15_0 := zF BK202.out 0; have hfz15_1 := zF BK202.out 1) | (go_at_call 44; (with_reducible refine (sample_chance.calls k a2_0 a2_1 true _ A9.out).mono ?_); rintro e w16 ⟨rfl, hb⟩; have n0_ := aK (zB (g := gb201) (o := .cells #[.int .i64 a1_0, .int .i64 a1_1] 33 (0, 0)) (BK201.out) hb); have n1_ := aK (zB (g := gb202) (o := .cells #[.int .i64 a2_0, .int .i64 a2_1] 33 (0, 0)) (BK202.out) hb); have n2_ := aK (yT (HB.out) hb); clear BK201; clear BK202; clear HB; have BK201 := n0_; have BK202 := n1_; have HB := n2_; clear n0_ n1_ n2_; (try clear hb)))
   go_meet
   case rel => exact ⟨_, (true), (by first | rfl | (simp; done) | (simp [*]; done)), H', ⟨by first | omega | exact Nat.le_refl _⟩, ⟨BK201.out⟩, ⟨BK202.out⟩, ⟨HB.out⟩⟩
  rw [if_neg c11] at H
  have c11b0 : decide (a0 < 1) = false := decide_eq_false c11
  clear c11
  (first | rw [c11b0] | (simp only [i64_w, i32_w]; rw [c11b0]) | skip)
  have H' := aK H
  clear H
  have hnb17 := NB201_202.out
  have hnc17 := NB202_201.out
  have hcz18_0 := zI BK201 0 rfl
  have hcz18_1 := zI BK201 1 rfl
  have hfz18_0 := zF BK201.out 0
  have hfz18_1 := zF BK201.out 1
  go_wp2_with (first | ((with_reducible refine gate_callee (f := 44) rfl ?_); refine goesL_ (some 12) rfl rfl Try.func44 (by kernel_rfl) rfl #[.agg #[.int .i64 a1_0, .int .i64 a1_1]] rfl (by (try simp only [List.map_toArray, List.map_cons, List.map_nil]); first | done | rfl | (simp only [List.length_drop, List.length_take]; rfl)) ?_; (with_reducible refine (sample_chance.calls k a1_0 a1_1 true _ A7.out).mono ?_); rintro e w19 ⟨rfl, hb⟩; refine ⟨_, rfl, ?_⟩; have n0_ := aK (zB (g := gb201) (o := .cells #[.int .i64 a1_0, .int .i64 a1_1] 33 (0, 0)) (BK201.out) hb); have n1_ := aK (zB (g := gb202) (o := .cells #[.int .i64 a2_0, .int .i64 a2_1] 33 (0, 0)) (BK202.out) hb); have n2_ := aK (yT (HB.out) hb); clear BK201; clear BK202; clear HB; have BK201 := n0_; have BK202 := n1_; have HB := n2_; clear n0_ n1_ n2_; (try clear hb); have hcz20_0 := zI BK202 0 rfl; have hcz20_1 := zI BK202 1 rfl; have hfz20_0 := zF BK202.out 0; have hfz20_1 := zF BK202.out 1) | (go_at_call 44; (with_reducible refine (sample_chance.calls k a2_0 a2_1 true _ A9.out).mono ?_); rintro e w21 ⟨rfl, hb⟩; have n0_ := aK (zB (g := gb201) (o := .cells #[.int .i64 a1_0, .int .i64 a1_1] 33 (0, 0)) (BK201.out) hb); have n1_ := aK (zB (g := gb202) (o := .cells #[.int .i64 a2_0, .int .i64 a2_1] 33 (0, 0)) (BK202.out) hb); have n2_ := aK (yT (HB.out) hb); clear BK201; clear BK202; clear HB; have BK201 := n0_; have BK202 := n1_; have HB := n2_; clear n0_ n1_ n2_; (try clear hb)))
  go_meet
  case rel => exact ⟨_, (decide (a0 > 59)), (by first | rfl | (simp; done) | (simp [*]; done)), H', ⟨by first | omega | exact Nat.le_refl _⟩, ⟨BK201.out⟩, ⟨BK202.out⟩, ⟨HB.out⟩⟩
 case rest =>
  clear HC4
  try clear c1
  try clear c2
  try clear p2
  try clear c4
  try clear c8
  try clear c10
  try clear c11
  try clear c11b0
  try clear c12
  try clear c17
  try clear c22
  try clear c27
  try clear hcz13_0
  try clear hcz13_1
  try clear hcz15_0
  try clear hcz15_1
  try clear hcz18_0
  try clear hcz18_1
  try clear hcz20_0
  try clear hcz20_1
  try clear hcz23_0
  try clear hcz23_1
  try clear hcz25_0
  try clear hcz25_1
  try clear hcz28_0
  try clear hcz28_1
  try clear hfz13_0
  try clear hfz13_1
  try clear hfz15_0
  try clear hfz15_1
  try clear hfz18_0
  try clear hfz18_1
  try clear hfz20_0
  try clear hfz20_1
  try clear hfz23_0
  try clear hfz23_1
  try clear hfz25_0
  try clear hfz25_1
  try clear hfz28_0
  try clear hfz28_1
  obtain ⟨kq, x26_3, rfl, HA, HJ3, BK201, BK202, HB⟩ := hcut
  cases kq with
  | zero => exact absurd HA.out (by simp [sample_Least.j0])
  | succ kj3 =>
   have H := HA.out
   clear HA
   simp only [sample_Least.j0] at H
   by_cases c30 : x26_3 = true
   ·subst c30
    have H1 : (some (0, 1)) = some (r1, r2) := by rw [if_pos rfl] at H; exact H
    clear H
    have H := H1
    clear H1
    simp only [Option.some.injEq, Prod.mk.injEq] at H
    obtain ⟨rfl, rfl⟩ := H
    go_wp2
    go_ret2
    exact ⟨rfl, HB.out⟩
   replace c30 := Bool.eq_false_iff.mpr c30
   subst c30
   have H1 : (sample_Least.l0 kj3 a0 a0 a1_0 a1_1 a2_0 a2_1) = some (r1, r2) := by rw [if_neg (show ¬ (false = true) by decide)] at H; exact H
   clear H
   have H := H1
   clear H1
   have H' := aK H
   clear H
   go_wp2
   go_loopg [8] kj3 (fun kq v8 w' => ∃ (x8_2 : Int), v8 = .int .i64 x8_2 ∧ Aside0 (sample_Least.l0 kq a0 x8_2 a1_0 a1_1 a2_0 a2_1 = some (r1, r2)) ∧ Aside0 (kq ≤ kj3) ∧ Aside0 (w'.heap[gb201]? = some (.cells #[.int .i64 a1_0, .int .i64 a1_1] 33 (0, 0))) ∧ Aside0 (w'.heap[gb202]? = some (.cells #[.int .i64 a2_0, .int .i64 a2_1] 33 (0, 0))) ∧ Aside0 (Below w.heap.size w w'))
   case atStart => exact ⟨(a0), (by first | rfl | (simp; done) | (simp [*]; done)), H', ⟨Nat.le_refl _⟩, ⟨BK201.out⟩, ⟨BK202.out⟩, ⟨HB.out⟩⟩
   case round =>
    clear H'
    try clear c1
    try clear c2
    try clear p2
    try clear c3
    try clear c4
    try clear c8
    try clear c10
    try clear c11
    try clear c11b0
    try clear c12
    try clear c17
    try clear c22
    try clear c27
    try clear c30
    try clear hcz13_0
    try clear hcz13_1
    try clear hcz15_0
    try clear hcz15_1
    try clear hcz18_0
    try clear hcz18_1
    try clear hcz20_0
    try clear hcz20_1
    try clear hcz23_0
    try clear hcz23_1
    try clear hcz25_0
    try clear hcz25_1
    try clear hcz28_0
    try clear hcz28_1
    try clear hfz13_0
    try clear hfz13_1
    try clear hfz15_0
    try clear hfz15_1
    try clear hfz18_0
    try clear hfz18_1
    try clear hfz20_0
    try clear hfz20_1
    try clear hfz23_0
    try clear hfz23_1
    try clear hfz25_0
    try clear hfz25_1
    try clear hfz28_0
    try clear hfz28_1
    try clear p2
    obtain ⟨x8_2, rfl, HA, HK2, BK201, BK202, HB⟩ := hrel
    cases gk with
    | zero => exact absurd HA.out (by simp [sample_Least.l0])
    | succ k2 =>
     have H := HA.out
     clear HA
     simp only [sample_Least.l0] at H
     by_cases c31 : x8_2 ≤ 59
     rotate_left
     ·rw [if_neg c31] at H
      have c31b0 : decide (x8_2 ≤ 59) = false := decide_eq_false c31
      clear c31
      simp only [Option.some.injEq, Prod.mk.injEq] at H
      obtain ⟨rfl, rfl⟩ := H
      go_wp2
      go_ret2
      exact ⟨rfl, HB.out⟩
     rw [if_pos c31] at H
     have c31b0 : decide (x8_2 ≤ 59) = true := decide_eq_true c31
     clear c31
     replace H := Option.bind_eq_some_iff.mp H
     obtain ⟨⟨t205, t206, t207⟩, A320, H⟩ := H
     replace H : (if t207 = 0 then ((fraction_Cmp.f k2 t205 t206 a2_0 a2_1).bind fun t209 => (if t209 ≥ 0 then (some (x8_2, 0)) else (sample_Least.l0 k2 a0 (wrap64 (x8_2 + 1)) a1_0 a1_1 a2_0 a2_1))) else (some (0, 9))) = some (r1, r2) := H
     have A32 := aK A320
     clear A320
     by_cases c33 : t207 = 0
     rotate_left
     ·rw [if_neg c33] at H
      have c33b0 : (t207 == 0) = false := beq_eq_false_iff_ne.mpr c33
      have c33b1 : (t207 != 0) = true := bne_iff_ne.mpr c33
      simp only [Option.some.injEq, Prod.mk.injEq] at H
      obtain ⟨rfl, rfl⟩ := H
      have hnb54 := NB201_202.out
      have hnc54 := NB202_201.out
      have hcz55_0 := zI BK201 0 rfl
      have hcz55_1 := zI BK201 1 rfl
      have hfz55_0 := zF BK201.out 0
      have hfz55_1 := zF BK201.out 1
      go_wp2_with (first | ((with_reducible refine gate_callee (f := 45) rfl ?_); refine goesL_ (some 36) rfl rfl Try.func45 (by kernel_rfl) rfl #[.int .i64 x8_2, .int .i64 a0, .agg #[.int .i64 a1_0, .int .i64 a1_1]] rfl (by (try simp only [List.map_toArray, List.map_cons, List.map_nil]); first | done | rfl | (simp only [List.length_drop, List.length_take]; rfl)) ?_; (with_reducible refine (sample_confidence.calls k2 x8_2 a0 a1_0 a1_1 t205 t206 t207 _ A32.out).mono ?_); rintro e w56 ⟨rfl, hb⟩; refine ⟨_, rfl, ?_⟩; have n0_ := aK (zB (g := gb201) (o := .cells #[.int .i64 a1_0, .int .i64 a1_1] 33 (0, 0)) (BK201.out) hb); have n1_ := aK (zB (g := gb202) (o := .cells #[.int .i64 a2_0, .int .i64 a2_1] 33 (0, 0)) (BK202.out) hb); have n2_ := aK (yT (by repeat (first | (with_reducible first | exact HB.out | apply yA | apply yN | apply yD | refine yS ?_ GE201.out | refine yS ?_ GE202.out) | exact HB.out)) hb); clear BK201; clear BK202; clear HB; have BK201 := n0_; have BK202 := n1_; have HB := n2_; clear n0_ n1_ n2_; (try clear hb)) | ((with_reducible refine gate_dst (N := 9) rfl ?_); refine box_event ?hg (N := 9) ?hd (cs := #[.int .i64 0, .int .i64 0]) (t := 33) ?hr ?_; (case hd => rfl); (case hg => rfl); (case hr => first | (go_simp; done) | (go_simp; rfl)); intro gb208 hg w57 hbox hb; have n0_ := aK (zB (g := gb201) (o := .cells #[.int .i64 a1_0, .int .i64 a1_1] 33 (0, 0)) (BK201.out) hb); have n1_ := aK (zB (g := gb202) (o := .cells #[.int .i64 a2_0, .int .i64 a2_1] 33 (0, 0)) (BK202.out) hb); have ⟨n2_, n4_⟩ := zV (w := w) hb hg (by repeat (first | (with_reducible first | exact HB.out | apply yA | apply yN | apply yD | refine yS ?_ GE201.out | refine yS ?_ GE202.out) | exact HB.out)); have n3_ := aK (hbox); have n5_ := n4_; have n6_ := aK ((by rw [hg]; exact Nat.ne_of_lt (blk_lt (g := gb201) (o := .cells #[.int .i64 a1_0, .int .i64 a1_1] 33 (0, 0)) (BK201.out)) : gb201 ≠ gb208)); have n7_ := aK ((by rw [hg]; exact Nat.ne_of_gt (blk_lt (g := gb201) (o := .cells #[.int .i64 a1_0, .int .i64 a1_1] 33 (0, 0)) (BK201.out)) : gb208 ≠ gb201)); have n8_ := aK ((by rw [hg]; exact Nat.ne_of_lt (blk_lt (g := gb202) (o := .cells #[.int .i64 a2_0, .int .i64 a2_1] 33 (0, 0)) (BK202.out)) : gb202 ≠ gb208)); have n9_ := aK ((by rw [hg]; exact Nat.ne_of_gt (blk_lt (g := gb202) (o := .cells #[.int .i64 a2_0, .int .i64 a2_1] 33 (0, 0)) (BK202.out)) : gb208 ≠ gb202)); clear BK201; clear BK202; clear HB; have BK201 := n0_; have BK202 := n1_; have HB := n2_; have BK208 := n3_; have GW208 := n4_; have GE208 := n5_; have NB201_208 := n6_; have NB208_201 := n7_; have NB202_208 := n8_; have NB208_202 := n9_; clear n0_ n1_ n2_ n3_ n4_ n5_ n6_ n7_ n8_ n9_; clear hb hbox hg; have hnb58 := NB208_201.out; have hnc58 := NB201_208.out; have hnb59 := NB208_202.out; have hnc59 := NB202_208.out; have hcz60_0 := zI BK208 0 rfl; have hcz60_1 := zI BK208 1 rfl; have hfz60_0 := zF BK208.out 0; have hfz60_1 := zF BK208.out 1))
      go_ret2
      exact ⟨rfl, by repeat (first | (with_reducible first | exact HB.out | apply yA | apply yN | apply yD | refine yS ?_ GE201.out | refine yS ?_ GE202.out | refine yS ?_ GE208.out) | exact HB.out)⟩
     rw [if_pos c33] at H
     have c33b0 : (t207 == 0) = true := beq_iff_eq.mpr c33
     have c33b1 : (t207 != 0) = false := bne_eq_false_iff_eq.mpr c33
     clear c33
     replace H := Option.bind_eq_some_iff.mp H
     obtain ⟨t209, A340, H⟩ := H
     replace H : (if t209 ≥ 0 then (some (x8_2, 0)) else (sample_Least.l0 k2 a0 (wrap64 (x8_2 + 1)) a1_0 a1_1 a2_0 a2_1)) = some (r1, r2) := H
     have A34 := aK A340
     clear A340
     by_cases c35 : t209 ≥ 0
     ·rw [if_pos c35] at H
      have c35b0 : decide (0 ≤ t209) = true := decide_eq_true c35
      clear c35
      simp only [Option.some.injEq, Prod.mk.injEq] at H
      obtain ⟨rfl, rfl⟩ := H
      have hnb36 := NB201_202.out
      have hnc36 := NB202_201.out
      have hcz37_0 := zI BK201 0 rfl
      have hcz37_1 := zI BK201 1 rfl
      have hfz37_0 := zF BK201.out 0
      have hfz37_1 := zF BK201.out 1
      go_wp2_with (first | ((with_reducible refine gate_callee (f := 45) rfl ?_); refine goesL_ (some 36) rfl rfl Try.func45 (by kernel_rfl) rfl #[.int .i64 x8_2, .int .i64 a0, .agg #[.int .i64 a1_0, .int .i64 a1_1]] rfl (by (try simp only [List.map_toArray, List.map_cons, List.map_nil]); first | done | rfl | (simp only [List.length_drop, List.length_take]; rfl)) ?_; (with_reducible refine (sample_confidence.calls k2 x8_2 a0 a1_0 a1_1 t205 t206 t207 _ A32.out).mono ?_); rintro e w38 ⟨rfl, hb⟩; refine ⟨_, rfl, ?_⟩; have n0_ := aK (zB (g := gb201) (o := .cells #[.int .i64 a1_0, .int .i64 a1_1] 33 (0, 0)) (BK201.out) hb); have n1_ := aK (zB (g := gb202) (o := .cells #[.int .i64 a2_0, .int .i64 a2_1] 33 (0, 0)) (BK202.out) hb); have n2_ := aK (yT (by repeat (first | (with_reducible first | exact HB.out | apply yA | apply yN | apply yD | refine yS ?_ GE201.out | refine yS ?_ GE202.out) | exact HB.out)) hb); clear BK201; clear BK202; clear HB; have BK201 := n0_; have BK202 := n1_; have HB := n2_; clear n0_ n1_ n2_; (try clear hb)) | ((with_reducible refine gate_dst (N := 9) rfl ?_); refine box_event ?hg (N := 9) ?hd (cs := #[.int .i64 0, .int .i64 0]) (t := 33) ?hr ?_; (case hd => rfl); (case hg => rfl); (case hr => first | (go_simp; done) | (go_simp; rfl)); intro gb208 hg w39 hbox hb; have n0_ := aK (zB (g := gb201) (o := .cells #[.int .i64 a1_0, .int .i64 a1_1] 33 (0, 0)) (BK201.out) hb); have n1_ := aK (zB (g := gb202) (o := .cells #[.int .i64 a2_0, .int .i64 a2_1] 33 (0, 0)) (BK202.out) hb); have ⟨n2_, n4_⟩ := zV (w := w) hb hg (by repeat (first | (with_reducible first | exact HB.out | apply yA | apply yN | apply yD | refine yS ?_ GE201.out | refine yS ?_ GE202.out) | exact HB.out)); have n3_ := aK (hbox); have n5_ := n4_; have n6_ := aK ((by rw [hg]; exact Nat.ne_of_lt (blk_lt (g := gb201) (o := .cells #[.int .i64 a1_0, .int .i64 a1_1] 33 (0, 0)) (BK201.out)) : gb201 ≠ gb208)); have n7_ := aK ((by rw [hg]; exact Nat.ne_of_gt (blk_lt (g := gb201) (o := .cells #[.int .i64 a1_0, .int .i64 a1_1] 33 (0, 0)) (BK201.out)) : gb208 ≠ gb201)); have n8_ := aK ((by rw [hg]; exact Nat.ne_of_lt (blk_lt (g := gb202) (o := .cells #[.int .i64 a2_0, .int .i64 a2_1] 33 (0, 0)) (BK202.out)) : gb202 ≠ gb208)); have n9_ := aK ((by rw [hg]; exact Nat.ne_of_gt (blk_lt (g := gb202) (o := .cells #[.int .i64 a2_0, .int .i64 a2_1] 33 (0, 0)) (BK202.out)) : gb208 ≠ gb202)); clear BK201; clear BK202; clear HB; have BK201 := n0_; have BK202 := n1_; have HB := n2_; have BK208 := n3_; have GW208 := n4_; have GE208 := n5_; have NB201_208 := n6_; have NB208_201 := n7_; have NB202_208 := n8_; have NB208_202 := n9_; clear n0_ n1_ n2_ n3_ n4_ n5_ n6_ n7_ n8_ n9_; clear hb hbox hg; have hnb40 := NB208_201.out; have hnc40 := NB201_208.out; have hnb41 := NB208_202.out; have hnc41 := NB202_208.out; have hcz42_0 := zI BK208 0 rfl; have hcz42_1 := zI BK208 1 rfl; have hfz42_0 := zF BK208.out 0; have hfz42_1 := zF BK208.out 1; have hcz43_0 := zI BK202 0 rfl; have hcz43_1 := zI BK202 1 rfl; have hfz43_0 := zF BK202.out 0; have hfz43_1 := zF BK202.out 1) | ((with_reducible refine gate_callee (f := 31) rfl ?_); refine goesL_ (some 43) rfl rfl Try.func31 (by kernel_rfl) rfl #[.agg #[.int .i64 t205, .int .i64 t206], .agg #[.int .i64 a2_0, .int .i64 a2_1]] rfl (by (try simp only [List.map_toArray, List.map_cons, List.map_nil]); first | done | rfl | (simp only [List.length_drop, List.length_take]; rfl)) ?_; (with_reducible refine (fraction_Cmp.calls k2 t205 t206 a2_0 a2_1 t209 _ A34.out).mono ?_); rintro e w44 ⟨rfl, hb⟩; refine ⟨_, rfl, ?_⟩; have n0_ := aK (zB (g := gb201) (o := .cells #[.int .i64 a1_0, .int .i64 a1_1] 33 (0, 0)) (by refine blk_far ?_ NB201_208.out _; refine blk_far ?_ NB201_208.out _; exact BK201.out) hb); have n1_ := aK (zB (g := gb202) (o := .cells #[.int .i64 a2_0, .int .i64 a2_1] 33 (0, 0)) (by refine blk_far ?_ NB202_208.out _; refine blk_far ?_ NB202_208.out _; exact BK202.out) hb); have n2_ := aK (zB (g := gb208) (o := .cells #[.int .i64 t205, .int .i64 t206] 33 (0, 0)) (by refine blk_put (cs := #[.int .i64 t205, .int .i64 0]) ?_ 1 _ rfl; refine blk_put (cs := #[.int .i64 0, .int .i64 0]) ?_ 0 _ rfl; exact BK208.out) hb); have n3_ := aK (yT (by repeat (first | (with_reducible first | exact HB.out | apply yA | apply yN | apply yD | refine yS ?_ GE201.out | refine yS ?_ GE202.out | refine yS ?_ GE208.out) | exact HB.out)) hb); clear BK201; clear BK202; clear BK208; clear HB; have BK201 := n0_; have BK202 := n1_; have BK208 := n2_; have HB := n3_; clear n0_ n1_ n2_ n3_; (try clear hb)))
      go_ret2
      exact ⟨rfl, HB.out⟩
     rw [if_neg c35] at H
     have c35b0 : decide (0 ≤ t209) = false := decide_eq_false c35
     clear c35
     have H' := aK H
     clear H
     have hnb45 := NB201_202.out
     have hnc45 := NB202_201.out
     have hcz46_0 := zI BK201 0 rfl
     have hcz46_1 := zI BK201 1 rfl
     have hfz46_0 := zF BK201.out 0
     have hfz46_1 := zF BK201.out 1
     go_wp2_with (first | ((with_reducible refine gate_callee (f := 45) rfl ?_); refine goesL_ (some 36) rfl rfl Try.func45 (by kernel_rfl) rfl #[.int .i64 x8_2, .int .i64 a0, .agg #[.int .i64 a1_0, .int .i64 a1_1]] rfl (by (try simp only [List.map_toArray, List.map_cons, List.map_nil]); first | done | rfl | (simp only [List.length_drop, List.length_take]; rfl)) ?_; (with_reducible refine (sample_confidence.calls k2 x8_2 a0 a1_0 a1_1 t205 t206 t207 _ A32.out).mono ?_); rintro e w47 ⟨rfl, hb⟩; refine ⟨_, rfl, ?_⟩; have n0_ := aK (zB (g := gb201) (o := .cells #[.int .i64 a1_0, .int .i64 a1_1] 33 (0, 0)) (BK201.out) hb); have n1_ := aK (zB (g := gb202) (o := .cells #[.int .i64 a2_0, .int .i64 a2_1] 33 (0, 0)) (BK202.out) hb); have n2_ := aK (yT (by repeat (first | (with_reducible first | exact HB.out | apply yA | apply yN | apply yD | refine yS ?_ GE201.out | refine yS ?_ GE202.out) | exact HB.out)) hb); clear BK201; clear BK202; clear HB; have BK201 := n0_; have BK202 := n1_; have HB := n2_; clear n0_ n1_ n2_; (try clear hb)) | ((with_reducible refine gate_dst (N := 9) rfl ?_); refine box_event ?hg (N := 9) ?hd (cs := #[.int .i64 0, .int .i64 0]) (t := 33) ?hr ?_; (case hd => rfl); (case hg => rfl); (case hr => first | (go_simp; done) | (go_simp; rfl)); intro gb208 hg w48 hbox hb; have n0_ := aK (zB (g := gb201) (o := .cells #[.int .i64 a1_0, .int .i64 a1_1] 33 (0, 0)) (BK201.out) hb); have n1_ := aK (zB (g := gb202) (o := .cells #[.int .i64 a2_0, .int .i64 a2_1] 33 (0, 0)) (BK202.out) hb); have ⟨n2_, n4_⟩ := zV (w := w) hb hg (by repeat (first | (with_reducible first | exact HB.out | apply yA | apply yN | apply yD | refine yS ?_ GE201.out | refine yS ?_ GE202.out) | exact HB.out)); have n3_ := aK (hbox); have n5_ := n4_; have n6_ := aK ((by rw [hg]; exact Nat.ne_of_lt (blk_lt (g := gb201) (o := .cells #[.int .i64 a1_0, .int .i64 a1_1] 33 (0, 0)) (BK201.out)) : gb201 ≠ gb208)); have n7_ := aK ((by rw [hg]; exact Nat.ne_of_gt (blk_lt (g := gb201) (o := .cells #[.int .i64 a1_0, .int .i64 a1_1] 33 (0, 0)) (BK201.out)) : gb208 ≠ gb201)); have n8_ := aK ((by rw [hg]; exact Nat.ne_of_lt (blk_lt (g := gb202) (o := .cells #[.int .i64 a2_0, .int .i64 a2_1] 33 (0, 0)) (BK202.out)) : gb202 ≠ gb208)); have n9_ := aK ((by rw [hg]; exact Nat.ne_of_gt (blk_lt (g := gb202) (o := .cells #[.int .i64 a2_0, .int .i64 a2_1] 33 (0, 0)) (BK202.out)) : gb208 ≠ gb202)); clear BK201; clear BK202; clear HB; have BK201 := n0_; have BK202 := n1_; have HB := n2_; have BK208 := n3_; have GW208 := n4_; have GE208 := n5_; have NB201_208 := n6_; have NB208_201 := n7_; have NB202_208 := n8_; have NB208_202 := n9_; clear n0_ n1_ n2_ n3_ n4_ n5_ n6_ n7_ n8_ n9_; clear hb hbox hg; have hnb49 := NB208_201.out; have hnc49 := NB201_208.out; have hnb50 := NB208_202.out; have hnc50 := NB202_208.out; have hcz51_0 := zI BK208 0 rfl; have hcz51_1 := zI BK208 1 rfl; have hfz51_0 := zF BK208.out 0; have hfz51_1 := zF BK208.out 1; have hcz52_0 := zI BK202 0 rfl; have hcz52_1 := zI BK202 1 rfl; have hfz52_0 := zF BK202.out 0; have hfz52_1 := zF BK202.out 1) | ((with_reducible refine gate_callee (f := 31) rfl ?_); refine goesL_ (some 43) rfl rfl Try.func31 (by kernel_rfl) rfl #[.agg #[.int .i64 t205, .int .i64 t206], .agg #[.int .i64 a2_0, .int .i64 a2_1]] rfl (by (try simp only [List.map_toArray, List.map_cons, List.map_nil]); first | done | rfl | (simp only [List.length_drop, List.length_take]; rfl)) ?_; (with_reducible refine (fraction_Cmp.calls k2 t205 t206 a2_0 a2_1 t209 _ A34.out).mono ?_); rintro e w53 ⟨rfl, hb⟩; refine ⟨_, rfl, ?_⟩; have n0_ := aK (zB (g := gb201) (o := .cells #[.int .i64 a1_0, .int .i64 a1_1] 33 (0, 0)) (by refine blk_far ?_ NB201_208.out _; refine blk_far ?_ NB201_208.out _; exact BK201.out) hb); have n1_ := aK (zB (g := gb202) (o := .cells #[.int .i64 a2_0, .int .i64 a2_1] 33 (0, 0)) (by refine blk_far ?_ NB202_208.out _; refine blk_far ?_ NB202_208.out _; exact BK202.out) hb); have n2_ := aK (zB (g := gb208) (o := .cells #[.int .i64 t205, .int .i64 t206] 33 (0, 0)) (by refine blk_put (cs := #[.int .i64 t205, .int .i64 0]) ?_ 1 _ rfl; refine blk_put (cs := #[.int .i64 0, .int .i64 0]) ?_ 0 _ rfl; exact BK208.out) hb); have n3_ := aK (yT (by repeat (first | (with_reducible first | exact HB.out | apply yA | apply yN | apply yD | refine yS ?_ GE201.out | refine yS ?_ GE202.out | refine yS ?_ GE208.out) | exact HB.out)) hb); clear BK201; clear BK202; clear BK208; clear HB; have BK201 := n0_; have BK202 := n1_; have BK208 := n2_; have HB := n3_; clear n0_ n1_ n2_ n3_; (try clear hb)))
     go_roundg k2
     case measure => have := HJ3.out; have := HK2.out; omega
     case rel => exact ⟨(wrap64 (x8_2 + 1)), (by first | rfl | (simp; done) | (simp [*]; done)), H', ⟨by have := HJ3.out; have := HK2.out; omega⟩, ⟨BK201.out⟩, ⟨BK202.out⟩, ⟨HB.out⟩⟩

def gangsawlaw33_tests.f  : Option ((List (S51))) := some (([(⟨(⟨#[97]⟩ : ByteArray), 30, 5⟩ : S51), (⟨(⟨#[98]⟩ : ByteArray), 10, 7⟩ : S51), (⟨(⟨#[99]⟩ : ByteArray), 20, 0⟩ : S51), (⟨(⟨#[100]⟩ : ByteArray), 20, 0⟩ : S51)] : List (S51)))
set_option maxHeartbeats 8000000 in
set_option maxRecDepth 100000 in
theorem gangsawlaw33_tests.calls  (r : List (S51)) (w : World) (h : gangsawlaw33_tests.f  = some r) :
  Calls Try.prog 32 #[] w fun e w' => ∃ v0_ : Value, e = .returned (v0_) ∧ Kd.R k51 51 w' w.heap.size (fun _ => True) v0_ r ∧ Below w.heap.size w w' := by
 have hu51 := Try.underlying51
 have HB := aK (Below.refl w.heap.size w)
 have H : (some (([(⟨(⟨#[97]⟩ : ByteArray), 30, 5⟩ : S51), (⟨(⟨#[98]⟩ : ByteArray), 10, 7⟩ : S51), (⟨(⟨#[99]⟩ : ByteArray), 20, 0⟩ : S51), (⟨(⟨#[100]⟩ : ByteArray), 20, 0⟩ : S51)] : List (S51)))) = some r := h
 clear h
 obtain ⟨y210, hy210⟩ : ∃ y_ : List (S51), y_ = (([(⟨(⟨#[97]⟩ : ByteArray), 30, 5⟩ : S51), (⟨(⟨#[98]⟩ : ByteArray), 10, 7⟩ : S51), (⟨(⟨#[99]⟩ : ByteArray), 20, 0⟩ : S51), (⟨(⟨#[100]⟩ : ByteArray), 20, 0⟩ : S51)] : List (S51))) := ⟨_, rfl⟩
 replace H : (some y210) = some r := by first | (rw [hy210]; with_reducible exact H) | (have H2_ := (Option.bind_some _ _).symm.trans H; rw [hy210]; with_reducible exact H2_) | (have H2_ := (Option.bind_some _ _).symm.trans H; with_reducible exact H2_) | with_reducible exact H | (rw [hy210]; exact H) | exact H
 have Ny210 := aK hy210
 clear hy210
 obtain rfl := Option.some.inj H
 simp only [Option.some.injEq, Prod.mk.injEq] at H
 obtain ⟨rfl⟩ := H
 go_enter Try.func32, Try.ntmps32
 go_wp2_with (first | ((with_reducible refine gate_dst (N := 5) rfl ?_); refine Kd.R_lit k51 _ 51 ?hg (N := 5) ?hd (xs := ([(⟨(⟨#[97]⟩ : ByteArray), 30, 5⟩ : S51), (⟨(⟨#[98]⟩ : ByteArray), 10, 7⟩ : S51), (⟨(⟨#[99]⟩ : ByteArray), 20, 0⟩ : S51), (⟨(⟨#[100]⟩ : ByteArray), 20, 0⟩ : S51)] : List (S51))) (inner := [.string (⟨#[97]⟩ : ByteArray), .int .i64 30, .int .i64 5, .string (⟨#[98]⟩ : ByteArray), .int .i64 10, .int .i64 7, .string (⟨#[99]⟩ : ByteArray), .int .i64 20, .int .i64 0, .string (⟨#[100]⟩ : ByteArray), .int .i64 20, .int .i64 0]) (ok := fun _ => True) (okp := fun _ => True) ?hr ?hp (fun _ hk => hk) trivial (Below.refl _ _) (Nat.le_refl _) (by simp) ?_; (case hd => rfl); (case hg => rfl); (case hr => first | (go_simp; done) | (go_simp; rfl)); (case hp => exact (Reps.c3 (show Kd.M k51 _ _ _ (⟨(⟨#[97]⟩ : ByteArray), 30, 5⟩ : S51) [.string (⟨#[97]⟩ : ByteArray), .int .i64 30, .int .i64 5] from (k51_mkM _ _ _ (⟨(⟨#[97]⟩ : ByteArray), 30, 5⟩ : S51) )) (Reps.c3 (show Kd.M k51 _ _ _ (⟨(⟨#[98]⟩ : ByteArray), 10, 7⟩ : S51) [.string (⟨#[98]⟩ : ByteArray), .int .i64 10, .int .i64 7] from (k51_mkM _ _ _ (⟨(⟨#[98]⟩ : ByteArray), 10, 7⟩ : S51) )) (Reps.c3 (show Kd.M k51 _ _ _ (⟨(⟨#[99]⟩ : ByteArray), 20, 0⟩ : S51) [.string (⟨#[99]⟩ : ByteArray), .int .i64 20, .int .i64 0] from (k51_mkM _ _ _ (⟨(⟨#[99]⟩ : ByteArray), 20, 0⟩ : S51) )) (Reps.c3 (show Kd.M k51 _ _ _ (⟨(⟨#[100]⟩ : ByteArray), 20, 0⟩ : S51) [.string (⟨#[100]⟩ : ByteArray), .int .i64 20, .int .i64 0] from (k51_mkM _ _ _ (⟨(⟨#[100]⟩ : ByteArray), 20, 0⟩ : S51) )) (Reps.none _ _)))))); intro v211 w1 ho2 hb hg_ hnew_; clear hg_ hnew_; (first | rw [← Ny210.out] at ho2 | (simp only [Int.reduceToNat] at ho2; rw [← Ny210.out] at ho2)); have n0_ := aK (Kd.R_lower ho2 (yZ (HB.out))); have n1_ := aK (yT (HB.out) hb); clear HB; have HO212 := n0_; have HB := n1_; clear n0_ n1_; clear hb ho2))
 go_ret
 exact ⟨_, rfl, HO212.out, HB.out⟩

end Go.Proofs.Ythkpgjjakdbbfaa.P
