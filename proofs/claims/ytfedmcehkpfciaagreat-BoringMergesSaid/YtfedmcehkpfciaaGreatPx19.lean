/- What functions of the program return: each contract says so of one function, for every input at which its pure function yields. -/
import Derived.Test.YtfedmcehkpfciaaGreatPx0
import Derived.Test.YtfedmcehkpfciaaGreatPx1
import Derived.Test.YtfedmcehkpfciaaGreatPx3
namespace Go.Proofs.YtfedmcehkpfciaaGreat.P
open Go.RowKit Go.Proofs.YtfedmcehkpfciaaGreatW.PrintWords Go.Proofs.YtfedmcehkpfciaaGreatW.PrintLast Go.Proofs.YtfedmcehkpfciaaGreatW.PrintMore
attribute [local go_sem] max2_int min2_int max_two min_two max_three min_three max_four min_four   -- for this text's walks alone
set_option linter.unusedVariables false
set_option linter.unusedSimpArgs false

attribute [local go_sem high] eqA30 eqA48
mutual
def gangsawref14_Equal.j0 : Nat → Bool → ByteArray → Int → Int → List (S48) → ByteArray → Int → Int → List (S48) → Option (Bool)
 | 0, _, _, _, _, _, _, _, _, _ => none
 | k + 1, x26, x256000, x256001, x256002, x256003, x257000, x257001, x257002, x257003 => if x26 = true then (some false) else (gangsawref14_Equal.l0 k 0 x256000 x256001 x256002 x256003 x257000 x257001 x257002 x257003)
def gangsawref14_Equal.l0 : Nat → Int → ByteArray → Int → Int → List (S48) → ByteArray → Int → Int → List (S48) → Option (Bool)
 | 0, _, _, _, _, _, _, _, _, _ => none
 | k + 1, x5, x256000, x256001, x256002, x256003, x257000, x257001, x257002, x257003 => if x5 < (x256003.length : Int) then (if 0 ≤ x5 then (if x5 < (x257003.length : Int) then (if (!(((rd_T48 x256003 x5).f0) == ((rd_T48 x257003 x5).f0)) || (!(((rd_T48 x256003 x5).f1) == ((rd_T48 x257003 x5).f1)) || (!(((rd_T48 x256003 x5).f2) == ((rd_T48 x257003 x5).f2))))) = true then (some false) else (gangsawref14_Equal.l0 k (wrap64 (x5 + 1)) x256000 x256001 x256002 x256003 x257000 x257001 x257002 x257003)) else (none)) else (none)) else (some true)
end
def gangsawref14_Equal.f (k : Nat) (a0_0 : ByteArray) (a0_1 : Int) (a0_2 : Int) (l0_3 : List (S48)) (a1_0 : ByteArray) (a1_1 : Int) (a1_2 : Int) (l1_3 : List (S48)) : Option (Bool) := if a0_0.toList = a1_0.toList then (if (!(a0_1 == a1_1) || (!(a0_2 == a1_2))) = true then (gangsawref14_Equal.j0 k true a0_0 a0_1 a0_2 l0_3 a1_0 a1_1 a1_2 l1_3) else (gangsawref14_Equal.j0 k ((l0_3.length : Int) != (l1_3.length : Int)) a0_0 a0_1 a0_2 l0_3 a1_0 a1_1 a1_2 l1_3)) else (gangsawref14_Equal.j0 k true a0_0 a0_1 a0_2 l0_3 a1_0 a1_1 a1_2 l1_3)
theorem gangsawref14_Equal.mono_l : ∀ k, (∀ y0 y1 y2 y3 y4 y5 y6 y7 y8, LeO (gangsawref14_Equal.j0 k y0 y1 y2 y3 y4 y5 y6 y7 y8) (gangsawref14_Equal.j0 (k + 1) y0 y1 y2 y3 y4 y5 y6 y7 y8)) ∧ (∀ y0 y1 y2 y3 y4 y5 y6 y7 y8, LeO (gangsawref14_Equal.l0 k y0 y1 y2 y3 y4 y5 y6 y7 y8) (gangsawref14_Equal.l0 (k + 1) y0 y1 y2 y3 y4 y5 y6 y7 y8))
 | 0 => ⟨fun _ _ _ _ _ _ _ _ _ r h => by simp [gangsawref14_Equal.j0] at h, fun _ _ _ _ _ _ _ _ _ r h => by simp [gangsawref14_Equal.l0] at h⟩
 | k + 1 => by
  obtain ⟨ih0, ih1⟩ := gangsawref14_Equal.mono_l k
  refine ⟨?_, ?_⟩
  ·intro y0 y1 y2 y3 y4 y5 y6 y7 y8
   unfold gangsawref14_Equal.j0
   repeat' first
   | (with_reducible exact ih0 _ _ _ _ _ _ _ _ _)
   | (with_reducible exact ih1 _ _ _ _ _ _ _ _ _)
   | (with_reducible exact LeO.refl _)
   | (with_reducible exact LeO.none _)
   | (with_reducible refine LeO.ite ?_ ?_)
   | (with_reducible refine LeO.bind ?_ (fun _ => ?_))
   | exact ih0 _ _ _ _ _ _ _ _ _
   | exact ih1 _ _ _ _ _ _ _ _ _
   | exact LeO.none _
   | refine LeO.ite ?_ ?_
   | refine LeO.bind ?_ (fun _ => ?_)
  ·intro y0 y1 y2 y3 y4 y5 y6 y7 y8
   unfold gangsawref14_Equal.l0
   repeat' first
   | (with_reducible exact ih0 _ _ _ _ _ _ _ _ _)
   | (with_reducible exact ih1 _ _ _ _ _ _ _ _ _)
   | (with_reducible exact LeO.refl _)
   | (with_reducible exact LeO.none _)
   | (with_reducible refine LeO.ite ?_ ?_)
   | (with_reducible refine LeO.bind ?_ (fun _ => ?_))
   | exact ih0 _ _ _ _ _ _ _ _ _
   | exact ih1 _ _ _ _ _ _ _ _ _
   | exact LeO.none _
   | refine LeO.ite ?_ ?_
   | refine LeO.bind ?_ (fun _ => ?_)
theorem gangsawref14_Equal.mono : ∀ a0 a1 a2 a3 a4 a5 a6 a7 k, LeO (gangsawref14_Equal.f k a0 a1 a2 a3 a4 a5 a6 a7) (gangsawref14_Equal.f (k + 1) a0 a1 a2 a3 a4 a5 a6 a7) := by
 intro a0 a1 a2 a3 a4 a5 a6 a7 k
 obtain ⟨ih0, ih1⟩ := gangsawref14_Equal.mono_l k
 unfold gangsawref14_Equal.f
 repeat' first
   | (with_reducible exact ih0 _ _ _ _ _ _ _ _ _)
   | (with_reducible exact ih1 _ _ _ _ _ _ _ _ _)
   | (with_reducible exact LeO.refl _)
   | (with_reducible exact LeO.none _)
   | (with_reducible refine LeO.ite ?_ ?_)
   | (with_reducible refine LeO.bind ?_ (fun _ => ?_))
   | exact ih0 _ _ _ _ _ _ _ _ _
   | exact ih1 _ _ _ _ _ _ _ _ _
   | exact LeO.none _
   | refine LeO.ite ?_ ?_
   | refine LeO.bind ?_ (fun _ => ?_)
set_option maxHeartbeats 8000000 in
set_option maxRecDepth 100000 in
theorem gangsawref14_Equal.calls (k : Nat) (a0_0 : ByteArray) (a0_1 : Int) (a0_2 : Int) (A0_3 : Option Addr) (c0_3 : Nat) (l0_3 : List (S48)) (a1_0 : ByteArray) (a1_1 : Int) (a1_2 : Int) (A1_3 : Option Addr) (c1_3 : Nat) (l1_3 : List (S48)) (r : Bool) (w : World) (hr0_3 : Kd.C k48 w A0_3 l0_3.length l0_3) (hc0_3 : l0_3.length ≤ c0_3) (hr1_3 : Kd.C k48 w A1_3 l1_3.length l1_3) (hc1_3 : l1_3.length ≤ c1_3) (h : gangsawref14_Equal.f k a0_0 a0_1 a0_2 l0_3 a1_0 a1_1 a1_2 l1_3 = some r) :
  Calls Tryz.prog 23 #[.agg #[.string a0_0, .int .i64 a0_1, .int .i64 a0_2, .slice A0_3 l0_3.length c0_3], .agg #[.string a1_0, .int .i64 a1_1, .int .i64 a1_2, .slice A1_3 l1_3.length c1_3]] w fun e w' => e = .returned (.bool r) ∧ Below w.heap.size w w' := by
 have hu33 := Tryz.underlying33
 have hu30 := Tryz.underlying30
 have hu48 := Tryz.underlying48
 have HR0_3 := aK hr0_3
 have HC0_3 := aK hc0_3
 clear hr0_3 hc0_3
 have HR1_3 := aK hr1_3
 have HC1_3 := aK hc1_3
 clear hr1_3 hc1_3
 have HB := aK (Below.refl w.heap.size w)
 have H : (if a0_0.toList = a1_0.toList then (if (!(a0_1 == a1_1) || (!(a0_2 == a1_2))) = true then (gangsawref14_Equal.j0 k true a0_0 a0_1 a0_2 l0_3 a1_0 a1_1 a1_2 l1_3) else (gangsawref14_Equal.j0 k ((l0_3.length : Int) != (l1_3.length : Int)) a0_0 a0_1 a0_2 l0_3 a1_0 a1_1 a1_2 l1_3)) else (gangsawref14_Equal.j0 k true a0_0 a0_1 a0_2 l0_3 a1_0 a1_1 a1_2 l1_3)) = some r := h
 clear h
 have HC3 := aK H
 clear H
 go_enter Tryz.func23, Tryz.ntmps23
 go_upto_region 1 with (first | ((with_reducible refine gate_dst (N := 2) rfl ?_); (try (refine gate_guard (by rfl) ?_; dsimp only)); refine box_event ?hg (N := 2) ?hd (cs := #[.string a0_0, .int .i64 a0_1, .int .i64 a0_2, .slice A0_3 l0_3.length c0_3]) (t := 33) ?hr ?_; (case hd => rfl); (case hg => rfl); (case hr => first | (go_simp; done) | (go_simp; rfl)); intro gb255 hg w4 hbox hb; have n0_ := aK (yT (HB.out) hb); have n1_ := aK (hbox); have n2_ := aK ((by rw [hg]; exact (yZ (HB.out)) : w.heap.size ≤ gb255)); have n3_ := n2_; clear HB; have HB := n0_; have BK255 := n1_; have GW255 := n2_; have GE255 := n3_; clear n0_ n1_ n2_ n3_; clear hb hbox hg) | ((with_reducible refine gate_dst (N := 3) rfl ?_); (try (refine gate_guard (by rfl) ?_; dsimp only)); refine box_event ?hg (N := 3) ?hd (cs := #[.string a1_0, .int .i64 a1_1, .int .i64 a1_2, .slice A1_3 l1_3.length c1_3]) (t := 33) ?hr ?_; (case hd => rfl); (case hg => rfl); (case hr => first | (go_simp; done) | (go_simp; rfl)); intro gb256 hg w5 hbox hb; have n0_ := aK (zB (g := gb255) (o := .cells #[.string a0_0, .int .i64 a0_1, .int .i64 a0_2, .slice A0_3 l0_3.length c0_3] 33 (0, 0)) (BK255.out) hb); have n1_ := aK (yT (HB.out) hb); have n2_ := aK (hbox); have n3_ := aK ((by rw [hg]; exact (yZ (HB.out)) : w.heap.size ≤ gb256)); have n4_ := n3_; have n5_ := aK ((by rw [hg]; exact Nat.ne_of_lt (blk_lt (g := gb255) (o := .cells #[.string a0_0, .int .i64 a0_1, .int .i64 a0_2, .slice A0_3 l0_3.length c0_3] 33 (0, 0)) (BK255.out)) : gb255 ≠ gb256)); have n6_ := aK ((by rw [hg]; exact Nat.ne_of_gt (blk_lt (g := gb255) (o := .cells #[.string a0_0, .int .i64 a0_1, .int .i64 a0_2, .slice A0_3 l0_3.length c0_3] 33 (0, 0)) (BK255.out)) : gb256 ≠ gb255)); clear BK255; clear HB; have BK255 := n0_; have HB := n1_; have BK256 := n2_; have GW256 := n3_; have GE256 := n4_; have NB255_256 := n5_; have NB256_255 := n6_; clear n0_ n1_ n2_ n3_ n4_ n5_ n6_; clear hb hbox hg))
 (try simp only [Act.put, sA, sZ, sS])
 go_cut [26] (fun v26 wc => ∃ (kq : Nat) (x26_2 : Bool), v26 = .bool x26_2 ∧ Aside0 (gangsawref14_Equal.j0 kq x26_2 a0_0 a0_1 a0_2 l0_3 a1_0 a1_1 a1_2 l1_3 = some r) ∧ Aside0 (kq ≤ k) ∧ Aside0 (wc.heap[gb255]? = some (.cells #[.string a0_0, .int .i64 a0_1, .int .i64 a0_2, (.slice A0_3 l0_3.length c0_3)] 33 (0, 0))) ∧ Aside0 (wc.heap[gb256]? = some (.cells #[.string a1_0, .int .i64 a1_1, .int .i64 a1_2, (.slice A1_3 l1_3.length c1_3)] 33 (0, 0))) ∧ Aside0 (Below w.heap.size w wc))
 case first =>
  have H := HC3.out
  clear HC3
  by_cases c6 : a0_0.toList = a1_0.toList
  rotate_left
  ·rw [if_neg c6] at H
   have c6b0 : (a0_0.toList == a1_0.toList) = false := beq_eq_false_iff_ne.mpr c6
   have c6b1 : (a0_0.toList != a1_0.toList) = true := bne_iff_ne.mpr c6
   (first | rw [c6b0] | (simp only [i64_w, i32_w]; rw [c6b0]) | skip)
   have H' := aK H
   clear H
   have hnb14 := NB255_256.out
   have hnc14 := NB256_255.out
   have hcz15_0 := zI BK255 0 rfl
   have hcz15_1 := zI BK255 1 rfl
   have hcz15_2 := zI BK255 2 rfl
   have hcz15_3 := zI BK255 3 rfl
   have hfz15_0 := zF BK255.out 0
   have hfz15_1 := zF BK255.out 1
   have hfz15_2 := zF BK255.out 2
   have hfz15_3 := zF BK255.out 3
   have hcz16_0 := zI BK256 0 rfl
   have hcz16_1 := zI BK256 1 rfl
   have hcz16_2 := zI BK256 2 rfl
   have hcz16_3 := zI BK256 3 rfl
   have hfz16_0 := zF BK256.out 0
   have hfz16_1 := zF BK256.out 1
   have hfz16_2 := zF BK256.out 2
   have hfz16_3 := zF BK256.out 3
   go_wp2
   go_meet
   case rel => exact ⟨_, (true), (by first | rfl | (simp; done) | (simp [*]; done)), H', ⟨by first | omega | exact Nat.le_refl _⟩, ⟨BK255.out⟩, ⟨BK256.out⟩, ⟨HB.out⟩⟩
  rw [if_pos c6] at H
  have c6b0 : (a0_0.toList == a1_0.toList) = true := beq_iff_eq.mpr c6
  have c6b1 : (a0_0.toList != a1_0.toList) = false := bne_eq_false_iff_eq.mpr c6
  clear c6
  (first | rw [c6b0] | (simp only [i64_w, i32_w]; rw [c6b0]) | skip)
  by_cases c7 : (!(a0_1 == a1_1) || (!(a0_2 == a1_2))) = true
  ·rw [if_pos c7] at H
   have c7b0 : (!(a0_1 == a1_1) || (!(a0_2 == a1_2))) = true := c7
   clear c7
   have H' := aK H
   clear H
   have hnb8 := NB255_256.out
   have hnc8 := NB256_255.out
   have hcz9_0 := zI BK255 0 rfl
   have hcz9_1 := zI BK255 1 rfl
   have hcz9_2 := zI BK255 2 rfl
   have hcz9_3 := zI BK255 3 rfl
   have hfz9_0 := zF BK255.out 0
   have hfz9_1 := zF BK255.out 1
   have hfz9_2 := zF BK255.out 2
   have hfz9_3 := zF BK255.out 3
   have hcz10_0 := zI BK256 0 rfl
   have hcz10_1 := zI BK256 1 rfl
   have hcz10_2 := zI BK256 2 rfl
   have hcz10_3 := zI BK256 3 rfl
   have hfz10_0 := zF BK256.out 0
   have hfz10_1 := zF BK256.out 1
   have hfz10_2 := zF BK256.out 2
   have hfz10_3 := zF BK256.out 3
   go_wp2
   go_meet
   case rel => exact ⟨_, (true), (by first | rfl | (simp; done) | (simp [*]; done)), H', ⟨by first | omega | exact Nat.le_refl _⟩, ⟨BK255.out⟩, ⟨BK256.out⟩, ⟨HB.out⟩⟩
  rw [if_neg c7] at H
  have c7b0 : (!(a0_1 == a1_1) || (!(a0_2 == a1_2))) = false := by simpa using c7
  clear c7
  have H' := aK H
  clear H
  have hnb11 := NB255_256.out
  have hnc11 := NB256_255.out
  have hcz12_0 := zI BK255 0 rfl
  have hcz12_1 := zI BK255 1 rfl
  have hcz12_2 := zI BK255 2 rfl
  have hcz12_3 := zI BK255 3 rfl
  have hfz12_0 := zF BK255.out 0
  have hfz12_1 := zF BK255.out 1
  have hfz12_2 := zF BK255.out 2
  have hfz12_3 := zF BK255.out 3
  have hcz13_0 := zI BK256 0 rfl
  have hcz13_1 := zI BK256 1 rfl
  have hcz13_2 := zI BK256 2 rfl
  have hcz13_3 := zI BK256 3 rfl
  have hfz13_0 := zF BK256.out 0
  have hfz13_1 := zF BK256.out 1
  have hfz13_2 := zF BK256.out 2
  have hfz13_3 := zF BK256.out 3
  go_wp2
  go_meet
  case rel => exact ⟨_, (((l0_3.length : Int) != (l1_3.length : Int))), (by first | rfl | (simp; done) | (simp [*]; done)), H', ⟨by first | omega | exact Nat.le_refl _⟩, ⟨BK255.out⟩, ⟨BK256.out⟩, ⟨HB.out⟩⟩
 case rest =>
  clear HC3
  try clear c1
  try clear c2
  try clear p2
  try clear c6
  try clear c6b0
  try clear c6b1
  try clear c7
  try clear c7b0
  try clear c8
  try clear c11
  try clear c14
  try clear hcz10_0
  try clear hcz10_1
  try clear hcz10_2
  try clear hcz10_3
  try clear hcz12_0
  try clear hcz12_1
  try clear hcz12_2
  try clear hcz12_3
  try clear hcz13_0
  try clear hcz13_1
  try clear hcz13_2
  try clear hcz13_3
  try clear hcz15_0
  try clear hcz15_1
  try clear hcz15_2
  try clear hcz15_3
  try clear hcz16_0
  try clear hcz16_1
  try clear hcz16_2
  try clear hcz16_3
  try clear hcz9_0
  try clear hcz9_1
  try clear hcz9_2
  try clear hcz9_3
  try clear hfz10_0
  try clear hfz10_1
  try clear hfz10_2
  try clear hfz10_3
  try clear hfz12_0
  try clear hfz12_1
  try clear hfz12_2
  try clear hfz12_3
  try clear hfz13_0
  try clear hfz13_1
  try clear hfz13_2
  try clear hfz13_3
  try clear hfz15_0
  try clear hfz15_1
  try clear hfz15_2
  try clear hfz15_3
  try clear hfz16_0
  try clear hfz16_1
  try clear hfz16_2
  try clear hfz16_3
  try clear hfz9_0
  try clear hfz9_1
  try clear hfz9_2
  try clear hfz9_3
  obtain ⟨kq, x26_2, rfl, HA, HJ2, BK255, BK256, HB⟩ := hcut
  cases kq with
  | zero => exact absurd HA.out (by simp [gangsawref14_Equal.j0])
  | succ kj2 =>
   have H := HA.out
   clear HA
   simp only [gangsawref14_Equal.j0] at H
   by_cases c17 : x26_2 = true
   ·subst c17
    have H1 : (some false) = some r := by rw [if_pos rfl] at H; exact H
    clear H
    have H := H1
    clear H1
    obtain rfl := Option.some.inj H
    simp only [Option.some.injEq, Prod.mk.injEq] at H
    obtain ⟨rfl⟩ := H
    go_wp2
    go_ret
    exact ⟨rfl, HB.out⟩
   replace c17 := Bool.eq_false_iff.mpr c17
   subst c17
   have H1 : (gangsawref14_Equal.l0 kj2 0 a0_0 a0_1 a0_2 l0_3 a1_0 a1_1 a1_2 l1_3) = some r := by rw [if_neg (show ¬ (false = true) by decide)] at H; exact H
   clear H
   have H := H1
   clear H1
   have H' := aK H
   clear H
   go_wp2
   go_loopg [5] kj2 (fun kq v5 w' => ∃ (x5_2 : Int), v5 = .int .i64 x5_2 ∧ Aside0 (gangsawref14_Equal.l0 kq x5_2 a0_0 a0_1 a0_2 l0_3 a1_0 a1_1 a1_2 l1_3 = some r) ∧ Aside0 (kq ≤ kj2) ∧ Aside0 (w'.heap[gb255]? = some (.cells #[.string a0_0, .int .i64 a0_1, .int .i64 a0_2, (.slice A0_3 l0_3.length c0_3)] 33 (0, 0))) ∧ Aside0 (w'.heap[gb256]? = some (.cells #[.string a1_0, .int .i64 a1_1, .int .i64 a1_2, (.slice A1_3 l1_3.length c1_3)] 33 (0, 0))) ∧ Aside0 (Below w.heap.size w w'))
   case atStart => exact ⟨(0), (by first | rfl | (simp; done) | (simp [*]; done)), H', ⟨Nat.le_refl _⟩, ⟨BK255.out⟩, ⟨BK256.out⟩, ⟨by repeat (first | (with_reducible first | exact HB.out | apply yA | apply yN | apply yD | refine yS ?_ GE255.out | refine yS ?_ GE256.out) | exact HB.out)⟩⟩
   case round =>
    clear H'
    try clear c1
    try clear c2
    try clear p2
    try clear c6
    try clear c6b0
    try clear c6b1
    try clear c7
    try clear c7b0
    try clear c8
    try clear c11
    try clear c14
    try clear c17
    try clear hcz10_0
    try clear hcz10_1
    try clear hcz10_2
    try clear hcz10_3
    try clear hcz12_0
    try clear hcz12_1
    try clear hcz12_2
    try clear hcz12_3
    try clear hcz13_0
    try clear hcz13_1
    try clear hcz13_2
    try clear hcz13_3
    try clear hcz15_0
    try clear hcz15_1
    try clear hcz15_2
    try clear hcz15_3
    try clear hcz16_0
    try clear hcz16_1
    try clear hcz16_2
    try clear hcz16_3
    try clear hcz9_0
    try clear hcz9_1
    try clear hcz9_2
    try clear hcz9_3
    try clear hfz10_0
    try clear hfz10_1
    try clear hfz10_2
    try clear hfz10_3
    try clear hfz12_0
    try clear hfz12_1
    try clear hfz12_2
    try clear hfz12_3
    try clear hfz13_0
    try clear hfz13_1
    try clear hfz13_2
    try clear hfz13_3
    try clear hfz15_0
    try clear hfz15_1
    try clear hfz15_2
    try clear hfz15_3
    try clear hfz16_0
    try clear hfz16_1
    try clear hfz16_2
    try clear hfz16_3
    try clear hfz9_0
    try clear hfz9_1
    try clear hfz9_2
    try clear hfz9_3
    try clear p2
    obtain ⟨x5_2, rfl, HA, HK2, BK255, BK256, HB⟩ := hrel
    cases gk with
    | zero => exact absurd HA.out (by simp [gangsawref14_Equal.l0])
    | succ k2 =>
     have H := HA.out
     clear HA
     simp only [gangsawref14_Equal.l0] at H
     by_cases c18 : x5_2 < (l0_3.length : Int)
     rotate_left
     ·rw [if_neg c18] at H
      have c18b0 : decide (x5_2 < (l0_3.length : Int)) = false := decide_eq_false c18
      clear c18
      obtain rfl := Option.some.inj H
      simp only [Option.some.injEq, Prod.mk.injEq] at H
      obtain ⟨rfl⟩ := H
      have hnb28 := NB255_256.out
      have hnc28 := NB256_255.out
      have hcz29_0 := zI BK255 0 rfl
      have hcz29_1 := zI BK255 1 rfl
      have hcz29_2 := zI BK255 2 rfl
      have hcz29_3 := zI BK255 3 rfl
      have hfz29_0 := zF BK255.out 0
      have hfz29_1 := zF BK255.out 1
      have hfz29_2 := zF BK255.out 2
      have hfz29_3 := zF BK255.out 3
      go_wp2
      go_ret
      exact ⟨rfl, by repeat (first | (with_reducible first | exact HB.out | apply yA | apply yN | apply yD | refine yS ?_ GE255.out | refine yS ?_ GE256.out) | exact HB.out)⟩
     rw [if_pos c18] at H
     have c18b0 : decide (x5_2 < (l0_3.length : Int)) = true := decide_eq_true c18
     clear c18
     by_cases c19 : 0 ≤ x5_2
     rotate_left
     ·rw [if_neg c19] at H
      exact absurd H (by simp)
     rw [if_pos c19] at H
     have c19b0 : decide (0 ≤ x5_2) = true := decide_eq_true c19
     clear c19
     by_cases c20 : x5_2 < (l1_3.length : Int)
     rotate_left
     ·rw [if_neg c20] at H
      exact absurd H (by simp)
     rw [if_pos c20] at H
     have c20b0 : decide (x5_2 < (l1_3.length : Int)) = true := decide_eq_true c20
     clear c20
     by_cases c21 : (!(((rd_T48 l0_3 x5_2).f0) == ((rd_T48 l1_3 x5_2).f0)) || (!(((rd_T48 l0_3 x5_2).f1) == ((rd_T48 l1_3 x5_2).f1)) || (!(((rd_T48 l0_3 x5_2).f2) == ((rd_T48 l1_3 x5_2).f2))))) = true
     ·rw [if_pos c21] at H
      have c21b0 : (!(((rd_T48 l0_3 x5_2).f0) == ((rd_T48 l1_3 x5_2).f0)) || (!(((rd_T48 l0_3 x5_2).f1) == ((rd_T48 l1_3 x5_2).f1)) || (!(((rd_T48 l0_3 x5_2).f2) == ((rd_T48 l1_3 x5_2).f2))))) = true := c21
      clear c21
      obtain rfl := Option.some.inj H
      simp only [Option.some.injEq, Prod.mk.injEq] at H
      obtain ⟨rfl⟩ := H
      have hnb22 := NB255_256.out
      have hnc22 := NB256_255.out
      have hcz23_0 := zI BK255 0 rfl
      have hcz23_1 := zI BK255 1 rfl
      have hcz23_2 := zI BK255 2 rfl
      have hcz23_3 := zI BK255 3 rfl
      have hfz23_0 := zF BK255.out 0
      have hfz23_1 := zF BK255.out 1
      have hfz23_2 := zF BK255.out 2
      have hfz23_3 := zF BK255.out 3
      have p257 : 0 ≤ (x5_2 : Int) := of_decide_eq_true (by assumption)
      have q257 : x5_2 < (l0_3.length : Int) := of_decide_eq_true (by assumption)
      obtain ⟨ad257, e257, hx257_0, hx257_1, hx257_2⟩ := at_T48 HR0_3.out x5_2 p257 q257
      cases e257
      replace hx257_0 := (HB.out.cell (World.block_lt_of_cell? w _ hx257_0)).trans hx257_0
      replace hx257_1 := (HB.out.cell (World.block_lt_of_cell? w _ hx257_1)).trans hx257_1
      replace hx257_2 := (HB.out.cell (World.block_lt_of_cell? w _ hx257_2)).trans hx257_2
      replace p257 := eq_true p257
      replace q257 := eq_true q257
      have hcz24_0 := zI BK256 0 rfl
      have hcz24_1 := zI BK256 1 rfl
      have hcz24_2 := zI BK256 2 rfl
      have hcz24_3 := zI BK256 3 rfl
      have hfz24_0 := zF BK256.out 0
      have hfz24_1 := zF BK256.out 1
      have hfz24_2 := zF BK256.out 2
      have hfz24_3 := zF BK256.out 3
      have p258 : 0 ≤ (x5_2 : Int) := of_decide_eq_true (by assumption)
      have q258 : x5_2 < (l1_3.length : Int) := of_decide_eq_true (by assumption)
      obtain ⟨ad258, e258, hx258_0, hx258_1, hx258_2⟩ := at_T48 HR1_3.out x5_2 p258 q258
      cases e258
      replace hx258_0 := (HB.out.cell (World.block_lt_of_cell? w _ hx258_0)).trans hx258_0
      replace hx258_1 := (HB.out.cell (World.block_lt_of_cell? w _ hx258_1)).trans hx258_1
      replace hx258_2 := (HB.out.cell (World.block_lt_of_cell? w _ hx258_2)).trans hx258_2
      replace p258 := eq_true p258
      replace q258 := eq_true q258
      go_wp2
      repeat (go_quiet (fail); try go_wp2)
      go_ret
      exact ⟨rfl, by repeat (first | (with_reducible first | exact HB.out | apply yA | apply yN | apply yD | refine yS ?_ GE255.out | refine yS ?_ GE256.out) | exact HB.out)⟩
     rw [if_neg c21] at H
     have c21b0 : (!(((rd_T48 l0_3 x5_2).f0) == ((rd_T48 l1_3 x5_2).f0)) || (!(((rd_T48 l0_3 x5_2).f1) == ((rd_T48 l1_3 x5_2).f1)) || (!(((rd_T48 l0_3 x5_2).f2) == ((rd_T48 l1_3 x5_2).f2))))) = false := by simpa using c21
     clear c21
     have H' := aK H
     clear H
     have hnb25 := NB255_256.out
     have hnc25 := NB256_255.out
     have hcz26_0 := zI BK255 0 rfl
     have hcz26_1 := zI BK255 1 rfl
     have hcz26_2 := zI BK255 2 rfl
     have hcz26_3 := zI BK255 3 rfl
     have hfz26_0 := zF BK255.out 0
     have hfz26_1 := zF BK255.out 1
     have hfz26_2 := zF BK255.out 2
     have hfz26_3 := zF BK255.out 3
     have p257 : 0 ≤ (x5_2 : Int) := of_decide_eq_true (by assumption)
     have q257 : x5_2 < (l0_3.length : Int) := of_decide_eq_true (by assumption)
     obtain ⟨ad257, e257, hx257_0, hx257_1, hx257_2⟩ := at_T48 HR0_3.out x5_2 p257 q257
     cases e257
     replace hx257_0 := (HB.out.cell (World.block_lt_of_cell? w _ hx257_0)).trans hx257_0
     replace hx257_1 := (HB.out.cell (World.block_lt_of_cell? w _ hx257_1)).trans hx257_1
     replace hx257_2 := (HB.out.cell (World.block_lt_of_cell? w _ hx257_2)).trans hx257_2
     replace p257 := eq_true p257
     replace q257 := eq_true q257
     have hcz27_0 := zI BK256 0 rfl
     have hcz27_1 := zI BK256 1 rfl
     have hcz27_2 := zI BK256 2 rfl
     have hcz27_3 := zI BK256 3 rfl
     have hfz27_0 := zF BK256.out 0
     have hfz27_1 := zF BK256.out 1
     have hfz27_2 := zF BK256.out 2
     have hfz27_3 := zF BK256.out 3
     have p258 : 0 ≤ (x5_2 : Int) := of_decide_eq_true (by assumption)
     have q258 : x5_2 < (l1_3.length : Int) := of_decide_eq_true (by assumption)
     obtain ⟨ad258, e258, hx258_0, hx258_1, hx258_2⟩ := at_T48 HR1_3.out x5_2 p258 q258
     cases e258
     replace hx258_0 := (HB.out.cell (World.block_lt_of_cell? w _ hx258_0)).trans hx258_0
     replace hx258_1 := (HB.out.cell (World.block_lt_of_cell? w _ hx258_1)).trans hx258_1
     replace hx258_2 := (HB.out.cell (World.block_lt_of_cell? w _ hx258_2)).trans hx258_2
     replace p258 := eq_true p258
     replace q258 := eq_true q258
     go_wp2
     repeat (go_quiet (fail); try go_wp2)
     go_roundg k2
     case measure => have := HJ2.out; have := HK2.out; omega
     case rel => exact ⟨(wrap64 (x5_2 + 1)), (by first | rfl | (simp; done) | (simp [*]; done)), H', ⟨by have := HJ2.out; have := HK2.out; omega⟩, ⟨BK255.out⟩, ⟨BK256.out⟩, ⟨by repeat (first | (with_reducible first | exact HB.out | apply yA | apply yN | apply yD | refine yS ?_ GE255.out | refine yS ?_ GE256.out) | exact HB.out)⟩⟩

end Go.Proofs.YtfedmcehkpfciaaGreat.P
