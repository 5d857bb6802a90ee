/- What functions of the program return: each contract says so of one function, for every input at which its pure function yields. -/
import Derived.Test.YtfedmcehkpfciaaGreatPx0
namespace Go.Proofs.YtfedmcehkpfciaaGreat.P
open Go.RowKit Go.Proofs.YtfedmcehkpfciaaGreatW.PrintWords Go.Proofs.YtfedmcehkpfciaaGreatW.PrintLast Go.Proofs.YtfedmcehkpfciaaGreatW.PrintMore
attribute [local go_sem] max2_int min2_int max_two min_two max_three min_three max_four min_four   -- for this text's walks alone
set_option linter.unusedVariables false
set_option linter.unusedSimpArgs false

def boring_State.l0 : Nat → Int → List (S48) → Int → Int → Option (Int)
 | 0, _, _, _, _ => none
 | k + 1, x1, x8, x9, x10 => if x10 < x9 then (if 0 ≤ x10 then (if x10 < (x8.length : Int) then (if ((rd_T48 x8 x10).f0) ≤ x1 then (if x1 < ((rd_T48 x8 x10).f1) then (some ((rd_T48 x8 x10).f2)) else (boring_State.l0 k x1 x8 x9 (wrap64 (x10 + 1)))) else (boring_State.l0 k x1 x8 x9 (wrap64 (x10 + 1)))) else (none)) else (none)) else (some 0)
def boring_State.f (k : Nat) (a0_0 : ByteArray) (a0_1 : Int) (a0_2 : Int) (l0_3 : List (S48)) (a1 : Int) : Option (Int) := boring_State.l0 k a1 l0_3 (l0_3.length : Int) 0
theorem boring_State.mono_l : ∀ k, (∀ y0 y1 y2 y3, LeO (boring_State.l0 k y0 y1 y2 y3) (boring_State.l0 (k + 1) y0 y1 y2 y3))
 | 0 => fun _ _ _ _ r h => by simp [boring_State.l0] at h
 | k + 1 => by
  have ih0 := boring_State.mono_l k
  ·intro y0 y1 y2 y3
   unfold boring_State.l0
   repeat' first
   | (with_reducible exact ih0 _ _ _ _)
   | (with_reducible exact LeO.refl _)
   | (with_reducible exact LeO.none _)
   | (with_reducible refine LeO.ite ?_ ?_)
   | (with_reducible refine LeO.bind ?_ (fun _ => ?_))
   | exact ih0 _ _ _ _
   | exact LeO.none _
   | refine LeO.ite ?_ ?_
   | refine LeO.bind ?_ (fun _ => ?_)
theorem boring_State.mono : ∀ a0 a1 a2 a3 a4 k, LeO (boring_State.f k a0 a1 a2 a3 a4) (boring_State.f (k + 1) a0 a1 a2 a3 a4) := by
 intro a0 a1 a2 a3 a4 k
 have ih0 := boring_State.mono_l k
 unfold boring_State.f
 repeat' first
   | (with_reducible exact ih0 _ _ _ _)
   | (with_reducible exact LeO.refl _)
   | (with_reducible exact LeO.none _)
   | (with_reducible refine LeO.ite ?_ ?_)
   | (with_reducible refine LeO.bind ?_ (fun _ => ?_))
   | exact ih0 _ _ _ _
   | exact LeO.none _
   | refine LeO.ite ?_ ?_
   | refine LeO.bind ?_ (fun _ => ?_)
set_option maxHeartbeats 8000000 in
set_option maxRecDepth 100000 in
theorem boring_State.calls (k : Nat) (a0_0 : ByteArray) (a0_1 : Int) (a0_2 : Int) (A0_3 : Option Addr) (c0_3 : Nat) (l0_3 : List (S48)) (a1 : Int) (r : Int) (w : World) (hr0_3 : Kd.C k48 w A0_3 l0_3.length l0_3) (hc0_3 : l0_3.length ≤ c0_3) (h : boring_State.f k a0_0 a0_1 a0_2 l0_3 a1 = some r) :
  Calls Tryz.prog 21 #[.agg #[.string a0_0, .int .i64 a0_1, .int .i64 a0_2, .slice A0_3 l0_3.length c0_3], .int .i64 a1] w fun e w' => e = .returned (.int .i64 r) ∧ Below w.heap.size w w' := by
 have hu33 := Tryz.underlying33
 have hu48 := Tryz.underlying48
 have HR0_3 := aK hr0_3
 have HC0_3 := aK hc0_3
 clear hr0_3 hc0_3
 have HB := aK (Below.refl w.heap.size w)
 have H : (boring_State.l0 k a1 l0_3 (l0_3.length : Int) 0) = some r := h
 clear h
 have H' := aK H
 clear H
 go_enter Tryz.func21, Tryz.ntmps21
 go_wp2_with (first | ((with_reducible refine gate_dst (N := 2) rfl ?_); refine box_event ?hg (N := 2) ?hd (cs := #[.string a0_0, .int .i64 a0_1, .int .i64 a0_2, .slice A0_3 l0_3.length c0_3]) (t := 33) ?hr ?_; (case hd => rfl); (case hg => rfl); (case hr => first | (go_simp; done) | (go_simp; rfl)); intro gb248 hg w3 hbox hb; have n0_ := aK (yT (HB.out) hb); have n1_ := aK (hbox); have n2_ := aK ((by rw [hg]; exact (yZ (HB.out)) : w.heap.size ≤ gb248)); have n3_ := n2_; clear HB; have HB := n0_; have BK248 := n1_; have GW248 := n2_; have GE248 := n3_; clear n0_ n1_ n2_ n3_; clear hb hbox hg; have hcz4_0 := zI BK248 0 rfl; have hcz4_1 := zI BK248 1 rfl; have hcz4_2 := zI BK248 2 rfl; have hcz4_3 := zI BK248 3 rfl; have hfz4_0 := zF BK248.out 0; have hfz4_1 := zF BK248.out 1; have hfz4_2 := zF BK248.out 2; have hfz4_3 := zF BK248.out 3))
 go_loopg [10] k (fun kq v10 w' => ∃ (x10_1 : Int), v10 = .int .i64 x10_1 ∧ Aside0 (boring_State.l0 kq a1 l0_3 (l0_3.length : Int) x10_1 = some r) ∧ Aside0 (kq ≤ k) ∧ Aside0 (w'.heap[gb248]? = some (.cells #[.string a0_0, .int .i64 a0_1, .int .i64 a0_2, (.slice A0_3 l0_3.length c0_3)] 33 (0, 0))) ∧ Aside0 (Below w.heap.size w w'))
 case atStart => exact ⟨(0), (by first | rfl | (simp; done) | (simp [*]; done)), H', ⟨Nat.le_refl _⟩, ⟨BK248.out⟩, ⟨HB.out⟩⟩
 case round =>
  clear H'
  try clear c2
  try clear p2
  try clear hcz4_0
  try clear hcz4_1
  try clear hcz4_2
  try clear hcz4_3
  try clear hfz4_0
  try clear hfz4_1
  try clear hfz4_2
  try clear hfz4_3
  obtain ⟨x10_1, rfl, HA, HK1, BK248, HB⟩ := hrel
  cases gk with
  | zero => exact absurd HA.out (by simp [boring_State.l0])
  | succ k1 =>
   have H := HA.out
   clear HA
   simp only [boring_State.l0] at H
   by_cases c5 : x10_1 < (l0_3.length : Int)
   rotate_left
   ·rw [if_neg c5] at H
    have c5b0 : decide (x10_1 < (l0_3.length : Int)) = false := decide_eq_false c5
    clear c5
    obtain rfl := Option.some.inj H
    simp only [Option.some.injEq, Prod.mk.injEq] at H
    obtain ⟨rfl⟩ := H
    go_wp2
    go_ret
    exact ⟨rfl, HB.out⟩
   rw [if_pos c5] at H
   have c5b0 : decide (x10_1 < (l0_3.length : Int)) = true := decide_eq_true c5
   clear c5
   by_cases c6 : 0 ≤ x10_1
   rotate_left
   ·rw [if_neg c6] at H
    exact absurd H (by simp)
   rw [if_pos c6] at H
   have c6b0 : decide (0 ≤ x10_1) = true := decide_eq_true c6
   clear c6
   by_cases c7 : x10_1 < (l0_3.length : Int)
   rotate_left
   ·rw [if_neg c7] at H
    exact absurd H (by simp)
   rw [if_pos c7] at H
   have c7b0 : decide (x10_1 < (l0_3.length : Int)) = true := decide_eq_true c7
   clear c7
   by_cases c8 : ((rd_T48 l0_3 x10_1).f0) ≤ a1
   rotate_left
   ·rw [if_neg c8] at H
    have c8b0 : decide (((rd_T48 l0_3 x10_1).f0) ≤ a1) = false := decide_eq_false c8
    clear c8
    have H' := aK H
    clear H
    have p249 : 0 ≤ (x10_1 : Int) := of_decide_eq_true (by assumption)
    have q249 : x10_1 < (l0_3.length : Int) := of_decide_eq_true (by assumption)
    obtain ⟨ad249, e249, hx249_0, hx249_1, hx249_2⟩ := at_T48 HR0_3.out x10_1 p249 q249
    cases e249
    replace hx249_0 := (HB.out.cell (World.block_lt_of_cell? w _ hx249_0)).trans hx249_0
    replace hx249_1 := (HB.out.cell (World.block_lt_of_cell? w _ hx249_1)).trans hx249_1
    replace hx249_2 := (HB.out.cell (World.block_lt_of_cell? w _ hx249_2)).trans hx249_2
    replace p249 := eq_true p249
    replace q249 := eq_true q249
    go_wp2_with (first | ((with_reducible refine gate_dst (N := 6) rfl ?_); refine box_event ?hg (N := 6) ?hd (cs := #[.int .i64 0, .int .i64 0, .int .i64 0]) (t := 48) ?hr ?_; (case hd => rfl); (case hg => rfl); (case hr => first | (go_simp; done) | (go_simp; rfl)); intro gb250 hg w16 hbox hb; have n0_ := aK (zB (g := gb248) (o := .cells #[.string a0_0, .int .i64 a0_1, .int .i64 a0_2, .slice (some ad249) l0_3.length c0_3] 33 (0, 0)) (BK248.out) hb); have ⟨n1_, n3_⟩ := zV (w := w) hb hg (by repeat (first | (with_reducible first | exact HB.out | apply yA | apply yN | apply yD | refine yS ?_ GE248.out) | exact HB.out)); have n2_ := aK (hbox); have n4_ := n3_; have n5_ := aK ((by rw [hg]; exact Nat.ne_of_lt (blk_lt (g := gb248) (o := .cells #[.string a0_0, .int .i64 a0_1, .int .i64 a0_2, .slice (some ad249) l0_3.length c0_3] 33 (0, 0)) (BK248.out)) : gb248 ≠ gb250)); have n6_ := aK ((by rw [hg]; exact Nat.ne_of_gt (blk_lt (g := gb248) (o := .cells #[.string a0_0, .int .i64 a0_1, .int .i64 a0_2, .slice (some ad249) l0_3.length c0_3] 33 (0, 0)) (BK248.out)) : gb250 ≠ gb248)); clear BK248; clear HB; have BK248 := n0_; have HB := n1_; have BK250 := n2_; have GW250 := n3_; have GE250 := n4_; have NB248_250 := n5_; have NB250_248 := n6_; clear n0_ n1_ n2_ n3_ n4_ n5_ n6_; clear hb hbox hg; have hnb17 := NB250_248.out; have hnc17 := NB248_250.out; have hcz18_0 := zI BK250 0 rfl; have hcz18_1 := zI BK250 1 rfl; have hcz18_2 := zI BK250 2 rfl; have hfz18_0 := zF BK250.out 0; have hfz18_1 := zF BK250.out 1; have hfz18_2 := zF BK250.out 2))
    go_roundg k1
    case measure => have := HK1.out; omega
    case rel => exact ⟨(wrap64 (x10_1 + 1)), (by first | rfl | (simp; done) | (simp [*]; done)), H', ⟨by have := HK1.out; omega⟩, ⟨by refine blk_far ?_ NB248_250.out _; refine blk_far ?_ NB248_250.out _; refine blk_far ?_ NB248_250.out _; exact BK248.out⟩, ⟨by repeat (first | (with_reducible first | exact HB.out | apply yA | apply yN | apply yD | refine yS ?_ GE248.out | refine yS ?_ GE250.out) | exact HB.out)⟩⟩
   rw [if_pos c8] at H
   have c8b0 : decide (((rd_T48 l0_3 x10_1).f0) ≤ a1) = true := decide_eq_true c8
   clear c8
   by_cases c9 : a1 < ((rd_T48 l0_3 x10_1).f1)
   ·rw [if_pos c9] at H
    have c9b0 : decide (a1 < ((rd_T48 l0_3 x10_1).f1)) = true := decide_eq_true c9
    clear c9
    obtain rfl := Option.some.inj H
    simp only [Option.some.injEq, Prod.mk.injEq] at H
    obtain ⟨rfl⟩ := H
    have p249 : 0 ≤ (x10_1 : Int) := of_decide_eq_true (by assumption)
    have q249 : x10_1 < (l0_3.length : Int) := of_decide_eq_true (by assumption)
    obtain ⟨ad249, e249, hx249_0, hx249_1, hx249_2⟩ := at_T48 HR0_3.out x10_1 p249 q249
    cases e249
    replace hx249_0 := (HB.out.cell (World.block_lt_of_cell? w _ hx249_0)).trans hx249_0
    replace hx249_1 := (HB.out.cell (World.block_lt_of_cell? w _ hx249_1)).trans hx249_1
    replace hx249_2 := (HB.out.cell (World.block_lt_of_cell? w _ hx249_2)).trans hx249_2
    replace p249 := eq_true p249
    replace q249 := eq_true q249
    go_wp2_with (first | ((with_reducible refine gate_dst (N := 6) rfl ?_); refine box_event ?hg (N := 6) ?hd (cs := #[.int .i64 0, .int .i64 0, .int .i64 0]) (t := 48) ?hr ?_; (case hd => rfl); (case hg => rfl); (case hr => first | (go_simp; done) | (go_simp; rfl)); intro gb250 hg w10 hbox hb; have n0_ := aK (zB (g := gb248) (o := .cells #[.string a0_0, .int .i64 a0_1, .int .i64 a0_2, .slice (some ad249) l0_3.length c0_3] 33 (0, 0)) (BK248.out) hb); have ⟨n1_, n3_⟩ := zV (w := w) hb hg (by repeat (first | (with_reducible first | exact HB.out | apply yA | apply yN | apply yD | refine yS ?_ GE248.out) | exact HB.out)); have n2_ := aK (hbox); have n4_ := n3_; have n5_ := aK ((by rw [hg]; exact Nat.ne_of_lt (blk_lt (g := gb248) (o := .cells #[.string a0_0, .int .i64 a0_1, .int .i64 a0_2, .slice (some ad249) l0_3.length c0_3] 33 (0, 0)) (BK248.out)) : gb248 ≠ gb250)); have n6_ := aK ((by rw [hg]; exact Nat.ne_of_gt (blk_lt (g := gb248) (o := .cells #[.string a0_0, .int .i64 a0_1, .int .i64 a0_2, .slice (some ad249) l0_3.length c0_3] 33 (0, 0)) (BK248.out)) : gb250 ≠ gb248)); clear BK248; clear HB; have BK248 := n0_; have HB := n1_; have BK250 := n2_; have GW250 := n3_; have GE250 := n4_; have NB248_250 := n5_; have NB250_248 := n6_; clear n0_ n1_ n2_ n3_ n4_ n5_ n6_; clear hb hbox hg; have hnb11 := NB250_248.out; have hnc11 := NB248_250.out; have hcz12_0 := zI BK250 0 rfl; have hcz12_1 := zI BK250 1 rfl; have hcz12_2 := zI BK250 2 rfl; have hfz12_0 := zF BK250.out 0; have hfz12_1 := zF BK250.out 1; have hfz12_2 := zF BK250.out 2))
    go_ret
    exact ⟨rfl, by repeat (first | (with_reducible first | exact HB.out | apply yA | apply yN | apply yD | refine yS ?_ GE248.out | refine yS ?_ GE250.out) | exact HB.out)⟩
   rw [if_neg c9] at H
   have c9b0 : decide (a1 < ((rd_T48 l0_3 x10_1).f1)) = false := decide_eq_false c9
   clear c9
   have H' := aK H
   clear H
   have p249 : 0 ≤ (x10_1 : Int) := of_decide_eq_true (by assumption)
   have q249 : x10_1 < (l0_3.length : Int) := of_decide_eq_true (by assumption)
   obtain ⟨ad249, e249, hx249_0, hx249_1, hx249_2⟩ := at_T48 HR0_3.out x10_1 p249 q249
   cases e249
   replace hx249_0 := (HB.out.cell (World.block_lt_of_cell? w _ hx249_0)).trans hx249_0
   replace hx249_1 := (HB.out.cell (World.block_lt_of_cell? w _ hx249_1)).trans hx249_1
   replace hx249_2 := (HB.out.cell (World.block_lt_of_cell? w _ hx249_2)).trans hx249_2
   replace p249 := eq_true p249
   replace q249 := eq_true q249
   go_wp2_with (first | ((with_reducible refine gate_dst (N := 6) rfl ?_); refine box_event ?hg (N := 6) ?hd (cs := #[.int .i64 0, .int .i64 0, .int .i64 0]) (t := 48) ?hr ?_; (case hd => rfl); (case hg => rfl); (case hr => first | (go_simp; done) | (go_simp; rfl)); intro gb250 hg w13 hbox hb; have n0_ := aK (zB (g := gb248) (o := .cells #[.string a0_0, .int .i64 a0_1, .int .i64 a0_2, .slice (some ad249) l0_3.length c0_3] 33 (0, 0)) (BK248.out) hb); have ⟨n1_, n3_⟩ := zV (w := w) hb hg (by repeat (first | (with_reducible first | exact HB.out | apply yA | apply yN | apply yD | refine yS ?_ GE248.out) | exact HB.out)); have n2_ := aK (hbox); have n4_ := n3_; have n5_ := aK ((by rw [hg]; exact Nat.ne_of_lt (blk_lt (g := gb248) (o := .cells #[.string a0_0, .int .i64 a0_1, .int .i64 a0_2, .slice (some ad249) l0_3.length c0_3] 33 (0, 0)) (BK248.out)) : gb248 ≠ gb250)); have n6_ := aK ((by rw [hg]; exact Nat.ne_of_gt (blk_lt (g := gb248) (o := .cells #[.string a0_0, .int .i64 a0_1, .int .i64 a0_2, .slice (some ad249) l0_3.length c0_3] 33 (0, 0)) (BK248.out)) : gb250 ≠ gb248)); clear BK248; clear HB; have BK248 := n0_; have HB := n1_; have BK250 := n2_; have GW250 := n3_; have GE250 := n4_; have NB248_250 := n5_; have NB250_248 := n6_; clear n0_ n1_ n2_ n3_ n4_ n5_ n6_; clear hb hbox hg; have hnb14 := NB250_248.out; have hnc14 := NB248_250.out; have hcz15_0 := zI BK250 0 rfl; have hcz15_1 := zI BK250 1 rfl; have hcz15_2 := zI BK250 2 rfl; have hfz15_0 := zF BK250.out 0; have hfz15_1 := zF BK250.out 1; have hfz15_2 := zF BK250.out 2))
   go_roundg k1
   case measure => have := HK1.out; omega
   case rel => exact ⟨(wrap64 (x10_1 + 1)), (by first | rfl | (simp; done) | (simp [*]; done)), H', ⟨by have := HK1.out; omega⟩, ⟨by refine blk_far ?_ NB248_250.out _; refine blk_far ?_ NB248_250.out _; refine blk_far ?_ NB248_250.out _; exact BK248.out⟩, ⟨by repeat (first | (with_reducible first | exact HB.out | apply yA | apply yN | apply yD | refine yS ?_ GE248.out | refine yS ?_ GE250.out) | exact HB.out)⟩⟩

def gangsawref14_State.l0 : Nat → Int → Int → ByteArray → Int → Int → List (S48) → Option (Int)
 | 0, _, _, _, _, _, _ => none
 | k + 1, x1, x5, x252000, x252001, x252002, x252003 => if x5 < (x252003.length : Int) then (if 0 ≤ x5 then (if ((rd_T48 x252003 x5).f0) ≤ x1 then (if x1 < ((rd_T48 x252003 x5).f1) then (some ((rd_T48 x252003 x5).f2)) else (gangsawref14_State.l0 k x1 (wrap64 (x5 + 1)) x252000 x252001 x252002 x252003)) else (gangsawref14_State.l0 k x1 (wrap64 (x5 + 1)) x252000 x252001 x252002 x252003)) else (none)) else (some 0)
def gangsawref14_State.f (k : Nat) (a0_0 : ByteArray) (a0_1 : Int) (a0_2 : Int) (l0_3 : List (S48)) (a1 : Int) : Option (Int) := gangsawref14_State.l0 k a1 0 a0_0 a0_1 a0_2 l0_3
theorem gangsawref14_State.mono_l : ∀ k, (∀ y0 y1 y2 y3 y4 y5, LeO (gangsawref14_State.l0 k y0 y1 y2 y3 y4 y5) (gangsawref14_State.l0 (k + 1) y0 y1 y2 y3 y4 y5))
 | 0 => fun _ _ _ _ _ _ r h => by simp [gangsawref14_State.l0] at h
 | k + 1 => by
  have ih0 := gangsawref14_State.mono_l k
  ·intro y0 y1 y2 y3 y4 y5
   unfold gangsawref14_State.l0
   repeat' first
   | (with_reducible exact ih0 _ _ _ _ _ _)
   | (with_reducible exact LeO.refl _)
   | (with_reducible exact LeO.none _)
   | (with_reducible refine LeO.ite ?_ ?_)
   | (with_reducible refine LeO.bind ?_ (fun _ => ?_))
   | exact ih0 _ _ _ _ _ _
   | exact LeO.none _
   | refine LeO.ite ?_ ?_
   | refine LeO.bind ?_ (fun _ => ?_)
theorem gangsawref14_State.mono : ∀ a0 a1 a2 a3 a4 k, LeO (gangsawref14_State.f k a0 a1 a2 a3 a4) (gangsawref14_State.f (k + 1) a0 a1 a2 a3 a4) := by
 intro a0 a1 a2 a3 a4 k
 have ih0 := gangsawref14_State.mono_l k
 unfold gangsawref14_State.f
 repeat' first
   | (with_reducible exact ih0 _ _ _ _ _ _)
   | (with_reducible exact LeO.refl _)
   | (with_reducible exact LeO.none _)
   | (with_reducible refine LeO.ite ?_ ?_)
   | (with_reducible refine LeO.bind ?_ (fun _ => ?_))
   | exact ih0 _ _ _ _ _ _
   | exact LeO.none _
   | refine LeO.ite ?_ ?_
   | refine LeO.bind ?_ (fun _ => ?_)
set_option maxHeartbeats 8000000 in
set_option maxRecDepth 100000 in
theorem gangsawref14_State.calls (k : Nat) (a0_0 : ByteArray) (a0_1 : Int) (a0_2 : Int) (A0_3 : Option Addr) (c0_3 : Nat) (l0_3 : List (S48)) (a1 : Int) (r : Int) (w : World) (hr0_3 : Kd.C k48 w A0_3 l0_3.length l0_3) (hc0_3 : l0_3.length ≤ c0_3) (h : gangsawref14_State.f k a0_0 a0_1 a0_2 l0_3 a1 = some r) :
  Calls Tryz.prog 22 #[.agg #[.string a0_0, .int .i64 a0_1, .int .i64 a0_2, .slice A0_3 l0_3.length c0_3], .int .i64 a1] w fun e w' => e = .returned (.int .i64 r) ∧ Below w.heap.size w w' := by
 have hu33 := Tryz.underlying33
 have HR0_3 := aK hr0_3
 have HC0_3 := aK hc0_3
 clear hr0_3 hc0_3
 have HB := aK (Below.refl w.heap.size w)
 have H : (gangsawref14_State.l0 k a1 0 a0_0 a0_1 a0_2 l0_3) = some r := h
 clear h
 have H' := aK H
 clear H
 go_enter Tryz.func22, Tryz.ntmps22
 go_wp2_with (first | ((with_reducible refine gate_dst (N := 2) rfl ?_); refine box_event ?hg (N := 2) ?hd (cs := #[.string a0_0, .int .i64 a0_1, .int .i64 a0_2, .slice A0_3 l0_3.length c0_3]) (t := 33) ?hr ?_; (case hd => rfl); (case hg => rfl); (case hr => first | (go_simp; done) | (go_simp; rfl)); intro gb251 hg w3 hbox hb; have n0_ := aK (yT (HB.out) hb); have n1_ := aK (hbox); have n2_ := aK ((by rw [hg]; exact (yZ (HB.out)) : w.heap.size ≤ gb251)); have n3_ := n2_; clear HB; have HB := n0_; have BK251 := n1_; have GW251 := n2_; have GE251 := n3_; clear n0_ n1_ n2_ n3_; clear hb hbox hg))
 go_loopg [5] k (fun kq v5 w' => ∃ (x5_1 : Int), v5 = .int .i64 x5_1 ∧ Aside0 (gangsawref14_State.l0 kq a1 x5_1 a0_0 a0_1 a0_2 l0_3 = some r) ∧ Aside0 (kq ≤ k) ∧ Aside0 (w'.heap[gb251]? = some (.cells #[.string a0_0, .int .i64 a0_1, .int .i64 a0_2, (.slice A0_3 l0_3.length c0_3)] 33 (0, 0))) ∧ Aside0 (Below w.heap.size w w'))
 case atStart => exact ⟨(0), (by first | rfl | (simp; done) | (simp [*]; done)), H', ⟨Nat.le_refl _⟩, ⟨BK251.out⟩, ⟨HB.out⟩⟩
 case round =>
  clear H'
  try clear c2
  try clear p2
  obtain ⟨x5_1, rfl, HA, HK1, BK251, HB⟩ := hrel
  cases gk with
  | zero => exact absurd HA.out (by simp [gangsawref14_State.l0])
  | succ k1 =>
   have H := HA.out
   clear HA
   simp only [gangsawref14_State.l0] at H
   by_cases c4 : x5_1 < (l0_3.length : Int)
   rotate_left
   ·rw [if_neg c4] at H
    have c4b0 : decide (x5_1 < (l0_3.length : Int)) = false := decide_eq_false c4
    clear c4
    obtain rfl := Option.some.inj H
    simp only [Option.some.injEq, Prod.mk.injEq] at H
    obtain ⟨rfl⟩ := H
    have hcz11_0 := zI BK251 0 rfl
    have hcz11_1 := zI BK251 1 rfl
    have hcz11_2 := zI BK251 2 rfl
    have hcz11_3 := zI BK251 3 rfl
    have hfz11_0 := zF BK251.out 0
    have hfz11_1 := zF BK251.out 1
    have hfz11_2 := zF BK251.out 2
    have hfz11_3 := zF BK251.out 3
    go_wp2
    go_ret
    exact ⟨rfl, HB.out⟩
   rw [if_pos c4] at H
   have c4b0 : decide (x5_1 < (l0_3.length : Int)) = true := decide_eq_true c4
   clear c4
   by_cases c5 : 0 ≤ x5_1
   rotate_left
   ·rw [if_neg c5] at H
    exact absurd H (by simp)
   rw [if_pos c5] at H
   have c5b0 : decide (0 ≤ x5_1) = true := decide_eq_true c5
   clear c5
   by_cases c6 : ((rd_T48 l0_3 x5_1).f0) ≤ a1
   rotate_left
   ·rw [if_neg c6] at H
    have c6b0 : decide (((rd_T48 l0_3 x5_1).f0) ≤ a1) = false := decide_eq_false c6
    clear c6
    have H' := aK H
    clear H
    have hcz10_0 := zI BK251 0 rfl
    have hcz10_1 := zI BK251 1 rfl
    have hcz10_2 := zI BK251 2 rfl
    have hcz10_3 := zI BK251 3 rfl
    have hfz10_0 := zF BK251.out 0
    have hfz10_1 := zF BK251.out 1
    have hfz10_2 := zF BK251.out 2
    have hfz10_3 := zF BK251.out 3
    have p252 : 0 ≤ (x5_1 : Int) := of_decide_eq_true (by assumption)
    have q252 : x5_1 < (l0_3.length : Int) := of_decide_eq_true (by assumption)
    obtain ⟨ad252, e252, hx252_0, hx252_1, hx252_2⟩ := at_T48 HR0_3.out x5_1 p252 q252
    cases e252
    replace hx252_0 := (HB.out.cell (World.block_lt_of_cell? w _ hx252_0)).trans hx252_0
    replace hx252_1 := (HB.out.cell (World.block_lt_of_cell? w _ hx252_1)).trans hx252_1
    replace hx252_2 := (HB.out.cell (World.block_lt_of_cell? w _ hx252_2)).trans hx252_2
    replace p252 := eq_true p252
    replace q252 := eq_true q252
    go_wp2
    go_roundg k1
    case measure => have := HK1.out; omega
    case rel => exact ⟨(wrap64 (x5_1 + 1)), (by first | rfl | (simp; done) | (simp [*]; done)), H', ⟨by have := HK1.out; omega⟩, ⟨BK251.out⟩, ⟨HB.out⟩⟩
   rw [if_pos c6] at H
   have c6b0 : decide (((rd_T48 l0_3 x5_1).f0) ≤ a1) = true := decide_eq_true c6
   clear c6
   by_cases c7 : a1 < ((rd_T48 l0_3 x5_1).f1)
   rotate_left
   ·rw [if_neg c7] at H
    have c7b0 : decide (a1 < ((rd_T48 l0_3 x5_1).f1)) = false := decide_eq_false c7
    clear c7
    have H' := aK H
    clear H
    have hcz9_0 := zI BK251 0 rfl
    have hcz9_1 := zI BK251 1 rfl
    have hcz9_2 := zI BK251 2 rfl
    have hcz9_3 := zI BK251 3 rfl
    have hfz9_0 := zF BK251.out 0
    have hfz9_1 := zF BK251.out 1
    have hfz9_2 := zF BK251.out 2
    have hfz9_3 := zF BK251.out 3
    have p252 : 0 ≤ (x5_1 : Int) := of_decide_eq_true (by assumption)
    have q252 : x5_1 < (l0_3.length : Int) := of_decide_eq_true (by assumption)
    obtain ⟨ad252, e252, hx252_0, hx252_1, hx252_2⟩ := at_T48 HR0_3.out x5_1 p252 q252
    cases e252
    replace hx252_0 := (HB.out.cell (World.block_lt_of_cell? w _ hx252_0)).trans hx252_0
    replace hx252_1 := (HB.out.cell (World.block_lt_of_cell? w _ hx252_1)).trans hx252_1
    replace hx252_2 := (HB.out.cell (World.block_lt_of_cell? w _ hx252_2)).trans hx252_2
    replace p252 := eq_true p252
    replace q252 := eq_true q252
    have p253 : 0 ≤ (x5_1 : Int) := of_decide_eq_true (by assumption)
    have q253 : x5_1 < (l0_3.length : Int) := of_decide_eq_true (by assumption)
    obtain ⟨ad253, e253, hx253_0, hx253_1, hx253_2⟩ := at_T48 HR0_3.out x5_1 p253 q253
    obtain rfl : ad252 = ad253 := (by injection e253)
    replace hx253_0 := (HB.out.cell (World.block_lt_of_cell? w _ hx253_0)).trans hx253_0
    replace hx253_1 := (HB.out.cell (World.block_lt_of_cell? w _ hx253_1)).trans hx253_1
    replace hx253_2 := (HB.out.cell (World.block_lt_of_cell? w _ hx253_2)).trans hx253_2
    replace p253 := eq_true p253
    replace q253 := eq_true q253
    go_wp2
    go_roundg k1
    case measure => have := HK1.out; omega
    case rel => exact ⟨(wrap64 (x5_1 + 1)), (by first | rfl | (simp; done) | (simp [*]; done)), H', ⟨by have := HK1.out; omega⟩, ⟨BK251.out⟩, ⟨HB.out⟩⟩
   rw [if_pos c7] at H
   have c7b0 : decide (a1 < ((rd_T48 l0_3 x5_1).f1)) = true := decide_eq_true c7
   clear c7
   obtain rfl := Option.some.inj H
   simp only [Option.some.injEq, Prod.mk.injEq] at H
   obtain ⟨rfl⟩ := H
   have hcz8_0 := zI BK251 0 rfl
   have hcz8_1 := zI BK251 1 rfl
   have hcz8_2 := zI BK251 2 rfl
   have hcz8_3 := zI BK251 3 rfl
   have hfz8_0 := zF BK251.out 0
   have hfz8_1 := zF BK251.out 1
   have hfz8_2 := zF BK251.out 2
   have hfz8_3 := zF BK251.out 3
   have p252 : 0 ≤ (x5_1 : Int) := of_decide_eq_true (by assumption)
   have q252 : x5_1 < (l0_3.length : Int) := of_decide_eq_true (by assumption)
   obtain ⟨ad252, e252, hx252_0, hx252_1, hx252_2⟩ := at_T48 HR0_3.out x5_1 p252 q252
   cases e252
   replace hx252_0 := (HB.out.cell (World.block_lt_of_cell? w _ hx252_0)).trans hx252_0
   replace hx252_1 := (HB.out.cell (World.block_lt_of_cell? w _ hx252_1)).trans hx252_1
   replace hx252_2 := (HB.out.cell (World.block_lt_of_cell? w _ hx252_2)).trans hx252_2
   replace p252 := eq_true p252
   replace q252 := eq_true q252
   have p253 : 0 ≤ (x5_1 : Int) := of_decide_eq_true (by assumption)
   have q253 : x5_1 < (l0_3.length : Int) := of_decide_eq_true (by assumption)
   obtain ⟨ad253, e253, hx253_0, hx253_1, hx253_2⟩ := at_T48 HR0_3.out x5_1 p253 q253
   obtain rfl : ad252 = ad253 := (by injection e253)
   replace hx253_0 := (HB.out.cell (World.block_lt_of_cell? w _ hx253_0)).trans hx253_0
   replace hx253_1 := (HB.out.cell (World.block_lt_of_cell? w _ hx253_1)).trans hx253_1
   replace hx253_2 := (HB.out.cell (World.block_lt_of_cell? w _ hx253_2)).trans hx253_2
   replace p253 := eq_true p253
   replace q253 := eq_true q253
   have p254 : 0 ≤ (x5_1 : Int) := of_decide_eq_true (by assumption)
   have q254 : x5_1 < (l0_3.length : Int) := of_decide_eq_true (by assumption)
   obtain ⟨ad254, e254, hx254_0, hx254_1, hx254_2⟩ := at_T48 HR0_3.out x5_1 p254 q254
   obtain rfl : ad252 = ad254 := (by injection e254)
   replace hx254_0 := (HB.out.cell (World.block_lt_of_cell? w _ hx254_0)).trans hx254_0
   replace hx254_1 := (HB.out.cell (World.block_lt_of_cell? w _ hx254_1)).trans hx254_1
   replace hx254_2 := (HB.out.cell (World.block_lt_of_cell? w _ hx254_2)).trans hx254_2
   replace p254 := eq_true p254
   replace q254 := eq_true q254
   go_wp2
   go_ret
   exact ⟨rfl, HB.out⟩

end Go.Proofs.YtfedmcehkpfciaaGreat.P
