/- What functions of the program return: each contract says so of one function, for every input at which its pure function yields. -/
import Derived.Test.YtnaahepnabmibaaGreatDoorPx0
import Derived.Test.YtnaahepnabmibaaGreatDoorPx1
namespace Go.Proofs.YtnaahepnabmibaaGreatDoor.P
open Go.RowKit Go.Proofs.YtnaahepnabmibaaGreatDoorW.PrintWords Go.Proofs.YtnaahepnabmibaaGreatDoorW.PrintLast Go.Proofs.YtnaahepnabmibaaGreatDoorW.PrintMore
attribute [local go_sem] max2_int min2_int max_two min_two max_three min_three max_four min_four   -- for this text's walks alone
set_option linter.unusedVariables false
set_option linter.unusedSimpArgs false

attribute [local go_sem high] eqA32
def gangsawref30_same.l0 : Nat → List Int → List Int → Int → Option (Bool)
 | 0, _, _, _ => none
 | k + 1, x0, x1, x5 => if x5 < (x0.length : Int) then (if 0 ≤ x5 then (if x5 < (x1.length : Int) then (if (rd x0 x5) = (rd x1 x5) then (gangsawref30_same.l0 k x0 x1 (wrap64 (x5 + 1))) else (some false)) else (none)) else (none)) else (some true)
def gangsawref30_same.f (k : Nat) (l0 : List Int) (l1 : List Int) : Option (Bool) := if (l0.length : Int) = (l1.length : Int) then (gangsawref30_same.l0 k l0 l1 0) else (some false)
theorem gangsawref30_same.mono_l : ∀ k, (∀ y0 y1 y2, LeO (gangsawref30_same.l0 k y0 y1 y2) (gangsawref30_same.l0 (k + 1) y0 y1 y2))
 | 0 => fun _ _ _ r h => by simp [gangsawref30_same.l0] at h
 | k + 1 => by
  have ih0 := gangsawref30_same.mono_l k
  ·intro y0 y1 y2
   unfold gangsawref30_same.l0
   repeat' first
   | (with_reducible exact ih0 _ _ _)
   | (with_reducible exact LeO.refl _)
   | (with_reducible exact LeO.none _)
   | (with_reducible refine LeO.ite ?_ ?_)
   | (with_reducible refine LeO.bind ?_ (fun _ => ?_))
   | exact ih0 _ _ _
   | exact LeO.none _
   | refine LeO.ite ?_ ?_
   | refine LeO.bind ?_ (fun _ => ?_)
theorem gangsawref30_same.mono : ∀ a0 a1 k, LeO (gangsawref30_same.f k a0 a1) (gangsawref30_same.f (k + 1) a0 a1) := by
 intro a0 a1 k
 have ih0 := gangsawref30_same.mono_l k
 unfold gangsawref30_same.f
 repeat' first
   | (with_reducible exact ih0 _ _ _)
   | (with_reducible exact LeO.refl _)
   | (with_reducible exact LeO.none _)
   | (with_reducible refine LeO.ite ?_ ?_)
   | (with_reducible refine LeO.bind ?_ (fun _ => ?_))
   | exact ih0 _ _ _
   | exact LeO.none _
   | refine LeO.ite ?_ ?_
   | refine LeO.bind ?_ (fun _ => ?_)
set_option maxHeartbeats 8000000 in
set_option maxRecDepth 100000 in
theorem gangsawref30_same.calls (k : Nat) (A0 : Option Addr) (c0 : Nat) (l0 : List Int) (A1 : Option Addr) (c1 : Nat) (l1 : List Int) (r : Bool) (w : World) (hr0 : Kd.C (Kd.int .i64) w A0 l0.length l0) (hc0 : l0.length ≤ c0) (hr1 : Kd.C (Kd.int .i64) w A1 l1.length l1) (hc1 : l1.length ≤ c1) (h : gangsawref30_same.f k l0 l1 = some r) :
  Calls Tryz.prog 46 #[.slice A0 l0.length c0, .slice A1 l1.length c1] w fun e w' => e = .returned (.bool r) ∧ Drawn0 w w' := by
 have HR0 := aK hr0
 have HC0 := aK hc0
 clear hr0 hc0
 have HR1 := aK hr1
 have HC1 := aK hc1
 clear hr1 hc1
 have H : (if (l0.length : Int) = (l1.length : Int) then (gangsawref30_same.l0 k l0 l1 0) else (some false)) = some r := h
 clear h
 by_cases c3 : (l0.length : Int) = (l1.length : Int)
 rotate_left
 ·rw [if_neg c3] at H
  have c3b0 : ((l0.length : Int) == (l1.length : Int)) = false := beq_eq_false_iff_ne.mpr c3
  have c3b1 : ((l0.length : Int) != (l1.length : Int)) = true := bne_iff_ne.mpr c3
  have c3b2 : (l0.length == l1.length) = false := by first | simpa using c3 | (simp at c3 ⊢; omega)
  obtain rfl := Option.some.inj H
  simp only [Option.some.injEq, Prod.mk.injEq] at H
  obtain ⟨rfl⟩ := H
  go_enter Tryz.func46, Tryz.ntmps46
  go_wp2
  go_ret
  exact ⟨by first | rfl | (simp; done) | (simp [*]; done), by repeat (first | exact Drawn0.refl _ | apply Drawn0.step)⟩
 rw [if_pos c3] at H
 have c3b0 : ((l0.length : Int) == (l1.length : Int)) = true := beq_iff_eq.mpr c3
 have c3b1 : ((l0.length : Int) != (l1.length : Int)) = false := bne_eq_false_iff_eq.mpr c3
 have c3b2 : (l0.length == l1.length) = true := by first | simpa using c3 | (simp at c3 ⊢; omega)
 clear c3
 have H' := aK H
 clear H
 go_enter Tryz.func46, Tryz.ntmps46
 go_wp2
 go_loopg [5] k (fun kq v5 w' => ∃ (x5_1 : Int), v5 = .int .i64 x5_1 ∧ Aside0 (gangsawref30_same.l0 kq l0 l1 x5_1 = some r) ∧ Aside0 (kq ≤ k) ∧ Drawn0 w w')
 case atStart => exact ⟨(0), (by first | rfl | (simp; done) | (simp [*]; done)), H', ⟨Nat.le_refl _⟩, by repeat (first | exact Drawn0.refl _ | apply Drawn0.step)⟩
 case round =>
  clear H'
  try clear c1
  try clear p2
  try clear c3
  try clear c3b0
  try clear c3b1
  try clear c3b2
  obtain ⟨x5_1, rfl, HA, HK1, ⟨m1, rfl⟩⟩ := hrel
  cases gk with
  | zero => exact absurd HA.out (by simp [gangsawref30_same.l0])
  | succ k1 =>
   have H := HA.out
   clear HA
   simp only [gangsawref30_same.l0] at H
   by_cases c4 : x5_1 < (l0.length : Int)
   rotate_left
   ·rw [if_neg c4] at H
    have c4b0 : decide (x5_1 < (l0.length : Int)) = false := decide_eq_false c4
    clear c4
    obtain rfl := Option.some.inj H
    simp only [Option.some.injEq, Prod.mk.injEq] at H
    obtain ⟨rfl⟩ := H
    go_wp2
    go_ret
    exact ⟨by first | rfl | (simp; done) | (simp [*]; done), by repeat (first | exact Drawn0.refl _ | apply Drawn0.step)⟩
   rw [if_pos c4] at H
   have c4b0 : decide (x5_1 < (l0.length : Int)) = true := decide_eq_true c4
   clear c4
   by_cases c5 : 0 ≤ x5_1
   rotate_left
   ·rw [if_neg c5] at H
    exact absurd H (by simp)
   rw [if_pos c5] at H
   have c5b0 : decide (0 ≤ x5_1) = true := decide_eq_true c5
   clear c5
   by_cases c6 : x5_1 < (l1.length : Int)
   rotate_left
   ·rw [if_neg c6] at H
    exact absurd H (by simp)
   rw [if_pos c6] at H
   have c6b0 : decide (x5_1 < (l1.length : Int)) = true := decide_eq_true c6
   clear c6
   by_cases c7 : (rd l0 x5_1) = (rd l1 x5_1)
   rotate_left
   ·rw [if_neg c7] at H
    have c7b0 : ((rd l0 x5_1) == (rd l1 x5_1)) = false := beq_eq_false_iff_ne.mpr c7
    have c7b1 : ((rd l0 x5_1) != (rd l1 x5_1)) = true := bne_iff_ne.mpr c7
    obtain rfl := Option.some.inj H
    simp only [Option.some.injEq, Prod.mk.injEq] at H
    obtain ⟨rfl⟩ := H
    have p173 : 0 ≤ (x5_1 : Int) := of_decide_eq_true (by assumption)
    have q173 : x5_1 < (l0.length : Int) := of_decide_eq_true (by assumption)
    obtain ⟨ad173, e173, hx173_0⟩ := Kd.at_int HR0.out x5_1 p173 q173
    cases e173
    replace p173 := eq_true p173
    replace q173 := eq_true q173
    have p174 : 0 ≤ (x5_1 : Int) := of_decide_eq_true (by assumption)
    have q174 : x5_1 < (l1.length : Int) := of_decide_eq_true (by assumption)
    obtain ⟨ad174, e174, hx174_0⟩ := Kd.at_int HR1.out x5_1 p174 q174
    cases e174
    replace p174 := eq_true p174
    replace q174 := eq_true q174
    go_wp2
    repeat (go_quiet (fail); try go_wp2)
    go_ret
    exact ⟨by first | rfl | (simp; done) | (simp [*]; done), by repeat (first | exact Drawn0.refl _ | apply Drawn0.step)⟩
   rw [if_pos c7] at H
   have c7b0 : ((rd l0 x5_1) == (rd l1 x5_1)) = true := beq_iff_eq.mpr c7
   have c7b1 : ((rd l0 x5_1) != (rd l1 x5_1)) = false := bne_eq_false_iff_eq.mpr c7
   clear c7
   have H' := aK H
   clear H
   have p173 : 0 ≤ (x5_1 : Int) := of_decide_eq_true (by assumption)
   have q173 : x5_1 < (l0.length : Int) := of_decide_eq_true (by assumption)
   obtain ⟨ad173, e173, hx173_0⟩ := Kd.at_int HR0.out x5_1 p173 q173
   cases e173
   replace p173 := eq_true p173
   replace q173 := eq_true q173
   have p174 : 0 ≤ (x5_1 : Int) := of_decide_eq_true (by assumption)
   have q174 : x5_1 < (l1.length : Int) := of_decide_eq_true (by assumption)
   obtain ⟨ad174, e174, hx174_0⟩ := Kd.at_int HR1.out x5_1 p174 q174
   cases e174
   replace p174 := eq_true p174
   replace q174 := eq_true q174
   go_wp2
   repeat (go_quiet (fail); try go_wp2)
   go_roundg k1
   case measure => have := HK1.out; omega
   case rel => exact ⟨(wrap64 (x5_1 + 1)), (by first | rfl | (simp; done) | (simp [*]; done)), H', ⟨by have := HK1.out; omega⟩, by repeat (first | exact Drawn0.refl _ | apply Drawn0.step)⟩

def gangsawref30_Equal.f (k : Nat) (a0_0 : ByteArray) (a0_1 : ByteArray) (a0_2 : Int) (a0_3 : Int) (a0_4 : Int) (a0_5 : Int) (a0_6 : Int) (a0_7 : Int) (a0_8 : Int) (a0_9 : Int) (l0_10 : List Int) (l0_11 : List Int) (a1_0 : ByteArray) (a1_1 : ByteArray) (a1_2 : Int) (a1_3 : Int) (a1_4 : Int) (a1_5 : Int) (a1_6 : Int) (a1_7 : Int) (a1_8 : Int) (a1_9 : Int) (l1_10 : List Int) (l1_11 : List Int) : Option (Bool) := if a0_0.toList = a1_0.toList then (if a0_1.toList = a1_1.toList then (if a0_2 = a1_2 then (if ((a0_3 == a1_3 && (a0_4 == a1_4 && (a0_5 == a1_5))) && ((a0_6 == a1_6 && (a0_7 == a1_7 && (a0_8 == a1_8))))) = true then (if a0_9 = a1_9 then ((gangsawref30_same.f k l0_10 l1_10).bind fun t177 => (if t177 = true then ((gangsawref30_same.f k l0_11 l1_11).bind fun t178 => (some t178)) else (some false))) else (some false)) else (some false)) else (some false)) else (some false)) else (some false)
theorem gangsawref30_Equal.mono : ∀ a0 a1 a2 a3 a4 a5 a6 a7 a8 a9 a10 a11 a12 a13 a14 a15 a16 a17 a18 a19 a20 a21 a22 a23 k, LeO (gangsawref30_Equal.f k a0 a1 a2 a3 a4 a5 a6 a7 a8 a9 a10 a11 a12 a13 a14 a15 a16 a17 a18 a19 a20 a21 a22 a23) (gangsawref30_Equal.f (k + 1) a0 a1 a2 a3 a4 a5 a6 a7 a8 a9 a10 a11 a12 a13 a14 a15 a16 a17 a18 a19 a20 a21 a22 a23) := by
 intro a0 a1 a2 a3 a4 a5 a6 a7 a8 a9 a10 a11 a12 a13 a14 a15 a16 a17 a18 a19 a20 a21 a22 a23 k
 unfold gangsawref30_Equal.f
 repeat' first
   | (with_reducible exact gangsawref30_same.mono _ _ _)
   | (with_reducible exact LeO.refl _)
   | (with_reducible exact LeO.none _)
   | (with_reducible refine LeO.ite ?_ ?_)
   | (with_reducible refine LeO.bind ?_ (fun _ => ?_))
   | exact gangsawref30_same.mono _ _ _
   | exact LeO.none _
   | refine LeO.ite ?_ ?_
   | refine LeO.bind ?_ (fun _ => ?_)
set_option maxHeartbeats 8000000 in
set_option maxRecDepth 100000 in
theorem gangsawref30_Equal.calls (k : Nat) (a0_0 : ByteArray) (a0_1 : ByteArray) (a0_2 : Int) (a0_3 : Int) (a0_4 : Int) (a0_5 : Int) (a0_6 : Int) (a0_7 : Int) (a0_8 : Int) (a0_9 : Int) (A0_10 : Option Addr) (c0_10 : Nat) (l0_10 : List Int) (A0_11 : Option Addr) (c0_11 : Nat) (l0_11 : List Int) (a1_0 : ByteArray) (a1_1 : ByteArray) (a1_2 : Int) (a1_3 : Int) (a1_4 : Int) (a1_5 : Int) (a1_6 : Int) (a1_7 : Int) (a1_8 : Int) (a1_9 : Int) (A1_10 : Option Addr) (c1_10 : Nat) (l1_10 : List Int) (A1_11 : Option Addr) (c1_11 : Nat) (l1_11 : List Int) (r : Bool) (w : World) (hr0_10 : Kd.C (Kd.int .i64) w A0_10 l0_10.length l0_10) (hc0_10 : l0_10.length ≤ c0_10) (hr0_11 : Kd.C (Kd.int .i64) w A0_11 l0_11.length l0_11) (hc0_11 : l0_11.length ≤ c0_11) (hr1_10 : Kd.C (Kd.int .i64) w A1_10 l1_10.length l1_10) (hc1_10 : l1_10.length ≤ c1_10) (hr1_11 : Kd.C (Kd.int .i64) w A1_11 l1_11.length l1_11) (hc1_11 : l1_11.length ≤ c1_11) (h : gangsawref30_Equal.f k a0_0 a0_1 a0_2 a0_3 a0_4 a0_5 a0_6 a0_7 a0_8 a0_9 l0_10 l0_11 a1_0 a1_1 a1_2 a1_3 a1_4 a1_5 a1_6 a1_7 a1_8 a1_9 l1_10 l1_11 = some r) :
  Calls Tryz.prog 14 #[.agg #[.string a0_0, .string a0_1, .int .i64 a0_2, .int .i64 a0_3, .int .i64 a0_4, .int .i64 a0_5, .int .i64 a0_6, .int .i64 a0_7, .int .i64 a0_8, .int .i64 a0_9, .slice A0_10 l0_10.length c0_10, .slice A0_11 l0_11.length c0_11], .agg #[.string a1_0, .string a1_1, .int .i64 a1_2, .int .i64 a1_3, .int .i64 a1_4, .int .i64 a1_5, .int .i64 a1_6, .int .i64 a1_7, .int .i64 a1_8, .int .i64 a1_9, .slice A1_10 l1_10.length c1_10, .slice A1_11 l1_11.length c1_11]] w fun e w' => e = .returned (.bool r) ∧ Below w.heap.size w w' := by
 have hu35 := Tryz.underlying35
 have hu32 := Tryz.underlying32
 have HR0_10 := aK hr0_10
 have HC0_10 := aK hc0_10
 clear hr0_10 hc0_10
 have HR0_11 := aK hr0_11
 have HC0_11 := aK hc0_11
 clear hr0_11 hc0_11
 have HR1_10 := aK hr1_10
 have HC1_10 := aK hc1_10
 clear hr1_10 hc1_10
 have HR1_11 := aK hr1_11
 have HC1_11 := aK hc1_11
 clear hr1_11 hc1_11
 have HB := aK (Below.refl w.heap.size w)
 have H : (if a0_0.toList = a1_0.toList then (if a0_1.toList = a1_1.toList then (if a0_2 = a1_2 then (if ((a0_3 == a1_3 && (a0_4 == a1_4 && (a0_5 == a1_5))) && ((a0_6 == a1_6 && (a0_7 == a1_7 && (a0_8 == a1_8))))) = true then (if a0_9 = a1_9 then ((gangsawref30_same.f k l0_10 l1_10).bind fun t177 => (if t177 = true then ((gangsawref30_same.f k l0_11 l1_11).bind fun t178 => (some t178)) else (some false))) else (some false)) else (some false)) else (some false)) else (some false)) else (some false)) = some r := h
 clear h
 by_cases c3 : a0_0.toList = a1_0.toList
 rotate_left
 ·rw [if_neg c3] at H
  have c3b0 : (a0_0.toList == a1_0.toList) = false := beq_eq_false_iff_ne.mpr c3
  have c3b1 : (a0_0.toList != a1_0.toList) = true := bne_iff_ne.mpr c3
  obtain rfl := Option.some.inj H
  simp only [Option.some.injEq, Prod.mk.injEq] at H
  obtain ⟨rfl⟩ := H
  go_enter Tryz.func14, Tryz.ntmps14
  go_wp2_with (first | ((with_reducible refine gate_dst (N := 2) rfl ?_); refine box_event ?hg (N := 2) ?hd (cs := #[.string a0_0, .string a0_1, .int .i64 a0_2, .int .i64 a0_3, .int .i64 a0_4, .int .i64 a0_5, .int .i64 a0_6, .int .i64 a0_7, .int .i64 a0_8, .int .i64 a0_9, .slice A0_10 l0_10.length c0_10, .slice A0_11 l0_11.length c0_11]) (t := 35) ?hr ?_; (case hd => rfl); (case hg => rfl); (case hr => first | (go_simp; done) | (go_simp; rfl)); intro gb175 hg w41 hbox hb; have n0_ := aK (yT (HB.out) hb); have n1_ := aK (hbox); have n2_ := aK ((by rw [hg]; exact (yZ (HB.out)) : w.heap.size ≤ gb175)); have n3_ := n2_; clear HB; have HB := n0_; have BK175 := n1_; have GW175 := n2_; have GE175 := n3_; clear n0_ n1_ n2_ n3_; clear hb hbox hg) | ((with_reducible refine gate_dst (N := 3) rfl ?_); refine box_event ?hg (N := 3) ?hd (cs := #[.string a1_0, .string a1_1, .int .i64 a1_2, .int .i64 a1_3, .int .i64 a1_4, .int .i64 a1_5, .int .i64 a1_6, .int .i64 a1_7, .int .i64 a1_8, .int .i64 a1_9, .slice A1_10 l1_10.length c1_10, .slice A1_11 l1_11.length c1_11]) (t := 35) ?hr ?_; (case hd => rfl); (case hg => rfl); (case hr => first | (go_simp; done) | (go_simp; rfl)); intro gb176 hg w42 hbox hb; have n0_ := aK (zB (g := gb175) (o := .cells #[.string a0_0, .string a0_1, .int .i64 a0_2, .int .i64 a0_3, .int .i64 a0_4, .int .i64 a0_5, .int .i64 a0_6, .int .i64 a0_7, .int .i64 a0_8, .int .i64 a0_9, .slice A0_10 l0_10.length c0_10, .slice A0_11 l0_11.length c0_11] 35 (0, 0)) (BK175.out) hb); have n1_ := aK (yT (HB.out) hb); have n2_ := aK (hbox); have n3_ := aK ((by rw [hg]; exact (yZ (HB.out)) : w.heap.size ≤ gb176)); have n4_ := n3_; have n5_ := aK ((by rw [hg]; exact Nat.ne_of_lt (blk_lt (g := gb175) (o := .cells #[.string a0_0, .string a0_1, .int .i64 a0_2, .int .i64 a0_3, .int .i64 a0_4, .int .i64 a0_5, .int .i64 a0_6, .int .i64 a0_7, .int .i64 a0_8, .int .i64 a0_9, .slice A0_10 l0_10.length c0_10, .slice A0_11 l0_11.length c0_11] 35 (0, 0)) (BK175.out)) : gb175 ≠ gb176)); have n6_ := aK ((by rw [hg]; exact Nat.ne_of_gt (blk_lt (g := gb175) (o := .cells #[.string a0_0, .string a0_1, .int .i64 a0_2, .int .i64 a0_3, .int .i64 a0_4, .int .i64 a0_5, .int .i64 a0_6, .int .i64 a0_7, .int .i64 a0_8, .int .i64 a0_9, .slice A0_10 l0_10.length c0_10, .slice A0_11 l0_11.length c0_11] 35 (0, 0)) (BK175.out)) : gb176 ≠ gb175)); clear BK175; clear HB; have BK175 := n0_; have HB := n1_; have BK176 := n2_; have GW176 := n3_; have GE176 := n4_; have NB175_176 := n5_; have NB176_175 := n6_; clear n0_ n1_ n2_ n3_ n4_ n5_ n6_; clear hb hbox hg; have hnb43 := NB175_176.out; have hnc43 := NB176_175.out; have hcz44_0 := zI BK175 0 rfl; have hcz44_1 := zI BK175 1 rfl; have hcz44_2 := zI BK175 2 rfl; have hcz44_3 := zI BK175 3 rfl; have hcz44_4 := zI BK175 4 rfl; have hcz44_5 := zI BK175 5 rfl; have hcz44_6 := zI BK175 6 rfl; have hcz44_7 := zI BK175 7 rfl; have hcz44_8 := zI BK175 8 rfl; have hcz44_9 := zI BK175 9 rfl; have hcz44_10 := zI BK175 10 rfl; have hcz44_11 := zI BK175 11 rfl; have hfz44_0 := zF BK175.out 0; have hfz44_1 := zF BK175.out 1; have hfz44_2 := zF BK175.out 2; have hfz44_3 := zF BK175.out 3; have hfz44_4 := zF BK175.out 4; have hfz44_5 := zF BK175.out 5; have hfz44_6 := zF BK175.out 6; have hfz44_7 := zF BK175.out 7; have hfz44_8 := zF BK175.out 8; have hfz44_9 := zF BK175.out 9; have hfz44_10 := zF BK175.out 10; have hfz44_11 := zF BK175.out 11; have hcz45_0 := zI BK176 0 rfl; have hcz45_1 := zI BK176 1 rfl; have hcz45_2 := zI BK176 2 rfl; have hcz45_3 := zI BK176 3 rfl; have hcz45_4 := zI BK176 4 rfl; have hcz45_5 := zI BK176 5 rfl; have hcz45_6 := zI BK176 6 rfl; have hcz45_7 := zI BK176 7 rfl; have hcz45_8 := zI BK176 8 rfl; have hcz45_9 := zI BK176 9 rfl; have hcz45_10 := zI BK176 10 rfl; have hcz45_11 := zI BK176 11 rfl; have hfz45_0 := zF BK176.out 0; have hfz45_1 := zF BK176.out 1; have hfz45_2 := zF BK176.out 2; have hfz45_3 := zF BK176.out 3; have hfz45_4 := zF BK176.out 4; have hfz45_5 := zF BK176.out 5; have hfz45_6 := zF BK176.out 6; have hfz45_7 := zF BK176.out 7; have hfz45_8 := zF BK176.out 8; have hfz45_9 := zF BK176.out 9; have hfz45_10 := zF BK176.out 10; have hfz45_11 := zF BK176.out 11))
  go_ret
  exact ⟨rfl, HB.out⟩
 rw [if_pos c3] at H
 have c3b0 : (a0_0.toList == a1_0.toList) = true := beq_iff_eq.mpr c3
 have c3b1 : (a0_0.toList != a1_0.toList) = false := bne_eq_false_iff_eq.mpr c3
 clear c3
 by_cases c4 : a0_1.toList = a1_1.toList
 rotate_left
 ·rw [if_neg c4] at H
  have c4b0 : (a0_1.toList == a1_1.toList) = false := beq_eq_false_iff_ne.mpr c4
  have c4b1 : (a0_1.toList != a1_1.toList) = true := bne_iff_ne.mpr c4
  obtain rfl := Option.some.inj H
  simp only [Option.some.injEq, Prod.mk.injEq] at H
  obtain ⟨rfl⟩ := H
  go_enter Tryz.func14, Tryz.ntmps14
  go_wp2_with (first | ((with_reducible refine gate_dst (N := 2) rfl ?_); refine box_event ?hg (N := 2) ?hd (cs := #[.string a0_0, .string a0_1, .int .i64 a0_2, .int .i64 a0_3, .int .i64 a0_4, .int .i64 a0_5, .int .i64 a0_6, .int .i64 a0_7, .int .i64 a0_8, .int .i64 a0_9, .slice A0_10 l0_10.length c0_10, .slice A0_11 l0_11.length c0_11]) (t := 35) ?hr ?_; (case hd => rfl); (case hg => rfl); (case hr => first | (go_simp; done) | (go_simp; rfl)); intro gb175 hg w36 hbox hb; have n0_ := aK (yT (HB.out) hb); have n1_ := aK (hbox); have n2_ := aK ((by rw [hg]; exact (yZ (HB.out)) : w.heap.size ≤ gb175)); have n3_ := n2_; clear HB; have HB := n0_; have BK175 := n1_; have GW175 := n2_; have GE175 := n3_; clear n0_ n1_ n2_ n3_; clear hb hbox hg) | ((with_reducible refine gate_dst (N := 3) rfl ?_); refine box_event ?hg (N := 3) ?hd (cs := #[.string a1_0, .string a1_1, .int .i64 a1_2, .int .i64 a1_3, .int .i64 a1_4, .int .i64 a1_5, .int .i64 a1_6, .int .i64 a1_7, .int .i64 a1_8, .int .i64 a1_9, .slice A1_10 l1_10.length c1_10, .slice A1_11 l1_11.length c1_11]) (t := 35) ?hr ?_; (case hd => rfl); (case hg => rfl); (case hr => first | (go_simp; done) | (go_simp; rfl)); intro gb176 hg w37 hbox hb; have n0_ := aK (zB (g := gb175) (o := .cells #[.string a0_0, .string a0_1, .int .i64 a0_2, .int .i64 a0_3, .int .i64 a0_4, .int .i64 a0_5, .int .i64 a0_6, .int .i64 a0_7, .int .i64 a0_8, .int .i64 a0_9, .slice A0_10 l0_10.length c0_10, .slice A0_11 l0_11.length c0_11] 35 (0, 0)) (BK175.out) hb); have n1_ := aK (yT (HB.out) hb); have n2_ := aK (hbox); have n3_ := aK ((by rw [hg]; exact (yZ (HB.out)) : w.heap.size ≤ gb176)); have n4_ := n3_; have n5_ := aK ((by rw [hg]; exact Nat.ne_of_lt (blk_lt (g := gb175) (o := .cells #[.string a0_0, .string a0_1, .int .i64 a0_2, .int .i64 a0_3, .int .i64 a0_4, .int .i64 a0_5, .int .i64 a0_6, .int .i64 a0_7, .int .i64 a0_8, .int .i64 a0_9, .slice A0_10 l0_10.length c0_10, .slice A0_11 l0_11.length c0_11] 35 (0, 0)) (BK175.out)) : gb175 ≠ gb176)); have n6_ := aK ((by rw [hg]; exact Nat.ne_of_gt (blk_lt (g := gb175) (o := .cells #[.string a0_0, .string a0_1, .int .i64 a0_2, .int .i64 a0_3, .int .i64 a0_4, .int .i64 a0_5, .int .i64 a0_6, .int .i64 a0_7, .int .i64 a0_8, .int .i64 a0_9, .slice A0_10 l0_10.length c0_10, .slice A0_11 l0_11.length c0_11] 35 (0, 0)) (BK175.out)) : gb176 ≠ gb175)); clear BK175; clear HB; have BK175 := n0_; have HB := n1_; have BK176 := n2_; have GW176 := n3_; have GE176 := n4_; have NB175_176 := n5_; have NB176_175 := n6_; clear n0_ n1_ n2_ n3_ n4_ n5_ n6_; clear hb hbox hg; have hnb38 := NB175_176.out; have hnc38 := NB176_175.out; have hcz39_0 := zI BK175 0 rfl; have hcz39_1 := zI BK175 1 rfl; have hcz39_2 := zI BK175 2 rfl; have hcz39_3 := zI BK175 3 rfl; have hcz39_4 := zI BK175 4 rfl; have hcz39_5 := zI BK175 5 rfl; have hcz39_6 := zI BK175 6 rfl; have hcz39_7 := zI BK175 7 rfl; have hcz39_8 := zI BK175 8 rfl; have hcz39_9 := zI BK175 9 rfl; have hcz39_10 := zI BK175 10 rfl; have hcz39_11 := zI BK175 11 rfl; have hfz39_0 := zF BK175.out 0; have hfz39_1 := zF BK175.out 1; have hfz39_2 := zF BK175.out 2; have hfz39_3 := zF BK175.out 3; have hfz39_4 := zF BK175.out 4; have hfz39_5 := zF BK175.out 5; have hfz39_6 := zF BK175.out 6; have hfz39_7 := zF BK175.out 7; have hfz39_8 := zF BK175.out 8; have hfz39_9 := zF BK175.out 9; have hfz39_10 := zF BK175.out 10; have hfz39_11 := zF BK175.out 11; have hcz40_0 := zI BK176 0 rfl; have hcz40_1 := zI BK176 1 rfl; have hcz40_2 := zI BK176 2 rfl; have hcz40_3 := zI BK176 3 rfl; have hcz40_4 := zI BK176 4 rfl; have hcz40_5 := zI BK176 5 rfl; have hcz40_6 := zI BK176 6 rfl; have hcz40_7 := zI BK176 7 rfl; have hcz40_8 := zI BK176 8 rfl; have hcz40_9 := zI BK176 9 rfl; have hcz40_10 := zI BK176 10 rfl; have hcz40_11 := zI BK176 11 rfl; have hfz40_0 := zF BK176.out 0; have hfz40_1 := zF BK176.out 1; have hfz40_2 := zF BK176.out 2; have hfz40_3 := zF BK176.out 3; have hfz40_4 := zF BK176.out 4; have hfz40_5 := zF BK176.out 5; have hfz40_6 := zF BK176.out 6; have hfz40_7 := zF BK176.out 7; have hfz40_8 := zF BK176.out 8; have hfz40_9 := zF BK176.out 9; have hfz40_10 := zF BK176.out 10; have hfz40_11 := zF BK176.out 11))
  go_ret
  exact ⟨rfl, HB.out⟩
 rw [if_pos c4] at H
 have c4b0 : (a0_1.toList == a1_1.toList) = true := beq_iff_eq.mpr c4
 have c4b1 : (a0_1.toList != a1_1.toList) = false := bne_eq_false_iff_eq.mpr c4
 clear c4
 by_cases c5 : a0_2 = a1_2
 rotate_left
 ·rw [if_neg c5] at H
  have c5b0 : (a0_2 == a1_2) = false := beq_eq_false_iff_ne.mpr c5
  have c5b1 : (a0_2 != a1_2) = true := bne_iff_ne.mpr c5
  obtain rfl := Option.some.inj H
  simp only [Option.some.injEq, Prod.mk.injEq] at H
  obtain ⟨rfl⟩ := H
  go_enter Tryz.func14, Tryz.ntmps14
  go_wp2_with (first | ((with_reducible refine gate_dst (N := 2) rfl ?_); refine box_event ?hg (N := 2) ?hd (cs := #[.string a0_0, .string a0_1, .int .i64 a0_2, .int .i64 a0_3, .int .i64 a0_4, .int .i64 a0_5, .int .i64 a0_6, .int .i64 a0_7, .int .i64 a0_8, .int .i64 a0_9, .slice A0_10 l0_10.length c0_10, .slice A0_11 l0_11.length c0_11]) (t := 35) ?hr ?_; (case hd => rfl); (case hg => rfl); (case hr => first | (go_simp; done) | (go_simp; rfl)); intro gb175 hg w31 hbox hb; have n0_ := aK (yT (HB.out) hb); have n1_ := aK (hbox); have n2_ := aK ((by rw [hg]; exact (yZ (HB.out)) : w.heap.size ≤ gb175)); have n3_ := n2_; clear HB; have HB := n0_; have BK175 := n1_; have GW175 := n2_; have GE175 := n3_; clear n0_ n1_ n2_ n3_; clear hb hbox hg) | ((with_reducible refine gate_dst (N := 3) rfl ?_); refine box_event ?hg (N := 3) ?hd (cs := #[.string a1_0, .string a1_1, .int .i64 a1_2, .int .i64 a1_3, .int .i64 a1_4, .int .i64 a1_5, .int .i64 a1_6, .int .i64 a1_7, .int .i64 a1_8, .int .i64 a1_9, .slice A1_10 l1_10.length c1_10, .slice A1_11 l1_11.length c1_11]) (t := 35) ?hr ?_; (case hd => rfl); (case hg => rfl); (case hr => first | (go_simp; done) | (go_simp; rfl)); intro gb176 hg w32 hbox hb; have n0_ := aK (zB (g := gb175) (o := .cells #[.string a0_0, .string a0_1, .int .i64 a0_2, .int .i64 a0_3, .int .i64 a0_4, .int .i64 a0_5, .int .i64 a0_6, .int .i64 a0_7, .int .i64 a0_8, .int .i64 a0_9, .slice A0_10 l0_10.length c0_10, .slice A0_11 l0_11.length c0_11] 35 (0, 0)) (BK175.out) hb); have n1_ := aK (yT (HB.out) hb); have n2_ := aK (hbox); have n3_ := aK ((by rw [hg]; exact (yZ (HB.out)) : w.heap.size ≤ gb176)); have n4_ := n3_; have n5_ := aK ((by rw [hg]; exact Nat.ne_of_lt (blk_lt (g := gb175) (o := .cells #[.string a0_0, .string a0_1, .int .i64 a0_2, .int .i64 a0_3, .int .i64 a0_4, .int .i64 a0_5, .int .i64 a0_6, .int .i64 a0_7, .int .i64 a0_8, .int .i64 a0_9, .slice A0_10 l0_10.length c0_10, .slice A0_11 l0_11.length c0_11] 35 (0, 0)) (BK175.out)) : gb175 ≠ gb176)); have n6_ := aK ((by rw [hg]; exact Nat.ne_of_gt (blk_lt (g := gb175) (o := .cells #[.string a0_0, .string a0_1, .int .i64 a0_2, .int .i64 a0_3, .int .i64 a0_4, .int .i64 a0_5, .int .i64 a0_6, .int .i64 a0_7, .int .i64 a0_8, .int .i64 a0_9, .slice A0_10 l0_10.length c0_10, .slice A0_11 l0_11.length c0_11] 35 (0, 0)) (BK175.out)) : gb176 ≠ gb175)); clear BK175; clear HB; have BK175 := n0_; have HB := n1_; have BK176 := n2_; have GW176 := n3_; have GE176 := n4_; have NB175_176 := n5_; have NB176_175 := n6_; clear n0_ n1_ n2_ n3_ n4_ n5_ n6_; clear hb hbox hg; have hnb33 := NB175_176.out; have hnc33 := NB176_175.out; have hcz34_0 := zI BK175 0 rfl; have hcz34_1 := zI BK175 1 rfl; have hcz34_2 := zI BK175 2 rfl; have hcz34_3 := zI BK175 3 rfl; have hcz34_4 := zI BK175 4 rfl; have hcz34_5 := zI BK175 5 rfl; have hcz34_6 := zI BK175 6 rfl; have hcz34_7 := zI BK175 7 rfl; have hcz34_8 := zI BK175 8 rfl; have hcz34_9 := zI BK175 9 rfl; have hcz34_10 := zI BK175 10 rfl; have hcz34_11 := zI BK175 11 rfl; have hfz34_0 := zF BK175.out 0; have hfz34_1 := zF BK175.out 1; have hfz34_2 := zF BK175.out 2; have hfz34_3 := zF BK175.out 3; have hfz34_4 := zF BK175.out 4; have hfz34_5 := zF BK175.out 5; have hfz34_6 := zF BK175.out 6; have hfz34_7 := zF BK175.out 7; have hfz34_8 := zF BK175.out 8; have hfz34_9 := zF BK175.out 9; have hfz34_10 := zF BK175.out 10; have hfz34_11 := zF BK175.out 11; have hcz35_0 := zI BK176 0 rfl; have hcz35_1 := zI BK176 1 rfl; have hcz35_2 := zI BK176 2 rfl; have hcz35_3 := zI BK176 3 rfl; have hcz35_4 := zI BK176 4 rfl; have hcz35_5 := zI BK176 5 rfl; have hcz35_6 := zI BK176 6 rfl; have hcz35_7 := zI BK176 7 rfl; have hcz35_8 := zI BK176 8 rfl; have hcz35_9 := zI BK176 9 rfl; have hcz35_10 := zI BK176 10 rfl; have hcz35_11 := zI BK176 11 rfl; have hfz35_0 := zF BK176.out 0; have hfz35_1 := zF BK176.out 1; have hfz35_2 := zF BK176.out 2; have hfz35_3 := zF BK176.out 3; have hfz35_4 := zF BK176.out 4; have hfz35_5 := zF BK176.out 5; have hfz35_6 := zF BK176.out 6; have hfz35_7 := zF BK176.out 7; have hfz35_8 := zF BK176.out 8; have hfz35_9 := zF BK176.out 9; have hfz35_10 := zF BK176.out 10; have hfz35_11 := zF BK176.out 11))
  go_ret
  exact ⟨rfl, HB.out⟩
 rw [if_pos c5] at H
 have c5b0 : (a0_2 == a1_2) = true := beq_iff_eq.mpr c5
 have c5b1 : (a0_2 != a1_2) = false := bne_eq_false_iff_eq.mpr c5
 clear c5
 by_cases c6 : ((a0_3 == a1_3 && (a0_4 == a1_4 && (a0_5 == a1_5))) && ((a0_6 == a1_6 && (a0_7 == a1_7 && (a0_8 == a1_8))))) = true
 rotate_left
 ·rw [if_neg c6] at H
  have c6b0 : ((a0_3 == a1_3 && (a0_4 == a1_4 && (a0_5 == a1_5))) && ((a0_6 == a1_6 && (a0_7 == a1_7 && (a0_8 == a1_8))))) = false := by simpa using c6
  clear c6
  obtain rfl := Option.some.inj H
  simp only [Option.some.injEq, Prod.mk.injEq] at H
  obtain ⟨rfl⟩ := H
  go_enter Tryz.func14, Tryz.ntmps14
  go_wp2_with (first | ((with_reducible refine gate_dst (N := 2) rfl ?_); refine box_event ?hg (N := 2) ?hd (cs := #[.string a0_0, .string a0_1, .int .i64 a0_2, .int .i64 a0_3, .int .i64 a0_4, .int .i64 a0_5, .int .i64 a0_6, .int .i64 a0_7, .int .i64 a0_8, .int .i64 a0_9, .slice A0_10 l0_10.length c0_10, .slice A0_11 l0_11.length c0_11]) (t := 35) ?hr ?_; (case hd => rfl); (case hg => rfl); (case hr => first | (go_simp; done) | (go_simp; rfl)); intro gb175 hg w26 hbox hb; have n0_ := aK (yT (HB.out) hb); have n1_ := aK (hbox); have n2_ := aK ((by rw [hg]; exact (yZ (HB.out)) : w.heap.size ≤ gb175)); have n3_ := n2_; clear HB; have HB := n0_; have BK175 := n1_; have GW175 := n2_; have GE175 := n3_; clear n0_ n1_ n2_ n3_; clear hb hbox hg) | ((with_reducible refine gate_dst (N := 3) rfl ?_); refine box_event ?hg (N := 3) ?hd (cs := #[.string a1_0, .string a1_1, .int .i64 a1_2, .int .i64 a1_3, .int .i64 a1_4, .int .i64 a1_5, .int .i64 a1_6, .int .i64 a1_7, .int .i64 a1_8, .int .i64 a1_9, .slice A1_10 l1_10.length c1_10, .slice A1_11 l1_11.length c1_11]) (t := 35) ?hr ?_; (case hd => rfl); (case hg => rfl); (case hr => first | (go_simp; done) | (go_simp; rfl)); intro gb176 hg w27 hbox hb; have n0_ := aK (zB (g := gb175) (o := .cells #[.string a0_0, .string a0_1, .int .i64 a0_2, .int .i64 a0_3, .int .i64 a0_4, .int .i64 a0_5, .int .i64 a0_6, .int .i64 a0_7, .int .i64 a0_8, .int .i64 a0_9, .slice A0_10 l0_10.length c0_10, .slice A0_11 l0_11.length c0_11] 35 (0, 0)) (BK175.out) hb); have n1_ := aK (yT (HB.out) hb); have n2_ := aK (hbox); have n3_ := aK ((by rw [hg]; exact (yZ (HB.out)) : w.heap.size ≤ gb176)); have n4_ := n3_; have n5_ := aK ((by rw [hg]; exact Nat.ne_of_lt (blk_lt (g := gb175) (o := .cells #[.string a0_0, .string a0_1, .int .i64 a0_2, .int .i64 a0_3, .int .i64 a0_4, .int .i64 a0_5, .int .i64 a0_6, .int .i64 a0_7, .int .i64 a0_8, .int .i64 a0_9, .slice A0_10 l0_10.length c0_10, .slice A0_11 l0_11.length c0_11] 35 (0, 0)) (BK175.out)) : gb175 ≠ gb176)); have n6_ := aK ((by rw [hg]; exact Nat.ne_of_gt (blk_lt (g := gb175) (o := .cells #[.string a0_0, .string a0_1, .int .i64 a0_2, .int .i64 a0_3, .int .i64 a0_4, .int .i64 a0_5, .int .i64 a0_6, .int .i64 a0_7, .int .i64 a0_8, .int .i64 a0_9, .slice A0_10 l0_10.length c0_10, .slice A0_11 l0_11.length c0_11] 35 (0, 0)) (BK175.out)) : gb176 ≠ gb175)); clear BK175; clear HB; have BK175 := n0_; have HB := n1_; have BK176 := n2_; have GW176 := n3_; have GE176 := n4_; have NB175_176 := n5_; have NB176_175 := n6_; clear n0_ n1_ n2_ n3_ n4_ n5_ n6_; clear hb hbox hg; have hnb28 := NB175_176.out; have hnc28 := NB176_175.out; have hcz29_0 := zI BK175 0 rfl; have hcz29_1 := zI BK175 1 rfl; have hcz29_2 := zI BK175 2 rfl; have hcz29_3 := zI BK175 3 rfl; have hcz29_4 := zI BK175 4 rfl; have hcz29_5 := zI BK175 5 rfl; have hcz29_6 := zI BK175 6 rfl; have hcz29_7 := zI BK175 7 rfl; have hcz29_8 := zI BK175 8 rfl; have hcz29_9 := zI BK175 9 rfl; have hcz29_10 := zI BK175 10 rfl; have hcz29_11 := zI BK175 11 rfl; have hfz29_0 := zF BK175.out 0; have hfz29_1 := zF BK175.out 1; have hfz29_2 := zF BK175.out 2; have hfz29_3 := zF BK175.out 3; have hfz29_4 := zF BK175.out 4; have hfz29_5 := zF BK175.out 5; have hfz29_6 := zF BK175.out 6; have hfz29_7 := zF BK175.out 7; have hfz29_8 := zF BK175.out 8; have hfz29_9 := zF BK175.out 9; have hfz29_10 := zF BK175.out 10; have hfz29_11 := zF BK175.out 11; have hcz30_0 := zI BK176 0 rfl; have hcz30_1 := zI BK176 1 rfl; have hcz30_2 := zI BK176 2 rfl; have hcz30_3 := zI BK176 3 rfl; have hcz30_4 := zI BK176 4 rfl; have hcz30_5 := zI BK176 5 rfl; have hcz30_6 := zI BK176 6 rfl; have hcz30_7 := zI BK176 7 rfl; have hcz30_8 := zI BK176 8 rfl; have hcz30_9 := zI BK176 9 rfl; have hcz30_10 := zI BK176 10 rfl; have hcz30_11 := zI BK176 11 rfl; have hfz30_0 := zF BK176.out 0; have hfz30_1 := zF BK176.out 1; have hfz30_2 := zF BK176.out 2; have hfz30_3 := zF BK176.out 3; have hfz30_4 := zF BK176.out 4; have hfz30_5 := zF BK176.out 5; have hfz30_6 := zF BK176.out 6; have hfz30_7 := zF BK176.out 7; have hfz30_8 := zF BK176.out 8; have hfz30_9 := zF BK176.out 9; have hfz30_10 := zF BK176.out 10; have hfz30_11 := zF BK176.out 11))
  go_ret
  exact ⟨rfl, HB.out⟩
 rw [if_pos c6] at H
 have c6b0 : ((a0_3 == a1_3 && (a0_4 == a1_4 && (a0_5 == a1_5))) && ((a0_6 == a1_6 && (a0_7 == a1_7 && (a0_8 == a1_8))))) = true := c6
 clear c6
 by_cases c7 : a0_9 = a1_9
 rotate_left
 ·rw [if_neg c7] at H
  have c7b0 : (a0_9 == a1_9) = false := beq_eq_false_iff_ne.mpr c7
  have c7b1 : (a0_9 != a1_9) = true := bne_iff_ne.mpr c7
  obtain rfl := Option.some.inj H
  simp only [Option.some.injEq, Prod.mk.injEq] at H
  obtain ⟨rfl⟩ := H
  go_enter Tryz.func14, Tryz.ntmps14
  go_wp2_with (first | ((with_reducible refine gate_dst (N := 2) rfl ?_); refine box_event ?hg (N := 2) ?hd (cs := #[.string a0_0, .string a0_1, .int .i64 a0_2, .int .i64 a0_3, .int .i64 a0_4, .int .i64 a0_5, .int .i64 a0_6, .int .i64 a0_7, .int .i64 a0_8, .int .i64 a0_9, .slice A0_10 l0_10.length c0_10, .slice A0_11 l0_11.length c0_11]) (t := 35) ?hr ?_; (case hd => rfl); (case hg => rfl); (case hr => first | (go_simp; done) | (go_simp; rfl)); intro gb175 hg w21 hbox hb; have n0_ := aK (yT (HB.out) hb); have n1_ := aK (hbox); have n2_ := aK ((by rw [hg]; exact (yZ (HB.out)) : w.heap.size ≤ gb175)); have n3_ := n2_; clear HB; have HB := n0_; have BK175 := n1_; have GW175 := n2_; have GE175 := n3_; clear n0_ n1_ n2_ n3_; clear hb hbox hg) | ((with_reducible refine gate_dst (N := 3) rfl ?_); refine box_event ?hg (N := 3) ?hd (cs := #[.string a1_0, .string a1_1, .int .i64 a1_2, .int .i64 a1_3, .int .i64 a1_4, .int .i64 a1_5, .int .i64 a1_6, .int .i64 a1_7, .int .i64 a1_8, .int .i64 a1_9, .slice A1_10 l1_10.length c1_10, .slice A1_11 l1_11.length c1_11]) (t := 35) ?hr ?_; (case hd => rfl); (case hg => rfl); (case hr => first | (go_simp; done) | (go_simp; rfl)); intro gb176 hg w22 hbox hb; have n0_ := aK (zB (g := gb175) (o := .cells #[.string a0_0, .string a0_1, .int .i64 a0_2, .int .i64 a0_3, .int .i64 a0_4, .int .i64 a0_5, .int .i64 a0_6, .int .i64 a0_7, .int .i64 a0_8, .int .i64 a0_9, .slice A0_10 l0_10.length c0_10, .slice A0_11 l0_11.length c0_11] 35 (0, 0)) (BK175.out) hb); have n1_ := aK (yT (HB.out) hb); have n2_ := aK (hbox); have n3_ := aK ((by rw [hg]; exact (yZ (HB.out)) : w.heap.size ≤ gb176)); have n4_ := n3_; have n5_ := aK ((by rw [hg]; exact Nat.ne_of_lt (blk_lt (g := gb175) (o := .cells #[.string a0_0, .string a0_1, .int .i64 a0_2, .int .i64 a0_3, .int .i64 a0_4, .int .i64 a0_5, .int .i64 a0_6, .int .i64 a0_7, .int .i64 a0_8, .int .i64 a0_9, .slice A0_10 l0_10.length c0_10, .slice A0_11 l0_11.length c0_11] 35 (0, 0)) (BK175.out)) : gb175 ≠ gb176)); have n6_ := aK ((by rw [hg]; exact Nat.ne_of_gt (blk_lt (g := gb175) (o := .cells #[.string a0_0, .string a0_1, .int .i64 a0_2, .int .i64 a0_3, .int .i64 a0_4, .int .i64 a0_5, .int .i64 a0_6, .int .i64 a0_7, .int .i64 a0_8, .int .i64 a0_9, .slice A0_10 l0_10.length c0_10, .slice A0_11 l0_11.length c0_11] 35 (0, 0)) (BK175.out)) : gb176 ≠ gb175)); clear BK175; clear HB; have BK175 := n0_; have HB := n1_; have BK176 := n2_; have GW176 := n3_; have GE176 := n4_; have NB175_176 := n5_; have NB176_175 := n6_; clear n0_ n1_ n2_ n3_ n4_ n5_ n6_; clear hb hbox hg; have hnb23 := NB175_176.out; have hnc23 := NB176_175.out; have hcz24_0 := zI BK175 0 rfl; have hcz24_1 := zI BK175 1 rfl; have hcz24_2 := zI BK175 2 rfl; have hcz24_3 := zI BK175 3 rfl; have hcz24_4 := zI BK175 4 rfl; have hcz24_5 := zI BK175 5 rfl; have hcz24_6 := zI BK175 6 rfl; have hcz24_7 := zI BK175 7 rfl; have hcz24_8 := zI BK175 8 rfl; have hcz24_9 := zI BK175 9 rfl; have hcz24_10 := zI BK175 10 rfl; have hcz24_11 := zI BK175 11 rfl; have hfz24_0 := zF BK175.out 0; have hfz24_1 := zF BK175.out 1; have hfz24_2 := zF BK175.out 2; have hfz24_3 := zF BK175.out 3; have hfz24_4 := zF BK175.out 4; have hfz24_5 := zF BK175.out 5; have hfz24_6 := zF BK175.out 6; have hfz24_7 := zF BK175.out 7; have hfz24_8 := zF BK175.out 8; have hfz24_9 := zF BK175.out 9; have hfz24_10 := zF BK175.out 10; have hfz24_11 := zF BK175.out 11; have hcz25_0 := zI BK176 0 rfl; have hcz25_1 := zI BK176 1 rfl; have hcz25_2 := zI BK176 2 rfl; have hcz25_3 := zI BK176 3 rfl; have hcz25_4 := zI BK176 4 rfl; have hcz25_5 := zI BK176 5 rfl; have hcz25_6 := zI BK176 6 rfl; have hcz25_7 := zI BK176 7 rfl; have hcz25_8 := zI BK176 8 rfl; have hcz25_9 := zI BK176 9 rfl; have hcz25_10 := zI BK176 10 rfl; have hcz25_11 := zI BK176 11 rfl; have hfz25_0 := zF BK176.out 0; have hfz25_1 := zF BK176.out 1; have hfz25_2 := zF BK176.out 2; have hfz25_3 := zF BK176.out 3; have hfz25_4 := zF BK176.out 4; have hfz25_5 := zF BK176.out 5; have hfz25_6 := zF BK176.out 6; have hfz25_7 := zF BK176.out 7; have hfz25_8 := zF BK176.out 8; have hfz25_9 := zF BK176.out 9; have hfz25_10 := zF BK176.out 10; have hfz25_11 := zF BK176.out 11))
  go_ret
  exact ⟨rfl, HB.out⟩
 rw [if_pos c7] at H
 have c7b0 : (a0_9 == a1_9) = true := beq_iff_eq.mpr c7
 have c7b1 : (a0_9 != a1_9) = false := bne_eq_false_iff_eq.mpr c7
 clear c7
 replace H := Option.bind_eq_some_iff.mp H
 obtain ⟨t177, A80, H⟩ := H
 replace H : (if t177 = true then ((gangsawref30_same.f k l0_11 l1_11).bind fun t178 => (some t178)) else (some false)) = some r := H
 have A8 := aK A80
 clear A80
 by_cases c9 : t177 = true
 rotate_left
 ·replace c9 := Bool.eq_false_iff.mpr c9
  subst c9
  have H1 : (some false) = some r := by rw [if_neg (show ¬ (false = true) by decide)] at H; exact H
  clear H
  have H := H1
  clear H1
  obtain rfl := Option.some.inj H
  simp only [Option.some.injEq, Prod.mk.injEq] at H
  obtain ⟨rfl⟩ := H
  go_enter Tryz.func14, Tryz.ntmps14
  go_wp2_with (first | ((with_reducible refine gate_dst (N := 2) rfl ?_); refine box_event ?hg (N := 2) ?hd (cs := #[.string a0_0, .string a0_1, .int .i64 a0_2, .int .i64 a0_3, .int .i64 a0_4, .int .i64 a0_5, .int .i64 a0_6, .int .i64 a0_7, .int .i64 a0_8, .int .i64 a0_9, .slice A0_10 l0_10.length c0_10, .slice A0_11 l0_11.length c0_11]) (t := 35) ?hr ?_; (case hd => rfl); (case hg => rfl); (case hr => first | (go_simp; done) | (go_simp; rfl)); intro gb175 hg w16 hbox hb; have ⟨n0_, n2_⟩ := zV (w := w) hb hg (by repeat (first | (with_reducible first | exact HB.out | apply yA | apply yN | apply yD) | exact HB.out)); have n1_ := aK (hbox); have n3_ := n2_; clear HB; have HB := n0_; have BK175 := n1_; have GW175 := n2_; have GE175 := n3_; clear n0_ n1_ n2_ n3_; clear hb hbox hg) | ((with_reducible refine gate_dst (N := 3) rfl ?_); refine box_event ?hg (N := 3) ?hd (cs := #[.string a1_0, .string a1_1, .int .i64 a1_2, .int .i64 a1_3, .int .i64 a1_4, .int .i64 a1_5, .int .i64 a1_6, .int .i64 a1_7, .int .i64 a1_8, .int .i64 a1_9, .slice A1_10 l1_10.length c1_10, .slice A1_11 l1_11.length c1_11]) (t := 35) ?hr ?_; (case hd => rfl); (case hg => rfl); (case hr => first | (go_simp; done) | (go_simp; rfl)); intro gb176 hg w17 hbox hb; have n0_ := aK (zB (g := gb175) (o := .cells #[.string a0_0, .string a0_1, .int .i64 a0_2, .int .i64 a0_3, .int .i64 a0_4, .int .i64 a0_5, .int .i64 a0_6, .int .i64 a0_7, .int .i64 a0_8, .int .i64 a0_9, .slice A0_10 l0_10.length c0_10, .slice A0_11 l0_11.length c0_11] 35 (0, 0)) (BK175.out) hb); have ⟨n1_, n3_⟩ := zV (w := w) hb hg (by repeat (first | (with_reducible first | exact HB.out | apply yA | apply yN | apply yD | refine yS ?_ GE175.out) | exact HB.out)); have n2_ := aK (hbox); have n4_ := n3_; have n5_ := aK ((by rw [hg]; exact Nat.ne_of_lt (blk_lt (g := gb175) (o := .cells #[.string a0_0, .string a0_1, .int .i64 a0_2, .int .i64 a0_3, .int .i64 a0_4, .int .i64 a0_5, .int .i64 a0_6, .int .i64 a0_7, .int .i64 a0_8, .int .i64 a0_9, .slice A0_10 l0_10.length c0_10, .slice A0_11 l0_11.length c0_11] 35 (0, 0)) (BK175.out)) : gb175 ≠ gb176)); have n6_ := aK ((by rw [hg]; exact Nat.ne_of_gt (blk_lt (g := gb175) (o := .cells #[.string a0_0, .string a0_1, .int .i64 a0_2, .int .i64 a0_3, .int .i64 a0_4, .int .i64 a0_5, .int .i64 a0_6, .int .i64 a0_7, .int .i64 a0_8, .int .i64 a0_9, .slice A0_10 l0_10.length c0_10, .slice A0_11 l0_11.length c0_11] 35 (0, 0)) (BK175.out)) : gb176 ≠ gb175)); clear BK175; clear HB; have BK175 := n0_; have HB := n1_; have BK176 := n2_; have GW176 := n3_; have GE176 := n4_; have NB175_176 := n5_; have NB176_175 := n6_; clear n0_ n1_ n2_ n3_ n4_ n5_ n6_; clear hb hbox hg; have hnb18 := NB175_176.out; have hnc18 := NB176_175.out; have hcz19_0 := zI BK175 0 rfl; have hcz19_1 := zI BK175 1 rfl; have hcz19_2 := zI BK175 2 rfl; have hcz19_3 := zI BK175 3 rfl; have hcz19_4 := zI BK175 4 rfl; have hcz19_5 := zI BK175 5 rfl; have hcz19_6 := zI BK175 6 rfl; have hcz19_7 := zI BK175 7 rfl; have hcz19_8 := zI BK175 8 rfl; have hcz19_9 := zI BK175 9 rfl; have hcz19_10 := zI BK175 10 rfl; have hcz19_11 := zI BK175 11 rfl; have hfz19_0 := zF BK175.out 0; have hfz19_1 := zF BK175.out 1; have hfz19_2 := zF BK175.out 2; have hfz19_3 := zF BK175.out 3; have hfz19_4 := zF BK175.out 4; have hfz19_5 := zF BK175.out 5; have hfz19_6 := zF BK175.out 6; have hfz19_7 := zF BK175.out 7; have hfz19_8 := zF BK175.out 8; have hfz19_9 := zF BK175.out 9; have hfz19_10 := zF BK175.out 10; have hfz19_11 := zF BK175.out 11; have hcz20_0 := zI BK176 0 rfl; have hcz20_1 := zI BK176 1 rfl; have hcz20_2 := zI BK176 2 rfl; have hcz20_3 := zI BK176 3 rfl; have hcz20_4 := zI BK176 4 rfl; have hcz20_5 := zI BK176 5 rfl; have hcz20_6 := zI BK176 6 rfl; have hcz20_7 := zI BK176 7 rfl; have hcz20_8 := zI BK176 8 rfl; have hcz20_9 := zI BK176 9 rfl; have hcz20_10 := zI BK176 10 rfl; have hcz20_11 := zI BK176 11 rfl; have hfz20_0 := zF BK176.out 0; have hfz20_1 := zF BK176.out 1; have hfz20_2 := zF BK176.out 2; have hfz20_3 := zF BK176.out 3; have hfz20_4 := zF BK176.out 4; have hfz20_5 := zF BK176.out 5; have hfz20_6 := zF BK176.out 6; have hfz20_7 := zF BK176.out 7; have hfz20_8 := zF BK176.out 8; have hfz20_9 := zF BK176.out 9; have hfz20_10 := zF BK176.out 10; have hfz20_11 := zF BK176.out 11) | (go_at_call 46; (with_reducible refine (gangsawref30_same.calls k _ _ l0_10 _ _ l1_10 false _ ?side1 ?side2 ?side3 ?side4 A8.out).mono ?_); (case side1 => repeat (first | exact (Kd.C_below HR0_10.out HB.out) | (with_reducible refine Kd.C_alloc ?_ _) | (with_reducible refine Kd.C_drewN ?_ _) | (with_reducible refine Kd.C_drew ?_))); (case side2 => exact HC0_10.out); (case side3 => repeat (first | exact (Kd.C_below HR1_10.out HB.out) | (with_reducible refine Kd.C_alloc ?_ _) | (with_reducible refine Kd.C_drewN ?_ _) | (with_reducible refine Kd.C_drew ?_))); (case side4 => exact HC1_10.out); rintro e w' ⟨rfl, ⟨nd, rfl⟩⟩))
  go_ret
  exact ⟨rfl, by repeat (first | (with_reducible first | exact HB.out | apply yA | apply yN | apply yD | refine yS ?_ GE175.out | refine yS ?_ GE176.out) | exact HB.out)⟩
 subst c9
 have H1 : ((gangsawref30_same.f k l0_11 l1_11).bind fun t178 => (some t178)) = some r := by rw [if_pos rfl] at H; exact H
 clear H
 have H := H1
 clear H1
 replace H := Option.bind_eq_some_iff.mp H
 obtain ⟨t178, A100, H⟩ := H
 replace H : (some t178) = some r := H
 have A10 := aK A100
 clear A100
 obtain rfl := Option.some.inj H
 simp only [Option.some.injEq, Prod.mk.injEq] at H
 obtain ⟨rfl⟩ := H
 go_enter Tryz.func14, Tryz.ntmps14
 go_wp2_with (first | ((with_reducible refine gate_dst (N := 2) rfl ?_); refine box_event ?hg (N := 2) ?hd (cs := #[.string a0_0, .string a0_1, .int .i64 a0_2, .int .i64 a0_3, .int .i64 a0_4, .int .i64 a0_5, .int .i64 a0_6, .int .i64 a0_7, .int .i64 a0_8, .int .i64 a0_9, .slice A0_10 l0_10.length c0_10, .slice A0_11 l0_11.length c0_11]) (t := 35) ?hr ?_; (case hd => rfl); (case hg => rfl); (case hr => first | (go_simp; done) | (go_simp; rfl)); intro gb175 hg w11 hbox hb; have ⟨n0_, n2_⟩ := zV (w := w) hb hg (by repeat (first | (with_reducible first | exact HB.out | apply yA | apply yN | apply yD) | exact HB.out)); have n1_ := aK (hbox); have n3_ := n2_; clear HB; have HB := n0_; have BK175 := n1_; have GW175 := n2_; have GE175 := n3_; clear n0_ n1_ n2_ n3_; clear hb hbox hg) | ((with_reducible refine gate_dst (N := 3) rfl ?_); refine box_event ?hg (N := 3) ?hd (cs := #[.string a1_0, .string a1_1, .int .i64 a1_2, .int .i64 a1_3, .int .i64 a1_4, .int .i64 a1_5, .int .i64 a1_6, .int .i64 a1_7, .int .i64 a1_8, .int .i64 a1_9, .slice A1_10 l1_10.length c1_10, .slice A1_11 l1_11.length c1_11]) (t := 35) ?hr ?_; (case hd => rfl); (case hg => rfl); (case hr => first | (go_simp; done) | (go_simp; rfl)); intro gb176 hg w12 hbox hb; have n0_ := aK (zB (g := gb175) (o := .cells #[.string a0_0, .string a0_1, .int .i64 a0_2, .int .i64 a0_3, .int .i64 a0_4, .int .i64 a0_5, .int .i64 a0_6, .int .i64 a0_7, .int .i64 a0_8, .int .i64 a0_9, .slice A0_10 l0_10.length c0_10, .slice A0_11 l0_11.length c0_11] 35 (0, 0)) (BK175.out) hb); have ⟨n1_, n3_⟩ := zV (w := w) hb hg (by repeat (first | (with_reducible first | exact HB.out | apply yA | apply yN | apply yD | refine yS ?_ GE175.out) | exact HB.out)); have n2_ := aK (hbox); have n4_ := n3_; have n5_ := aK ((by rw [hg]; exact Nat.ne_of_lt (blk_lt (g := gb175) (o := .cells #[.string a0_0, .string a0_1, .int .i64 a0_2, .int .i64 a0_3, .int .i64 a0_4, .int .i64 a0_5, .int .i64 a0_6, .int .i64 a0_7, .int .i64 a0_8, .int .i64 a0_9, .slice A0_10 l0_10.length c0_10, .slice A0_11 l0_11.length c0_11] 35 (0, 0)) (BK175.out)) : gb175 ≠ gb176)); have n6_ := aK ((by rw [hg]; exact Nat.ne_of_gt (blk_lt (g := gb175) (o := .cells #[.string a0_0, .string a0_1, .int .i64 a0_2, .int .i64 a0_3, .int .i64 a0_4, .int .i64 a0_5, .int .i64 a0_6, .int .i64 a0_7, .int .i64 a0_8, .int .i64 a0_9, .slice A0_10 l0_10.length c0_10, .slice A0_11 l0_11.length c0_11] 35 (0, 0)) (BK175.out)) : gb176 ≠ gb175)); clear BK175; clear HB; have BK175 := n0_; have HB := n1_; have BK176 := n2_; have GW176 := n3_; have GE176 := n4_; have NB175_176 := n5_; have NB176_175 := n6_; clear n0_ n1_ n2_ n3_ n4_ n5_ n6_; clear hb hbox hg; have hnb13 := NB175_176.out; have hnc13 := NB176_175.out; have hcz14_0 := zI BK175 0 rfl; have hcz14_1 := zI BK175 1 rfl; have hcz14_2 := zI BK175 2 rfl; have hcz14_3 := zI BK175 3 rfl; have hcz14_4 := zI BK175 4 rfl; have hcz14_5 := zI BK175 5 rfl; have hcz14_6 := zI BK175 6 rfl; have hcz14_7 := zI BK175 7 rfl; have hcz14_8 := zI BK175 8 rfl; have hcz14_9 := zI BK175 9 rfl; have hcz14_10 := zI BK175 10 rfl; have hcz14_11 := zI BK175 11 rfl; have hfz14_0 := zF BK175.out 0; have hfz14_1 := zF BK175.out 1; have hfz14_2 := zF BK175.out 2; have hfz14_3 := zF BK175.out 3; have hfz14_4 := zF BK175.out 4; have hfz14_5 := zF BK175.out 5; have hfz14_6 := zF BK175.out 6; have hfz14_7 := zF BK175.out 7; have hfz14_8 := zF BK175.out 8; have hfz14_9 := zF BK175.out 9; have hfz14_10 := zF BK175.out 10; have hfz14_11 := zF BK175.out 11; have hcz15_0 := zI BK176 0 rfl; have hcz15_1 := zI BK176 1 rfl; have hcz15_2 := zI BK176 2 rfl; have hcz15_3 := zI BK176 3 rfl; have hcz15_4 := zI BK176 4 rfl; have hcz15_5 := zI BK176 5 rfl; have hcz15_6 := zI BK176 6 rfl; have hcz15_7 := zI BK176 7 rfl; have hcz15_8 := zI BK176 8 rfl; have hcz15_9 := zI BK176 9 rfl; have hcz15_10 := zI BK176 10 rfl; have hcz15_11 := zI BK176 11 rfl; have hfz15_0 := zF BK176.out 0; have hfz15_1 := zF BK176.out 1; have hfz15_2 := zF BK176.out 2; have hfz15_3 := zF BK176.out 3; have hfz15_4 := zF BK176.out 4; have hfz15_5 := zF BK176.out 5; have hfz15_6 := zF BK176.out 6; have hfz15_7 := zF BK176.out 7; have hfz15_8 := zF BK176.out 8; have hfz15_9 := zF BK176.out 9; have hfz15_10 := zF BK176.out 10; have hfz15_11 := zF BK176.out 11) | (go_at_call 46; (with_reducible refine (gangsawref30_same.calls k _ _ l0_10 _ _ l1_10 true _ ?side1 ?side2 ?side3 ?side4 A8.out).mono ?_); (case side1 => repeat (first | exact (Kd.C_below HR0_10.out HB.out) | (with_reducible refine Kd.C_alloc ?_ _) | (with_reducible refine Kd.C_drewN ?_ _) | (with_reducible refine Kd.C_drew ?_))); (case side2 => exact HC0_10.out); (case side3 => repeat (first | exact (Kd.C_below HR1_10.out HB.out) | (with_reducible refine Kd.C_alloc ?_ _) | (with_reducible refine Kd.C_drewN ?_ _) | (with_reducible refine Kd.C_drew ?_))); (case side4 => exact HC1_10.out); rintro e w' ⟨rfl, ⟨nd, rfl⟩⟩) | (go_at_call 46; (with_reducible refine (gangsawref30_same.calls k _ _ l0_11 _ _ l1_11 t178 _ ?side1 ?side2 ?side3 ?side4 A10.out).mono ?_); (case side1 => repeat (first | exact (Kd.C_below HR0_11.out (by repeat (first | (with_reducible first | exact HB.out | apply yA | apply yN | apply yD | refine yS ?_ GE175.out | refine yS ?_ GE176.out) | exact HB.out))) | (with_reducible refine Kd.C_alloc ?_ _) | (with_reducible refine Kd.C_drewN ?_ _) | (with_reducible refine Kd.C_drew ?_))); (case side2 => exact HC0_11.out); (case side3 => repeat (first | exact (Kd.C_below HR1_11.out (by repeat (first | (with_reducible first | exact HB.out | apply yA | apply yN | apply yD | refine yS ?_ GE175.out | refine yS ?_ GE176.out) | exact HB.out))) | (with_reducible refine Kd.C_alloc ?_ _) | (with_reducible refine Kd.C_drewN ?_ _) | (with_reducible refine Kd.C_drew ?_))); (case side4 => exact HC1_11.out); rintro e w' ⟨rfl, ⟨nd, rfl⟩⟩))
 go_ret
 exact ⟨rfl, by repeat (first | (with_reducible first | exact HB.out | apply yA | apply yN | apply yD | refine yS ?_ GE175.out | refine yS ?_ GE176.out) | exact HB.out)⟩

end Go.Proofs.YtnaahepnabmibaaGreatDoor.P
