/- What functions of the program return: each contract says so of one function, for every input at which its pure function yields. -/
import Derived.Test.YtfedmcehkpfciaaGreatPx0
import Derived.Test.YtfedmcehkpfciaaGreatHof
namespace Go.Proofs.YtfedmcehkpfciaaGreat.P
open Go.RowKit Go.Proofs.YtfedmcehkpfciaaGreatW.PrintWords Go.Proofs.YtfedmcehkpfciaaGreatW.PrintLast Go.Proofs.YtfedmcehkpfciaaGreatW.PrintMore
attribute [local go_sem] max2_int min2_int max_two min_two max_three min_three max_four min_four   -- for this text's walks alone
set_option linter.unusedVariables false
set_option linter.unusedSimpArgs false

open Go.Proofs.YtfedmcehkpfciaaGreat.Hof
def boring_increasing.l0 : Nat → Int → ByteArray → Int → Int → List (S48) → Option (Bool)
 | 0, _, _, _, _, _ => none
 | k + 1, x3, x114000, x114001, x114002, x114003 => if x3 < (x114003.length : Int) then (if 0 ≤ x3 then (if 0 ≤ (wrap64 (x3 - 1)) then (if (wrap64 (x3 - 1)) < (x114003.length : Int) then (if ((rd_T48 x114003 x3).f0) < ((rd_T48 x114003 (wrap64 (x3 - 1))).f1) then (some false) else (boring_increasing.l0 k (wrap64 (x3 + 1)) x114000 x114001 x114002 x114003)) else (none)) else (none)) else (none)) else (some true)
def boring_increasing.f (k : Nat) (a0_0 : ByteArray) (a0_1 : Int) (a0_2 : Int) (l0_3 : List (S48)) : Option (Bool) := boring_increasing.l0 k 1 a0_0 a0_1 a0_2 l0_3
theorem boring_increasing.mono_l : ∀ k, (∀ y0 y1 y2 y3 y4, LeO (boring_increasing.l0 k y0 y1 y2 y3 y4) (boring_increasing.l0 (k + 1) y0 y1 y2 y3 y4))
 | 0 => fun _ _ _ _ _ r h => by simp [boring_increasing.l0] at h
 | k + 1 => by
  have ih0 := boring_increasing.mono_l k
  ·intro y0 y1 y2 y3 y4
   unfold boring_increasing.l0
   repeat' first
   | (with_reducible exact ih0 _ _ _ _ _)
   | (with_reducible exact LeO.refl _)
   | (with_reducible exact LeO.none _)
   | (with_reducible refine LeO.ite ?_ ?_)
   | (with_reducible refine LeO.bind ?_ (fun _ => ?_))
   | exact ih0 _ _ _ _ _
   | exact LeO.none _
   | refine LeO.ite ?_ ?_
   | refine LeO.bind ?_ (fun _ => ?_)
theorem boring_increasing.mono : ∀ a0 a1 a2 a3 k, LeO (boring_increasing.f k a0 a1 a2 a3) (boring_increasing.f (k + 1) a0 a1 a2 a3) := by
 intro a0 a1 a2 a3 k
 have ih0 := boring_increasing.mono_l k
 unfold boring_increasing.f
 repeat' first
   | (with_reducible exact ih0 _ _ _ _ _)
   | (with_reducible exact LeO.refl _)
   | (with_reducible exact LeO.none _)
   | (with_reducible refine LeO.ite ?_ ?_)
   | (with_reducible refine LeO.bind ?_ (fun _ => ?_))
   | exact ih0 _ _ _ _ _
   | exact LeO.none _
   | refine LeO.ite ?_ ?_
   | refine LeO.bind ?_ (fun _ => ?_)
set_option maxHeartbeats 8000000 in
set_option maxRecDepth 100000 in
theorem boring_increasing.calls (k : Nat) (a0_0 : ByteArray) (a0_1 : Int) (a0_2 : Int) (A0_3 : Option Addr) (c0_3 : Nat) (l0_3 : List (S48)) (r : Bool) (w : World) (hr0_3 : Kd.C k48 w A0_3 l0_3.length l0_3) (hc0_3 : l0_3.length ≤ c0_3) (h : boring_increasing.f k a0_0 a0_1 a0_2 l0_3 = some r) :
  Calls Tryz.prog 52 #[.agg #[.string a0_0, .int .i64 a0_1, .int .i64 a0_2, .slice A0_3 l0_3.length c0_3]] w fun e w' => e = .returned (.bool r) ∧ Below w.heap.size w w' := by
 have hu33 := Tryz.underlying33
 have HR0_3 := aK hr0_3
 have HC0_3 := aK hc0_3
 clear hr0_3 hc0_3
 have HB := aK (Below.refl w.heap.size w)
 have H : (boring_increasing.l0 k 1 a0_0 a0_1 a0_2 l0_3) = some r := h
 clear h
 have H' := aK H
 clear H
 go_enter Tryz.func52, Tryz.ntmps52
 go_wp2_with (first | ((with_reducible refine gate_dst (N := 1) rfl ?_); refine box_event ?hg (N := 1) ?hd (cs := #[.string a0_0, .int .i64 a0_1, .int .i64 a0_2, .slice A0_3 l0_3.length c0_3]) (t := 33) ?hr ?_; (case hd => rfl); (case hg => rfl); (case hr => first | (go_simp; done) | (go_simp; rfl)); intro gb113 hg w2 hbox hb; have n0_ := aK (yT (HB.out) hb); have n1_ := aK (hbox); have n2_ := aK ((by rw [hg]; exact (yZ (HB.out)) : w.heap.size ≤ gb113)); have n3_ := n2_; clear HB; have HB := n0_; have BK113 := n1_; have GW113 := n2_; have GE113 := n3_; clear n0_ n1_ n2_ n3_; clear hb hbox hg))
 go_loopg [3] k (fun kq v3 w' => ∃ (x3_1 : Int), v3 = .int .i64 x3_1 ∧ Aside0 (boring_increasing.l0 kq x3_1 a0_0 a0_1 a0_2 l0_3 = some r) ∧ Aside0 (kq ≤ k) ∧ Aside0 (w'.heap[gb113]? = some (.cells #[.string a0_0, .int .i64 a0_1, .int .i64 a0_2, (.slice A0_3 l0_3.length c0_3)] 33 (0, 0))) ∧ Aside0 (Below w.heap.size w w'))
 case atStart => exact ⟨(1), (by first | rfl | (simp; done) | (simp [*]; done)), H', ⟨Nat.le_refl _⟩, ⟨BK113.out⟩, ⟨by repeat (first | (with_reducible first | exact HB.out | apply yA | apply yN | apply yD | refine yS ?_ GE113.out) | exact HB.out)⟩⟩
 case round =>
  clear H'
  try clear p2
  obtain ⟨x3_1, rfl, HA, HK1, BK113, HB⟩ := hrel
  cases gk with
  | zero => exact absurd HA.out (by simp [boring_increasing.l0])
  | succ k1 =>
   have H := HA.out
   clear HA
   simp only [boring_increasing.l0] at H
   by_cases c3 : x3_1 < (l0_3.length : Int)
   rotate_left
   ·rw [if_neg c3] at H
    have c3b0 : decide (x3_1 < (l0_3.length : Int)) = false := decide_eq_false c3
    clear c3
    obtain rfl := Option.some.inj H
    simp only [Option.some.injEq, Prod.mk.injEq] at H
    obtain ⟨rfl⟩ := H
    have hcz11_0 := zI BK113 0 rfl
    have hcz11_1 := zI BK113 1 rfl
    have hcz11_2 := zI BK113 2 rfl
    have hcz11_3 := zI BK113 3 rfl
    have hfz11_0 := zF BK113.out 0
    have hfz11_1 := zF BK113.out 1
    have hfz11_2 := zF BK113.out 2
    have hfz11_3 := zF BK113.out 3
    go_wp2
    go_ret
    exact ⟨rfl, by repeat (first | (with_reducible first | exact HB.out | apply yA | apply yN | apply yD | refine yS ?_ GE113.out) | exact HB.out)⟩
   rw [if_pos c3] at H
   have c3b0 : decide (x3_1 < (l0_3.length : Int)) = true := decide_eq_true c3
   clear c3
   by_cases c4 : 0 ≤ x3_1
   rotate_left
   ·rw [if_neg c4] at H
    exact absurd H (by simp)
   rw [if_pos c4] at H
   have c4b0 : decide (0 ≤ x3_1) = true := decide_eq_true c4
   clear c4
   obtain ⟨ji5, hji5⟩ : ∃ j_ : Int, (wrap64 (x3_1 - 1)) = j_ := ⟨_, rfl⟩
   replace H : (if 0 ≤ (ji5) then (if (ji5) < (l0_3.length : Int) then (if ((rd_T48 l0_3 x3_1).f0) < ((rd_T48 l0_3 (ji5)).f1) then (some false) else (boring_increasing.l0 k1 (wrap64 (x3_1 + 1)) a0_0 a0_1 a0_2 l0_3)) else (none)) else (none)) = some r := by first | (rw [hji5] at H; exact H) | (simp only [hji5] at H ⊢; exact H)
   have hji5w : (IntKind.i64.wrap (x3_1 - 1)) = ji5 := (i64_w _).trans hji5
   by_cases c6 : 0 ≤ (ji5)
   rotate_left
   ·rw [if_neg c6] at H
    exact absurd H (by simp)
   rw [if_pos c6] at H
   have c6b0 : decide (0 ≤ (ji5)) = true := decide_eq_true c6
   clear c6
   by_cases c7 : (ji5) < (l0_3.length : Int)
   rotate_left
   ·rw [if_neg c7] at H
    exact absurd H (by simp)
   rw [if_pos c7] at H
   have c7b0 : decide ((ji5) < (l0_3.length : Int)) = true := decide_eq_true c7
   clear c7
   by_cases c8 : ((rd_T48 l0_3 x3_1).f0) < ((rd_T48 l0_3 (ji5)).f1)
   ·rw [if_pos c8] at H
    have c8b0 : decide (((rd_T48 l0_3 x3_1).f0) < ((rd_T48 l0_3 (ji5)).f1)) = true := decide_eq_true c8
    clear c8
    obtain rfl := Option.some.inj H
    simp only [Option.some.injEq, Prod.mk.injEq] at H
    obtain ⟨rfl⟩ := H
    have hcz9_0 := zI BK113 0 rfl
    have hcz9_1 := zI BK113 1 rfl
    have hcz9_2 := zI BK113 2 rfl
    have hcz9_3 := zI BK113 3 rfl
    have hfz9_0 := zF BK113.out 0
    have hfz9_1 := zF BK113.out 1
    have hfz9_2 := zF BK113.out 2
    have hfz9_3 := zF BK113.out 3
    have p114 : 0 ≤ (x3_1 : Int) := of_decide_eq_true (by assumption)
    have q114 : x3_1 < (l0_3.length : Int) := of_decide_eq_true (by assumption)
    obtain ⟨ad114, e114, hx114_0, hx114_1, hx114_2⟩ := at_T48 HR0_3.out x3_1 p114 q114
    cases e114
    replace hx114_0 := (HB.out.cell (World.block_lt_of_cell? w _ hx114_0)).trans hx114_0
    replace hx114_1 := (HB.out.cell (World.block_lt_of_cell? w _ hx114_1)).trans hx114_1
    replace hx114_2 := (HB.out.cell (World.block_lt_of_cell? w _ hx114_2)).trans hx114_2
    replace p114 := eq_true p114
    replace q114 := eq_true q114
    have p115 : 0 ≤ ((ji5) : Int) := of_decide_eq_true (by assumption)
    have q115 : (ji5) < (l0_3.length : Int) := of_decide_eq_true (by assumption)
    obtain ⟨ad115, e115, hx115_0, hx115_1, hx115_2⟩ := at_T48 HR0_3.out (ji5) p115 q115
    obtain rfl : ad114 = ad115 := (by injection e115)
    replace hx115_0 := (HB.out.cell (World.block_lt_of_cell? w _ hx115_0)).trans hx115_0
    replace hx115_1 := (HB.out.cell (World.block_lt_of_cell? w _ hx115_1)).trans hx115_1
    replace hx115_2 := (HB.out.cell (World.block_lt_of_cell? w _ hx115_2)).trans hx115_2
    replace p115 := eq_true p115
    replace q115 := eq_true q115
    go_wp2
    repeat (go_quiet (fail); try go_wp2)
    go_ret
    exact ⟨by first | rfl | (simp [errW_none, errW_some] <;> rfl) | (simp only [← hji5]; first | rfl | (simp [errW_none, errW_some] <;> rfl)) | (simp [*, errW_none, errW_some] <;> rfl), by repeat (first | (with_reducible first | exact HB.out | apply yA | apply yN | apply yD | refine yS ?_ GE113.out) | exact HB.out)⟩
   rw [if_neg c8] at H
   have c8b0 : decide (((rd_T48 l0_3 x3_1).f0) < ((rd_T48 l0_3 (ji5)).f1)) = false := decide_eq_false c8
   clear c8
   have H' := aK H
   clear H
   have hcz10_0 := zI BK113 0 rfl
   have hcz10_1 := zI BK113 1 rfl
   have hcz10_2 := zI BK113 2 rfl
   have hcz10_3 := zI BK113 3 rfl
   have hfz10_0 := zF BK113.out 0
   have hfz10_1 := zF BK113.out 1
   have hfz10_2 := zF BK113.out 2
   have hfz10_3 := zF BK113.out 3
   have p114 : 0 ≤ (x3_1 : Int) := of_decide_eq_true (by assumption)
   have q114 : x3_1 < (l0_3.length : Int) := of_decide_eq_true (by assumption)
   obtain ⟨ad114, e114, hx114_0, hx114_1, hx114_2⟩ := at_T48 HR0_3.out x3_1 p114 q114
   cases e114
   replace hx114_0 := (HB.out.cell (World.block_lt_of_cell? w _ hx114_0)).trans hx114_0
   replace hx114_1 := (HB.out.cell (World.block_lt_of_cell? w _ hx114_1)).trans hx114_1
   replace hx114_2 := (HB.out.cell (World.block_lt_of_cell? w _ hx114_2)).trans hx114_2
   replace p114 := eq_true p114
   replace q114 := eq_true q114
   have p115 : 0 ≤ ((ji5) : Int) := of_decide_eq_true (by assumption)
   have q115 : (ji5) < (l0_3.length : Int) := of_decide_eq_true (by assumption)
   obtain ⟨ad115, e115, hx115_0, hx115_1, hx115_2⟩ := at_T48 HR0_3.out (ji5) p115 q115
   obtain rfl : ad114 = ad115 := (by injection e115)
   replace hx115_0 := (HB.out.cell (World.block_lt_of_cell? w _ hx115_0)).trans hx115_0
   replace hx115_1 := (HB.out.cell (World.block_lt_of_cell? w _ hx115_1)).trans hx115_1
   replace hx115_2 := (HB.out.cell (World.block_lt_of_cell? w _ hx115_2)).trans hx115_2
   replace p115 := eq_true p115
   replace q115 := eq_true q115
   go_wp2
   repeat (go_quiet (fail); try go_wp2)
   go_roundg k1
   case measure => have := HK1.out; omega
   case rel => exact ⟨(wrap64 (x3_1 + 1)), (by first | rfl | (simp; done) | (simp [*]; done)), H', ⟨by have := HK1.out; omega⟩, ⟨BK113.out⟩, ⟨by repeat (first | (with_reducible first | exact HB.out | apply yA | apply yN | apply yD | refine yS ?_ GE113.out) | exact HB.out)⟩⟩
def gangsawref06_At.f (a0_0 : Int) (a0_1 : Int) (a0_2 : Int) (a1 : Int) : Option (Int) := if a1 = 0 then (some a0_0) else (if a1 = 1 then (some a0_1) else (some a0_2))
end Go.Proofs.YtfedmcehkpfciaaGreat.P
