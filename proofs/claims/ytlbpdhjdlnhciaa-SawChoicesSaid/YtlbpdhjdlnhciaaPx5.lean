/- What functions of the program return: each contract says so of one function, for every input at which its pure function yields. -/
import Derived.Test.YtlbpdhjdlnhciaaPx0
import Derived.Test.YtlbpdhjdlnhciaaPx1
import Derived.Test.YtlbpdhjdlnhciaaPx2
import Derived.Test.YtlbpdhjdlnhciaaPx4
import Derived.Test.YtlbpdhjdlnhciaaAwk
namespace Go.Proofs.Ytlbpdhjdlnhciaa.P
open Go.RowKit Go.Proofs.YtlbpdhjdlnhciaaW.PrintWords Go.Proofs.YtlbpdhjdlnhciaaW.PrintLast Go.Proofs.YtlbpdhjdlnhciaaW.PrintMore
attribute [local go_sem] max2_int min2_int max_two min_two max_three min_three max_four min_four   -- for this text's walks alone
set_option linter.unusedVariables false
set_option linter.unusedSimpArgs false

open Go.Proofs.Ytlbpdhjdlnhciaa.Awk
def gangsawref29_Check.l0 : Nat → List (S37) → Int → Option (Int)
 | 0, _, _ => none
 | k + 1, x0, x4 => if x4 < (x0.length : Int) then (if 0 ≤ (wrap64 (x4 - 1)) then (if (wrap64 (x4 - 1)) < (x0.length : Int) then (if 0 ≤ x4 then (if ((Op.bytesLess (((rd_T37 x0 (wrap64 (x4 - 1))).f0).toList) (((rd_T37 x0 x4).f0).toList)) = true) then (gangsawref29_Check.l0 k x0 (wrap64 (x4 + 1))) else (some 5)) else (none)) else (none)) else (none)) else (some 0)
def gangsawref29_Check.f (k : Nat) (l0 : List (S37)) : Option (Int) := if (l0.length : Int) > 32 then (some 7) else ((gangsawref29_each.f k l0).bind fun t136 => (if t136 = 0 then (gangsawref29_Check.l0 k l0 1) else (some t136)))
theorem gangsawref29_Check.mono_l : ∀ k, (∀ y0 y1, LeO (gangsawref29_Check.l0 k y0 y1) (gangsawref29_Check.l0 (k + 1) y0 y1))
 | 0 => fun _ _ r h => by simp [gangsawref29_Check.l0] at h
 | k + 1 => by
  have ih0 := gangsawref29_Check.mono_l k
  ·intro y0 y1
   unfold gangsawref29_Check.l0
   repeat' first
   | (with_reducible exact ih0 _ _)
   | (with_reducible exact gangsawref29_each.mono _ _)
   | (with_reducible refine contains3.mono2 (fun x_ => ?_))
   | (with_reducible refine contains37.mono2 (fun x_ => ?_))
   | (with_reducible refine index3.mono2 (fun x_ => ?_))
   | (with_reducible refine index37.mono2 (fun x_ => ?_))
   | (with_reducible exact LeO.refl _)
   | (with_reducible exact LeO.none _)
   | (with_reducible refine LeO.ite ?_ ?_)
   | (with_reducible refine LeO.bind ?_ (fun _ => ?_))
   | exact ih0 _ _
   | exact gangsawref29_each.mono _ _
   | exact LeO.none _
   | refine LeO.ite ?_ ?_
   | refine LeO.bind ?_ (fun _ => ?_)
theorem gangsawref29_Check.mono : ∀ a0 k, LeO (gangsawref29_Check.f k a0) (gangsawref29_Check.f (k + 1) a0) := by
 intro a0 k
 have ih0 := gangsawref29_Check.mono_l k
 unfold gangsawref29_Check.f
 repeat' first
   | (with_reducible exact ih0 _ _)
   | (with_reducible exact gangsawref29_each.mono _ _)
   | (with_reducible refine contains3.mono2 (fun x_ => ?_))
   | (with_reducible refine contains37.mono2 (fun x_ => ?_))
   | (with_reducible refine index3.mono2 (fun x_ => ?_))
   | (with_reducible refine index37.mono2 (fun x_ => ?_))
   | (with_reducible exact LeO.refl _)
   | (with_reducible exact LeO.none _)
   | (with_reducible refine LeO.ite ?_ ?_)
   | (with_reducible refine LeO.bind ?_ (fun _ => ?_))
   | exact ih0 _ _
   | exact gangsawref29_each.mono _ _
   | exact LeO.none _
   | refine LeO.ite ?_ ?_
   | refine LeO.bind ?_ (fun _ => ?_)
set_option maxHeartbeats 8000000 in
set_option maxRecDepth 100000 in
theorem gangsawref29_Check.calls (k : Nat) (A0 : Option Addr) (c0 : Nat) (l0 : List (S37)) (r : Int) (w : World) (hr0 : Kd.C k37 w A0 l0.length l0) (hc0 : l0.length ≤ c0) (h : gangsawref29_Check.f k l0 = some r) :
  Calls Try.prog 11 #[.slice A0 l0.length c0] w fun e w' => e = .returned (.int .i64 r) ∧ Below w.heap.size w w' := by
 have HR0 := Aside0.mk hr0
 have HC0 := Aside0.mk hc0
 clear hr0 hc0
 have HB := Aside0.mk (Below.refl w.heap.size w)
 have H : (if (l0.length : Int) > 32 then (some 7) else ((gangsawref29_each.f k l0).bind fun t136 => (if t136 = 0 then (gangsawref29_Check.l0 k l0 1) else (some t136)))) = some r := h
 clear h
 by_cases c2 : (l0.length : Int) > 32
 ·rw [if_pos c2] at H
  have c2b0 : decide (32 < (l0.length : Int)) = true := decide_eq_true c2
  have c2b1 : decide (32 < l0.length) = true := decide_eq_true (by omega)
  clear c2
  obtain rfl := Option.some.inj H
  simp only [Option.some.injEq, Prod.mk.injEq] at H
  obtain ⟨rfl⟩ := H
  go_enter Try.func11, Try.ntmps11
  go_wp2
  go_ret
  exact ⟨by first | rfl | (simp [errW_none, errW_some] <;> rfl) | (simp [*, errW_none, errW_some] <;> rfl), by repeat (first | (with_reducible first | exact HB.out | apply below_alloc | apply pw_below_drewN | apply below_drew1) | exact HB.out)⟩
 ·rw [if_neg c2] at H
  have c2b0 : decide (32 < (l0.length : Int)) = false := decide_eq_false c2
  have c2b1 : decide (32 < l0.length) = false := decide_eq_false (by omega)
  clear c2
  replace H := Option.bind_eq_some_iff.mp H
  obtain ⟨t136, A30, H⟩ := H
  replace H : (if t136 = 0 then (gangsawref29_Check.l0 k l0 1) else (some t136)) = some r := H
  have A3 := Aside0.mk A30
  clear A30
  by_cases c4 : t136 = 0
  ·rw [if_pos c4] at H
   have c4b0 : (t136 == 0) = true := beq_iff_eq.mpr c4
   have c4b1 : (t136 != 0) = false := bne_eq_false_iff_eq.mpr c4
   clear c4
   have H' := Aside0.mk H
   clear H
   go_enter Try.func11, Try.ntmps11
   go_wp2_with (first | (go_at_call 27; (with_reducible refine (gangsawref29_each.calls k _ _ l0 t136 _ ?side1 ?side2 A3.out).mono ?_); (case side1 => repeat (first | exact HR0.out | (with_reducible refine Kd.C_alloc ?_ _) | (with_reducible refine Kd.C_drewN ?_ _) | (with_reducible refine Kd.C_drew ?_))); (case side2 => exact HC0.out); rintro e w5 ⟨rfl, hb⟩; have n0_ := Aside0.mk (below_step (by repeat (first | (with_reducible first | exact HB.out | apply below_alloc | apply pw_below_drewN | apply below_drew1) | exact HB.out)) hb); clear HB; have HB := n0_; clear n0_; (try clear hb); (try clear hb2); (try clear hk); (try clear hi)))
   go_loopg [4] k (fun kq v4 w' => ∃ (x4_1 : Int), v4 = .int .i64 x4_1 ∧ Aside0 (gangsawref29_Check.l0 kq l0 x4_1 = some r) ∧ Aside0 (kq ≤ k) ∧ Aside0 (Below w.heap.size w w'))
   case atStart => exact ⟨(1), (by first | rfl | (simp; done) | (simp [*]; done)), H', ⟨Nat.le_refl _⟩, ⟨by repeat (first | (with_reducible first | exact HB.out | apply below_alloc | apply pw_below_drewN | apply below_drew1) | exact HB.out)⟩⟩
   case round =>
    clear H'
    try clear c1
    try clear c2
    try clear c2b0
    try clear c2b1
    try clear p2
    try clear c4
    try clear c4b0
    try clear c4b1
    obtain ⟨x4_1, rfl, HA, HK1, HB⟩ := hrel
    cases gk with
    | zero => exact absurd HA.out (by simp [gangsawref29_Check.l0])
    | succ k1 =>
     have H := HA.out
     clear HA
     simp only [gangsawref29_Check.l0] at H
     by_cases c6 : x4_1 < (l0.length : Int)
     ·rw [if_pos c6] at H
      have c6b0 : decide (x4_1 < (l0.length : Int)) = true := decide_eq_true c6
      clear c6
      obtain ⟨ji7, hji7⟩ : ∃ j_ : Int, (wrap64 (x4_1 - 1)) = j_ := ⟨_, rfl⟩
      replace H : (if 0 ≤ (ji7) then (if (ji7) < (l0.length : Int) then (if 0 ≤ x4_1 then (if ((Op.bytesLess (((rd_T37 l0 (ji7)).f0).toList) (((rd_T37 l0 x4_1).f0).toList)) = true) then (gangsawref29_Check.l0 k1 l0 (wrap64 (x4_1 + 1))) else (some 5)) else (none)) else (none)) else (none)) = some r := by first | (rw [hji7] at H; exact H) | (simp only [hji7] at H ⊢; exact H)
      have hji7w : (IntKind.i64.wrap (x4_1 - 1)) = ji7 := (i64_w _).trans hji7
      by_cases c8 : 0 ≤ (ji7)
      ·rw [if_pos c8] at H
       have c8b0 : decide (0 ≤ (ji7)) = true := decide_eq_true c8
       clear c8
       by_cases c9 : (ji7) < (l0.length : Int)
       ·rw [if_pos c9] at H
        have c9b0 : decide ((ji7) < (l0.length : Int)) = true := decide_eq_true c9
        clear c9
        by_cases c10 : 0 ≤ x4_1
        ·rw [if_pos c10] at H
         have c10b0 : decide (0 ≤ x4_1) = true := decide_eq_true c10
         clear c10
         by_cases c11 : ((Op.bytesLess (((rd_T37 l0 (ji7)).f0).toList) (((rd_T37 l0 x4_1).f0).toList)) = true)
         ·rw [if_pos c11] at H
          have c11b0 : (Op.bytesLess (((rd_T37 l0 (ji7)).f0).toList) (((rd_T37 l0 x4_1).f0).toList)) = true := c11
          clear c11
          have H' := Aside0.mk H
          clear H
          have p137 : 0 ≤ ((ji7) : Int) := of_decide_eq_true (by first | (with_reducible assumption) | assumption)
          have q137 : (ji7) < (l0.length : Int) := of_decide_eq_true (by first | (with_reducible assumption) | assumption)
          obtain ⟨ad137, e137, hx137_0, hx137_1, hx137_2, hx137_3, hx137_4, hx137_5, hx137_6, hx137_7⟩ := at_T37 HR0.out (ji7) p137 q137
          cases e137
          replace hx137_0 := (HB.out.cell (World.block_lt_of_cell? w _ hx137_0)).trans hx137_0
          replace hx137_1 := (HB.out.cell (World.block_lt_of_cell? w _ hx137_1)).trans hx137_1
          replace hx137_2 := (HB.out.cell (World.block_lt_of_cell? w _ hx137_2)).trans hx137_2
          replace hx137_3 := (HB.out.cell (World.block_lt_of_cell? w _ hx137_3)).trans hx137_3
          replace hx137_4 := (HB.out.cell (World.block_lt_of_cell? w _ hx137_4)).trans hx137_4
          replace hx137_5 := (HB.out.cell (World.block_lt_of_cell? w _ hx137_5)).trans hx137_5
          replace hx137_6 := (HB.out.cell (World.block_lt_of_cell? w _ hx137_6)).trans hx137_6
          replace hx137_7 := (HB.out.cell (World.block_lt_of_cell? w _ hx137_7)).trans hx137_7
          replace p137 := eq_true p137
          replace q137 := eq_true q137
          have p138 : 0 ≤ (x4_1 : Int) := of_decide_eq_true (by first | (with_reducible assumption) | assumption)
          have q138 : x4_1 < (l0.length : Int) := of_decide_eq_true (by first | (with_reducible assumption) | assumption)
          obtain ⟨ad138, e138, hx138_0, hx138_1, hx138_2, hx138_3, hx138_4, hx138_5, hx138_6, hx138_7⟩ := at_T37 HR0.out x4_1 p138 q138
          obtain rfl : ad137 = ad138 := (by injection e138)
          replace hx138_0 := (HB.out.cell (World.block_lt_of_cell? w _ hx138_0)).trans hx138_0
          replace hx138_1 := (HB.out.cell (World.block_lt_of_cell? w _ hx138_1)).trans hx138_1
          replace hx138_2 := (HB.out.cell (World.block_lt_of_cell? w _ hx138_2)).trans hx138_2
          replace hx138_3 := (HB.out.cell (World.block_lt_of_cell? w _ hx138_3)).trans hx138_3
          replace hx138_4 := (HB.out.cell (World.block_lt_of_cell? w _ hx138_4)).trans hx138_4
          replace hx138_5 := (HB.out.cell (World.block_lt_of_cell? w _ hx138_5)).trans hx138_5
          replace hx138_6 := (HB.out.cell (World.block_lt_of_cell? w _ hx138_6)).trans hx138_6
          replace hx138_7 := (HB.out.cell (World.block_lt_of_cell? w _ hx138_7)).trans hx138_7
          replace p138 := eq_true p138
          replace q138 := eq_true q138
          go_wp2
          repeat (go_quiet (fail); try go_wp2)
          go_roundg k1
          case measure => have := HK1.out; omega
          case rel => exact ⟨(wrap64 (x4_1 + 1)), (by first | rfl | (simp; done) | (simp [*]; done)), H', ⟨by have := HK1.out; omega⟩, ⟨by repeat (first | (with_reducible first | exact HB.out | apply below_alloc | apply pw_below_drewN | apply below_drew1) | exact HB.out)⟩⟩
         ·rw [if_neg c11] at H
          have c11b0 : (Op.bytesLess (((rd_T37 l0 (ji7)).f0).toList) (((rd_T37 l0 x4_1).f0).toList)) = false := by simpa using c11
          clear c11
          obtain rfl := Option.some.inj H
          simp only [Option.some.injEq, Prod.mk.injEq] at H
          obtain ⟨rfl⟩ := H
          have p137 : 0 ≤ ((ji7) : Int) := of_decide_eq_true (by first | (with_reducible assumption) | assumption)
          have q137 : (ji7) < (l0.length : Int) := of_decide_eq_true (by first | (with_reducible assumption) | assumption)
          obtain ⟨ad137, e137, hx137_0, hx137_1, hx137_2, hx137_3, hx137_4, hx137_5, hx137_6, hx137_7⟩ := at_T37 HR0.out (ji7) p137 q137
          cases e137
          replace hx137_0 := (HB.out.cell (World.block_lt_of_cell? w _ hx137_0)).trans hx137_0
          replace hx137_1 := (HB.out.cell (World.block_lt_of_cell? w _ hx137_1)).trans hx137_1
          replace hx137_2 := (HB.out.cell (World.block_lt_of_cell? w _ hx137_2)).trans hx137_2
          replace hx137_3 := (HB.out.cell (World.block_lt_of_cell? w _ hx137_3)).trans hx137_3
          replace hx137_4 := (HB.out.cell (World.block_lt_of_cell? w _ hx137_4)).trans hx137_4
          replace hx137_5 := (HB.out.cell (World.block_lt_of_cell? w _ hx137_5)).trans hx137_5
          replace hx137_6 := (HB.out.cell (World.block_lt_of_cell? w _ hx137_6)).trans hx137_6
          replace hx137_7 := (HB.out.cell (World.block_lt_of_cell? w _ hx137_7)).trans hx137_7
          replace p137 := eq_true p137
          replace q137 := eq_true q137
          have p138 : 0 ≤ (x4_1 : Int) := of_decide_eq_true (by first | (with_reducible assumption) | assumption)
          have q138 : x4_1 < (l0.length : Int) := of_decide_eq_true (by first | (with_reducible assumption) | assumption)
          obtain ⟨ad138, e138, hx138_0, hx138_1, hx138_2, hx138_3, hx138_4, hx138_5, hx138_6, hx138_7⟩ := at_T37 HR0.out x4_1 p138 q138
          obtain rfl : ad137 = ad138 := (by injection e138)
          replace hx138_0 := (HB.out.cell (World.block_lt_of_cell? w _ hx138_0)).trans hx138_0
          replace hx138_1 := (HB.out.cell (World.block_lt_of_cell? w _ hx138_1)).trans hx138_1
          replace hx138_2 := (HB.out.cell (World.block_lt_of_cell? w _ hx138_2)).trans hx138_2
          replace hx138_3 := (HB.out.cell (World.block_lt_of_cell? w _ hx138_3)).trans hx138_3
          replace hx138_4 := (HB.out.cell (World.block_lt_of_cell? w _ hx138_4)).trans hx138_4
          replace hx138_5 := (HB.out.cell (World.block_lt_of_cell? w _ hx138_5)).trans hx138_5
          replace hx138_6 := (HB.out.cell (World.block_lt_of_cell? w _ hx138_6)).trans hx138_6
          replace hx138_7 := (HB.out.cell (World.block_lt_of_cell? w _ hx138_7)).trans hx138_7
          replace p138 := eq_true p138
          replace q138 := eq_true q138
          go_wp2
          repeat (go_quiet (fail); try go_wp2)
          go_ret
          exact ⟨by first | rfl | (simp [errW_none, errW_some] <;> rfl) | (simp only [← hji7]; first | rfl | (simp [errW_none, errW_some] <;> rfl)) | (simp [*, errW_none, errW_some] <;> rfl), by repeat (first | (with_reducible first | exact HB.out | apply below_alloc | apply pw_below_drewN | apply below_drew1) | exact HB.out)⟩
        ·rw [if_neg c10] at H
         exact absurd H (by simp)
       ·rw [if_neg c9] at H
        exact absurd H (by simp)
      ·rw [if_neg c8] at H
       exact absurd H (by simp)
     ·rw [if_neg c6] at H
      have c6b0 : decide (x4_1 < (l0.length : Int)) = false := decide_eq_false c6
      clear c6
      obtain rfl := Option.some.inj H
      simp only [Option.some.injEq, Prod.mk.injEq] at H
      obtain ⟨rfl⟩ := H
      go_wp2
      go_ret
      exact ⟨by first | rfl | (simp [errW_none, errW_some] <;> rfl) | (simp [*, errW_none, errW_some] <;> rfl), by repeat (first | (with_reducible first | exact HB.out | apply below_alloc | apply pw_below_drewN | apply below_drew1) | exact HB.out)⟩
  ·rw [if_neg c4] at H
   have c4b0 : (t136 == 0) = false := beq_eq_false_iff_ne.mpr c4
   have c4b1 : (t136 != 0) = true := bne_iff_ne.mpr c4
   obtain rfl := Option.some.inj H
   simp only [Option.some.injEq, Prod.mk.injEq] at H
   obtain ⟨rfl⟩ := H
   go_enter Try.func11, Try.ntmps11
   go_wp2_with (first | (go_at_call 27; (with_reducible refine (gangsawref29_each.calls k _ _ l0 t136 _ ?side1 ?side2 A3.out).mono ?_); (case side1 => repeat (first | exact HR0.out | (with_reducible refine Kd.C_alloc ?_ _) | (with_reducible refine Kd.C_drewN ?_ _) | (with_reducible refine Kd.C_drew ?_))); (case side2 => exact HC0.out); rintro e w12 ⟨rfl, hb⟩; have n0_ := Aside0.mk (below_step (by repeat (first | (with_reducible first | exact HB.out | apply below_alloc | apply pw_below_drewN | apply below_drew1) | exact HB.out)) hb); clear HB; have HB := n0_; clear n0_; (try clear hb); (try clear hb2); (try clear hk); (try clear hi)))
   go_ret
   exact ⟨by first | rfl | (simp [errW_none, errW_some] <;> rfl) | (simp [*, errW_none, errW_some] <;> rfl), by repeat (first | (with_reducible first | exact HB.out | apply below_alloc | apply pw_below_drewN | apply below_drew1) | exact HB.out)⟩

def gangsawlaw29_SawChecks.f (k : Nat) (l0 : List (S37)) : Option (Bool) := (gangsawlaw29_awake.f).bind fun t139 => (if t139 = true then ((gangsawref29_Few.f k l0).bind fun t140 => (if t140 = true then ((saw_Check.f k l0).bind fun t141 => ((gangsawref29_Check.f k l0).bind fun t142 => (some (t141 == t142)))) else (some true))) else (some false))
theorem gangsawlaw29_SawChecks.mono : ∀ a0 k, LeO (gangsawlaw29_SawChecks.f k a0) (gangsawlaw29_SawChecks.f (k + 1) a0) := by
 intro a0 k
 unfold gangsawlaw29_SawChecks.f
 repeat' first
   | (with_reducible exact gangsawref29_Check.mono _ _)
   | (with_reducible exact gangsawref29_Few.mono _ _)
   | (with_reducible exact saw_Check.mono _ _)
   | (with_reducible refine contains3.mono2 (fun x_ => ?_))
   | (with_reducible refine contains37.mono2 (fun x_ => ?_))
   | (with_reducible refine index3.mono2 (fun x_ => ?_))
   | (with_reducible refine index37.mono2 (fun x_ => ?_))
   | (with_reducible exact LeO.refl _)
   | (with_reducible exact LeO.none _)
   | (with_reducible refine LeO.ite ?_ ?_)
   | (with_reducible refine LeO.bind ?_ (fun _ => ?_))
   | exact gangsawref29_Check.mono _ _
   | exact gangsawref29_Few.mono _ _
   | exact saw_Check.mono _ _
   | exact LeO.none _
   | refine LeO.ite ?_ ?_
   | refine LeO.bind ?_ (fun _ => ?_)
def saw_minutes.f (a0_0 : ByteArray) (a0_1 : Int) (a0_2 : Int) (a0_3 : Int) (a0_4 : Int) (a0_5 : Int) (a0_6 : Int) (a0_7 : Int) (a1 : Int) : Option (Int) := if a0_7 = 0 then (none) else (some (wrap64 (Int.tdiv (wrap64 ((wrap64 (a1 + a0_7)) - 1)) a0_7)))
set_option maxHeartbeats 8000000 in
set_option maxRecDepth 100000 in
theorem saw_minutes.calls (a0_0 : ByteArray) (a0_1 : Int) (a0_2 : Int) (a0_3 : Int) (a0_4 : Int) (a0_5 : Int) (a0_6 : Int) (a0_7 : Int) (a1 : Int) (r : Int) (w : World) (h : saw_minutes.f a0_0 a0_1 a0_2 a0_3 a0_4 a0_5 a0_6 a0_7 a1 = some r) :
  Calls Try.prog 35 #[.agg #[.string a0_0, .int .i64 a0_1, .int .i64 a0_2, .int .i64 a0_3, .int .i64 a0_4, .int .i64 a0_5, .int .i64 a0_6, .int .i64 a0_7], .int .i64 a1] w fun e w' => e = .returned (.int .i64 r) ∧ Below w.heap.size w w' := by
 have hu37 := Try.underlying37
 have HB := Aside0.mk (Below.refl w.heap.size w)
 have H : (if a0_7 = 0 then (none) else (some (wrap64 (Int.tdiv (wrap64 ((wrap64 (a1 + a0_7)) - 1)) a0_7)))) = some r := h
 clear h
 by_cases c3 : a0_7 = 0
 ·rw [if_pos c3] at H
  exact absurd H (by simp)
 ·rw [if_neg c3] at H
  have c3b0 : (a0_7 == 0) = false := beq_eq_false_iff_ne.mpr c3
  have c3b1 : (a0_7 != 0) = true := bne_iff_ne.mpr c3
  obtain rfl := Option.some.inj H
  simp only [Option.some.injEq, Prod.mk.injEq] at H
  obtain ⟨rfl⟩ := H
  go_enter Try.func35, Try.ntmps35
  go_wp2_with (first | ((with_reducible refine gate_dst (N := 2) rfl ?_); refine box_event ?hg (N := 2) ?hd (cs := #[.string a0_0, .int .i64 a0_1, .int .i64 a0_2, .int .i64 a0_3, .int .i64 a0_4, .int .i64 a0_5, .int .i64 a0_6, .int .i64 a0_7]) (t := 37) ?hr ?_; (case hd => rfl); (case hg => rfl); (case hr => first | (go_simp; done) | (go_simp; rfl)); intro gb143 hg w4 hbox hb; have n0_ := Aside0.mk (below_step (by repeat (first | (with_reducible first | exact HB.out | apply below_alloc | apply pw_below_drewN | apply below_drew1) | exact HB.out)) hb); have n1_ := Aside0.mk (hbox); have n2_ := Aside0.mk ((by rw [hg]; exact (below_size (by repeat (first | (with_reducible first | exact HB.out | apply below_alloc | apply pw_below_drewN | apply below_drew1) | exact HB.out))) : w.heap.size ≤ gb143)); have n3_ := Aside0.mk ((by rw [hg]; exact (below_size (by repeat (first | (with_reducible first | exact HB.out | apply below_alloc | apply pw_below_drewN | apply below_drew1) | exact HB.out))) : w.heap.size ≤ gb143)); clear HB; have HB := n0_; have BK143 := n1_; have GW143 := n2_; have GE143 := n3_; clear n0_ n1_ n2_ n3_; clear hb hbox hg; have hcz5_0 : w4.cell? ⟨gb143, 0, none⟩ = some (.string a0_0) := (blk_cell BK143.out 0).trans rfl; have hcz5_1 : w4.cell? ⟨gb143, 1, none⟩ = some (.int .i64 a0_1) := (blk_cell BK143.out 1).trans rfl; have hcz5_2 : w4.cell? ⟨gb143, 2, none⟩ = some (.int .i64 a0_2) := (blk_cell BK143.out 2).trans rfl; have hcz5_3 : w4.cell? ⟨gb143, 3, none⟩ = some (.int .i64 a0_3) := (blk_cell BK143.out 3).trans rfl; have hcz5_4 : w4.cell? ⟨gb143, 4, none⟩ = some (.int .i64 a0_4) := (blk_cell BK143.out 4).trans rfl; have hcz5_5 : w4.cell? ⟨gb143, 5, none⟩ = some (.int .i64 a0_5) := (blk_cell BK143.out 5).trans rfl; have hcz5_6 : w4.cell? ⟨gb143, 6, none⟩ = some (.int .i64 a0_6) := (blk_cell BK143.out 6).trans rfl; have hcz5_7 : w4.cell? ⟨gb143, 7, none⟩ = some (.int .i64 a0_7) := (blk_cell BK143.out 7).trans rfl; have hfz5_0 := blk_frozen BK143.out 0; have hfz5_1 := blk_frozen BK143.out 1; have hfz5_2 := blk_frozen BK143.out 2; have hfz5_3 := blk_frozen BK143.out 3; have hfz5_4 := blk_frozen BK143.out 4; have hfz5_5 := blk_frozen BK143.out 5; have hfz5_6 := blk_frozen BK143.out 6; have hfz5_7 := blk_frozen BK143.out 7))
  go_ret
  exact ⟨by first | rfl | (simp [errW_none, errW_some] <;> rfl) | (simp [*, errW_none, errW_some] <;> rfl), by repeat (first | (with_reducible first | exact HB.out | apply below_alloc | apply pw_below_drewN | apply below_drew1 | refine below_set ?_ GE143.out) | exact HB.out)⟩

def saw_Minutes.f (a0_0 : ByteArray) (a0_1 : Int) (a0_2 : Int) (a0_3 : Int) (a0_4 : Int) (a0_5 : Int) (a0_6 : Int) (a0_7 : Int) (a1 : Int) : Option (Int × Int) := (saw_check.f (([(⟨a0_0, a0_1, (⟨a0_2, a0_3, a0_4⟩ : S28), a0_5, a0_6, a0_7⟩ : S37)] : List (S37)))).bind fun t148 => (if t148 = 0 then (if a1 < 1 then (some (0, 1)) else (if a1 > 4000000000000 then (some (0, 1)) else ((saw_minutes.f a0_0 a0_1 a0_2 a0_3 a0_4 a0_5 a0_6 a0_7 a1).bind fun t149 => (some (t149, 0))))) else (some (0, t148)))
def gangsawref29_minutes.f (a0_0 : ByteArray) (a0_1 : Int) (a0_2 : Int) (a0_3 : Int) (a0_4 : Int) (a0_5 : Int) (a0_6 : Int) (a0_7 : Int) (a1 : Int) : Option (Int) := if a0_7 = 0 then (none) else (some (wrap64 (Int.tdiv (wrap64 ((wrap64 (a1 + a0_7)) - 1)) a0_7)))
set_option maxHeartbeats 8000000 in
set_option maxRecDepth 100000 in
theorem gangsawref29_minutes.calls (a0_0 : ByteArray) (a0_1 : Int) (a0_2 : Int) (a0_3 : Int) (a0_4 : Int) (a0_5 : Int) (a0_6 : Int) (a0_7 : Int) (a1 : Int) (r : Int) (w : World) (h : gangsawref29_minutes.f a0_0 a0_1 a0_2 a0_3 a0_4 a0_5 a0_6 a0_7 a1 = some r) :
  Calls Try.prog 34 #[.agg #[.string a0_0, .int .i64 a0_1, .int .i64 a0_2, .int .i64 a0_3, .int .i64 a0_4, .int .i64 a0_5, .int .i64 a0_6, .int .i64 a0_7], .int .i64 a1] w fun e w' => e = .returned (.int .i64 r) ∧ Below w.heap.size w w' := by
 have hu37 := Try.underlying37
 have HB := Aside0.mk (Below.refl w.heap.size w)
 have H : (if a0_7 = 0 then (none) else (some (wrap64 (Int.tdiv (wrap64 ((wrap64 (a1 + a0_7)) - 1)) a0_7)))) = some r := h
 clear h
 by_cases c3 : a0_7 = 0
 ·rw [if_pos c3] at H
  exact absurd H (by simp)
 ·rw [if_neg c3] at H
  have c3b0 : (a0_7 == 0) = false := beq_eq_false_iff_ne.mpr c3
  have c3b1 : (a0_7 != 0) = true := bne_iff_ne.mpr c3
  obtain rfl := Option.some.inj H
  simp only [Option.some.injEq, Prod.mk.injEq] at H
  obtain ⟨rfl⟩ := H
  go_enter Try.func34, Try.ntmps34
  go_wp2_with (first | ((with_reducible refine gate_dst (N := 2) rfl ?_); refine box_event ?hg (N := 2) ?hd (cs := #[.string a0_0, .int .i64 a0_1, .int .i64 a0_2, .int .i64 a0_3, .int .i64 a0_4, .int .i64 a0_5, .int .i64 a0_6, .int .i64 a0_7]) (t := 37) ?hr ?_; (case hd => rfl); (case hg => rfl); (case hr => first | (go_simp; done) | (go_simp; rfl)); intro gb150 hg w4 hbox hb; have n0_ := Aside0.mk (below_step (by repeat (first | (with_reducible first | exact HB.out | apply below_alloc | apply pw_below_drewN | apply below_drew1) | exact HB.out)) hb); have n1_ := Aside0.mk (hbox); have n2_ := Aside0.mk ((by rw [hg]; exact (below_size (by repeat (first | (with_reducible first | exact HB.out | apply below_alloc | apply pw_below_drewN | apply below_drew1) | exact HB.out))) : w.heap.size ≤ gb150)); have n3_ := Aside0.mk ((by rw [hg]; exact (below_size (by repeat (first | (with_reducible first | exact HB.out | apply below_alloc | apply pw_below_drewN | apply below_drew1) | exact HB.out))) : w.heap.size ≤ gb150)); clear HB; have HB := n0_; have BK150 := n1_; have GW150 := n2_; have GE150 := n3_; clear n0_ n1_ n2_ n3_; clear hb hbox hg; have hcz5_0 : w4.cell? ⟨gb150, 0, none⟩ = some (.string a0_0) := (blk_cell BK150.out 0).trans rfl; have hcz5_1 : w4.cell? ⟨gb150, 1, none⟩ = some (.int .i64 a0_1) := (blk_cell BK150.out 1).trans rfl; have hcz5_2 : w4.cell? ⟨gb150, 2, none⟩ = some (.int .i64 a0_2) := (blk_cell BK150.out 2).trans rfl; have hcz5_3 : w4.cell? ⟨gb150, 3, none⟩ = some (.int .i64 a0_3) := (blk_cell BK150.out 3).trans rfl; have hcz5_4 : w4.cell? ⟨gb150, 4, none⟩ = some (.int .i64 a0_4) := (blk_cell BK150.out 4).trans rfl; have hcz5_5 : w4.cell? ⟨gb150, 5, none⟩ = some (.int .i64 a0_5) := (blk_cell BK150.out 5).trans rfl; have hcz5_6 : w4.cell? ⟨gb150, 6, none⟩ = some (.int .i64 a0_6) := (blk_cell BK150.out 6).trans rfl; have hcz5_7 : w4.cell? ⟨gb150, 7, none⟩ = some (.int .i64 a0_7) := (blk_cell BK150.out 7).trans rfl; have hfz5_0 := blk_frozen BK150.out 0; have hfz5_1 := blk_frozen BK150.out 1; have hfz5_2 := blk_frozen BK150.out 2; have hfz5_3 := blk_frozen BK150.out 3; have hfz5_4 := blk_frozen BK150.out 4; have hfz5_5 := blk_frozen BK150.out 5; have hfz5_6 := blk_frozen BK150.out 6; have hfz5_7 := blk_frozen BK150.out 7))
  go_ret
  exact ⟨by first | rfl | (simp [errW_none, errW_some] <;> rfl) | (simp [*, errW_none, errW_some] <;> rfl), by repeat (first | (with_reducible first | exact HB.out | apply below_alloc | apply pw_below_drewN | apply below_drew1 | refine below_set ?_ GE150.out) | exact HB.out)⟩

end Go.Proofs.Ytlbpdhjdlnhciaa.P
