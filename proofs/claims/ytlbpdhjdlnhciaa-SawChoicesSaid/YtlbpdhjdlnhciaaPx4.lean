/- What functions of the program return: each contract says so of one function, for every input at which its pure function yields. -/
import Derived.Test.YtlbpdhjdlnhciaaPx0
import Derived.Test.YtlbpdhjdlnhciaaPx3
namespace Go.Proofs.Ytlbpdhjdlnhciaa.P
open Go.RowKit Go.Proofs.YtlbpdhjdlnhciaaW.PrintWords Go.Proofs.YtlbpdhjdlnhciaaW.PrintLast Go.Proofs.YtlbpdhjdlnhciaaW.PrintMore
attribute [local go_sem] max2_int min2_int max_two min_two max_three min_three max_four min_four   -- for this text's walks alone
set_option linter.unusedVariables false
set_option linter.unusedSimpArgs false

mutual
def gangsawref29_each.l0 : Nat → List (S37) → Int → Option (Int)
 | 0, _, _ => none
 | k + 1, x0, x3 => if x3 < (x0.length : Int) then (if 0 ≤ x3 then ((gangsawref09_Name.f k ((rd_T37 x0 x3).f0)).bind fun t131 => (if t131 = true then (gangsawref29_each.l0 k x0 (wrap64 (x3 + 1))) else (some 4))) else (none)) else (gangsawref29_each.l1 k x0 0)
def gangsawref29_each.l1 : Nat → List (S37) → Int → Option (Int)
 | 0, _, _ => none
 | k + 1, x0, x4 => if x4 < (x0.length : Int) then (if 0 ≤ x4 then ((gangsawref29_kind.f ((rd_T37 x0 x4).f1)).bind fun t133 => (if t133 = true then (gangsawref29_each.l1 k x0 (wrap64 (x4 + 1))) else (some 3))) else (none)) else (gangsawref29_each.l2 k x0 0)
def gangsawref29_each.l2 : Nat → List (S37) → Int → Option (Int)
 | 0, _, _ => none
 | k + 1, x0, x5 => if x5 < (x0.length : Int) then (if 0 ≤ x5 then ((gangsawref29_sized.f ((rd_T37 x0 x5).f0) ((rd_T37 x0 x5).f1) ((rd_T37 x0 x5).f2.f0) ((rd_T37 x0 x5).f2.f1) ((rd_T37 x0 x5).f2.f2) ((rd_T37 x0 x5).f3) ((rd_T37 x0 x5).f4) ((rd_T37 x0 x5).f5)).bind fun t135 => (if t135 = true then (gangsawref29_each.l2 k x0 (wrap64 (x5 + 1))) else (some 6))) else (none)) else (some 0)
end
def gangsawref29_each.f (k : Nat) (l0 : List (S37)) : Option (Int) := gangsawref29_each.l0 k l0 0
theorem gangsawref29_each.mono_l : ∀ k, (∀ y0 y1, LeO (gangsawref29_each.l0 k y0 y1) (gangsawref29_each.l0 (k + 1) y0 y1)) ∧ (∀ y0 y1, LeO (gangsawref29_each.l1 k y0 y1) (gangsawref29_each.l1 (k + 1) y0 y1)) ∧ (∀ y0 y1, LeO (gangsawref29_each.l2 k y0 y1) (gangsawref29_each.l2 (k + 1) y0 y1))
 | 0 => ⟨fun _ _ r h => by simp [gangsawref29_each.l0] at h, fun _ _ r h => by simp [gangsawref29_each.l1] at h, fun _ _ r h => by simp [gangsawref29_each.l2] at h⟩
 | k + 1 => by
  obtain ⟨ih0, ih1, ih2⟩ := gangsawref29_each.mono_l k
  refine ⟨?_, ?_, ?_⟩
  ·intro y0 y1
   unfold gangsawref29_each.l0
   repeat' first
   | (with_reducible exact ih0 _ _)
   | (with_reducible exact ih1 _ _)
   | (with_reducible exact ih2 _ _)
   | (with_reducible exact gangsawref09_Name.mono _ _)
   | (with_reducible refine contains3.mono2 (fun x_ => ?_))
   | (with_reducible refine contains37.mono2 (fun x_ => ?_))
   | (with_reducible refine index3.mono2 (fun x_ => ?_))
   | (with_reducible refine index37.mono2 (fun x_ => ?_))
   | (with_reducible exact LeO.refl _)
   | (with_reducible exact LeO.none _)
   | (with_reducible refine LeO.ite ?_ ?_)
   | (with_reducible refine LeO.bind ?_ (fun _ => ?_))
   | exact ih0 _ _
   | exact ih1 _ _
   | exact ih2 _ _
   | exact gangsawref09_Name.mono _ _
   | exact LeO.none _
   | refine LeO.ite ?_ ?_
   | refine LeO.bind ?_ (fun _ => ?_)
  ·intro y0 y1
   unfold gangsawref29_each.l1
   repeat' first
   | (with_reducible exact ih0 _ _)
   | (with_reducible exact ih1 _ _)
   | (with_reducible exact ih2 _ _)
   | (with_reducible exact gangsawref09_Name.mono _ _)
   | (with_reducible refine contains3.mono2 (fun x_ => ?_))
   | (with_reducible refine contains37.mono2 (fun x_ => ?_))
   | (with_reducible refine index3.mono2 (fun x_ => ?_))
   | (with_reducible refine index37.mono2 (fun x_ => ?_))
   | (with_reducible exact LeO.refl _)
   | (with_reducible exact LeO.none _)
   | (with_reducible refine LeO.ite ?_ ?_)
   | (with_reducible refine LeO.bind ?_ (fun _ => ?_))
   | exact ih0 _ _
   | exact ih1 _ _
   | exact ih2 _ _
   | exact gangsawref09_Name.mono _ _
   | exact LeO.none _
   | refine LeO.ite ?_ ?_
   | refine LeO.bind ?_ (fun _ => ?_)
  ·intro y0 y1
   unfold gangsawref29_each.l2
   repeat' first
   | (with_reducible exact ih0 _ _)
   | (with_reducible exact ih1 _ _)
   | (with_reducible exact ih2 _ _)
   | (with_reducible exact gangsawref09_Name.mono _ _)
   | (with_reducible refine contains3.mono2 (fun x_ => ?_))
   | (with_reducible refine contains37.mono2 (fun x_ => ?_))
   | (with_reducible refine index3.mono2 (fun x_ => ?_))
   | (with_reducible refine index37.mono2 (fun x_ => ?_))
   | (with_reducible exact LeO.refl _)
   | (with_reducible exact LeO.none _)
   | (with_reducible refine LeO.ite ?_ ?_)
   | (with_reducible refine LeO.bind ?_ (fun _ => ?_))
   | exact ih0 _ _
   | exact ih1 _ _
   | exact ih2 _ _
   | exact gangsawref09_Name.mono _ _
   | exact LeO.none _
   | refine LeO.ite ?_ ?_
   | refine LeO.bind ?_ (fun _ => ?_)
theorem gangsawref29_each.mono : ∀ a0 k, LeO (gangsawref29_each.f k a0) (gangsawref29_each.f (k + 1) a0) := by
 intro a0 k
 obtain ⟨ih0, ih1, ih2⟩ := gangsawref29_each.mono_l k
 unfold gangsawref29_each.f
 repeat' first
   | (with_reducible exact ih0 _ _)
   | (with_reducible exact ih1 _ _)
   | (with_reducible exact ih2 _ _)
   | (with_reducible exact gangsawref09_Name.mono _ _)
   | (with_reducible refine contains3.mono2 (fun x_ => ?_))
   | (with_reducible refine contains37.mono2 (fun x_ => ?_))
   | (with_reducible refine index3.mono2 (fun x_ => ?_))
   | (with_reducible refine index37.mono2 (fun x_ => ?_))
   | (with_reducible exact LeO.refl _)
   | (with_reducible exact LeO.none _)
   | (with_reducible refine LeO.ite ?_ ?_)
   | (with_reducible refine LeO.bind ?_ (fun _ => ?_))
   | exact ih0 _ _
   | exact ih1 _ _
   | exact ih2 _ _
   | exact gangsawref09_Name.mono _ _
   | exact LeO.none _
   | refine LeO.ite ?_ ?_
   | refine LeO.bind ?_ (fun _ => ?_)
set_option maxHeartbeats 8000000 in
set_option maxRecDepth 100000 in
theorem gangsawref29_each.calls (k : Nat) (A0 : Option Addr) (c0 : Nat) (l0 : List (S37)) (r : Int) (w : World) (hr0 : Kd.C k37 w A0 l0.length l0) (hc0 : l0.length ≤ c0) (h : gangsawref29_each.f k l0 = some r) :
  Calls Try.prog 27 #[.slice A0 l0.length c0] w fun e w' => e = .returned (.int .i64 r) ∧ Below w.heap.size w w' := by
 have hu37 := Try.underlying37
 have HR0 := Aside0.mk hr0
 have HC0 := Aside0.mk hc0
 clear hr0 hc0
 have HB := Aside0.mk (Below.refl w.heap.size w)
 have H : (gangsawref29_each.l0 k l0 0) = some r := h
 clear h
 have H' := Aside0.mk H
 clear H
 go_enter Try.func27, Try.ntmps27
 go_wp2
 go_loopg [3] k (fun kq v3 w' => ∃ (x3_1 : Int), v3 = .int .i64 x3_1 ∧ Aside0 (gangsawref29_each.l0 kq l0 x3_1 = some r) ∧ Aside0 (kq ≤ k) ∧ Aside0 (Below w.heap.size w w'))
 case atStart => exact ⟨(0), (by first | rfl | (simp; done) | (simp [*]; done)), H', ⟨Nat.le_refl _⟩, ⟨by repeat (first | (with_reducible first | exact HB.out | apply below_alloc | apply pw_below_drewN | apply below_drew1) | exact HB.out)⟩⟩
 case round =>
  clear H'
  obtain ⟨x3_1, rfl, HA, HK1, HB⟩ := hrel
  cases gk with
  | zero => exact absurd HA.out (by simp [gangsawref29_each.l0])
  | succ k1 =>
   have H := HA.out
   clear HA
   simp only [gangsawref29_each.l0] at H
   by_cases c2 : x3_1 < (l0.length : Int)
   ·rw [if_pos c2] at H
    have c2b0 : decide (x3_1 < (l0.length : Int)) = true := decide_eq_true c2
    clear c2
    by_cases c3 : 0 ≤ x3_1
    ·rw [if_pos c3] at H
     have c3b0 : decide (0 ≤ x3_1) = true := decide_eq_true c3
     clear c3
     replace H := Option.bind_eq_some_iff.mp H
     obtain ⟨t131, A40, H⟩ := H
     replace H : (if t131 = true then (gangsawref29_each.l0 k1 l0 (wrap64 (x3_1 + 1))) else (some 4)) = some r := H
     have A4 := Aside0.mk A40
     clear A40
     by_cases c5 : t131 = true
     ·subst c5
      have H1 : (gangsawref29_each.l0 k1 l0 (wrap64 (x3_1 + 1))) = some r := by rw [if_pos rfl] at H; exact H
      clear H
      have H := H1
      clear H1
      have H' := Aside0.mk H
      clear H
      have p130 : 0 ≤ (x3_1 : Int) := of_decide_eq_true (by first | (with_reducible assumption) | assumption)
      have q130 : x3_1 < (l0.length : Int) := of_decide_eq_true (by first | (with_reducible assumption) | assumption)
      obtain ⟨ad130, e130, hx130_0, hx130_1, hx130_2, hx130_3, hx130_4, hx130_5, hx130_6, hx130_7⟩ := at_T37 HR0.out x3_1 p130 q130
      cases e130
      replace hx130_0 := (HB.out.cell (World.block_lt_of_cell? w _ hx130_0)).trans hx130_0
      replace hx130_1 := (HB.out.cell (World.block_lt_of_cell? w _ hx130_1)).trans hx130_1
      replace hx130_2 := (HB.out.cell (World.block_lt_of_cell? w _ hx130_2)).trans hx130_2
      replace hx130_3 := (HB.out.cell (World.block_lt_of_cell? w _ hx130_3)).trans hx130_3
      replace hx130_4 := (HB.out.cell (World.block_lt_of_cell? w _ hx130_4)).trans hx130_4
      replace hx130_5 := (HB.out.cell (World.block_lt_of_cell? w _ hx130_5)).trans hx130_5
      replace hx130_6 := (HB.out.cell (World.block_lt_of_cell? w _ hx130_6)).trans hx130_6
      replace hx130_7 := (HB.out.cell (World.block_lt_of_cell? w _ hx130_7)).trans hx130_7
      replace p130 := eq_true p130
      replace q130 := eq_true q130
      go_wp2_with (first | ((with_reducible refine gate_callee (f := 50) rfl ?_); refine goesL_ (some 17) rfl rfl Try.func50 (by kernel_rfl) rfl #[.string ((rd_T37 l0 x3_1).f0)] rfl (by (try simp only [List.map_toArray, List.map_cons, List.map_nil]); first | done | rfl | (simp only [List.length_drop, List.length_take]; rfl)) ?_; (with_reducible refine (gangsawref09_Name.calls k1 ((rd_T37 l0 x3_1).f0) true _ A4.out).mono ?_); rintro e w' ⟨rfl, ⟨nd, rfl⟩⟩; refine ⟨_, rfl, ?_⟩))
      go_roundg k1
      case measure => have := HK1.out; omega
      case rel => exact ⟨(wrap64 (x3_1 + 1)), (by first | rfl | (simp; done) | (simp [*]; done)), H', ⟨by have := HK1.out; omega⟩, ⟨by repeat (first | (with_reducible first | exact HB.out | apply below_alloc | apply pw_below_drewN | apply below_drew1) | exact HB.out)⟩⟩
     ·replace c5 := Bool.eq_false_iff.mpr c5
      subst c5
      have H1 : (some 4) = some r := by rw [if_neg (show ¬ (false = true) by decide)] at H; exact H
      clear H
      have H := H1
      clear H1
      obtain rfl := Option.some.inj H
      simp only [Option.some.injEq, Prod.mk.injEq] at H
      obtain ⟨rfl⟩ := H
      have p130 : 0 ≤ (x3_1 : Int) := of_decide_eq_true (by first | (with_reducible assumption) | assumption)
      have q130 : x3_1 < (l0.length : Int) := of_decide_eq_true (by first | (with_reducible assumption) | assumption)
      obtain ⟨ad130, e130, hx130_0, hx130_1, hx130_2, hx130_3, hx130_4, hx130_5, hx130_6, hx130_7⟩ := at_T37 HR0.out x3_1 p130 q130
      cases e130
      replace hx130_0 := (HB.out.cell (World.block_lt_of_cell? w _ hx130_0)).trans hx130_0
      replace hx130_1 := (HB.out.cell (World.block_lt_of_cell? w _ hx130_1)).trans hx130_1
      replace hx130_2 := (HB.out.cell (World.block_lt_of_cell? w _ hx130_2)).trans hx130_2
      replace hx130_3 := (HB.out.cell (World.block_lt_of_cell? w _ hx130_3)).trans hx130_3
      replace hx130_4 := (HB.out.cell (World.block_lt_of_cell? w _ hx130_4)).trans hx130_4
      replace hx130_5 := (HB.out.cell (World.block_lt_of_cell? w _ hx130_5)).trans hx130_5
      replace hx130_6 := (HB.out.cell (World.block_lt_of_cell? w _ hx130_6)).trans hx130_6
      replace hx130_7 := (HB.out.cell (World.block_lt_of_cell? w _ hx130_7)).trans hx130_7
      replace p130 := eq_true p130
      replace q130 := eq_true q130
      go_wp2_with (first | ((with_reducible refine gate_callee (f := 50) rfl ?_); refine goesL_ (some 17) rfl rfl Try.func50 (by kernel_rfl) rfl #[.string ((rd_T37 l0 x3_1).f0)] rfl (by (try simp only [List.map_toArray, List.map_cons, List.map_nil]); first | done | rfl | (simp only [List.length_drop, List.length_take]; rfl)) ?_; (with_reducible refine (gangsawref09_Name.calls k1 ((rd_T37 l0 x3_1).f0) false _ A4.out).mono ?_); rintro e w' ⟨rfl, ⟨nd, rfl⟩⟩; refine ⟨_, rfl, ?_⟩))
      go_ret
      exact ⟨by first | rfl | (simp [errW_none, errW_some] <;> rfl) | (simp [*, errW_none, errW_some] <;> rfl), by repeat (first | (with_reducible first | exact HB.out | apply below_alloc | apply pw_below_drewN | apply below_drew1) | exact HB.out)⟩
    ·rw [if_neg c3] at H
     exact absurd H (by simp)
   ·rw [if_neg c2] at H
    have c2b0 : decide (x3_1 < (l0.length : Int)) = false := decide_eq_false c2
    clear c2
    have H' := Aside0.mk H
    clear H
    go_wp2
    go_loopg [4] k1 (fun kq v4 w' => ∃ (x4_2 : Int), v4 = .int .i64 x4_2 ∧ Aside0 (gangsawref29_each.l1 kq l0 x4_2 = some r) ∧ Aside0 (kq ≤ k1) ∧ Aside0 (Below w.heap.size w w'))
    case atStart => exact ⟨(0), (by first | rfl | (simp; done) | (simp [*]; done)), H', ⟨Nat.le_refl _⟩, ⟨by repeat (first | (with_reducible first | exact HB.out | apply below_alloc | apply pw_below_drewN | apply below_drew1) | exact HB.out)⟩⟩
    case round =>
     clear H'
     try clear p1
     try clear q1
     try clear hx1
     try clear c2
     try clear c2b0
     try clear p2
     try clear c3
     try clear c3b0
     try clear c5
     try clear hx130_0
     try clear hx130_1
     try clear hx130_2
     try clear hx130_3
     try clear hx130_4
     try clear hx130_5
     try clear hx130_6
     try clear hx130_7
     try clear p130
     try clear q130
     obtain ⟨x4_2, rfl, HA, HK2, HB⟩ := hrel
     cases gk with
     | zero => exact absurd HA.out (by simp [gangsawref29_each.l1])
     | succ k2 =>
      have H := HA.out
      clear HA
      simp only [gangsawref29_each.l1] at H
      by_cases c6 : x4_2 < (l0.length : Int)
      ·rw [if_pos c6] at H
       have c6b0 : decide (x4_2 < (l0.length : Int)) = true := decide_eq_true c6
       clear c6
       by_cases c7 : 0 ≤ x4_2
       ·rw [if_pos c7] at H
        have c7b0 : decide (0 ≤ x4_2) = true := decide_eq_true c7
        clear c7
        replace H := Option.bind_eq_some_iff.mp H
        obtain ⟨t133, A80, H⟩ := H
        replace H : (if t133 = true then (gangsawref29_each.l1 k2 l0 (wrap64 (x4_2 + 1))) else (some 3)) = some r := H
        have A8 := Aside0.mk A80
        clear A80
        by_cases c9 : t133 = true
        ·subst c9
         have H1 : (gangsawref29_each.l1 k2 l0 (wrap64 (x4_2 + 1))) = some r := by rw [if_pos rfl] at H; exact H
         clear H
         have H := H1
         clear H1
         have H' := Aside0.mk H
         clear H
         have p132 : 0 ≤ (x4_2 : Int) := of_decide_eq_true (by first | (with_reducible assumption) | assumption)
         have q132 : x4_2 < (l0.length : Int) := of_decide_eq_true (by first | (with_reducible assumption) | assumption)
         obtain ⟨ad132, e132, hx132_0, hx132_1, hx132_2, hx132_3, hx132_4, hx132_5, hx132_6, hx132_7⟩ := at_T37 HR0.out x4_2 p132 q132
         cases e132
         replace hx132_0 := (HB.out.cell (World.block_lt_of_cell? w _ hx132_0)).trans hx132_0
         replace hx132_1 := (HB.out.cell (World.block_lt_of_cell? w _ hx132_1)).trans hx132_1
         replace hx132_2 := (HB.out.cell (World.block_lt_of_cell? w _ hx132_2)).trans hx132_2
         replace hx132_3 := (HB.out.cell (World.block_lt_of_cell? w _ hx132_3)).trans hx132_3
         replace hx132_4 := (HB.out.cell (World.block_lt_of_cell? w _ hx132_4)).trans hx132_4
         replace hx132_5 := (HB.out.cell (World.block_lt_of_cell? w _ hx132_5)).trans hx132_5
         replace hx132_6 := (HB.out.cell (World.block_lt_of_cell? w _ hx132_6)).trans hx132_6
         replace hx132_7 := (HB.out.cell (World.block_lt_of_cell? w _ hx132_7)).trans hx132_7
         replace p132 := eq_true p132
         replace q132 := eq_true q132
         go_wp2_with (first | ((with_reducible refine gate_callee (f := 51) rfl ?_); refine goesL_ (some 30) rfl rfl Try.func51 (by kernel_rfl) rfl #[.int .i64 ((rd_T37 l0 x4_2).f1)] rfl (by (try simp only [List.map_toArray, List.map_cons, List.map_nil]); first | done | rfl | (simp only [List.length_drop, List.length_take]; rfl)) ?_; (with_reducible refine (gangsawref29_kind.calls ((rd_T37 l0 x4_2).f1) true _ A8.out).mono ?_); rintro e w' ⟨rfl, ⟨nd, rfl⟩⟩; refine ⟨_, rfl, ?_⟩))
         go_roundg k2
         case measure => have := HK1.out; have := HK2.out; omega
         case rel => exact ⟨(wrap64 (x4_2 + 1)), (by first | rfl | (simp; done) | (simp [*]; done)), H', ⟨by have := HK1.out; have := HK2.out; omega⟩, ⟨by repeat (first | (with_reducible first | exact HB.out | apply below_alloc | apply pw_below_drewN | apply below_drew1) | exact HB.out)⟩⟩
        ·replace c9 := Bool.eq_false_iff.mpr c9
         subst c9
         have H1 : (some 3) = some r := by rw [if_neg (show ¬ (false = true) by decide)] at H; exact H
         clear H
         have H := H1
         clear H1
         obtain rfl := Option.some.inj H
         simp only [Option.some.injEq, Prod.mk.injEq] at H
         obtain ⟨rfl⟩ := H
         have p132 : 0 ≤ (x4_2 : Int) := of_decide_eq_true (by first | (with_reducible assumption) | assumption)
         have q132 : x4_2 < (l0.length : Int) := of_decide_eq_true (by first | (with_reducible assumption) | assumption)
         obtain ⟨ad132, e132, hx132_0, hx132_1, hx132_2, hx132_3, hx132_4, hx132_5, hx132_6, hx132_7⟩ := at_T37 HR0.out x4_2 p132 q132
         cases e132
         replace hx132_0 := (HB.out.cell (World.block_lt_of_cell? w _ hx132_0)).trans hx132_0
         replace hx132_1 := (HB.out.cell (World.block_lt_of_cell? w _ hx132_1)).trans hx132_1
         replace hx132_2 := (HB.out.cell (World.block_lt_of_cell? w _ hx132_2)).trans hx132_2
         replace hx132_3 := (HB.out.cell (World.block_lt_of_cell? w _ hx132_3)).trans hx132_3
         replace hx132_4 := (HB.out.cell (World.block_lt_of_cell? w _ hx132_4)).trans hx132_4
         replace hx132_5 := (HB.out.cell (World.block_lt_of_cell? w _ hx132_5)).trans hx132_5
         replace hx132_6 := (HB.out.cell (World.block_lt_of_cell? w _ hx132_6)).trans hx132_6
         replace hx132_7 := (HB.out.cell (World.block_lt_of_cell? w _ hx132_7)).trans hx132_7
         replace p132 := eq_true p132
         replace q132 := eq_true q132
         go_wp2_with (first | ((with_reducible refine gate_callee (f := 51) rfl ?_); refine goesL_ (some 30) rfl rfl Try.func51 (by kernel_rfl) rfl #[.int .i64 ((rd_T37 l0 x4_2).f1)] rfl (by (try simp only [List.map_toArray, List.map_cons, List.map_nil]); first | done | rfl | (simp only [List.length_drop, List.length_take]; rfl)) ?_; (with_reducible refine (gangsawref29_kind.calls ((rd_T37 l0 x4_2).f1) false _ A8.out).mono ?_); rintro e w' ⟨rfl, ⟨nd, rfl⟩⟩; refine ⟨_, rfl, ?_⟩))
         go_ret
         exact ⟨by first | rfl | (simp [errW_none, errW_some] <;> rfl) | (simp [*, errW_none, errW_some] <;> rfl), by repeat (first | (with_reducible first | exact HB.out | apply below_alloc | apply pw_below_drewN | apply below_drew1) | exact HB.out)⟩
       ·rw [if_neg c7] at H
        exact absurd H (by simp)
      ·rw [if_neg c6] at H
       have c6b0 : decide (x4_2 < (l0.length : Int)) = false := decide_eq_false c6
       clear c6
       have H' := Aside0.mk H
       clear H
       go_wp2
       go_loopg [5] k2 (fun kq v5 w' => ∃ (x5_3 : Int), v5 = .int .i64 x5_3 ∧ Aside0 (gangsawref29_each.l2 kq l0 x5_3 = some r) ∧ Aside0 (kq ≤ k2) ∧ Aside0 (Below w.heap.size w w'))
       case atStart => exact ⟨(0), (by first | rfl | (simp; done) | (simp [*]; done)), H', ⟨Nat.le_refl _⟩, ⟨by repeat (first | (with_reducible first | exact HB.out | apply below_alloc | apply pw_below_drewN | apply below_drew1) | exact HB.out)⟩⟩
       case round =>
        clear H'
        try clear p1
        try clear q1
        try clear hx1
        try clear c2
        try clear c2b0
        try clear p2
        try clear c3
        try clear c3b0
        try clear c5
        try clear c6
        try clear c6b0
        try clear p6
        try clear c7
        try clear c7b0
        try clear c9
        try clear hx130_0
        try clear hx130_1
        try clear hx130_2
        try clear hx130_3
        try clear hx130_4
        try clear hx130_5
        try clear hx130_6
        try clear hx130_7
        try clear hx132_0
        try clear hx132_1
        try clear hx132_2
        try clear hx132_3
        try clear hx132_4
        try clear hx132_5
        try clear hx132_6
        try clear hx132_7
        try clear p1
        try clear p130
        try clear p132
        try clear p2
        try clear q1
        try clear q130
        try clear q132
        obtain ⟨x5_3, rfl, HA, HK3, HB⟩ := hrel
        cases gk with
        | zero => exact absurd HA.out (by simp [gangsawref29_each.l2])
        | succ k3 =>
         have H := HA.out
         clear HA
         simp only [gangsawref29_each.l2] at H
         by_cases c10 : x5_3 < (l0.length : Int)
         ·rw [if_pos c10] at H
          have c10b0 : decide (x5_3 < (l0.length : Int)) = true := decide_eq_true c10
          clear c10
          by_cases c11 : 0 ≤ x5_3
          ·rw [if_pos c11] at H
           have c11b0 : decide (0 ≤ x5_3) = true := decide_eq_true c11
           clear c11
           replace H := Option.bind_eq_some_iff.mp H
           obtain ⟨t135, A120, H⟩ := H
           replace H : (if t135 = true then (gangsawref29_each.l2 k3 l0 (wrap64 (x5_3 + 1))) else (some 6)) = some r := H
           have A12 := Aside0.mk A120
           clear A120
           by_cases c13 : t135 = true
           ·subst c13
            have H1 : (gangsawref29_each.l2 k3 l0 (wrap64 (x5_3 + 1))) = some r := by rw [if_pos rfl] at H; exact H
            clear H
            have H := H1
            clear H1
            have H' := Aside0.mk H
            clear H
            have p134 : 0 ≤ (x5_3 : Int) := of_decide_eq_true (by first | (with_reducible assumption) | assumption)
            have q134 : x5_3 < (l0.length : Int) := of_decide_eq_true (by first | (with_reducible assumption) | assumption)
            obtain ⟨ad134, e134, hx134_0, hx134_1, hx134_2, hx134_3, hx134_4, hx134_5, hx134_6, hx134_7⟩ := at_T37 HR0.out x5_3 p134 q134
            cases e134
            replace hx134_0 := (HB.out.cell (World.block_lt_of_cell? w _ hx134_0)).trans hx134_0
            replace hx134_1 := (HB.out.cell (World.block_lt_of_cell? w _ hx134_1)).trans hx134_1
            replace hx134_2 := (HB.out.cell (World.block_lt_of_cell? w _ hx134_2)).trans hx134_2
            replace hx134_3 := (HB.out.cell (World.block_lt_of_cell? w _ hx134_3)).trans hx134_3
            replace hx134_4 := (HB.out.cell (World.block_lt_of_cell? w _ hx134_4)).trans hx134_4
            replace hx134_5 := (HB.out.cell (World.block_lt_of_cell? w _ hx134_5)).trans hx134_5
            replace hx134_6 := (HB.out.cell (World.block_lt_of_cell? w _ hx134_6)).trans hx134_6
            replace hx134_7 := (HB.out.cell (World.block_lt_of_cell? w _ hx134_7)).trans hx134_7
            replace p134 := eq_true p134
            replace q134 := eq_true q134
            go_wp2_with (first | ((with_reducible refine gate_callee (f := 52) rfl ?_); refine goesL_ (some 42) rfl rfl Try.func52 (by kernel_rfl) rfl #[.agg #[.string ((rd_T37 l0 x5_3).f0), .int .i64 ((rd_T37 l0 x5_3).f1), .int .i64 ((rd_T37 l0 x5_3).f2.f0), .int .i64 ((rd_T37 l0 x5_3).f2.f1), .int .i64 ((rd_T37 l0 x5_3).f2.f2), .int .i64 ((rd_T37 l0 x5_3).f3), .int .i64 ((rd_T37 l0 x5_3).f4), .int .i64 ((rd_T37 l0 x5_3).f5)]] rfl (by (try simp only [List.map_toArray, List.map_cons, List.map_nil]); first | done | rfl | (simp only [List.length_drop, List.length_take]; rfl)) ?_; (with_reducible refine (gangsawref29_sized.calls ((rd_T37 l0 x5_3).f0) ((rd_T37 l0 x5_3).f1) ((rd_T37 l0 x5_3).f2.f0) ((rd_T37 l0 x5_3).f2.f1) ((rd_T37 l0 x5_3).f2.f2) ((rd_T37 l0 x5_3).f3) ((rd_T37 l0 x5_3).f4) ((rd_T37 l0 x5_3).f5) true _ A12.out).mono ?_); rintro e w14 ⟨rfl, hb⟩; refine ⟨_, rfl, ?_⟩; have n0_ := Aside0.mk (below_step (by repeat (first | (with_reducible first | exact HB.out | apply below_alloc | apply pw_below_drewN | apply below_drew1) | exact HB.out)) hb); clear HB; have HB := n0_; clear n0_; (try clear hb); (try clear hb2); (try clear hk); (try clear hi)))
            go_roundg k3
            case measure => have := HK1.out; have := HK2.out; have := HK3.out; omega
            case rel => exact ⟨(wrap64 (x5_3 + 1)), (by first | rfl | (simp; done) | (simp [*]; done)), H', ⟨by have := HK1.out; have := HK2.out; have := HK3.out; omega⟩, ⟨by repeat (first | (with_reducible first | exact HB.out | apply below_alloc | apply pw_below_drewN | apply below_drew1) | exact HB.out)⟩⟩
           ·replace c13 := Bool.eq_false_iff.mpr c13
            subst c13
            have H1 : (some 6) = some r := by rw [if_neg (show ¬ (false = true) by decide)] at H; exact H
            clear H
            have H := H1
            clear H1
            obtain rfl := Option.some.inj H
            simp only [Option.some.injEq, Prod.mk.injEq] at H
            obtain ⟨rfl⟩ := H
            have p134 : 0 ≤ (x5_3 : Int) := of_decide_eq_true (by first | (with_reducible assumption) | assumption)
            have q134 : x5_3 < (l0.length : Int) := of_decide_eq_true (by first | (with_reducible assumption) | assumption)
            obtain ⟨ad134, e134, hx134_0, hx134_1, hx134_2, hx134_3, hx134_4, hx134_5, hx134_6, hx134_7⟩ := at_T37 HR0.out x5_3 p134 q134
            cases e134
            replace hx134_0 := (HB.out.cell (World.block_lt_of_cell? w _ hx134_0)).trans hx134_0
            replace hx134_1 := (HB.out.cell (World.block_lt_of_cell? w _ hx134_1)).trans hx134_1
            replace hx134_2 := (HB.out.cell (World.block_lt_of_cell? w _ hx134_2)).trans hx134_2
            replace hx134_3 := (HB.out.cell (World.block_lt_of_cell? w _ hx134_3)).trans hx134_3
            replace hx134_4 := (HB.out.cell (World.block_lt_of_cell? w _ hx134_4)).trans hx134_4
            replace hx134_5 := (HB.out.cell (World.block_lt_of_cell? w _ hx134_5)).trans hx134_5
            replace hx134_6 := (HB.out.cell (World.block_lt_of_cell? w _ hx134_6)).trans hx134_6
            replace hx134_7 := (HB.out.cell (World.block_lt_of_cell? w _ hx134_7)).trans hx134_7
            replace p134 := eq_true p134
            replace q134 := eq_true q134
            go_wp2_with (first | ((with_reducible refine gate_callee (f := 52) rfl ?_); refine goesL_ (some 42) rfl rfl Try.func52 (by kernel_rfl) rfl #[.agg #[.string ((rd_T37 l0 x5_3).f0), .int .i64 ((rd_T37 l0 x5_3).f1), .int .i64 ((rd_T37 l0 x5_3).f2.f0), .int .i64 ((rd_T37 l0 x5_3).f2.f1), .int .i64 ((rd_T37 l0 x5_3).f2.f2), .int .i64 ((rd_T37 l0 x5_3).f3), .int .i64 ((rd_T37 l0 x5_3).f4), .int .i64 ((rd_T37 l0 x5_3).f5)]] rfl (by (try simp only [List.map_toArray, List.map_cons, List.map_nil]); first | done | rfl | (simp only [List.length_drop, List.length_take]; rfl)) ?_; (with_reducible refine (gangsawref29_sized.calls ((rd_T37 l0 x5_3).f0) ((rd_T37 l0 x5_3).f1) ((rd_T37 l0 x5_3).f2.f0) ((rd_T37 l0 x5_3).f2.f1) ((rd_T37 l0 x5_3).f2.f2) ((rd_T37 l0 x5_3).f3) ((rd_T37 l0 x5_3).f4) ((rd_T37 l0 x5_3).f5) false _ A12.out).mono ?_); rintro e w15 ⟨rfl, hb⟩; refine ⟨_, rfl, ?_⟩; have n0_ := Aside0.mk (below_step (by repeat (first | (with_reducible first | exact HB.out | apply below_alloc | apply pw_below_drewN | apply below_drew1) | exact HB.out)) hb); clear HB; have HB := n0_; clear n0_; (try clear hb); (try clear hb2); (try clear hk); (try clear hi)))
            go_ret
            exact ⟨by first | rfl | (simp [errW_none, errW_some] <;> rfl) | (simp [*, errW_none, errW_some] <;> rfl), by repeat (first | (with_reducible first | exact HB.out | apply below_alloc | apply pw_below_drewN | apply below_drew1) | exact HB.out)⟩
          ·rw [if_neg c11] at H
           exact absurd H (by simp)
         ·rw [if_neg c10] at H
          have c10b0 : decide (x5_3 < (l0.length : Int)) = false := decide_eq_false c10
          clear c10
          obtain rfl := Option.some.inj H
          simp only [Option.some.injEq, Prod.mk.injEq] at H
          obtain ⟨rfl⟩ := H
          go_wp2
          go_ret
          exact ⟨by first | rfl | (simp [errW_none, errW_some] <;> rfl) | (simp [*, errW_none, errW_some] <;> rfl), by repeat (first | (with_reducible first | exact HB.out | apply below_alloc | apply pw_below_drewN | apply below_drew1) | exact HB.out)⟩

end Go.Proofs.Ytlbpdhjdlnhciaa.P
