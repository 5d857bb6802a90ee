/- What functions of the program return: each contract says so of one function, for every input at which its pure function yields. -/
import Derived.Test.YtnaahepnabmibaaGreatDoorPx0
import Derived.Test.YtnaahepnabmibaaGreatDoorPx9
namespace Go.Proofs.YtnaahepnabmibaaGreatDoor.P
open Go.RowKit Go.Proofs.YtnaahepnabmibaaGreatDoorW.PrintWords Go.Proofs.YtnaahepnabmibaaGreatDoorW.PrintLast Go.Proofs.YtnaahepnabmibaaGreatDoorW.PrintMore
attribute [local go_sem] max2_int min2_int max_two min_two max_three min_three max_four min_four   -- for this text's walks alone
set_option linter.unusedVariables false
set_option linter.unusedSimpArgs false

def gangsawref30_Same.l0 : Nat → List (S35) → List (S35) → Int → Option (Bool)
 | 0, _, _, _ => none
 | k + 1, x0, x1, x5 => if x5 < (x0.length : Int) then (if 0 ≤ x5 then (if x5 < (x1.length : Int) then ((gangsawref30_Equal.f k ((rd_T35 x0 x5).f0) ((rd_T35 x0 x5).f1) ((rd_T35 x0 x5).f2) ((rd_T35 x0 x5).f3.f0.f0) ((rd_T35 x0 x5).f3.f0.f1) ((rd_T35 x0 x5).f3.f0.f2) ((rd_T35 x0 x5).f3.f1.f0) ((rd_T35 x0 x5).f3.f1.f1) ((rd_T35 x0 x5).f3.f1.f2) ((rd_T35 x0 x5).f4) ((rd_T35 x0 x5).f5) ((rd_T35 x0 x5).f6) ((rd_T35 x1 x5).f0) ((rd_T35 x1 x5).f1) ((rd_T35 x1 x5).f2) ((rd_T35 x1 x5).f3.f0.f0) ((rd_T35 x1 x5).f3.f0.f1) ((rd_T35 x1 x5).f3.f0.f2) ((rd_T35 x1 x5).f3.f1.f0) ((rd_T35 x1 x5).f3.f1.f1) ((rd_T35 x1 x5).f3.f1.f2) ((rd_T35 x1 x5).f4) ((rd_T35 x1 x5).f5) ((rd_T35 x1 x5).f6)).bind fun t181 => (if t181 = true then (gangsawref30_Same.l0 k x0 x1 (wrap64 (x5 + 1))) else (some false))) else (none)) else (none)) else (some true)
def gangsawref30_Same.f (k : Nat) (l0 : List (S35)) (l1 : List (S35)) : Option (Bool) := if (l0.length : Int) = (l1.length : Int) then (gangsawref30_Same.l0 k l0 l1 0) else (some false)
theorem gangsawref30_Same.mono_l : ∀ k, (∀ y0 y1 y2, LeO (gangsawref30_Same.l0 k y0 y1 y2) (gangsawref30_Same.l0 (k + 1) y0 y1 y2))
 | 0 => fun _ _ _ r h => by simp [gangsawref30_Same.l0] at h
 | k + 1 => by
  have ih0 := gangsawref30_Same.mono_l k
  ·intro y0 y1 y2
   unfold gangsawref30_Same.l0
   repeat' first
   | (with_reducible exact ih0 _ _ _)
   | (with_reducible exact gangsawref30_Equal.mono _ _ _ _ _ _ _ _ _ _ _ _ _ _ _ _ _ _ _ _ _ _ _ _ _)
   | (with_reducible exact LeO.refl _)
   | (with_reducible exact LeO.none _)
   | (with_reducible refine LeO.ite ?_ ?_)
   | (with_reducible refine LeO.bind ?_ (fun _ => ?_))
   | exact ih0 _ _ _
   | exact gangsawref30_Equal.mono _ _ _ _ _ _ _ _ _ _ _ _ _ _ _ _ _ _ _ _ _ _ _ _ _
   | exact LeO.none _
   | refine LeO.ite ?_ ?_
   | refine LeO.bind ?_ (fun _ => ?_)
theorem gangsawref30_Same.mono : ∀ a0 a1 k, LeO (gangsawref30_Same.f k a0 a1) (gangsawref30_Same.f (k + 1) a0 a1) := by
 intro a0 a1 k
 have ih0 := gangsawref30_Same.mono_l k
 unfold gangsawref30_Same.f
 repeat' first
   | (with_reducible exact ih0 _ _ _)
   | (with_reducible exact gangsawref30_Equal.mono _ _ _ _ _ _ _ _ _ _ _ _ _ _ _ _ _ _ _ _ _ _ _ _ _)
   | (with_reducible exact LeO.refl _)
   | (with_reducible exact LeO.none _)
   | (with_reducible refine LeO.ite ?_ ?_)
   | (with_reducible refine LeO.bind ?_ (fun _ => ?_))
   | exact ih0 _ _ _
   | exact gangsawref30_Equal.mono _ _ _ _ _ _ _ _ _ _ _ _ _ _ _ _ _ _ _ _ _ _ _ _ _
   | exact LeO.none _
   | refine LeO.ite ?_ ?_
   | refine LeO.bind ?_ (fun _ => ?_)
def gangsawref30_Same.T6 : Bool × List (List Nat × List Nat) := (true, [([], []), ([], []), ([0, 1], [0, 1]), ([2], [2]), ([], []), ([], []), ([4, 5], [4, 5]), ([6], [6]), ([3, 7], [3, 7]), ([8], [8])])
def gangsawref30_Same.B6 : List Nat := [0, 0, 3, 7, 0, 0, 48, 112, 255, 511]
theorem gangsawref30_Same.tab6 : rtab .any (opsOf Tryz.f25 6) = gangsawref30_Same.T6 := by kernel_rfl
theorem gangsawref30_Same.bits6 : waitsOk gangsawref30_Same.T6.2 gangsawref30_Same.B6 = true := by kernel_rfl
set_option maxHeartbeats 8000000 in
set_option maxRecDepth 100000 in
theorem gangsawref30_Same.calls (k : Nat) (A0 : Option Addr) (c0 : Nat) (l0 : List (S35)) (A1 : Option Addr) (c1 : Nat) (l1 : List (S35)) (r : Bool) (w : World) (hr0 : Kd.C k35 w A0 l0.length l0) (hc0 : l0.length ≤ c0) (hr1 : Kd.C k35 w A1 l1.length l1) (hc1 : l1.length ≤ c1) (h : gangsawref30_Same.f k l0 l1 = some r) :
  Calls Tryz.prog 25 #[.slice A0 l0.length c0, .slice A1 l1.length c1] w fun e w' => e = .returned (.bool r) ∧ Below w.heap.size w w' := by
 have hu35 := Tryz.underlying35
 have HR0 := aK hr0
 have HC0 := aK hc0
 clear hr0 hc0
 have HR1 := aK hr1
 have HC1 := aK hc1
 clear hr1 hc1
 have HB := aK (Below.refl w.heap.size w)
 have H : (if (l0.length : Int) = (l1.length : Int) then (gangsawref30_Same.l0 k l0 l1 0) else (some false)) = some r := h
 clear h
 by_cases c3 : (l0.length : Int) = (l1.length : Int)
 rotate_left
 ·rw [if_neg c3] at H
  have c3b0 : ((l0.length : Int) == (l1.length : Int)) = false := beq_eq_false_iff_ne.mpr c3
  have c3b1 : ((l0.length : Int) != (l1.length : Int)) = true := bne_iff_ne.mpr c3
  have c3b2 : (l0.length == l1.length) = false := by first | simpa using c3 | (simp at c3 ⊢; omega)
  obtain rfl := Option.some.inj H
  simp only [Option.some.injEq, Prod.mk.injEq] at H
  obtain ⟨rfl⟩ := H
  go_enter Tryz.func25, Tryz.ntmps25
  go_wp2
  go_ret
  exact ⟨rfl, HB.out⟩
 rw [if_pos c3] at H
 have c3b0 : ((l0.length : Int) == (l1.length : Int)) = true := beq_iff_eq.mpr c3
 have c3b1 : ((l0.length : Int) != (l1.length : Int)) = false := bne_eq_false_iff_eq.mpr c3
 have c3b2 : (l0.length == l1.length) = true := by first | simpa using c3 | (simp at c3 ⊢; omega)
 clear c3
 have H' := aK H
 clear H
 go_enter Tryz.func25, Tryz.ntmps25
 go_wp2
 go_loopg [5] k (fun kq v5 w' => ∃ (x5_1 : Int), v5 = .int .i64 x5_1 ∧ Aside0 (gangsawref30_Same.l0 kq l0 l1 x5_1 = some r) ∧ Aside0 (kq ≤ k) ∧ Aside0 (Below w.heap.size w w'))
 case atStart => exact ⟨(0), (by first | rfl | (simp; done) | (simp [*]; done)), H', ⟨Nat.le_refl _⟩, ⟨HB.out⟩⟩
 case round =>
  clear H'
  try clear c1
  try clear c2
  try clear p2
  try clear c3
  try clear c3b0
  try clear c3b1
  try clear c3b2
  obtain ⟨x5_1, rfl, HA, HK1, HB⟩ := hrel
  cases gk with
  | zero => exact absurd HA.out (by simp [gangsawref30_Same.l0])
  | succ k1 =>
   have H := HA.out
   clear HA
   simp only [gangsawref30_Same.l0] at H
   by_cases c4 : x5_1 < (l0.length : Int)
   rotate_left
   ·rw [if_neg c4] at H
    have c4b0 : decide (x5_1 < (l0.length : Int)) = false := decide_eq_false c4
    clear c4
    obtain rfl := Option.some.inj H
    simp only [Option.some.injEq, Prod.mk.injEq] at H
    obtain ⟨rfl⟩ := H
    go_wp2
    go_ret
    exact ⟨rfl, HB.out⟩
   rw [if_pos c4] at H
   have c4b0 : decide (x5_1 < (l0.length : Int)) = true := decide_eq_true c4
   clear c4
   by_cases c5 : 0 ≤ x5_1
   rotate_left
   ·rw [if_neg c5] at H
    exact absurd H (by simp)
   rw [if_pos c5] at H
   have c5b0 : decide (0 ≤ x5_1) = true := decide_eq_true c5
   clear c5
   by_cases c6 : x5_1 < (l1.length : Int)
   rotate_left
   ·rw [if_neg c6] at H
    exact absurd H (by simp)
   rw [if_pos c6] at H
   have c6b0 : decide (x5_1 < (l1.length : Int)) = true := decide_eq_true c6
   clear c6
   replace H := Option.bind_eq_some_iff.mp H
   obtain ⟨t181, A70, H⟩ := H
   replace H : (if t181 = true then (gangsawref30_Same.l0 k1 l0 l1 (wrap64 (x5_1 + 1))) else (some false)) = some r := H
   have A7 := aK A70
   clear A70
   by_cases c8 : t181 = true
   ·subst c8
    have H1 : (gangsawref30_Same.l0 k1 l0 l1 (wrap64 (x5_1 + 1))) = some r := by rw [if_pos rfl] at H; exact H
    clear H
    have H := H1
    clear H1
    have H' := aK H
    clear H
    try go_wp2
    have n0_ := aK (yD HB.out)
    clear HB
    have HB := n0_
    clear n0_
    have p179 : 0 ≤ (x5_1 : Int) := of_decide_eq_true (by assumption)
    have q179 : x5_1 < (l0.length : Int) := of_decide_eq_true (by assumption)
    obtain ⟨ad179, A179_10, c179_10, A179_11, c179_11, e179, hx179_0, hx179_1, hx179_2, hx179_3, hx179_4, hx179_5, hx179_6, hx179_7, hx179_8, hx179_9, hx179_10, hx179_11, hl179_10, hi179_10, hl179_11, hi179_11⟩ := at_T35 HR0.out x5_1 p179 q179
    have hw179_11 := hx179_11
    have hw179_10 := hx179_10
    have hw179_9 := hx179_9
    have hw179_8 := hx179_8
    have hw179_7 := hx179_7
    have hw179_6 := hx179_6
    have hw179_5 := hx179_5
    have hw179_4 := hx179_4
    have hw179_3 := hx179_3
    have hw179_2 := hx179_2
    have hw179_1 := hx179_1
    have hw179_0 := hx179_0
    cases e179
    replace hx179_0 := (HB.out.cell (World.block_lt_of_cell? w _ hx179_0)).trans hx179_0
    replace hx179_1 := (HB.out.cell (World.block_lt_of_cell? w _ hx179_1)).trans hx179_1
    replace hx179_2 := (HB.out.cell (World.block_lt_of_cell? w _ hx179_2)).trans hx179_2
    replace hx179_3 := (HB.out.cell (World.block_lt_of_cell? w _ hx179_3)).trans hx179_3
    replace hx179_4 := (HB.out.cell (World.block_lt_of_cell? w _ hx179_4)).trans hx179_4
    replace hx179_5 := (HB.out.cell (World.block_lt_of_cell? w _ hx179_5)).trans hx179_5
    replace hx179_6 := (HB.out.cell (World.block_lt_of_cell? w _ hx179_6)).trans hx179_6
    replace hx179_7 := (HB.out.cell (World.block_lt_of_cell? w _ hx179_7)).trans hx179_7
    replace hx179_8 := (HB.out.cell (World.block_lt_of_cell? w _ hx179_8)).trans hx179_8
    replace hx179_9 := (HB.out.cell (World.block_lt_of_cell? w _ hx179_9)).trans hx179_9
    replace hx179_10 := (HB.out.cell (World.block_lt_of_cell? w _ hx179_10)).trans hx179_10
    replace hx179_11 := (HB.out.cell (World.block_lt_of_cell? w _ hx179_11)).trans hx179_11
    have HR179_10 := aK hi179_10
    have HC179_10 := aK hl179_10
    clear hi179_10 hl179_10
    have HR179_11 := aK hi179_11
    have HC179_11 := aK hl179_11
    clear hi179_11 hl179_11
    replace p179 := eq_true p179
    replace q179 := eq_true q179
    have p180 : 0 ≤ (x5_1 : Int) := of_decide_eq_true (by assumption)
    have q180 : x5_1 < (l1.length : Int) := of_decide_eq_true (by assumption)
    obtain ⟨ad180, A180_10, c180_10, A180_11, c180_11, e180, hx180_0, hx180_1, hx180_2, hx180_3, hx180_4, hx180_5, hx180_6, hx180_7, hx180_8, hx180_9, hx180_10, hx180_11, hl180_10, hi180_10, hl180_11, hi180_11⟩ := at_T35 HR1.out x5_1 p180 q180
    have hw180_11 := hx180_11
    have hw180_10 := hx180_10
    have hw180_9 := hx180_9
    have hw180_8 := hx180_8
    have hw180_7 := hx180_7
    have hw180_6 := hx180_6
    have hw180_5 := hx180_5
    have hw180_4 := hx180_4
    have hw180_3 := hx180_3
    have hw180_2 := hx180_2
    have hw180_1 := hx180_1
    have hw180_0 := hx180_0
    cases e180
    replace hx180_0 := (HB.out.cell (World.block_lt_of_cell? w _ hx180_0)).trans hx180_0
    replace hx180_1 := (HB.out.cell (World.block_lt_of_cell? w _ hx180_1)).trans hx180_1
    replace hx180_2 := (HB.out.cell (World.block_lt_of_cell? w _ hx180_2)).trans hx180_2
    replace hx180_3 := (HB.out.cell (World.block_lt_of_cell? w _ hx180_3)).trans hx180_3
    replace hx180_4 := (HB.out.cell (World.block_lt_of_cell? w _ hx180_4)).trans hx180_4
    replace hx180_5 := (HB.out.cell (World.block_lt_of_cell? w _ hx180_5)).trans hx180_5
    replace hx180_6 := (HB.out.cell (World.block_lt_of_cell? w _ hx180_6)).trans hx180_6
    replace hx180_7 := (HB.out.cell (World.block_lt_of_cell? w _ hx180_7)).trans hx180_7
    replace hx180_8 := (HB.out.cell (World.block_lt_of_cell? w _ hx180_8)).trans hx180_8
    replace hx180_9 := (HB.out.cell (World.block_lt_of_cell? w _ hx180_9)).trans hx180_9
    replace hx180_10 := (HB.out.cell (World.block_lt_of_cell? w _ hx180_10)).trans hx180_10
    replace hx180_11 := (HB.out.cell (World.block_lt_of_cell? w _ hx180_11)).trans hx180_11
    have HR180_10 := aK hi180_10
    have HC180_10 := aK hl180_10
    clear hi180_10 hl180_10
    have HR180_11 := aK hi180_11
    have HC180_11 := aK hl180_11
    clear hi180_11 hl180_11
    replace p180 := eq_true p180
    replace q180 := eq_true q180
    refine start_ (n := 10) (S := fun w' => w'.cell? (ad179.add ((x5_1).toNat * 12)) = some (.string ((rd_T35 l0 x5_1).f0)) ∧ w'.cell? ⟨(ad179.add ((x5_1).toNat * 12)).block, (ad179.add ((x5_1).toNat * 12)).off + 1, none⟩ = some (.string ((rd_T35 l0 x5_1).f1)) ∧ w'.cell? ⟨(ad179.add ((x5_1).toNat * 12)).block, (ad179.add ((x5_1).toNat * 12)).off + 2, none⟩ = some (.int .i64 ((rd_T35 l0 x5_1).f2)) ∧ w'.cell? ⟨(ad179.add ((x5_1).toNat * 12)).block, (ad179.add ((x5_1).toNat * 12)).off + 3, none⟩ = some (.int .i64 ((rd_T35 l0 x5_1).f3.f0.f0)) ∧ w'.cell? ⟨(ad179.add ((x5_1).toNat * 12)).block, (ad179.add ((x5_1).toNat * 12)).off + 4, none⟩ = some (.int .i64 ((rd_T35 l0 x5_1).f3.f0.f1)) ∧ w'.cell? ⟨(ad179.add ((x5_1).toNat * 12)).block, (ad179.add ((x5_1).toNat * 12)).off + 5, none⟩ = some (.int .i64 ((rd_T35 l0 x5_1).f3.f0.f2)) ∧ w'.cell? ⟨(ad179.add ((x5_1).toNat * 12)).block, (ad179.add ((x5_1).toNat * 12)).off + 6, none⟩ = some (.int .i64 ((rd_T35 l0 x5_1).f3.f1.f0)) ∧ w'.cell? ⟨(ad179.add ((x5_1).toNat * 12)).block, (ad179.add ((x5_1).toNat * 12)).off + 7, none⟩ = some (.int .i64 ((rd_T35 l0 x5_1).f3.f1.f1)) ∧ w'.cell? ⟨(ad179.add ((x5_1).toNat * 12)).block, (ad179.add ((x5_1).toNat * 12)).off + 8, none⟩ = some (.int .i64 ((rd_T35 l0 x5_1).f3.f1.f2)) ∧ w'.cell? ⟨(ad179.add ((x5_1).toNat * 12)).block, (ad179.add ((x5_1).toNat * 12)).off + 9, none⟩ = some (.int .i64 ((rd_T35 l0 x5_1).f4)) ∧ w'.cell? ⟨(ad179.add ((x5_1).toNat * 12)).block, (ad179.add ((x5_1).toNat * 12)).off + 10, none⟩ = some (.slice A179_10 ((rd_T35 l0 x5_1).f5).length c179_10) ∧ w'.cell? ⟨(ad179.add ((x5_1).toNat * 12)).block, (ad179.add ((x5_1).toNat * 12)).off + 11, none⟩ = some (.slice A179_11 ((rd_T35 l0 x5_1).f6).length c179_11) ∧ w'.cell? (ad180.add ((x5_1).toNat * 12)) = some (.string ((rd_T35 l1 x5_1).f0)) ∧ w'.cell? ⟨(ad180.add ((x5_1).toNat * 12)).block, (ad180.add ((x5_1).toNat * 12)).off + 1, none⟩ = some (.string ((rd_T35 l1 x5_1).f1)) ∧ w'.cell? ⟨(ad180.add ((x5_1).toNat * 12)).block, (ad180.add ((x5_1).toNat * 12)).off + 2, none⟩ = some (.int .i64 ((rd_T35 l1 x5_1).f2)) ∧ w'.cell? ⟨(ad180.add ((x5_1).toNat * 12)).block, (ad180.add ((x5_1).toNat * 12)).off + 3, none⟩ = some (.int .i64 ((rd_T35 l1 x5_1).f3.f0.f0)) ∧ w'.cell? ⟨(ad180.add ((x5_1).toNat * 12)).block, (ad180.add ((x5_1).toNat * 12)).off + 4, none⟩ = some (.int .i64 ((rd_T35 l1 x5_1).f3.f0.f1)) ∧ w'.cell? ⟨(ad180.add ((x5_1).toNat * 12)).block, (ad180.add ((x5_1).toNat * 12)).off + 5, none⟩ = some (.int .i64 ((rd_T35 l1 x5_1).f3.f0.f2)) ∧ w'.cell? ⟨(ad180.add ((x5_1).toNat * 12)).block, (ad180.add ((x5_1).toNat * 12)).off + 6, none⟩ = some (.int .i64 ((rd_T35 l1 x5_1).f3.f1.f0)) ∧ w'.cell? ⟨(ad180.add ((x5_1).toNat * 12)).block, (ad180.add ((x5_1).toNat * 12)).off + 7, none⟩ = some (.int .i64 ((rd_T35 l1 x5_1).f3.f1.f1)) ∧ w'.cell? ⟨(ad180.add ((x5_1).toNat * 12)).block, (ad180.add ((x5_1).toNat * 12)).off + 8, none⟩ = some (.int .i64 ((rd_T35 l1 x5_1).f3.f1.f2)) ∧ w'.cell? ⟨(ad180.add ((x5_1).toNat * 12)).block, (ad180.add ((x5_1).toNat * 12)).off + 9, none⟩ = some (.int .i64 ((rd_T35 l1 x5_1).f4)) ∧ w'.cell? ⟨(ad180.add ((x5_1).toNat * 12)).block, (ad180.add ((x5_1).toNat * 12)).off + 10, none⟩ = some (.slice A180_10 ((rd_T35 l1 x5_1).f5).length c180_10) ∧ w'.cell? ⟨(ad180.add ((x5_1).toNat * 12)).block, (ad180.add ((x5_1).toNat * 12)).off + 11, none⟩ = some (.slice A180_11 ((rd_T35 l1 x5_1).f6).length c180_11)) (ds := []) #[false, false, false, false, false, false, false, false, false, false] (by kernel_rfl) rfl rfl ⟨((HB.out.cell (World.block_lt_of_cell? w _ hw179_0)).trans hw179_0), ((HB.out.cell (World.block_lt_of_cell? w _ hw179_1)).trans hw179_1), ((HB.out.cell (World.block_lt_of_cell? w _ hw179_2)).trans hw179_2), ((HB.out.cell (World.block_lt_of_cell? w _ hw179_3)).trans hw179_3), ((HB.out.cell (World.block_lt_of_cell? w _ hw179_4)).trans hw179_4), ((HB.out.cell (World.block_lt_of_cell? w _ hw179_5)).trans hw179_5), ((HB.out.cell (World.block_lt_of_cell? w _ hw179_6)).trans hw179_6), ((HB.out.cell (World.block_lt_of_cell? w _ hw179_7)).trans hw179_7), ((HB.out.cell (World.block_lt_of_cell? w _ hw179_8)).trans hw179_8), ((HB.out.cell (World.block_lt_of_cell? w _ hw179_9)).trans hw179_9), ((HB.out.cell (World.block_lt_of_cell? w _ hw179_10)).trans hw179_10), ((HB.out.cell (World.block_lt_of_cell? w _ hw179_11)).trans hw179_11), ((HB.out.cell (World.block_lt_of_cell? w _ hw180_0)).trans hw180_0), ((HB.out.cell (World.block_lt_of_cell? w _ hw180_1)).trans hw180_1), ((HB.out.cell (World.block_lt_of_cell? w _ hw180_2)).trans hw180_2), ((HB.out.cell (World.block_lt_of_cell? w _ hw180_3)).trans hw180_3), ((HB.out.cell (World.block_lt_of_cell? w _ hw180_4)).trans hw180_4), ((HB.out.cell (World.block_lt_of_cell? w _ hw180_5)).trans hw180_5), ((HB.out.cell (World.block_lt_of_cell? w _ hw180_6)).trans hw180_6), ((HB.out.cell (World.block_lt_of_cell? w _ hw180_7)).trans hw180_7), ((HB.out.cell (World.block_lt_of_cell? w _ hw180_8)).trans hw180_8), ((HB.out.cell (World.block_lt_of_cell? w _ hw180_9)).trans hw180_9), ((HB.out.cell (World.block_lt_of_cell? w _ hw180_10)).trans hw180_10), ((HB.out.cell (World.block_lt_of_cell? w _ hw180_11)).trans hw180_11)⟩ (fun hHeld => ?_); refine with_tabW gangsawref30_Same.tab6 gangsawref30_Same.bits6 (fun HT_ HW_ => ?_)
    generalize wr.drew = w9 at HB HR179_10 HR179_11 HR180_10 HR180_11 hx179_0 hx179_1 hx179_10 hx179_11 hx179_2 hx179_3 hx179_4 hx179_5 hx179_6 hx179_7 hx179_8 hx179_9 hx180_0 hx180_1 hx180_10 hx180_11 hx180_2 hx180_3 hx180_4 hx180_5 hx180_6 hx180_7 hx180_8 hx180_9 hHeld ⊢
    refine pure_ (i := 0) (N := some 17) (v := ?_) (a' := ?_) #[true, false, false, false, false, false, false, false, false, false] rfl rfl (any_of HT_.out (by kernel_rfl)) (fun _ _ _ h => h) (Or.inl ⟨by rfl, ?_⟩) ?_ ?_
    rotate_left
    ·intro w'
     go_simp
     with_reducible rfl
    rotate_left
    ·simp only [Act.put, sA, sZ, sS, i64_w, i32_w]
     rfl
    refine pure_ (i := 1) (N := some 18) (v := ?_) (a' := ?_) #[true, true, false, false, false, false, false, false, false, false] rfl rfl (any_of HT_.out (by kernel_rfl)) (fun _ _ _ h => h) (Or.inl ⟨by rfl, ?_⟩) ?_ ?_
    rotate_left
    ·intro w'
     go_simp
     with_reducible rfl
    rotate_left
    ·simp only [Act.put, sA, sZ, sS, i64_w, i32_w]
     rfl
    refine pure_ (i := 2) (N := some 19) (v := ?_) (a' := ?_) #[true, true, true, false, false, false, false, false, false, false] rfl rfl (any_of HT_.out (by kernel_rfl)) (fun _ _ _ h => h) (Or.inl ⟨by rfl, ?_⟩) ?_ ?_
    rotate_left
    ·intro w'
     go_simp
     with_reducible rfl
    rotate_left
    ·simp only [Act.put, sA, sZ, sS, i64_w, i32_w]
     rfl
    refine pure_ (i := 4) (N := some 21) (v := ?_) (a' := ?_) #[true, true, true, false, true, false, false, false, false, false] rfl rfl (any_of HT_.out (by kernel_rfl)) (fun _ _ _ h => h) (Or.inl ⟨by rfl, ?_⟩) ?_ ?_
    rotate_left
    ·intro w'
     go_simp
     with_reducible rfl
    rotate_left
    ·simp only [Act.put, sA, sZ, sS, i64_w, i32_w]
     rfl
    refine pure_ (i := 5) (N := some 22) (v := ?_) (a' := ?_) #[true, true, true, false, true, true, false, false, false, false] rfl rfl (any_of HT_.out (by kernel_rfl)) (fun _ _ _ h => h) (Or.inl ⟨by rfl, ?_⟩) ?_ ?_
    rotate_left
    ·intro w'
     go_simp
     with_reducible rfl
    rotate_left
    ·simp only [Act.put, sA, sZ, sS, i64_w, i32_w]
     rfl
    refine pure_ (i := 6) (N := some 23) (v := ?_) (a' := ?_) #[true, true, true, false, true, true, true, false, false, false] rfl rfl (any_of HT_.out (by kernel_rfl)) (fun _ _ _ h => h) (Or.inl ⟨by rfl, ?_⟩) ?_ ?_
    rotate_left
    ·intro w'
     go_simp
     with_reducible rfl
    rotate_left
    ·simp only [Act.put, sA, sZ, sS, i64_w, i32_w]
     rfl
    refine take_ (i := 3) (N := some 20) (v := ?_) (a' := ?_) #[true, true, true, true, true, true, true, false, false, false] rfl rfl (take_ofW HT_.out HW_.out (by kernel_rfl)) (fun _ _ _ h => h) (Or.inl ⟨by rfl, ?_⟩) hHeld ?_ ?_
    rotate_left
    ·rintro w' ⟨s0, s1, s2, s3, s4, s5, s6, s7, s8, s9, s10, s11, s12, s13, s14, s15, s16, s17, s18, s19, s20, s21, s22, s23⟩
     go_simp
     with_reducible rfl
    rotate_left
    ·simp only [Act.put, sA, sZ, sS, i64_w, i32_w]
     rfl
    refine take_ (i := 7) (N := some 24) (v := ?_) (a' := ?_) #[true, true, true, true, true, true, true, true, false, false] rfl rfl (take_ofW HT_.out HW_.out (by kernel_rfl)) (fun _ _ _ h => h) (Or.inl ⟨by rfl, ?_⟩) hHeld ?_ ?_
    rotate_left
    ·rintro w' ⟨s0, s1, s2, s3, s4, s5, s6, s7, s8, s9, s10, s11, s12, s13, s14, s15, s16, s17, s18, s19, s20, s21, s22, s23⟩
     go_simp
     with_reducible rfl
    rotate_left
    ·simp only [Act.put, sA, sZ, sS, i64_w, i32_w]
     rfl
    refine one_ (i := 8) (N := some 25) #[true, true, true, true, true, true, true, true, true, false] rfl rfl (one_of HT_.out (by kernel_rfl)) (by decide) (fun K hK => ?_)
    refine goes_ Tryz.func14 (by kernel_rfl) rfl #[.agg #[.string ((rd_T35 l0 x5_1).f0), .string ((rd_T35 l0 x5_1).f1), .int .i64 ((rd_T35 l0 x5_1).f2), .int .i64 ((rd_T35 l0 x5_1).f3.f0.f0), .int .i64 ((rd_T35 l0 x5_1).f3.f0.f1), .int .i64 ((rd_T35 l0 x5_1).f3.f0.f2), .int .i64 ((rd_T35 l0 x5_1).f3.f1.f0), .int .i64 ((rd_T35 l0 x5_1).f3.f1.f1), .int .i64 ((rd_T35 l0 x5_1).f3.f1.f2), .int .i64 ((rd_T35 l0 x5_1).f4), .slice A179_10 ((rd_T35 l0 x5_1).f5).length c179_10, .slice A179_11 ((rd_T35 l0 x5_1).f6).length c179_11], .agg #[.string ((rd_T35 l1 x5_1).f0), .string ((rd_T35 l1 x5_1).f1), .int .i64 ((rd_T35 l1 x5_1).f2), .int .i64 ((rd_T35 l1 x5_1).f3.f0.f0), .int .i64 ((rd_T35 l1 x5_1).f3.f0.f1), .int .i64 ((rd_T35 l1 x5_1).f3.f0.f2), .int .i64 ((rd_T35 l1 x5_1).f3.f1.f0), .int .i64 ((rd_T35 l1 x5_1).f3.f1.f1), .int .i64 ((rd_T35 l1 x5_1).f3.f1.f2), .int .i64 ((rd_T35 l1 x5_1).f4), .slice A180_10 ((rd_T35 l1 x5_1).f5).length c180_10, .slice A180_11 ((rd_T35 l1 x5_1).f6).length c180_11]] (by rfl) rfl rfl (by (try simp only [List.map_toArray, List.map_cons, List.map_nil]); first | done | rfl | (simp only [List.length_drop, List.length_take]; rfl)) ?_
    with_reducible refine (gangsawref30_Equal.calls k1 ((rd_T35 l0 x5_1).f0) ((rd_T35 l0 x5_1).f1) ((rd_T35 l0 x5_1).f2) ((rd_T35 l0 x5_1).f3.f0.f0) ((rd_T35 l0 x5_1).f3.f0.f1) ((rd_T35 l0 x5_1).f3.f0.f2) ((rd_T35 l0 x5_1).f3.f1.f0) ((rd_T35 l0 x5_1).f3.f1.f1) ((rd_T35 l0 x5_1).f3.f1.f2) ((rd_T35 l0 x5_1).f4) _ _ ((rd_T35 l0 x5_1).f5) _ _ ((rd_T35 l0 x5_1).f6) ((rd_T35 l1 x5_1).f0) ((rd_T35 l1 x5_1).f1) ((rd_T35 l1 x5_1).f2) ((rd_T35 l1 x5_1).f3.f0.f0) ((rd_T35 l1 x5_1).f3.f0.f1) ((rd_T35 l1 x5_1).f3.f0.f2) ((rd_T35 l1 x5_1).f3.f1.f0) ((rd_T35 l1 x5_1).f3.f1.f1) ((rd_T35 l1 x5_1).f3.f1.f2) ((rd_T35 l1 x5_1).f4) _ _ ((rd_T35 l1 x5_1).f5) _ _ ((rd_T35 l1 x5_1).f6) true _ ?side1 ?side2 ?side3 ?side4 ?side5 ?side6 ?side7 ?side8 A7.out).mono ?_
    (case side1 => repeat (first | exact (Kd.C_below HR179_10.out HB.out) | (with_reducible refine Kd.C_alloc ?_ _) | (with_reducible refine Kd.C_drewN ?_ _) | (with_reducible refine Kd.C_drew ?_)))
    (case side2 => exact HC179_10.out)
    (case side3 => repeat (first | exact (Kd.C_below HR179_11.out HB.out) | (with_reducible refine Kd.C_alloc ?_ _) | (with_reducible refine Kd.C_drewN ?_ _) | (with_reducible refine Kd.C_drew ?_)))
    (case side4 => exact HC179_11.out)
    (case side5 => repeat (first | exact (Kd.C_below HR180_10.out HB.out) | (with_reducible refine Kd.C_alloc ?_ _) | (with_reducible refine Kd.C_drewN ?_ _) | (with_reducible refine Kd.C_drew ?_)))
    (case side6 => exact HC180_10.out)
    (case side7 => repeat (first | exact (Kd.C_below HR180_11.out HB.out) | (with_reducible refine Kd.C_alloc ?_ _) | (with_reducible refine Kd.C_drewN ?_ _) | (with_reducible refine Kd.C_drew ?_)))
    (case side8 => exact HC180_11.out)
    rintro e w10 ⟨rfl, hb⟩
    refine ⟨_, rfl, ?_⟩
    have n0_ := aK (yT (HB.out) hb)
    clear HB
    have HB := n0_
    clear n0_
    (try clear hb)
    (try clear hb2)
    (try clear hk)
    (try clear hi)
    refine hK.out _ _ ⟨((HB.out.cell (World.block_lt_of_cell? w _ hw179_0)).trans hw179_0), ((HB.out.cell (World.block_lt_of_cell? w _ hw179_1)).trans hw179_1), ((HB.out.cell (World.block_lt_of_cell? w _ hw179_2)).trans hw179_2), ((HB.out.cell (World.block_lt_of_cell? w _ hw179_3)).trans hw179_3), ((HB.out.cell (World.block_lt_of_cell? w _ hw179_4)).trans hw179_4), ((HB.out.cell (World.block_lt_of_cell? w _ hw179_5)).trans hw179_5), ((HB.out.cell (World.block_lt_of_cell? w _ hw179_6)).trans hw179_6), ((HB.out.cell (World.block_lt_of_cell? w _ hw179_7)).trans hw179_7), ((HB.out.cell (World.block_lt_of_cell? w _ hw179_8)).trans hw179_8), ((HB.out.cell (World.block_lt_of_cell? w _ hw179_9)).trans hw179_9), ((HB.out.cell (World.block_lt_of_cell? w _ hw179_10)).trans hw179_10), ((HB.out.cell (World.block_lt_of_cell? w _ hw179_11)).trans hw179_11), ((HB.out.cell (World.block_lt_of_cell? w _ hw180_0)).trans hw180_0), ((HB.out.cell (World.block_lt_of_cell? w _ hw180_1)).trans hw180_1), ((HB.out.cell (World.block_lt_of_cell? w _ hw180_2)).trans hw180_2), ((HB.out.cell (World.block_lt_of_cell? w _ hw180_3)).trans hw180_3), ((HB.out.cell (World.block_lt_of_cell? w _ hw180_4)).trans hw180_4), ((HB.out.cell (World.block_lt_of_cell? w _ hw180_5)).trans hw180_5), ((HB.out.cell (World.block_lt_of_cell? w _ hw180_6)).trans hw180_6), ((HB.out.cell (World.block_lt_of_cell? w _ hw180_7)).trans hw180_7), ((HB.out.cell (World.block_lt_of_cell? w _ hw180_8)).trans hw180_8), ((HB.out.cell (World.block_lt_of_cell? w _ hw180_9)).trans hw180_9), ((HB.out.cell (World.block_lt_of_cell? w _ hw180_10)).trans hw180_10), ((HB.out.cell (World.block_lt_of_cell? w _ hw180_11)).trans hw180_11)⟩ (fun hHeld => ?_)
    clear hK K
    refine norm_ (a' := ?_) ?_ ?_
    rotate_left
    ·show Act.put _ (some 25) _ = _
     simp only [Act.put, sA, sZ, sS, i64_w, i32_w]
     rfl
    refine pure_ (i := 9) (N := some 26) (v := ?_) (a' := ?_) #[true, true, true, true, true, true, true, true, true, true] rfl rfl (any_of HT_.out (by kernel_rfl)) (fun _ _ _ h => h) (Or.inl ⟨by rfl, ?_⟩) ?_ ?_
    rotate_left
    ·intro w'
     go_simp
     with_reducible rfl
    rotate_left
    ·simp only [Act.put, sA, sZ, sS, i64_w, i32_w]
     rfl
    refine done_ (done_of HT_.out (by kernel_rfl)) ?_
    try go_wp2
    go_roundg k1
    case measure => have := HK1.out; omega
    case rel => exact ⟨(wrap64 (x5_1 + 1)), (by first | rfl | (simp; done) | (simp [*]; done)), H', ⟨by have := HK1.out; omega⟩, ⟨HB.out⟩⟩
   replace c8 := Bool.eq_false_iff.mpr c8
   subst c8
   have H1 : (some false) = some r := by rw [if_neg (show ¬ (false = true) by decide)] at H; exact H
   clear H
   have H := H1
   clear H1
   obtain rfl := Option.some.inj H
   simp only [Option.some.injEq, Prod.mk.injEq] at H
   obtain ⟨rfl⟩ := H
   try go_wp2
   have n0_ := aK (yD HB.out)
   clear HB
   have HB := n0_
   clear n0_
   have p179 : 0 ≤ (x5_1 : Int) := of_decide_eq_true (by assumption)
   have q179 : x5_1 < (l0.length : Int) := of_decide_eq_true (by assumption)
   obtain ⟨ad179, A179_10, c179_10, A179_11, c179_11, e179, hx179_0, hx179_1, hx179_2, hx179_3, hx179_4, hx179_5, hx179_6, hx179_7, hx179_8, hx179_9, hx179_10, hx179_11, hl179_10, hi179_10, hl179_11, hi179_11⟩ := at_T35 HR0.out x5_1 p179 q179
   have hw179_11 := hx179_11
   have hw179_10 := hx179_10
   have hw179_9 := hx179_9
   have hw179_8 := hx179_8
   have hw179_7 := hx179_7
   have hw179_6 := hx179_6
   have hw179_5 := hx179_5
   have hw179_4 := hx179_4
   have hw179_3 := hx179_3
   have hw179_2 := hx179_2
   have hw179_1 := hx179_1
   have hw179_0 := hx179_0
   cases e179
   replace hx179_0 := (HB.out.cell (World.block_lt_of_cell? w _ hx179_0)).trans hx179_0
   replace hx179_1 := (HB.out.cell (World.block_lt_of_cell? w _ hx179_1)).trans hx179_1
   replace hx179_2 := (HB.out.cell (World.block_lt_of_cell? w _ hx179_2)).trans hx179_2
   replace hx179_3 := (HB.out.cell (World.block_lt_of_cell? w _ hx179_3)).trans hx179_3
   replace hx179_4 := (HB.out.cell (World.block_lt_of_cell? w _ hx179_4)).trans hx179_4
   replace hx179_5 := (HB.out.cell (World.block_lt_of_cell? w _ hx179_5)).trans hx179_5
   replace hx179_6 := (HB.out.cell (World.block_lt_of_cell? w _ hx179_6)).trans hx179_6
   replace hx179_7 := (HB.out.cell (World.block_lt_of_cell? w _ hx179_7)).trans hx179_7
   replace hx179_8 := (HB.out.cell (World.block_lt_of_cell? w _ hx179_8)).trans hx179_8
   replace hx179_9 := (HB.out.cell (World.block_lt_of_cell? w _ hx179_9)).trans hx179_9
   replace hx179_10 := (HB.out.cell (World.block_lt_of_cell? w _ hx179_10)).trans hx179_10
   replace hx179_11 := (HB.out.cell (World.block_lt_of_cell? w _ hx179_11)).trans hx179_11
   have HR179_10 := aK hi179_10
   have HC179_10 := aK hl179_10
   clear hi179_10 hl179_10
   have HR179_11 := aK hi179_11
   have HC179_11 := aK hl179_11
   clear hi179_11 hl179_11
   replace p179 := eq_true p179
   replace q179 := eq_true q179
   have p180 : 0 ≤ (x5_1 : Int) := of_decide_eq_true (by assumption)
   have q180 : x5_1 < (l1.length : Int) := of_decide_eq_true (by assumption)
   obtain ⟨ad180, A180_10, c180_10, A180_11, c180_11, e180, hx180_0, hx180_1, hx180_2, hx180_3, hx180_4, hx180_5, hx180_6, hx180_7, hx180_8, hx180_9, hx180_10, hx180_11, hl180_10, hi180_10, hl180_11, hi180_11⟩ := at_T35 HR1.out x5_1 p180 q180
   have hw180_11 := hx180_11
   have hw180_10 := hx180_10
   have hw180_9 := hx180_9
   have hw180_8 := hx180_8
   have hw180_7 := hx180_7
   have hw180_6 := hx180_6
   have hw180_5 := hx180_5
   have hw180_4 := hx180_4
   have hw180_3 := hx180_3
   have hw180_2 := hx180_2
   have hw180_1 := hx180_1
   have hw180_0 := hx180_0
   cases e180
   replace hx180_0 := (HB.out.cell (World.block_lt_of_cell? w _ hx180_0)).trans hx180_0
   replace hx180_1 := (HB.out.cell (World.block_lt_of_cell? w _ hx180_1)).trans hx180_1
   replace hx180_2 := (HB.out.cell (World.block_lt_of_cell? w _ hx180_2)).trans hx180_2
   replace hx180_3 := (HB.out.cell (World.block_lt_of_cell? w _ hx180_3)).trans hx180_3
   replace hx180_4 := (HB.out.cell (World.block_lt_of_cell? w _ hx180_4)).trans hx180_4
   replace hx180_5 := (HB.out.cell (World.block_lt_of_cell? w _ hx180_5)).trans hx180_5
   replace hx180_6 := (HB.out.cell (World.block_lt_of_cell? w _ hx180_6)).trans hx180_6
   replace hx180_7 := (HB.out.cell (World.block_lt_of_cell? w _ hx180_7)).trans hx180_7
   replace hx180_8 := (HB.out.cell (World.block_lt_of_cell? w _ hx180_8)).trans hx180_8
   replace hx180_9 := (HB.out.cell (World.block_lt_of_cell? w _ hx180_9)).trans hx180_9
   replace hx180_10 := (HB.out.cell (World.block_lt_of_cell? w _ hx180_10)).trans hx180_10
   replace hx180_11 := (HB.out.cell (World.block_lt_of_cell? w _ hx180_11)).trans hx180_11
   have HR180_10 := aK hi180_10
   have HC180_10 := aK hl180_10
   clear hi180_10 hl180_10
   have HR180_11 := aK hi180_11
   have HC180_11 := aK hl180_11
   clear hi180_11 hl180_11
   replace p180 := eq_true p180
   replace q180 := eq_true q180
   refine start_ (n := 10) (S := fun w' => w'.cell? (ad179.add ((x5_1).toNat * 12)) = some (.string ((rd_T35 l0 x5_1).f0)) ∧ w'.cell? ⟨(ad179.add ((x5_1).toNat * 12)).block, (ad179.add ((x5_1).toNat * 12)).off + 1, none⟩ = some (.string ((rd_T35 l0 x5_1).f1)) ∧ w'.cell? ⟨(ad179.add ((x5_1).toNat * 12)).block, (ad179.add ((x5_1).toNat * 12)).off + 2, none⟩ = some (.int .i64 ((rd_T35 l0 x5_1).f2)) ∧ w'.cell? ⟨(ad179.add ((x5_1).toNat * 12)).block, (ad179.add ((x5_1).toNat * 12)).off + 3, none⟩ = some (.int .i64 ((rd_T35 l0 x5_1).f3.f0.f0)) ∧ w'.cell? ⟨(ad179.add ((x5_1).toNat * 12)).block, (ad179.add ((x5_1).toNat * 12)).off + 4, none⟩ = some (.int .i64 ((rd_T35 l0 x5_1).f3.f0.f1)) ∧ w'.cell? ⟨(ad179.add ((x5_1).toNat * 12)).block, (ad179.add ((x5_1).toNat * 12)).off + 5, none⟩ = some (.int .i64 ((rd_T35 l0 x5_1).f3.f0.f2)) ∧ w'.cell? ⟨(ad179.add ((x5_1).toNat * 12)).block, (ad179.add ((x5_1).toNat * 12)).off + 6, none⟩ = some (.int .i64 ((rd_T35 l0 x5_1).f3.f1.f0)) ∧ w'.cell? ⟨(ad179.add ((x5_1).toNat * 12)).block, (ad179.add ((x5_1).toNat * 12)).off + 7, none⟩ = some (.int .i64 ((rd_T35 l0 x5_1).f3.f1.f1)) ∧ w'.cell? ⟨(ad179.add ((x5_1).toNat * 12)).block, (ad179.add ((x5_1).toNat * 12)).off + 8, none⟩ = some (.int .i64 ((rd_T35 l0 x5_1).f3.f1.f2)) ∧ w'.cell? ⟨(ad179.add ((x5_1).toNat * 12)).block, (ad179.add ((x5_1).toNat * 12)).off + 9, none⟩ = some (.int .i64 ((rd_T35 l0 x5_1).f4)) ∧ w'.cell? ⟨(ad179.add ((x5_1).toNat * 12)).block, (ad179.add ((x5_1).toNat * 12)).off + 10, none⟩ = some (.slice A179_10 ((rd_T35 l0 x5_1).f5).length c179_10) ∧ w'.cell? ⟨(ad179.add ((x5_1).toNat * 12)).block, (ad179.add ((x5_1).toNat * 12)).off + 11, none⟩ = some (.slice A179_11 ((rd_T35 l0 x5_1).f6).length c179_11) ∧ w'.cell? (ad180.add ((x5_1).toNat * 12)) = some (.string ((rd_T35 l1 x5_1).f0)) ∧ w'.cell? ⟨(ad180.add ((x5_1).toNat * 12)).block, (ad180.add ((x5_1).toNat * 12)).off + 1, none⟩ = some (.string ((rd_T35 l1 x5_1).f1)) ∧ w'.cell? ⟨(ad180.add ((x5_1).toNat * 12)).block, (ad180.add ((x5_1).toNat * 12)).off + 2, none⟩ = some (.int .i64 ((rd_T35 l1 x5_1).f2)) ∧ w'.cell? ⟨(ad180.add ((x5_1).toNat * 12)).block, (ad180.add ((x5_1).toNat * 12)).off + 3, none⟩ = some (.int .i64 ((rd_T35 l1 x5_1).f3.f0.f0)) ∧ w'.cell? ⟨(ad180.add ((x5_1).toNat * 12)).block, (ad180.add ((x5_1).toNat * 12)).off + 4, none⟩ = some (.int .i64 ((rd_T35 l1 x5_1).f3.f0.f1)) ∧ w'.cell? ⟨(ad180.add ((x5_1).toNat * 12)).block, (ad180.add ((x5_1).toNat * 12)).off + 5, none⟩ = some (.int .i64 ((rd_T35 l1 x5_1).f3.f0.f2)) ∧ w'.cell? ⟨(ad180.add ((x5_1).toNat * 12)).block, (ad180.add ((x5_1).toNat * 12)).off + 6, none⟩ = some (.int .i64 ((rd_T35 l1 x5_1).f3.f1.f0)) ∧ w'.cell? ⟨(ad180.add ((x5_1).toNat * 12)).block, (ad180.add ((x5_1).toNat * 12)).off + 7, none⟩ = some (.int .i64 ((rd_T35 l1 x5_1).f3.f1.f1)) ∧ w'.cell? ⟨(ad180.add ((x5_1).toNat * 12)).block, (ad180.add ((x5_1).toNat * 12)).off + 8, none⟩ = some (.int .i64 ((rd_T35 l1 x5_1).f3.f1.f2)) ∧ w'.cell? ⟨(ad180.add ((x5_1).toNat * 12)).block, (ad180.add ((x5_1).toNat * 12)).off + 9, none⟩ = some (.int .i64 ((rd_T35 l1 x5_1).f4)) ∧ w'.cell? ⟨(ad180.add ((x5_1).toNat * 12)).block, (ad180.add ((x5_1).toNat * 12)).off + 10, none⟩ = some (.slice A180_10 ((rd_T35 l1 x5_1).f5).length c180_10) ∧ w'.cell? ⟨(ad180.add ((x5_1).toNat * 12)).block, (ad180.add ((x5_1).toNat * 12)).off + 11, none⟩ = some (.slice A180_11 ((rd_T35 l1 x5_1).f6).length c180_11)) (ds := []) #[false, false, false, false, false, false, false, false, false, false] (by kernel_rfl) rfl rfl ⟨((HB.out.cell (World.block_lt_of_cell? w _ hw179_0)).trans hw179_0), ((HB.out.cell (World.block_lt_of_cell? w _ hw179_1)).trans hw179_1), ((HB.out.cell (World.block_lt_of_cell? w _ hw179_2)).trans hw179_2), ((HB.out.cell (World.block_lt_of_cell? w _ hw179_3)).trans hw179_3), ((HB.out.cell (World.block_lt_of_cell? w _ hw179_4)).trans hw179_4), ((HB.out.cell (World.block_lt_of_cell? w _ hw179_5)).trans hw179_5), ((HB.out.cell (World.block_lt_of_cell? w _ hw179_6)).trans hw179_6), ((HB.out.cell (World.block_lt_of_cell? w _ hw179_7)).trans hw179_7), ((HB.out.cell (World.block_lt_of_cell? w _ hw179_8)).trans hw179_8), ((HB.out.cell (World.block_lt_of_cell? w _ hw179_9)).trans hw179_9), ((HB.out.cell (World.block_lt_of_cell? w _ hw179_10)).trans hw179_10), ((HB.out.cell (World.block_lt_of_cell? w _ hw179_11)).trans hw179_11), ((HB.out.cell (World.block_lt_of_cell? w _ hw180_0)).trans hw180_0), ((HB.out.cell (World.block_lt_of_cell? w _ hw180_1)).trans hw180_1), ((HB.out.cell (World.block_lt_of_cell? w _ hw180_2)).trans hw180_2), ((HB.out.cell (World.block_lt_of_cell? w _ hw180_3)).trans hw180_3), ((HB.out.cell (World.block_lt_of_cell? w _ hw180_4)).trans hw180_4), ((HB.out.cell (World.block_lt_of_cell? w _ hw180_5)).trans hw180_5), ((HB.out.cell (World.block_lt_of_cell? w _ hw180_6)).trans hw180_6), ((HB.out.cell (World.block_lt_of_cell? w _ hw180_7)).trans hw180_7), ((HB.out.cell (World.block_lt_of_cell? w _ hw180_8)).trans hw180_8), ((HB.out.cell (World.block_lt_of_cell? w _ hw180_9)).trans hw180_9), ((HB.out.cell (World.block_lt_of_cell? w _ hw180_10)).trans hw180_10), ((HB.out.cell (World.block_lt_of_cell? w _ hw180_11)).trans hw180_11)⟩ (fun hHeld => ?_); refine with_tabW gangsawref30_Same.tab6 gangsawref30_Same.bits6 (fun HT_ HW_ => ?_)
   generalize wr.drew = w11 at HB HR179_10 HR179_11 HR180_10 HR180_11 hx179_0 hx179_1 hx179_10 hx179_11 hx179_2 hx179_3 hx179_4 hx179_5 hx179_6 hx179_7 hx179_8 hx179_9 hx180_0 hx180_1 hx180_10 hx180_11 hx180_2 hx180_3 hx180_4 hx180_5 hx180_6 hx180_7 hx180_8 hx180_9 hHeld ⊢
   refine pure_ (i := 0) (N := some 17) (v := ?_) (a' := ?_) #[true, false, false, false, false, false, false, false, false, false] rfl rfl (any_of HT_.out (by kernel_rfl)) (fun _ _ _ h => h) (Or.inl ⟨by rfl, ?_⟩) ?_ ?_
   rotate_left
   ·intro w'
    go_simp
    with_reducible rfl
   rotate_left
   ·simp only [Act.put, sA, sZ, sS, i64_w, i32_w]
    rfl
   refine pure_ (i := 1) (N := some 18) (v := ?_) (a' := ?_) #[true, true, false, false, false, false, false, false, false, false] rfl rfl (any_of HT_.out (by kernel_rfl)) (fun _ _ _ h => h) (Or.inl ⟨by rfl, ?_⟩) ?_ ?_
   rotate_left
   ·intro w'
    go_simp
    with_reducible rfl
   rotate_left
   ·simp only [Act.put, sA, sZ, sS, i64_w, i32_w]
    rfl
   refine pure_ (i := 2) (N := some 19) (v := ?_) (a' := ?_) #[true, true, true, false, false, false, false, false, false, false] rfl rfl (any_of HT_.out (by kernel_rfl)) (fun _ _ _ h => h) (Or.inl ⟨by rfl, ?_⟩) ?_ ?_
   rotate_left
   ·intro w'
    go_simp
    with_reducible rfl
   rotate_left
   ·simp only [Act.put, sA, sZ, sS, i64_w, i32_w]
    rfl
   refine pure_ (i := 4) (N := some 21) (v := ?_) (a' := ?_) #[true, true, true, false, true, false, false, false, false, false] rfl rfl (any_of HT_.out (by kernel_rfl)) (fun _ _ _ h => h) (Or.inl ⟨by rfl, ?_⟩) ?_ ?_
   rotate_left
   ·intro w'
    go_simp
    with_reducible rfl
   rotate_left
   ·simp only [Act.put, sA, sZ, sS, i64_w, i32_w]
    rfl
   refine pure_ (i := 5) (N := some 22) (v := ?_) (a' := ?_) #[true, true, true, false, true, true, false, false, false, false] rfl rfl (any_of HT_.out (by kernel_rfl)) (fun _ _ _ h => h) (Or.inl ⟨by rfl, ?_⟩) ?_ ?_
   rotate_left
   ·intro w'
    go_simp
    with_reducible rfl
   rotate_left
   ·simp only [Act.put, sA, sZ, sS, i64_w, i32_w]
    rfl
   refine pure_ (i := 6) (N := some 23) (v := ?_) (a' := ?_) #[true, true, true, false, true, true, true, false, false, false] rfl rfl (any_of HT_.out (by kernel_rfl)) (fun _ _ _ h => h) (Or.inl ⟨by rfl, ?_⟩) ?_ ?_
   rotate_left
   ·intro w'
    go_simp
    with_reducible rfl
   rotate_left
   ·simp only [Act.put, sA, sZ, sS, i64_w, i32_w]
    rfl
   refine take_ (i := 3) (N := some 20) (v := ?_) (a' := ?_) #[true, true, true, true, true, true, true, false, false, false] rfl rfl (take_ofW HT_.out HW_.out (by kernel_rfl)) (fun _ _ _ h => h) (Or.inl ⟨by rfl, ?_⟩) hHeld ?_ ?_
   rotate_left
   ·rintro w' ⟨s0, s1, s2, s3, s4, s5, s6, s7, s8, s9, s10, s11, s12, s13, s14, s15, s16, s17, s18, s19, s20, s21, s22, s23⟩
    go_simp
    with_reducible rfl
   rotate_left
   ·simp only [Act.put, sA, sZ, sS, i64_w, i32_w]
    rfl
   refine take_ (i := 7) (N := some 24) (v := ?_) (a' := ?_) #[true, true, true, true, true, true, true, true, false, false] rfl rfl (take_ofW HT_.out HW_.out (by kernel_rfl)) (fun _ _ _ h => h) (Or.inl ⟨by rfl, ?_⟩) hHeld ?_ ?_
   rotate_left
   ·rintro w' ⟨s0, s1, s2, s3, s4, s5, s6, s7, s8, s9, s10, s11, s12, s13, s14, s15, s16, s17, s18, s19, s20, s21, s22, s23⟩
    go_simp
    with_reducible rfl
   rotate_left
   ·simp only [Act.put, sA, sZ, sS, i64_w, i32_w]
    rfl
   refine one_ (i := 8) (N := some 25) #[true, true, true, true, true, true, true, true, true, false] rfl rfl (one_of HT_.out (by kernel_rfl)) (by decide) (fun K hK => ?_)
   refine goes_ Tryz.func14 (by kernel_rfl) rfl #[.agg #[.string ((rd_T35 l0 x5_1).f0), .string ((rd_T35 l0 x5_1).f1), .int .i64 ((rd_T35 l0 x5_1).f2), .int .i64 ((rd_T35 l0 x5_1).f3.f0.f0), .int .i64 ((rd_T35 l0 x5_1).f3.f0.f1), .int .i64 ((rd_T35 l0 x5_1).f3.f0.f2), .int .i64 ((rd_T35 l0 x5_1).f3.f1.f0), .int .i64 ((rd_T35 l0 x5_1).f3.f1.f1), .int .i64 ((rd_T35 l0 x5_1).f3.f1.f2), .int .i64 ((rd_T35 l0 x5_1).f4), .slice A179_10 ((rd_T35 l0 x5_1).f5).length c179_10, .slice A179_11 ((rd_T35 l0 x5_1).f6).length c179_11], .agg #[.string ((rd_T35 l1 x5_1).f0), .string ((rd_T35 l1 x5_1).f1), .int .i64 ((rd_T35 l1 x5_1).f2), .int .i64 ((rd_T35 l1 x5_1).f3.f0.f0), .int .i64 ((rd_T35 l1 x5_1).f3.f0.f1), .int .i64 ((rd_T35 l1 x5_1).f3.f0.f2), .int .i64 ((rd_T35 l1 x5_1).f3.f1.f0), .int .i64 ((rd_T35 l1 x5_1).f3.f1.f1), .int .i64 ((rd_T35 l1 x5_1).f3.f1.f2), .int .i64 ((rd_T35 l1 x5_1).f4), .slice A180_10 ((rd_T35 l1 x5_1).f5).length c180_10, .slice A180_11 ((rd_T35 l1 x5_1).f6).length c180_11]] (by rfl) rfl rfl (by (try simp only [List.map_toArray, List.map_cons, List.map_nil]); first | done | rfl | (simp only [List.length_drop, List.length_take]; rfl)) ?_
   with_reducible refine (gangsawref30_Equal.calls k1 ((rd_T35 l0 x5_1).f0) ((rd_T35 l0 x5_1).f1) ((rd_T35 l0 x5_1).f2) ((rd_T35 l0 x5_1).f3.f0.f0) ((rd_T35 l0 x5_1).f3.f0.f1) ((rd_T35 l0 x5_1).f3.f0.f2) ((rd_T35 l0 x5_1).f3.f1.f0) ((rd_T35 l0 x5_1).f3.f1.f1) ((rd_T35 l0 x5_1).f3.f1.f2) ((rd_T35 l0 x5_1).f4) _ _ ((rd_T35 l0 x5_1).f5) _ _ ((rd_T35 l0 x5_1).f6) ((rd_T35 l1 x5_1).f0) ((rd_T35 l1 x5_1).f1) ((rd_T35 l1 x5_1).f2) ((rd_T35 l1 x5_1).f3.f0.f0) ((rd_T35 l1 x5_1).f3.f0.f1) ((rd_T35 l1 x5_1).f3.f0.f2) ((rd_T35 l1 x5_1).f3.f1.f0) ((rd_T35 l1 x5_1).f3.f1.f1) ((rd_T35 l1 x5_1).f3.f1.f2) ((rd_T35 l1 x5_1).f4) _ _ ((rd_T35 l1 x5_1).f5) _ _ ((rd_T35 l1 x5_1).f6) false _ ?side1 ?side2 ?side3 ?side4 ?side5 ?side6 ?side7 ?side8 A7.out).mono ?_
   (case side1 => repeat (first | exact (Kd.C_below HR179_10.out HB.out) | (with_reducible refine Kd.C_alloc ?_ _) | (with_reducible refine Kd.C_drewN ?_ _) | (with_reducible refine Kd.C_drew ?_)))
   (case side2 => exact HC179_10.out)
   (case side3 => repeat (first | exact (Kd.C_below HR179_11.out HB.out) | (with_reducible refine Kd.C_alloc ?_ _) | (with_reducible refine Kd.C_drewN ?_ _) | (with_reducible refine Kd.C_drew ?_)))
   (case side4 => exact HC179_11.out)
   (case side5 => repeat (first | exact (Kd.C_below HR180_10.out HB.out) | (with_reducible refine Kd.C_alloc ?_ _) | (with_reducible refine Kd.C_drewN ?_ _) | (with_reducible refine Kd.C_drew ?_)))
   (case side6 => exact HC180_10.out)
   (case side7 => repeat (first | exact (Kd.C_below HR180_11.out HB.out) | (with_reducible refine Kd.C_alloc ?_ _) | (with_reducible refine Kd.C_drewN ?_ _) | (with_reducible refine Kd.C_drew ?_)))
   (case side8 => exact HC180_11.out)
   rintro e w12 ⟨rfl, hb⟩
   refine ⟨_, rfl, ?_⟩
   have n0_ := aK (yT (HB.out) hb)
   clear HB
   have HB := n0_
   clear n0_
   (try clear hb)
   (try clear hb2)
   (try clear hk)
   (try clear hi)
   refine hK.out _ _ ⟨((HB.out.cell (World.block_lt_of_cell? w _ hw179_0)).trans hw179_0), ((HB.out.cell (World.block_lt_of_cell? w _ hw179_1)).trans hw179_1), ((HB.out.cell (World.block_lt_of_cell? w _ hw179_2)).trans hw179_2), ((HB.out.cell (World.block_lt_of_cell? w _ hw179_3)).trans hw179_3), ((HB.out.cell (World.block_lt_of_cell? w _ hw179_4)).trans hw179_4), ((HB.out.cell (World.block_lt_of_cell? w _ hw179_5)).trans hw179_5), ((HB.out.cell (World.block_lt_of_cell? w _ hw179_6)).trans hw179_6), ((HB.out.cell (World.block_lt_of_cell? w _ hw179_7)).trans hw179_7), ((HB.out.cell (World.block_lt_of_cell? w _ hw179_8)).trans hw179_8), ((HB.out.cell (World.block_lt_of_cell? w _ hw179_9)).trans hw179_9), ((HB.out.cell (World.block_lt_of_cell? w _ hw179_10)).trans hw179_10), ((HB.out.cell (World.block_lt_of_cell? w _ hw179_11)).trans hw179_11), ((HB.out.cell (World.block_lt_of_cell? w _ hw180_0)).trans hw180_0), ((HB.out.cell (World.block_lt_of_cell? w _ hw180_1)).trans hw180_1), ((HB.out.cell (World.block_lt_of_cell? w _ hw180_2)).trans hw180_2), ((HB.out.cell (World.block_lt_of_cell? w _ hw180_3)).trans hw180_3), ((HB.out.cell (World.block_lt_of_cell? w _ hw180_4)).trans hw180_4), ((HB.out.cell (World.block_lt_of_cell? w _ hw180_5)).trans hw180_5), ((HB.out.cell (World.block_lt_of_cell? w _ hw180_6)).trans hw180_6), ((HB.out.cell (World.block_lt_of_cell? w _ hw180_7)).trans hw180_7), ((HB.out.cell (World.block_lt_of_cell? w _ hw180_8)).trans hw180_8), ((HB.out.cell (World.block_lt_of_cell? w _ hw180_9)).trans hw180_9), ((HB.out.cell (World.block_lt_of_cell? w _ hw180_10)).trans hw180_10), ((HB.out.cell (World.block_lt_of_cell? w _ hw180_11)).trans hw180_11)⟩ (fun hHeld => ?_)
   clear hK K
   refine norm_ (a' := ?_) ?_ ?_
   rotate_left
   ·show Act.put _ (some 25) _ = _
    simp only [Act.put, sA, sZ, sS, i64_w, i32_w]
    rfl
   refine pure_ (i := 9) (N := some 26) (v := ?_) (a' := ?_) #[true, true, true, true, true, true, true, true, true, true] rfl rfl (any_of HT_.out (by kernel_rfl)) (fun _ _ _ h => h) (Or.inl ⟨by rfl, ?_⟩) ?_ ?_
   rotate_left
   ·intro w'
    go_simp
    with_reducible rfl
   rotate_left
   ·simp only [Act.put, sA, sZ, sS, i64_w, i32_w]
    rfl
   refine done_ (done_of HT_.out (by kernel_rfl)) ?_
   try go_wp2
   go_ret
   exact ⟨rfl, HB.out⟩

end Go.Proofs.YtnaahepnabmibaaGreatDoor.P
