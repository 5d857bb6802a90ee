/- What functions of the program return: each contract says so of one function, for every input at which its pure function yields. -/
import Derived.Test.YtfedmcehkpfciaaGreatPx0
import Derived.Test.YtfedmcehkpfciaaGreatPx15
namespace Go.Proofs.YtfedmcehkpfciaaGreat.P
open Go.RowKit Go.Proofs.YtfedmcehkpfciaaGreatW.PrintWords Go.Proofs.YtfedmcehkpfciaaGreatW.PrintLast Go.Proofs.YtfedmcehkpfciaaGreatW.PrintMore
attribute [local go_sem] max2_int min2_int max_two min_two max_three min_three max_four min_four   -- for this text's walks alone
set_option linter.unusedVariables false
set_option linter.unusedSimpArgs false

def gangsawref14_joined.l0 : Nat → List (S48) → List (S48) → Int → Option ((List (S48)))
 | 0, _, _, _ => none
 | k + 1, x0, x3, x4 => if x4 < (x0.length : Int) then (if (x3.length : Int) > 0 then (if 0 ≤ (wrap64 ((x3.length : Int) - 1)) then (if (wrap64 ((x3.length : Int) - 1)) < (x3.length : Int) then (if 0 ≤ x4 then (if ((rd_T48 x3 (wrap64 ((x3.length : Int) - 1))).f1) = ((rd_T48 x0 x4).f0) then (if ((rd_T48 x3 (wrap64 ((x3.length : Int) - 1))).f2) = ((rd_T48 x0 x4).f2) then (gangsawref14_joined.l0 k x0 (x3.set ((wrap64 ((x3.length : Int) - 1)) : Int).toNat (⟨(rd_T48 x3 (wrap64 ((x3.length : Int) - 1))).f0, (rd_T48 x0 x4).f1, (rd_T48 x3 (wrap64 ((x3.length : Int) - 1))).f2⟩ : S48)) (wrap64 (x4 + 1))) else (if x3.length < 5864062014805 then (gangsawref14_joined.l0 k x0 (x3 ++ [(⟨(rd_T48 x0 x4).f0, (rd_T48 x0 x4).f1, (rd_T48 x0 x4).f2⟩ : S48)]) (wrap64 (x4 + 1))) else (none))) else (if x3.length < 5864062014805 then (gangsawref14_joined.l0 k x0 (x3 ++ [(⟨(rd_T48 x0 x4).f0, (rd_T48 x0 x4).f1, (rd_T48 x0 x4).f2⟩ : S48)]) (wrap64 (x4 + 1))) else (none))) else (none)) else (none)) else (none)) else (if 0 ≤ x4 then (if x3.length < 5864062014805 then (gangsawref14_joined.l0 k x0 (x3 ++ [(⟨(rd_T48 x0 x4).f0, (rd_T48 x0 x4).f1, (rd_T48 x0 x4).f2⟩ : S48)]) (wrap64 (x4 + 1))) else (none)) else (none))) else (some x3)
def gangsawref14_joined.f (k : Nat) (l0 : List (S48)) : Option ((List (S48))) := gangsawref14_joined.l0 k l0 ([] : List (S48)) 0
theorem gangsawref14_joined.mono_l : ∀ k, (∀ y0 y1 y2, LeO (gangsawref14_joined.l0 k y0 y1 y2) (gangsawref14_joined.l0 (k + 1) y0 y1 y2))
 | 0 => fun _ _ _ r h => by simp [gangsawref14_joined.l0] at h
 | k + 1 => by
  have ih0 := gangsawref14_joined.mono_l k
  ·intro y0 y1 y2
   unfold gangsawref14_joined.l0
   repeat' first
   | (with_reducible exact ih0 _ _ _)
   | (with_reducible exact LeO.refl _)
   | (with_reducible exact LeO.none _)
   | (with_reducible refine LeO.ite ?_ ?_)
   | (with_reducible refine LeO.bind ?_ (fun _ => ?_))
   | exact ih0 _ _ _
   | exact LeO.none _
   | refine LeO.ite ?_ ?_
   | refine LeO.bind ?_ (fun _ => ?_)
theorem gangsawref14_joined.mono : ∀ a0 k, LeO (gangsawref14_joined.f k a0) (gangsawref14_joined.f (k + 1) a0) := by
 intro a0 k
 have ih0 := gangsawref14_joined.mono_l k
 unfold gangsawref14_joined.f
 repeat' first
   | (with_reducible exact ih0 _ _ _)
   | (with_reducible exact LeO.refl _)
   | (with_reducible exact LeO.none _)
   | (with_reducible refine LeO.ite ?_ ?_)
   | (with_reducible refine LeO.bind ?_ (fun _ => ?_))
   | exact ih0 _ _ _
   | exact LeO.none _
   | refine LeO.ite ?_ ?_
   | refine LeO.bind ?_ (fun _ => ?_)
set_option maxHeartbeats 8000000 in
set_option maxRecDepth 100000 in
theorem gangsawref14_joined.calls (k : Nat) (A0 : Option Addr) (c0 : Nat) (l0 : List (S48)) (r : List (S48)) (w : World) (hr0 : Kd.C k48 w A0 l0.length l0) (hc0 : l0.length ≤ c0) (h : gangsawref14_joined.f k l0 = some r) :
  Calls Tryz.prog 49 #[.slice A0 l0.length c0] w fun e w' => ∃ v0_ : Value, e = .returned (v0_) ∧ Kd.R k48 48 w' w.heap.size (fun _ => True) v0_ r ∧ Below w.heap.size w w' := by
 have hu48 := Tryz.underlying48
 have HR0 := aK hr0
 have HC0 := aK hc0
 clear hr0 hc0
 have HB := aK (Below.refl w.heap.size w)
 have H : (gangsawref14_joined.l0 k l0 ([] : List (S48)) 0) = some r := h
 clear h
 have H' := aK H
 clear H
 go_enter Tryz.func49, Tryz.ntmps49
 go_wp2
 go_loopg [3, 4] k (fun kq v3 v4 w' => ∃ (x3_1 : List (S48)) (x4_1 : Int), v4 = .int .i64 x4_1 ∧ Aside0 (gangsawref14_joined.l0 kq l0 x3_1 x4_1 = some r) ∧ Aside0 (kq ≤ k) ∧ Aside0 (Kd.R k48 48 w' w.heap.size (fun _ => True) v3 x3_1) ∧ Aside0 (Below w.heap.size w w'))
 case atStart => exact ⟨(([] : List (S48))), (0), (by first | rfl | (simp; done) | (simp [*]; done)), H', ⟨Nat.le_refl _⟩, ⟨by first | exact Kd.R_nil _ _ _ _ _ | exact Kd.N_nil _ _ _ _ _ | exact Kd.V_nil _ _ _ _ _ | exact Kd.Q_nil _ _ _ _ _ | exact Kd.S_nil _ _ _ _ _⟩, ⟨HB.out⟩⟩
 case round =>
  clear H'
  obtain ⟨x3_1, x4_1, rfl, HA, HK1, HO_3, HB⟩ := hrel
  cases gk with
  | zero => exact absurd HA.out (by simp [gangsawref14_joined.l0])
  | succ k1 =>
   have H := HA.out
   clear HA
   simp only [gangsawref14_joined.l0] at H
   by_cases c2 : x4_1 < (l0.length : Int)
   rotate_left
   ·rw [if_neg c2] at H
    have c2b0 : decide (x4_1 < (l0.length : Int)) = false := decide_eq_false c2
    clear c2
    obtain rfl := Option.some.inj H
    simp only [Option.some.injEq, Prod.mk.injEq] at H
    obtain ⟨rfl⟩ := H
    go_wp2
    go_ret
    exact ⟨_, rfl, HO_3.out, HB.out⟩
   rw [if_pos c2] at H
   have c2b0 : decide (x4_1 < (l0.length : Int)) = true := decide_eq_true c2
   clear c2
   by_cases c3 : (x3_1.length : Int) > 0
   rotate_left
   ·rw [if_neg c3] at H
    have c3b0 : decide (0 < (x3_1.length : Int)) = false := decide_eq_false c3
    have c3b1 : decide (0 < x3_1.length) = false := decide_eq_false (by omega)
    clear c3
    by_cases c20 : 0 ≤ x4_1
    rotate_left
    ·rw [if_neg c20] at H
     exact absurd H (by simp)
    rw [if_pos c20] at H
    have c20b0 : decide (0 ≤ x4_1) = true := decide_eq_true c20
    clear c20
    by_cases c21 : x3_1.length < 5864062014805
    rotate_left
    ·rw [if_neg c21] at H
     exact absurd H (by simp)
    rw [if_pos c21] at H
    have LMc21 := aK c21
    clear c21
    obtain ⟨y214, hy214⟩ : ∃ y_ : List (S48), y_ = (x3_1 ++ [(⟨(rd_T48 l0 x4_1).f0, (rd_T48 l0 x4_1).f1, (rd_T48 l0 x4_1).f2⟩ : S48)]) := ⟨_, rfl⟩
    replace H : (gangsawref14_joined.l0 k1 l0 y214 (wrap64 (x4_1 + 1))) = some r := by first | (rw [hy214]; with_reducible exact H) | (have H2_ := (Option.bind_some _ _).symm.trans H; rw [hy214]; with_reducible exact H2_) | (have H2_ := (Option.bind_some _ _).symm.trans H; with_reducible exact H2_) | with_reducible exact H | (rw [hy214]; exact H) | exact H
    have Ny214 := aK hy214
    clear hy214
    have H' := aK H
    clear H
    obtain ⟨Ao22, co22, eo22⟩ := Kd.R_slice HO_3.out
    subst eo22
    have p213 : 0 ≤ (x4_1 : Int) := of_decide_eq_true (by assumption)
    have q213 : x4_1 < (l0.length : Int) := of_decide_eq_true (by assumption)
    obtain ⟨ad213, e213, hx213_0, hx213_1, hx213_2⟩ := at_T48 HR0.out x4_1 p213 q213
    cases e213
    replace hx213_0 := (HB.out.cell (World.block_lt_of_cell? w _ hx213_0)).trans hx213_0
    replace hx213_1 := (HB.out.cell (World.block_lt_of_cell? w _ hx213_1)).trans hx213_1
    replace hx213_2 := (HB.out.cell (World.block_lt_of_cell? w _ hx213_2)).trans hx213_2
    replace p213 := eq_true p213
    replace q213 := eq_true q213
    iterate 10 (first | go_quiet (fail) | go_wp2_with (first | ((with_reducible refine gate_builtin (b := .append) (xs := #[.tmp 54, .tmp 59]) rfl ?_); at_builtin; refine Kd.R_append k48 (w0 := w) w.heap.size rfl (.tmp 54) (.tmp 59) 31 48 (.agg #[(.int .i64 0), (.int .i64 0), (.int .i64 0)]) 24 rfl Tryz.underlying31 info48 rfl (by decide) (by omega) (.slice Ao22 x3_1.length co22) x3_1 (⟨(rd_T48 l0 x4_1).f0, (rd_T48 l0 x4_1).f1, (rd_T48 l0 x4_1).f2⟩ : S48) [.int .i64 ((rd_T48 l0 x4_1).f0), .int .i64 ((rd_T48 l0 x4_1).f1), .int .i64 ((rd_T48 l0 x4_1).f2)] (fun _ => True) (fun _ => False) rfl rfl ?aP (fun _ hk => hk.elim) ?aF ?aO ?aB ?aS ?aL ?_; (case aP => exact k48_mkM _ _ _ (⟨(rd_T48 l0 x4_1).f0, (rd_T48 l0 x4_1).f1, (rd_T48 l0 x4_1).f2⟩ : S48)); (case aB => exact (by repeat (first | (with_reducible first | exact HB.out | apply yA | apply yN | apply yD) | exact HB.out))); (case aF => exact (fun _ _ => trivial)); (case aO => exact (HO_3.out)); (case aS => exact (yZ (by repeat (first | (with_reducible first | exact HB.out | apply yA | apply yN | apply yD) | exact HB.out)))); (case aL => have := LMc21.out; omega); intro v215 w23 ho hb hg hat; rw [← Ny214.out] at ho; have n0_ := aK (hb); have n1_ := aK (ho); clear HB; clear HO_3; have HB := n0_; have HO216 := n1_; clear n0_ n1_; clear ho hb hg hat)) | skip)
    go_roundg k1
    case measure => have := HK1.out; omega
    case rel => exact ⟨(y214), (wrap64 (x4_1 + 1)), (by first | rfl | (simp; done) | (simp [*]; done)), H', ⟨by have := HK1.out; omega⟩, ⟨HO216.out⟩, ⟨HB.out⟩⟩
   rw [if_pos c3] at H
   have c3b0 : decide (0 < (x3_1.length : Int)) = true := decide_eq_true c3
   have c3b1 : decide (0 < x3_1.length) = true := decide_eq_true (by omega)
   clear c3
   obtain ⟨ji4, hji4⟩ : ∃ j_ : Int, (wrap64 ((x3_1.length : Int) - 1)) = j_ := ⟨_, rfl⟩
   replace H : (if 0 ≤ (ji4) then (if (ji4) < (x3_1.length : Int) then (if 0 ≤ x4_1 then (if ((rd_T48 x3_1 (ji4)).f1) = ((rd_T48 l0 x4_1).f0) then (if ((rd_T48 x3_1 (ji4)).f2) = ((rd_T48 l0 x4_1).f2) then (gangsawref14_joined.l0 k1 l0 (x3_1.set ((ji4) : Int).toNat (⟨(rd_T48 x3_1 (ji4)).f0, (rd_T48 l0 x4_1).f1, (rd_T48 x3_1 (ji4)).f2⟩ : S48)) (wrap64 (x4_1 + 1))) else (if x3_1.length < 5864062014805 then (gangsawref14_joined.l0 k1 l0 (x3_1 ++ [(⟨(rd_T48 l0 x4_1).f0, (rd_T48 l0 x4_1).f1, (rd_T48 l0 x4_1).f2⟩ : S48)]) (wrap64 (x4_1 + 1))) else (none))) else (if x3_1.length < 5864062014805 then (gangsawref14_joined.l0 k1 l0 (x3_1 ++ [(⟨(rd_T48 l0 x4_1).f0, (rd_T48 l0 x4_1).f1, (rd_T48 l0 x4_1).f2⟩ : S48)]) (wrap64 (x4_1 + 1))) else (none))) else (none)) else (none)) else (none)) = some r := by first | (rw [hji4] at H; exact H) | (simp only [hji4] at H ⊢; exact H)
   have hji4w : (IntKind.i64.wrap ((x3_1.length : Int) - 1)) = ji4 := (i64_w _).trans hji4
   by_cases c5 : 0 ≤ (ji4)
   rotate_left
   ·rw [if_neg c5] at H
    exact absurd H (by simp)
   rw [if_pos c5] at H
   have c5b0 : decide (0 ≤ (ji4)) = true := decide_eq_true c5
   clear c5
   by_cases c6 : (ji4) < (x3_1.length : Int)
   rotate_left
   ·rw [if_neg c6] at H
    exact absurd H (by simp)
   rw [if_pos c6] at H
   have c6b0 : decide ((ji4) < (x3_1.length : Int)) = true := decide_eq_true c6
   clear c6
   by_cases c7 : 0 ≤ x4_1
   rotate_left
   ·rw [if_neg c7] at H
    exact absurd H (by simp)
   rw [if_pos c7] at H
   have c7b0 : decide (0 ≤ x4_1) = true := decide_eq_true c7
   clear c7
   by_cases c8 : ((rd_T48 x3_1 (ji4)).f1) = ((rd_T48 l0 x4_1).f0)
   rotate_left
   ·rw [if_neg c8] at H
    have c8b0 : (((rd_T48 x3_1 (ji4)).f1) == ((rd_T48 l0 x4_1).f0)) = false := beq_eq_false_iff_ne.mpr c8
    have c8b1 : (((rd_T48 x3_1 (ji4)).f1) != ((rd_T48 l0 x4_1).f0)) = true := bne_iff_ne.mpr c8
    by_cases c17 : x3_1.length < 5864062014805
    rotate_left
    ·rw [if_neg c17] at H
     exact absurd H (by simp)
    rw [if_pos c17] at H
    have LMc17 := aK c17
    clear c17
    obtain ⟨y210, hy210⟩ : ∃ y_ : List (S48), y_ = (x3_1 ++ [(⟨(rd_T48 l0 x4_1).f0, (rd_T48 l0 x4_1).f1, (rd_T48 l0 x4_1).f2⟩ : S48)]) := ⟨_, rfl⟩
    replace H : (gangsawref14_joined.l0 k1 l0 y210 (wrap64 (x4_1 + 1))) = some r := by first | (rw [hy210]; with_reducible exact H) | (have H2_ := (Option.bind_some _ _).symm.trans H; rw [hy210]; with_reducible exact H2_) | (have H2_ := (Option.bind_some _ _).symm.trans H; with_reducible exact H2_) | with_reducible exact H | (rw [hy210]; exact H) | exact H
    have Ny210 := aK hy210
    clear hy210
    have H' := aK H
    clear H
    obtain ⟨Ao18, co18, eo18⟩ := Kd.R_slice HO_3.out
    subst eo18
    have p199 : 0 ≤ ((ji4) : Int) := of_decide_eq_true (by assumption)
    have q199 : (ji4) < (x3_1.length : Int) := of_decide_eq_true (by assumption)
    obtain ⟨ad199, e199, hx199_0, hx199_1, hx199_2⟩ := at_T48 (Kd.R_reads' HO_3.out).2.2 (ji4) p199 q199
    cases e199
    replace p199 := eq_true p199
    replace q199 := eq_true q199
    have p200 : 0 ≤ (x4_1 : Int) := of_decide_eq_true (by assumption)
    have q200 : x4_1 < (l0.length : Int) := of_decide_eq_true (by assumption)
    obtain ⟨ad200, e200, hx200_0, hx200_1, hx200_2⟩ := at_T48 HR0.out x4_1 p200 q200
    cases e200
    replace hx200_0 := (HB.out.cell (World.block_lt_of_cell? w _ hx200_0)).trans hx200_0
    replace hx200_1 := (HB.out.cell (World.block_lt_of_cell? w _ hx200_1)).trans hx200_1
    replace hx200_2 := (HB.out.cell (World.block_lt_of_cell? w _ hx200_2)).trans hx200_2
    replace p200 := eq_true p200
    replace q200 := eq_true q200
    have p209 : 0 ≤ (x4_1 : Int) := of_decide_eq_true (by assumption)
    have q209 : x4_1 < (l0.length : Int) := of_decide_eq_true (by assumption)
    obtain ⟨ad209, e209, hx209_0, hx209_1, hx209_2⟩ := at_T48 HR0.out x4_1 p209 q209
    obtain rfl : ad200 = ad209 := (by injection e209)
    replace hx209_0 := (HB.out.cell (World.block_lt_of_cell? w _ hx209_0)).trans hx209_0
    replace hx209_1 := (HB.out.cell (World.block_lt_of_cell? w _ hx209_1)).trans hx209_1
    replace hx209_2 := (HB.out.cell (World.block_lt_of_cell? w _ hx209_2)).trans hx209_2
    replace p209 := eq_true p209
    replace q209 := eq_true q209
    iterate 10 (first | go_quiet (fail) | go_wp2_with (first | ((with_reducible refine gate_builtin (b := .append) (xs := #[.tmp 54, .tmp 59]) rfl ?_); at_builtin; refine Kd.R_append k48 (w0 := w) w.heap.size rfl (.tmp 54) (.tmp 59) 31 48 (.agg #[(.int .i64 0), (.int .i64 0), (.int .i64 0)]) 24 rfl Tryz.underlying31 info48 rfl (by decide) (by omega) (.slice (some ad199) x3_1.length co18) x3_1 (⟨(rd_T48 l0 x4_1).f0, (rd_T48 l0 x4_1).f1, (rd_T48 l0 x4_1).f2⟩ : S48) [.int .i64 ((rd_T48 l0 x4_1).f0), .int .i64 ((rd_T48 l0 x4_1).f1), .int .i64 ((rd_T48 l0 x4_1).f2)] (fun _ => True) (fun _ => False) rfl rfl ?aP (fun _ hk => hk.elim) ?aF ?aO ?aB ?aS ?aL ?_; (case aP => exact k48_mkM _ _ _ (⟨(rd_T48 l0 x4_1).f0, (rd_T48 l0 x4_1).f1, (rd_T48 l0 x4_1).f2⟩ : S48)); (case aB => exact (by repeat (first | (with_reducible first | exact HB.out | apply yA | apply yN | apply yD) | exact HB.out))); (case aF => exact (fun _ _ => trivial)); (case aO => exact (HO_3.out)); (case aS => exact (yZ (by repeat (first | (with_reducible first | exact HB.out | apply yA | apply yN | apply yD) | exact HB.out)))); (case aL => have := LMc17.out; omega); intro v211 w19 ho hb hg hat; rw [← Ny210.out] at ho; have n0_ := aK (hb); have n1_ := aK (ho); clear HB; clear HO_3; have HB := n0_; have HO212 := n1_; clear n0_ n1_; clear ho hb hg hat)) | skip)
    go_roundg k1
    case measure => have := HK1.out; omega
    case rel => exact ⟨(y210), (wrap64 (x4_1 + 1)), (by first | rfl | (simp; done) | (simp [*]; done)), H', ⟨by have := HK1.out; omega⟩, ⟨HO212.out⟩, ⟨HB.out⟩⟩
   rw [if_pos c8] at H
   have c8b0 : (((rd_T48 x3_1 (ji4)).f1) == ((rd_T48 l0 x4_1).f0)) = true := beq_iff_eq.mpr c8
   have c8b1 : (((rd_T48 x3_1 (ji4)).f1) != ((rd_T48 l0 x4_1).f0)) = false := bne_eq_false_iff_eq.mpr c8
   clear c8
   by_cases c9 : ((rd_T48 x3_1 (ji4)).f2) = ((rd_T48 l0 x4_1).f2)
   rotate_left
   ·rw [if_neg c9] at H
    have c9b0 : (((rd_T48 x3_1 (ji4)).f2) == ((rd_T48 l0 x4_1).f2)) = false := beq_eq_false_iff_ne.mpr c9
    have c9b1 : (((rd_T48 x3_1 (ji4)).f2) != ((rd_T48 l0 x4_1).f2)) = true := bne_iff_ne.mpr c9
    by_cases c14 : x3_1.length < 5864062014805
    rotate_left
    ·rw [if_neg c14] at H
     exact absurd H (by simp)
    rw [if_pos c14] at H
    have LMc14 := aK c14
    clear c14
    obtain ⟨y206, hy206⟩ : ∃ y_ : List (S48), y_ = (x3_1 ++ [(⟨(rd_T48 l0 x4_1).f0, (rd_T48 l0 x4_1).f1, (rd_T48 l0 x4_1).f2⟩ : S48)]) := ⟨_, rfl⟩
    replace H : (gangsawref14_joined.l0 k1 l0 y206 (wrap64 (x4_1 + 1))) = some r := by first | (rw [hy206]; with_reducible exact H) | (have H2_ := (Option.bind_some _ _).symm.trans H; rw [hy206]; with_reducible exact H2_) | (have H2_ := (Option.bind_some _ _).symm.trans H; with_reducible exact H2_) | with_reducible exact H | (rw [hy206]; exact H) | exact H
    have Ny206 := aK hy206
    clear hy206
    have H' := aK H
    clear H
    obtain ⟨Ao15, co15, eo15⟩ := Kd.R_slice HO_3.out
    subst eo15
    have p199 : 0 ≤ ((ji4) : Int) := of_decide_eq_true (by assumption)
    have q199 : (ji4) < (x3_1.length : Int) := of_decide_eq_true (by assumption)
    obtain ⟨ad199, e199, hx199_0, hx199_1, hx199_2⟩ := at_T48 (Kd.R_reads' HO_3.out).2.2 (ji4) p199 q199
    cases e199
    replace p199 := eq_true p199
    replace q199 := eq_true q199
    have p200 : 0 ≤ (x4_1 : Int) := of_decide_eq_true (by assumption)
    have q200 : x4_1 < (l0.length : Int) := of_decide_eq_true (by assumption)
    obtain ⟨ad200, e200, hx200_0, hx200_1, hx200_2⟩ := at_T48 HR0.out x4_1 p200 q200
    cases e200
    replace hx200_0 := (HB.out.cell (World.block_lt_of_cell? w _ hx200_0)).trans hx200_0
    replace hx200_1 := (HB.out.cell (World.block_lt_of_cell? w _ hx200_1)).trans hx200_1
    replace hx200_2 := (HB.out.cell (World.block_lt_of_cell? w _ hx200_2)).trans hx200_2
    replace p200 := eq_true p200
    replace q200 := eq_true q200
    have p201 : 0 ≤ ((ji4) : Int) := of_decide_eq_true (by assumption)
    have q201 : (ji4) < (x3_1.length : Int) := of_decide_eq_true (by assumption)
    obtain ⟨ad201, e201, hx201_0, hx201_1, hx201_2⟩ := at_T48 (Kd.R_reads' HO_3.out).2.2 (ji4) p201 q201
    obtain rfl : ad199 = ad201 := (by injection e201)
    replace p201 := eq_true p201
    replace q201 := eq_true q201
    have p202 : 0 ≤ (x4_1 : Int) := of_decide_eq_true (by assumption)
    have q202 : x4_1 < (l0.length : Int) := of_decide_eq_true (by assumption)
    obtain ⟨ad202, e202, hx202_0, hx202_1, hx202_2⟩ := at_T48 HR0.out x4_1 p202 q202
    obtain rfl : ad200 = ad202 := (by injection e202)
    replace hx202_0 := (HB.out.cell (World.block_lt_of_cell? w _ hx202_0)).trans hx202_0
    replace hx202_1 := (HB.out.cell (World.block_lt_of_cell? w _ hx202_1)).trans hx202_1
    replace hx202_2 := (HB.out.cell (World.block_lt_of_cell? w _ hx202_2)).trans hx202_2
    replace p202 := eq_true p202
    replace q202 := eq_true q202
    have p205 : 0 ≤ (x4_1 : Int) := of_decide_eq_true (by assumption)
    have q205 : x4_1 < (l0.length : Int) := of_decide_eq_true (by assumption)
    obtain ⟨ad205, e205, hx205_0, hx205_1, hx205_2⟩ := at_T48 HR0.out x4_1 p205 q205
    obtain rfl : ad200 = ad205 := (by injection e205)
    replace hx205_0 := (HB.out.cell (World.block_lt_of_cell? w _ hx205_0)).trans hx205_0
    replace hx205_1 := (HB.out.cell (World.block_lt_of_cell? w _ hx205_1)).trans hx205_1
    replace hx205_2 := (HB.out.cell (World.block_lt_of_cell? w _ hx205_2)).trans hx205_2
    replace p205 := eq_true p205
    replace q205 := eq_true q205
    iterate 10 (first | go_quiet (fail) | go_wp2_with (first | ((with_reducible refine gate_builtin (b := .append) (xs := #[.tmp 54, .tmp 59]) rfl ?_); at_builtin; refine Kd.R_append k48 (w0 := w) w.heap.size rfl (.tmp 54) (.tmp 59) 31 48 (.agg #[(.int .i64 0), (.int .i64 0), (.int .i64 0)]) 24 rfl Tryz.underlying31 info48 rfl (by decide) (by omega) (.slice (some ad199) x3_1.length co15) x3_1 (⟨(rd_T48 l0 x4_1).f0, (rd_T48 l0 x4_1).f1, (rd_T48 l0 x4_1).f2⟩ : S48) [.int .i64 ((rd_T48 l0 x4_1).f0), .int .i64 ((rd_T48 l0 x4_1).f1), .int .i64 ((rd_T48 l0 x4_1).f2)] (fun _ => True) (fun _ => False) rfl rfl ?aP (fun _ hk => hk.elim) ?aF ?aO ?aB ?aS ?aL ?_; (case aP => exact k48_mkM _ _ _ (⟨(rd_T48 l0 x4_1).f0, (rd_T48 l0 x4_1).f1, (rd_T48 l0 x4_1).f2⟩ : S48)); (case aB => exact (by repeat (first | (with_reducible first | exact HB.out | apply yA | apply yN | apply yD) | exact HB.out))); (case aF => exact (fun _ _ => trivial)); (case aO => exact (HO_3.out)); (case aS => exact (yZ (by repeat (first | (with_reducible first | exact HB.out | apply yA | apply yN | apply yD) | exact HB.out)))); (case aL => have := LMc14.out; omega); intro v207 w16 ho hb hg hat; rw [← Ny206.out] at ho; have n0_ := aK (hb); have n1_ := aK (ho); clear HB; clear HO_3; have HB := n0_; have HO208 := n1_; clear n0_ n1_; clear ho hb hg hat)) | skip)
    go_roundg k1
    case measure => have := HK1.out; omega
    case rel => exact ⟨(y206), (wrap64 (x4_1 + 1)), (by first | rfl | (simp; done) | (simp [*]; done)), H', ⟨by have := HK1.out; omega⟩, ⟨HO208.out⟩, ⟨HB.out⟩⟩
   rw [if_pos c9] at H
   have c9b0 : (((rd_T48 x3_1 (ji4)).f2) == ((rd_T48 l0 x4_1).f2)) = true := beq_iff_eq.mpr c9
   have c9b1 : (((rd_T48 x3_1 (ji4)).f2) != ((rd_T48 l0 x4_1).f2)) = false := bne_eq_false_iff_eq.mpr c9
   clear c9
   obtain ⟨y204, hy204⟩ : ∃ y_ : List (S48), y_ = (x3_1.set ((ji4) : Int).toNat (⟨(rd_T48 x3_1 (ji4)).f0, (rd_T48 l0 x4_1).f1, (rd_T48 x3_1 (ji4)).f2⟩ : S48)) := ⟨_, rfl⟩
   replace H : (gangsawref14_joined.l0 k1 l0 y204 (wrap64 (x4_1 + 1))) = some r := by first | (rw [hy204]; with_reducible exact H) | (have H2_ := (Option.bind_some _ _).symm.trans H; rw [hy204]; with_reducible exact H2_) | (have H2_ := (Option.bind_some _ _).symm.trans H; with_reducible exact H2_) | with_reducible exact H | (rw [hy204]; exact H) | exact H
   have Ny204 := aK hy204
   clear hy204
   have H' := aK H
   clear H
   obtain ⟨Ao11, co11, eo11⟩ := Kd.R_slice HO_3.out
   subst eo11
   have p199 : 0 ≤ ((ji4) : Int) := of_decide_eq_true (by assumption)
   have q199 : (ji4) < (x3_1.length : Int) := of_decide_eq_true (by assumption)
   obtain ⟨ad199, e199, hx199_0, hx199_1, hx199_2⟩ := at_T48 (Kd.R_reads' HO_3.out).2.2 (ji4) p199 q199
   cases e199
   replace p199 := eq_true p199
   replace q199 := eq_true q199
   have p200 : 0 ≤ (x4_1 : Int) := of_decide_eq_true (by assumption)
   have q200 : x4_1 < (l0.length : Int) := of_decide_eq_true (by assumption)
   obtain ⟨ad200, e200, hx200_0, hx200_1, hx200_2⟩ := at_T48 HR0.out x4_1 p200 q200
   cases e200
   replace hx200_0 := (HB.out.cell (World.block_lt_of_cell? w _ hx200_0)).trans hx200_0
   replace hx200_1 := (HB.out.cell (World.block_lt_of_cell? w _ hx200_1)).trans hx200_1
   replace hx200_2 := (HB.out.cell (World.block_lt_of_cell? w _ hx200_2)).trans hx200_2
   replace p200 := eq_true p200
   replace q200 := eq_true q200
   have p201 : 0 ≤ ((ji4) : Int) := of_decide_eq_true (by assumption)
   have q201 : (ji4) < (x3_1.length : Int) := of_decide_eq_true (by assumption)
   obtain ⟨ad201, e201, hx201_0, hx201_1, hx201_2⟩ := at_T48 (Kd.R_reads' HO_3.out).2.2 (ji4) p201 q201
   obtain rfl : ad199 = ad201 := (by injection e201)
   replace p201 := eq_true p201
   replace q201 := eq_true q201
   have p202 : 0 ≤ (x4_1 : Int) := of_decide_eq_true (by assumption)
   have q202 : x4_1 < (l0.length : Int) := of_decide_eq_true (by assumption)
   obtain ⟨ad202, e202, hx202_0, hx202_1, hx202_2⟩ := at_T48 HR0.out x4_1 p202 q202
   obtain rfl : ad200 = ad202 := (by injection e202)
   replace hx202_0 := (HB.out.cell (World.block_lt_of_cell? w _ hx202_0)).trans hx202_0
   replace hx202_1 := (HB.out.cell (World.block_lt_of_cell? w _ hx202_1)).trans hx202_1
   replace hx202_2 := (HB.out.cell (World.block_lt_of_cell? w _ hx202_2)).trans hx202_2
   replace p202 := eq_true p202
   replace q202 := eq_true q202
   have p203 : 0 ≤ (x4_1 : Int) := of_decide_eq_true (by assumption)
   have q203 : x4_1 < (l0.length : Int) := of_decide_eq_true (by assumption)
   obtain ⟨ad203, e203, hx203_0, hx203_1, hx203_2⟩ := at_T48 HR0.out x4_1 p203 q203
   obtain rfl : ad200 = ad203 := (by injection e203)
   replace hx203_0 := (HB.out.cell (World.block_lt_of_cell? w _ hx203_0)).trans hx203_0
   replace hx203_1 := (HB.out.cell (World.block_lt_of_cell? w _ hx203_1)).trans hx203_1
   replace hx203_2 := (HB.out.cell (World.block_lt_of_cell? w _ hx203_2)).trans hx203_2
   replace p203 := eq_true p203
   replace q203 := eq_true q203
   have p10 : 0 ≤ ((ji4) : Int) := of_decide_eq_true (by assumption)
   have q10 : ((ji4) : Int) < ((x3_1.length : Int) : Int) := of_decide_eq_true (by assumption)
   obtain ⟨go10, co10, eo10, gb10, gl10, cl10, HG10⟩ := Kd.R_form HO_3.out (by omega)
   (first | cases eo10 | (injection eo10 with ea_ en_ ec_; (first | subst ea_ | (injection ea_ with ea_; subst ea_)); subst ec_; clear en_))
   have GB10 := aK gb10
   have GG10 := aK HG10
   clear gb10 gl10 HG10
   (first | simp only [add_plain] at hx199_0 | skip)
   (first | simp only [add_plain] at hx199_1 | skip)
   (first | simp only [add_plain] at hx199_2 | skip)
   (first | simp only [add_plain] at hx201_0 | skip)
   (first | simp only [add_plain] at hx201_1 | skip)
   (first | simp only [add_plain] at hx201_2 | skip)
   obtain ⟨ce10, hcl10, hM10, hcc10, hfr10⟩ := Kd.R_elem HO_3.out z48 ((ji4) : Int) p10 q10
   obtain rfl := k48_openM hM10
   have hx10_0 : wr.cell? ⟨go10, ((ji4) : Int).toNat * 3, none⟩ = some (.int .i64 ((rd_T48 x3_1 (ji4)).f0)) := hcc10 0 _ rfl
   have hx10_1 : wr.cell? ⟨go10, ((ji4) : Int).toNat * 3 + 1, none⟩ = some (.int .i64 ((rd_T48 x3_1 (ji4)).f1)) := hcc10 1 _ rfl
   have hx10_2 : wr.cell? ⟨go10, ((ji4) : Int).toNat * 3 + 2, none⟩ = some (.int .i64 ((rd_T48 x3_1 (ji4)).f2)) := hcc10 2 _ rfl
   have hf10_0 : wr.frozen? ⟨go10, ((ji4) : Int).toNat * 3, none⟩ = false := hfr10 0
   have hf10_1 : wr.frozen? ⟨go10, ((ji4) : Int).toNat * 3 + 1, none⟩ = false := hfr10 1
   have hf10_2 : wr.frozen? ⟨go10, ((ji4) : Int).toNat * 3 + 2, none⟩ = false := hfr10 2
   clear hcl10 hcc10 hfr10 hM10
   replace p10 := eq_true p10
   replace q10 := eq_true q10
   have HX12 := aK (show Kd.R k48 48 wr w.heap.size (fun _ => True) (.slice (some ⟨go10, 0, none⟩) x3_1.length co11) x3_1 from (HO_3.out))
   obtain ⟨ce12, hcl12, hM12, hcc12, hfr12⟩ := Kd.R_elem HX12.out z48 ((ji4) : Int) (of_decide_eq_true (by assumption)) (by have h_ : ((ji4) : Int) < ((x3_1.length : Int) : Int) := of_decide_eq_true (by assumption); first | exact h_ | (have e_ := (Kd.R_reads' HO_3.out).1; omega) | simpa using h_)
   obtain rfl := k48_openM hM12
   have HP12 := Kd.R_seg HX12.out ((ji4) : Int) (of_decide_eq_true (by assumption)) (by have h_ : ((ji4) : Int) < ((x3_1.length : Int) : Int) := of_decide_eq_true (by assumption); first | exact h_ | (have e_ := (Kd.R_reads' HO_3.out).1; omega) | simpa using h_) (seg := [.int .i64 ((rd_T48 l0 x4_1).f1)]) (j := 1) hcl12 hcc12 (show 2 ≤ 3 from by decide) (x' := (⟨(rd_T48 x3_1 (ji4)).f0, (rd_T48 l0 x4_1).f1, (rd_T48 x3_1 (ji4)).f2⟩ : S48)) (k48_mkM _ _ _ (⟨(rd_T48 x3_1 (ji4)).f0, (rd_T48 l0 x4_1).f1, (rd_T48 x3_1 (ji4)).f2⟩ : S48) ) (fun _ hk => hk)
   have hx12_1 := hcc12 1 _ rfl
   (try simp only [show (k48).sz = 3 from rfl, Nat.mul_one, Nat.add_zero] at hx12_1)
   have hf12_1 := hfr12 1
   (try simp only [show (k48).sz = 3 from rfl, Nat.mul_one, Nat.add_zero] at hf12_1)
   clear hcl12 hcc12 hfr12 hM12
   iterate 10 (first | go_quiet (fail) | go_wp2_with (first | ((with_reducible refine gate_store (t := 3) (p := 53) rfl ?_); (try (rw [drewN_self wr]; generalize hq_ : World.drewN wr _ = wr; have n0_ := aK (Kd.R_at hq_ HO_3.out); have n1_ := aK (below_at hq_ HB.out); clear hq_ HO_3 HB; have HO_3 := n0_; have HB := n1_; clear n0_ n1_; (try (have HX12 := aK (show Kd.R k48 48 wr w.heap.size (fun _ => True) (.slice (some ⟨go10, 0, none⟩) x3_1.length co11) x3_1 from (HO_3.out)))); (try (obtain ⟨ce12, hcl12, hM12, hcc12, hfr12⟩ := Kd.R_elem HX12.out z48 ((ji4) : Int) (of_decide_eq_true (by assumption)) (by have h_ : ((ji4) : Int) < ((x3_1.length : Int) : Int) := of_decide_eq_true (by assumption); first | exact h_ | (have e_ := (Kd.R_reads' HO_3.out).1; omega) | simpa using h_))); (try (obtain rfl := k48_openM hM12)); (try (have HP12 := Kd.R_seg HX12.out ((ji4) : Int) (of_decide_eq_true (by assumption)) (by have h_ : ((ji4) : Int) < ((x3_1.length : Int) : Int) := of_decide_eq_true (by assumption); first | exact h_ | (have e_ := (Kd.R_reads' HO_3.out).1; omega) | simpa using h_) (seg := [.int .i64 ((rd_T48 l0 x4_1).f1)]) (j := 1) hcl12 hcc12 (show 2 ≤ 3 from by decide) (x' := (⟨(rd_T48 x3_1 (ji4)).f0, (rd_T48 l0 x4_1).f1, (rd_T48 x3_1 (ji4)).f2⟩ : S48)) (k48_mkM _ _ _ (⟨(rd_T48 x3_1 (ji4)).f0, (rd_T48 l0 x4_1).f1, (rd_T48 x3_1 (ji4)).f2⟩ : S48) ) (fun _ hk => hk))); (try (have hx12_1 := hcc12 1 _ rfl)); (try (try simp only [show (k48).sz = 3 from rfl, Nat.mul_one, Nat.add_zero] at hx12_1)); (try (have hf12_1 := hfr12 1)); (try (try simp only [show (k48).sz = 3 from rfl, Nat.mul_one, Nat.add_zero] at hf12_1)); (try (clear hcl12 hcc12 hfr12 hM12)))); refine store_event (t := 3) (p := 53) (v := ?vo_w13) (w1 := (wr.setCell ⟨go10, ((ji4) : Int).toNat * 3 + 1, none⟩ (.int .i64 ((rd_T48 l0 x4_1).f1)))) ?hg ?ho ?hn ?hr ?_; (case ho => rfl); (case hg => rfl); (case hn => rfl); (case hr => first | (go_simp; done) | (go_simp; rfl)); intro w13 hw; have hg : wr.grownBy w13 (some go10) := (by rw [hw]; exact HP12.2); have hp_ : Kd.R k48 48 w13 w.heap.size (fun _ => True) (.slice (some ⟨go10, 0, none⟩) x3_1.length co11) y204 := (by rw [hw, Ny204.out]; exact HP12.1); clear HP12; have n0_ := aK (hp_); have n1_ := aK ((by rw [hw]; exact yS (HB.out) GB10.out : Below w.heap.size w w13)); clear HO_3; clear HB; have HO_3 := n0_; have HB := n1_; clear n0_ n1_; clear hg hw hp_)) | skip)
   go_roundg k1
   case measure => have := HK1.out; omega
   case rel => exact ⟨(y204), (wrap64 (x4_1 + 1)), (by first | rfl | (simp; done) | (simp [*]; done)), H', ⟨by have := HK1.out; omega⟩, ⟨HO_3.out⟩, ⟨HB.out⟩⟩

def gangsawref14_Normal.f (k : Nat) (a0_0 : ByteArray) (a0_1 : Int) (a0_2 : Int) (l0_3 : List (S48)) : Option (ByteArray × Int × Int × (List (S48)) × Int) := (gangsawref14_Formed.f k a0_0 a0_1 a0_2 l0_3).bind fun t219 => (if t219 = 0 then ((gangsawref14_joined.f k l0_3).bind fun t220 => (some (a0_0, a0_1, a0_2, t220, 0))) else (some ((⟨#[]⟩ : ByteArray), 0, 0, ([] : List (S48)), t219)))
theorem gangsawref14_Normal.mono : ∀ a0 a1 a2 a3 k, LeO (gangsawref14_Normal.f k a0 a1 a2 a3) (gangsawref14_Normal.f (k + 1) a0 a1 a2 a3) := by
 intro a0 a1 a2 a3 k
 unfold gangsawref14_Normal.f
 repeat' first
   | (with_reducible exact gangsawref14_Formed.mono _ _ _ _ _)
   | (with_reducible exact gangsawref14_joined.mono _ _)
   | (with_reducible exact LeO.refl _)
   | (with_reducible exact LeO.none _)
   | (with_reducible refine LeO.ite ?_ ?_)
   | (with_reducible refine LeO.bind ?_ (fun _ => ?_))
   | exact gangsawref14_Formed.mono _ _ _ _ _
   | exact gangsawref14_joined.mono _ _
   | exact LeO.none _
   | refine LeO.ite ?_ ?_
   | refine LeO.bind ?_ (fun _ => ?_)
def boring_column.f (a0_0 : Int) (a0_1 : Int) (a1 : Int) (a2 : Int) : Option (Int × Int × Int × Int × Int × Int) := some (a0_0, a0_1, a1, wrap64 (a0_0 + 1), wrap64 (a0_1 + 1), a2)
def gangsawref14_column.f (a0_0 : Int) (a0_1 : Int) (a1 : Int) (a2 : Int) : Option (Int × Int × Int × Int × Int × Int) := some (a0_0, a0_1, a1, wrap64 (a0_0 + 1), wrap64 (a0_1 + 1), a2)
end Go.Proofs.YtfedmcehkpfciaaGreat.P
