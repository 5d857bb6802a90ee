/- What functions of the program return: each contract says so of one function, for every input at which its pure function yields. -/
import Derived.Test.YtfedmcehkpfciaaGreatPx0
import Derived.Test.YtfedmcehkpfciaaGreatPx9
namespace Go.Proofs.YtfedmcehkpfciaaGreat.P
open Go.RowKit Go.Proofs.YtfedmcehkpfciaaGreatW.PrintWords Go.Proofs.YtfedmcehkpfciaaGreatW.PrintLast Go.Proofs.YtfedmcehkpfciaaGreatW.PrintMore
attribute [local go_sem] max2_int min2_int max_two min_two max_three min_three max_four min_four   -- for this text's walks alone
set_option linter.unusedVariables false
set_option linter.unusedSimpArgs false

def gangsawref14_joined.l0 : Nat → List (S48) → List (S48) → Int → Option ((List (S48)))
 | 0, _, _, _ => none
 | k + 1, x0, x3, x4 => if x4 < (x0.length : Int) then (if (x3.length : Int) > 0 then (if 0 ≤ (wrap64 ((x3.length : Int) - 1)) then (if (wrap64 ((x3.length : Int) - 1)) < (x3.length : Int) then (if 0 ≤ x4 then (if ((rd_T48 x3 (wrap64 ((x3.length : Int) - 1))).f1) = ((rd_T48 x0 x4).f0) then (if ((rd_T48 x3 (wrap64 ((x3.length : Int) - 1))).f2) = ((rd_T48 x0 x4).f2) then (gangsawref14_joined.l0 k x0 (x3.set ((wrap64 ((x3.length : Int) - 1)) : Int).toNat (⟨(rd_T48 x3 (wrap64 ((x3.length : Int) - 1))).f0, (rd_T48 x0 x4).f1, (rd_T48 x3 (wrap64 ((x3.length : Int) - 1))).f2⟩ : S48)) (wrap64 (x4 + 1))) else (if x3.length < 5864062014805 then (gangsawref14_joined.l0 k x0 (x3 ++ [(⟨(rd_T48 x0 x4).f0, (rd_T48 x0 x4).f1, (rd_T48 x0 x4).f2⟩ : S48)]) (wrap64 (x4 + 1))) else (none))) else (if x3.length < 5864062014805 then (gangsawref14_joined.l0 k x0 (x3 ++ [(⟨(rd_T48 x0 x4).f0, (rd_T48 x0 x4).f1, (rd_T48 x0 x4).f2⟩ : S48)]) (wrap64 (x4 + 1))) else (none))) else (none)) else (none)) else (none)) else (if 0 ≤ x4 then (if x3.length < 5864062014805 then (gangsawref14_joined.l0 k x0 (x3 ++ [(⟨(rd_T48 x0 x4).f0, (rd_T48 x0 x4).f1, (rd_T48 x0 x4).f2⟩ : S48)]) (wrap64 (x4 + 1))) else (none)) else (none))) else (some x3)
def gangsawref14_joined.f (k : Nat) (l0 : List (S48)) : Option ((List (S48))) := gangsawref14_joined.l0 k l0 ([] : List (S48)) 0
theorem gangsawref14_joined.mono_l : ∀ k, (∀ y0 y1 y2, LeO (gangsawref14_joined.l0 k y0 y1 y2) (gangsawref14_joined.l0 (k + 1) y0 y1 y2))
 | 0 => fun _ _ _ r h => by simp [gangsawref14_joined.l0] at h
 | k + 1 => by
  have ih0 := gangsawref14_joined.mono_l k
  ·intro y0 y1 y2
   unfold gangsawref14_joined.l0
   repeat' first
   | (with_reducible exact ih0 _ _ _)
   | (with_reducible refine contains3.mono2 (fun x_ => ?_))
   | (with_reducible refine contains33.mono2 (fun x_ => ?_))
   | (with_reducible refine contains48.mono2 (fun x_ => ?_))
   | (with_reducible refine contains9.mono2 (fun x_ => ?_))
   | (with_reducible refine index3.mono2 (fun x_ => ?_))
   | (with_reducible refine index33.mono2 (fun x_ => ?_))
   | (with_reducible refine index48.mono2 (fun x_ => ?_))
   | (with_reducible refine index9.mono2 (fun x_ => ?_))
   | (with_reducible exact LeO.refl _)
   | (with_reducible exact LeO.none _)
   | (with_reducible refine LeO.ite ?_ ?_)
   | (with_reducible refine LeO.bind ?_ (fun _ => ?_))
   | exact ih0 _ _ _
   | exact LeO.none _
   | refine LeO.ite ?_ ?_
   | refine LeO.bind ?_ (fun _ => ?_)
theorem gangsawref14_joined.mono : ∀ a0 k, LeO (gangsawref14_joined.f k a0) (gangsawref14_joined.f (k + 1) a0) := by
 intro a0 k
 have ih0 := gangsawref14_joined.mono_l k
 unfold gangsawref14_joined.f
 repeat' first
   | (with_reducible exact ih0 _ _ _)
   | (with_reducible refine contains3.mono2 (fun x_ => ?_))
   | (with_reducible refine contains33.mono2 (fun x_ => ?_))
   | (with_reducible refine contains48.mono2 (fun x_ => ?_))
   | (with_reducible refine contains9.mono2 (fun x_ => ?_))
   | (with_reducible refine index3.mono2 (fun x_ => ?_))
   | (with_reducible refine index33.mono2 (fun x_ => ?_))
   | (with_reducible refine index48.mono2 (fun x_ => ?_))
   | (with_reducible refine index9.mono2 (fun x_ => ?_))
   | (with_reducible exact LeO.refl _)
   | (with_reducible exact LeO.none _)
   | (with_reducible refine LeO.ite ?_ ?_)
   | (with_reducible refine LeO.bind ?_ (fun _ => ?_))
   | exact ih0 _ _ _
   | exact LeO.none _
   | refine LeO.ite ?_ ?_
   | refine LeO.bind ?_ (fun _ => ?_)
set_option maxHeartbeats 8000000 in
set_option maxRecDepth 100000 in
theorem gangsawref14_joined.calls (k : Nat) (A0 : Option Addr) (c0 : Nat) (l0 : List (S48)) (r : List (S48)) (w : World) (hr0 : Kd.C k48 w A0 l0.length l0) (hc0 : l0.length ≤ c0) (h : gangsawref14_joined.f k l0 = some r) :
  Calls Tryz.prog 49 #[.slice A0 l0.length c0] w fun e w' => ∃ v0_ : Value, e = .returned (v0_) ∧ Kd.R k48 48 w' w.heap.size (fun _ => True) v0_ r ∧ Below w.heap.size w w' := by
 have hu48 := Tryz.underlying48
 have HR0 := aK hr0
 have HC0 := aK hc0
 clear hr0 hc0
 have HB := aK (Below.refl w.heap.size w)
 have H : (gangsawref14_joined.l0 k l0 ([] : List (S48)) 0) = some r := h
 clear h
 have H' := aK H
 clear H
 go_enter Tryz.func49, Tryz.ntmps49
 go_wp2
 go_loopg [3, 4] k (fun kq v3 v4 w' => ∃ (x3_1 : List (S48)) (x4_1 : Int), v4 = .int .i64 x4_1 ∧ Aside0 (gangsawref14_joined.l0 kq l0 x3_1 x4_1 = some r) ∧ Aside0 (kq ≤ k) ∧ Aside0 (Kd.R k48 48 w' w.heap.size (fun _ => True) v3 x3_1) ∧ Aside0 (Below w.heap.size w w'))
 case atStart => exact ⟨(([] : List (S48))), (0), (by first | rfl | (simp; done) | (simp [*]; done)), H', ⟨Nat.le_refl _⟩, ⟨by first | exact Kd.R_nil _ _ _ _ _ | exact Kd.N_nil _ _ _ _ _ | exact Kd.V_nil _ _ _ _ _ | exact Kd.Q_nil _ _ _ _ _ | exact Kd.S_nil _ _ _ _ _⟩, ⟨by repeat (first | (with_reducible first | exact HB.out | apply yA | apply yN | apply yD) | exact HB.out)⟩⟩
 case round =>
  clear H'
  obtain ⟨x3_1, x4_1, rfl, HA, HK1, HO_3, HB⟩ := hrel
  cases gk with
  | zero => exact absurd HA.out (by simp [gangsawref14_joined.l0])
  | succ k1 =>
   have H := HA.out
   clear HA
   simp only [gangsawref14_joined.l0] at H
   by_cases c2 : x4_1 < (l0.length : Int)
   ·rw [if_pos c2] at H
    have c2b0 : decide (x4_1 < (l0.length : Int)) = true := decide_eq_true c2
    clear c2
    by_cases c3 : (x3_1.length : Int) > 0
    ·rw [if_pos c3] at H
     have c3b0 : decide (0 < (x3_1.length : Int)) = true := decide_eq_true c3
     have c3b1 : decide (0 < x3_1.length) = true := decide_eq_true (by omega)
     clear c3
     obtain ⟨ji4, hji4⟩ : ∃ j_ : Int, (wrap64 ((x3_1.length : Int) - 1)) = j_ := ⟨_, rfl⟩
     replace H : (if 0 ≤ (ji4) then (if (ji4) < (x3_1.length : Int) then (if 0 ≤ x4_1 then (if ((rd_T48 x3_1 (ji4)).f1) = ((rd_T48 l0 x4_1).f0) then (if ((rd_T48 x3_1 (ji4)).f2) = ((rd_T48 l0 x4_1).f2) then (gangsawref14_joined.l0 k1 l0 (x3_1.set ((ji4) : Int).toNat (⟨(rd_T48 x3_1 (ji4)).f0, (rd_T48 l0 x4_1).f1, (rd_T48 x3_1 (ji4)).f2⟩ : S48)) (wrap64 (x4_1 + 1))) else (if x3_1.length < 5864062014805 then (gangsawref14_joined.l0 k1 l0 (x3_1 ++ [(⟨(rd_T48 l0 x4_1).f0, (rd_T48 l0 x4_1).f1, (rd_T48 l0 x4_1).f2⟩ : S48)]) (wrap64 (x4_1 + 1))) else (none))) else (if x3_1.length < 5864062014805 then (gangsawref14_joined.l0 k1 l0 (x3_1 ++ [(⟨(rd_T48 l0 x4_1).f0, (rd_T48 l0 x4_1).f1, (rd_T48 l0 x4_1).f2⟩ : S48)]) (wrap64 (x4_1 + 1))) else (none))) else (none)) else (none)) else (none)) = some r := by first | (rw [hji4] at H; exact H) | (simp only [hji4] at H ⊢; exact H)
     have hji4w : (IntKind.i64.wrap ((x3_1.length : Int) - 1)) = ji4 := (i64_w _).trans hji4
     by_cases c5 : 0 ≤ (ji4)
     ·rw [if_pos c5] at H
      have c5b0 : decide (0 ≤ (ji4)) = true := decide_eq_true c5
      clear c5
      by_cases c6 : (ji4) < (x3_1.length : Int)
      ·rw [if_pos c6] at H
       have c6b0 : decide ((ji4) < (x3_1.length : Int)) = true := decide_eq_true c6
       clear c6
       by_cases c7 : 0 ≤ x4_1
       ·rw [if_pos c7] at H
        have c7b0 : decide (0 ≤ x4_1) = true := decide_eq_true c7
        clear c7
        by_cases c8 : ((rd_T48 x3_1 (ji4)).f1) = ((rd_T48 l0 x4_1).f0)
        ·rw [if_pos c8] at H
         have c8b0 : (((rd_T48 x3_1 (ji4)).f1) == ((rd_T48 l0 x4_1).f0)) = true := beq_iff_eq.mpr c8
         have c8b1 : (((rd_T48 x3_1 (ji4)).f1) != ((rd_T48 l0 x4_1).f0)) = false := bne_eq_false_iff_eq.mpr c8
         clear c8
         by_cases c9 : ((rd_T48 x3_1 (ji4)).f2) = ((rd_T48 l0 x4_1).f2)
         ·rw [if_pos c9] at H
          have c9b0 : (((rd_T48 x3_1 (ji4)).f2) == ((rd_T48 l0 x4_1).f2)) = true := beq_iff_eq.mpr c9
          have c9b1 : (((rd_T48 x3_1 (ji4)).f2) != ((rd_T48 l0 x4_1).f2)) = false := bne_eq_false_iff_eq.mpr c9
          clear c9
          obtain ⟨y162, hy162⟩ : ∃ y_ : List (S48), y_ = (x3_1.set ((ji4) : Int).toNat (⟨(rd_T48 x3_1 (ji4)).f0, (rd_T48 l0 x4_1).f1, (rd_T48 x3_1 (ji4)).f2⟩ : S48)) := ⟨_, rfl⟩
          replace H : (gangsawref14_joined.l0 k1 l0 y162 (wrap64 (x4_1 + 1))) = some r := by first | (rw [hy162]; with_reducible exact H) | (have H2_ := (Option.bind_some _ _).symm.trans H; rw [hy162]; with_reducible exact H2_) | (have H2_ := (Option.bind_some _ _).symm.trans H; with_reducible exact H2_) | with_reducible exact H | (rw [hy162]; exact H) | exact H
          have Ny162 := aK hy162
          clear hy162
          have H' := aK H
          clear H
          obtain ⟨Ao11, co11, eo11⟩ := Kd.R_slice HO_3.out
          subst eo11
          have p157 : 0 ≤ ((ji4) : Int) := of_decide_eq_true (by first | (with_reducible assumption) | assumption)
          have q157 : (ji4) < (x3_1.length : Int) := of_decide_eq_true (by first | (with_reducible assumption) | assumption)
          obtain ⟨ad157, e157, hx157_0, hx157_1, hx157_2⟩ := at_T48 (Kd.R_reads' HO_3.out).2.2 (ji4) p157 q157
          cases e157
          replace p157 := eq_true p157
          replace q157 := eq_true q157
          have p158 : 0 ≤ (x4_1 : Int) := of_decide_eq_true (by first | (with_reducible assumption) | assumption)
          have q158 : x4_1 < (l0.length : Int) := of_decide_eq_true (by first | (with_reducible assumption) | assumption)
          obtain ⟨ad158, e158, hx158_0, hx158_1, hx158_2⟩ := at_T48 HR0.out x4_1 p158 q158
          cases e158
          replace hx158_0 := (HB.out.cell (World.block_lt_of_cell? w _ hx158_0)).trans hx158_0
          replace hx158_1 := (HB.out.cell (World.block_lt_of_cell? w _ hx158_1)).trans hx158_1
          replace hx158_2 := (HB.out.cell (World.block_lt_of_cell? w _ hx158_2)).trans hx158_2
          replace p158 := eq_true p158
          replace q158 := eq_true q158
          have p159 : 0 ≤ ((ji4) : Int) := of_decide_eq_true (by first | (with_reducible assumption) | assumption)
          have q159 : (ji4) < (x3_1.length : Int) := of_decide_eq_true (by first | (with_reducible assumption) | assumption)
          obtain ⟨ad159, e159, hx159_0, hx159_1, hx159_2⟩ := at_T48 (Kd.R_reads' HO_3.out).2.2 (ji4) p159 q159
          obtain rfl : ad157 = ad159 := (by injection e159)
          replace p159 := eq_true p159
          replace q159 := eq_true q159
          have p160 : 0 ≤ (x4_1 : Int) := of_decide_eq_true (by first | (with_reducible assumption) | assumption)
          have q160 : x4_1 < (l0.length : Int) := of_decide_eq_true (by first | (with_reducible assumption) | assumption)
          obtain ⟨ad160, e160, hx160_0, hx160_1, hx160_2⟩ := at_T48 HR0.out x4_1 p160 q160
          obtain rfl : ad158 = ad160 := (by injection e160)
          replace hx160_0 := (HB.out.cell (World.block_lt_of_cell? w _ hx160_0)).trans hx160_0
          replace hx160_1 := (HB.out.cell (World.block_lt_of_cell? w _ hx160_1)).trans hx160_1
          replace hx160_2 := (HB.out.cell (World.block_lt_of_cell? w _ hx160_2)).trans hx160_2
          replace p160 := eq_true p160
          replace q160 := eq_true q160
          have p161 : 0 ≤ (x4_1 : Int) := of_decide_eq_true (by first | (with_reducible assumption) | assumption)
          have q161 : x4_1 < (l0.length : Int) := of_decide_eq_true (by first | (with_reducible assumption) | assumption)
          obtain ⟨ad161, e161, hx161_0, hx161_1, hx161_2⟩ := at_T48 HR0.out x4_1 p161 q161
          obtain rfl : ad158 = ad161 := (by injection e161)
          replace hx161_0 := (HB.out.cell (World.block_lt_of_cell? w _ hx161_0)).trans hx161_0
          replace hx161_1 := (HB.out.cell (World.block_lt_of_cell? w _ hx161_1)).trans hx161_1
          replace hx161_2 := (HB.out.cell (World.block_lt_of_cell? w _ hx161_2)).trans hx161_2
          replace p161 := eq_true p161
          replace q161 := eq_true q161
          have p10 : 0 ≤ ((ji4) : Int) := of_decide_eq_true (by first | (with_reducible assumption) | assumption)
          have q10 : ((ji4) : Int) < ((x3_1.length : Int) : Int) := of_decide_eq_true (by first | (with_reducible assumption) | assumption)
          obtain ⟨go10, co10, eo10, gb10, gl10, cl10, HG10⟩ := Kd.R_form HO_3.out (by omega)
          (first | cases eo10 | (injection eo10 with ea_ en_ ec_; (first | subst ea_ | (injection ea_ with ea_; subst ea_)); subst ec_; clear en_))
          have GB10 := aK gb10
          have GG10 := aK HG10
          clear gb10 gl10 HG10
          (first | simp only [add_plain] at hx157_0 | skip)
          (first | simp only [add_plain] at hx157_1 | skip)
          (first | simp only [add_plain] at hx157_2 | skip)
          (first | simp only [add_plain] at hx159_0 | skip)
          (first | simp only [add_plain] at hx159_1 | skip)
          (first | simp only [add_plain] at hx159_2 | skip)
          obtain ⟨ce10, hcl10, hM10, hcc10, hfr10⟩ := Kd.R_elem HO_3.out z48 ((ji4) : Int) p10 q10
          obtain rfl := k48_openM hM10
          have hx10_0 : wr.cell? ⟨go10, ((ji4) : Int).toNat * 3, none⟩ = some (.int .i64 ((rd_T48 x3_1 (ji4)).f0)) := hcc10 0 _ rfl
          have hx10_1 : wr.cell? ⟨go10, ((ji4) : Int).toNat * 3 + 1, none⟩ = some (.int .i64 ((rd_T48 x3_1 (ji4)).f1)) := hcc10 1 _ rfl
          have hx10_2 : wr.cell? ⟨go10, ((ji4) : Int).toNat * 3 + 2, none⟩ = some (.int .i64 ((rd_T48 x3_1 (ji4)).f2)) := hcc10 2 _ rfl
          have hf10_0 : wr.frozen? ⟨go10, ((ji4) : Int).toNat * 3, none⟩ = false := hfr10 0
          have hf10_1 : wr.frozen? ⟨go10, ((ji4) : Int).toNat * 3 + 1, none⟩ = false := hfr10 1
          have hf10_2 : wr.frozen? ⟨go10, ((ji4) : Int).toNat * 3 + 2, none⟩ = false := hfr10 2
          clear hcl10 hcc10 hfr10 hM10
          replace p10 := eq_true p10
          replace q10 := eq_true q10
          have HX12 := aK (show Kd.R k48 48 wr w.heap.size (fun _ => True) (.slice (some ⟨go10, 0, none⟩) x3_1.length co11) x3_1 from (by (with_reducible repeat (first | apply Kd.R_alloc | apply Kd.R_drewN | apply Kd.R_drew)); exact HO_3.out))
          obtain ⟨ce12, hcl12, hM12, hcc12, hfr12⟩ := Kd.R_elem HX12.out z48 ((ji4) : Int) (of_decide_eq_true (by first | (with_reducible assumption) | assumption)) (by have h_ : ((ji4) : Int) < ((x3_1.length : Int) : Int) := of_decide_eq_true (by first | (with_reducible assumption) | assumption); first | exact h_ | (have e_ := (Kd.R_reads' HO_3.out).1; omega) | simpa using h_)
          obtain rfl := k48_openM hM12
          have HP12 := Kd.R_seg HX12.out ((ji4) : Int) (of_decide_eq_true (by first | (with_reducible assumption) | assumption)) (by have h_ : ((ji4) : Int) < ((x3_1.length : Int) : Int) := of_decide_eq_true (by first | (with_reducible assumption) | assumption); first | exact h_ | (have e_ := (Kd.R_reads' HO_3.out).1; omega) | simpa using h_) (seg := [.int .i64 ((rd_T48 l0 x4_1).f1)]) (j := 1) hcl12 hcc12 (show 2 ≤ 3 from by decide) (x' := (⟨(rd_T48 x3_1 (ji4)).f0, (rd_T48 l0 x4_1).f1, (rd_T48 x3_1 (ji4)).f2⟩ : S48)) (k48_mkM _ _ _ (⟨(rd_T48 x3_1 (ji4)).f0, (rd_T48 l0 x4_1).f1, (rd_T48 x3_1 (ji4)).f2⟩ : S48) ) (fun _ hk => hk)
          have hx12_1 := hcc12 1 _ rfl
          (try simp only [show (k48).sz = 3 from rfl, Nat.mul_one, Nat.add_zero] at hx12_1)
          have hf12_1 := hfr12 1
          (try simp only [show (k48).sz = 3 from rfl, Nat.mul_one, Nat.add_zero] at hf12_1)
          clear hcl12 hcc12 hfr12 hM12
          go_wp2_with (first | ((with_reducible refine gate_store (t := 3) (p := 53) rfl ?_); (try (rw [drewN_self wr]; generalize hq_ : World.drewN wr _ = wr; have n0_ := aK (Kd.R_at hq_ HO_3.out); have n1_ := aK (below_at hq_ HB.out); clear hq_ HO_3 HB; have HO_3 := n0_; have HB := n1_; clear n0_ n1_; (try (have HX12 := aK (show Kd.R k48 48 wr w.heap.size (fun _ => True) (.slice (some ⟨go10, 0, none⟩) x3_1.length co11) x3_1 from (by (with_reducible repeat (first | apply Kd.R_alloc | apply Kd.R_drewN | apply Kd.R_drew)); exact HO_3.out)))); (try (obtain ⟨ce12, hcl12, hM12, hcc12, hfr12⟩ := Kd.R_elem HX12.out z48 ((ji4) : Int) (of_decide_eq_true (by first | (with_reducible assumption) | assumption)) (by have h_ : ((ji4) : Int) < ((x3_1.length : Int) : Int) := of_decide_eq_true (by first | (with_reducible assumption) | assumption); first | exact h_ | (have e_ := (Kd.R_reads' HO_3.out).1; omega) | simpa using h_))); (try (obtain rfl := k48_openM hM12)); (try (have HP12 := Kd.R_seg HX12.out ((ji4) : Int) (of_decide_eq_true (by first | (with_reducible assumption) | assumption)) (by have h_ : ((ji4) : Int) < ((x3_1.length : Int) : Int) := of_decide_eq_true (by first | (with_reducible assumption) | assumption); first | exact h_ | (have e_ := (Kd.R_reads' HO_3.out).1; omega) | simpa using h_) (seg := [.int .i64 ((rd_T48 l0 x4_1).f1)]) (j := 1) hcl12 hcc12 (show 2 ≤ 3 from by decide) (x' := (⟨(rd_T48 x3_1 (ji4)).f0, (rd_T48 l0 x4_1).f1, (rd_T48 x3_1 (ji4)).f2⟩ : S48)) (k48_mkM _ _ _ (⟨(rd_T48 x3_1 (ji4)).f0, (rd_T48 l0 x4_1).f1, (rd_T48 x3_1 (ji4)).f2⟩ : S48) ) (fun _ hk => hk))); (try (have hx12_1 := hcc12 1 _ rfl)); (try (try simp only [show (k48).sz = 3 from rfl, Nat.mul_one, Nat.add_zero] at hx12_1)); (try (have hf12_1 := hfr12 1)); (try (try simp only [show (k48).sz = 3 from rfl, Nat.mul_one, Nat.add_zero] at hf12_1)); (try (clear hcl12 hcc12 hfr12 hM12)))); refine store_event (t := 3) (p := 53) (v := ?vo_w13) (w1 := (wr.setCell ⟨go10, ((ji4) : Int).toNat * 3 + 1, none⟩ (.int .i64 ((rd_T48 l0 x4_1).f1)))) ?hg ?ho ?hn ?hr ?_; (case ho => rfl); (case hg => rfl); (case hn => rfl); (case hr => first | (go_simp; done) | (go_simp; rfl)); intro w13 hw; have hg : wr.grownBy w13 (some go10) := (by rw [hw]; exact HP12.2); have hp_ : Kd.R k48 48 w13 w.heap.size (fun _ => True) (.slice (some ⟨go10, 0, none⟩) x3_1.length co11) y162 := (by rw [hw, Ny162.out]; exact HP12.1); clear HP12; have n0_ := aK (hp_); have n1_ := aK ((by rw [hw]; exact yS (HB.out) GB10.out : Below w.heap.size w w13)); clear HO_3; clear HB; have HO_3 := n0_; have HB := n1_; clear n0_ n1_; clear hg hw hp_))
          repeat (go_quiet (first | ((with_reducible refine gate_store (t := 3) (p := 53) rfl ?_); (try (rw [drewN_self wr]; generalize hq_ : World.drewN wr _ = wr; have n0_ := aK (Kd.R_at hq_ HO_3.out); have n1_ := aK (below_at hq_ HB.out); clear hq_ HO_3 HB; have HO_3 := n0_; have HB := n1_; clear n0_ n1_; (try (have HX12 := aK (show Kd.R k48 48 wr w.heap.size (fun _ => True) (.slice (some ⟨go10, 0, none⟩) x3_1.length co11) x3_1 from (by (with_reducible repeat (first | apply Kd.R_alloc | apply Kd.R_drewN | apply Kd.R_drew)); exact HO_3.out)))); (try (obtain ⟨ce12, hcl12, hM12, hcc12, hfr12⟩ := Kd.R_elem HX12.out z48 ((ji4) : Int) (of_decide_eq_true (by first | (with_reducible assumption) | assumption)) (by have h_ : ((ji4) : Int) < ((x3_1.length : Int) : Int) := of_decide_eq_true (by first | (with_reducible assumption) | assumption); first | exact h_ | (have e_ := (Kd.R_reads' HO_3.out).1; omega) | simpa using h_))); (try (obtain rfl := k48_openM hM12)); (try (have HP12 := Kd.R_seg HX12.out ((ji4) : Int) (of_decide_eq_true (by first | (with_reducible assumption) | assumption)) (by have h_ : ((ji4) : Int) < ((x3_1.length : Int) : Int) := of_decide_eq_true (by first | (with_reducible assumption) | assumption); first | exact h_ | (have e_ := (Kd.R_reads' HO_3.out).1; omega) | simpa using h_) (seg := [.int .i64 ((rd_T48 l0 x4_1).f1)]) (j := 1) hcl12 hcc12 (show 2 ≤ 3 from by decide) (x' := (⟨(rd_T48 x3_1 (ji4)).f0, (rd_T48 l0 x4_1).f1, (rd_T48 x3_1 (ji4)).f2⟩ : S48)) (k48_mkM _ _ _ (⟨(rd_T48 x3_1 (ji4)).f0, (rd_T48 l0 x4_1).f1, (rd_T48 x3_1 (ji4)).f2⟩ : S48) ) (fun _ hk => hk))); (try (have hx12_1 := hcc12 1 _ rfl)); (try (try simp only [show (k48).sz = 3 from rfl, Nat.mul_one, Nat.add_zero] at hx12_1)); (try (have hf12_1 := hfr12 1)); (try (try simp only [show (k48).sz = 3 from rfl, Nat.mul_one, Nat.add_zero] at hf12_1)); (try (clear hcl12 hcc12 hfr12 hM12)))); refine store_event (t := 3) (p := 53) (v := ?vo_w13) (w1 := (wr.setCell ⟨go10, ((ji4) : Int).toNat * 3 + 1, none⟩ (.int .i64 ((rd_T48 l0 x4_1).f1)))) ?hg ?ho ?hn ?hr ?_; (case ho => rfl); (case hg => rfl); (case hn => rfl); (case hr => first | (go_simp; done) | (go_simp; rfl)); intro w13 hw; have hg : wr.grownBy w13 (some go10) := (by rw [hw]; exact HP12.2); have hp_ : Kd.R k48 48 w13 w.heap.size (fun _ => True) (.slice (some ⟨go10, 0, none⟩) x3_1.length co11) y162 := (by rw [hw, Ny162.out]; exact HP12.1); clear HP12; have n0_ := aK (hp_); have n1_ := aK ((by rw [hw]; exact yS (HB.out) GB10.out : Below w.heap.size w w13)); clear HO_3; clear HB; have HO_3 := n0_; have HB := n1_; clear n0_ n1_; clear hg hw hp_)); try go_wp2_with (first | ((with_reducible refine gate_store (t := 3) (p := 53) rfl ?_); (try (rw [drewN_self wr]; generalize hq_ : World.drewN wr _ = wr; have n0_ := aK (Kd.R_at hq_ HO_3.out); have n1_ := aK (below_at hq_ HB.out); clear hq_ HO_3 HB; have HO_3 := n0_; have HB := n1_; clear n0_ n1_; (try (have HX12 := aK (show Kd.R k48 48 wr w.heap.size (fun _ => True) (.slice (some ⟨go10, 0, none⟩) x3_1.length co11) x3_1 from (by (with_reducible repeat (first | apply Kd.R_alloc | apply Kd.R_drewN | apply Kd.R_drew)); exact HO_3.out)))); (try (obtain ⟨ce12, hcl12, hM12, hcc12, hfr12⟩ := Kd.R_elem HX12.out z48 ((ji4) : Int) (of_decide_eq_true (by first | (with_reducible assumption) | assumption)) (by have h_ : ((ji4) : Int) < ((x3_1.length : Int) : Int) := of_decide_eq_true (by first | (with_reducible assumption) | assumption); first | exact h_ | (have e_ := (Kd.R_reads' HO_3.out).1; omega) | simpa using h_))); (try (obtain rfl := k48_openM hM12)); (try (have HP12 := Kd.R_seg HX12.out ((ji4) : Int) (of_decide_eq_true (by first | (with_reducible assumption) | assumption)) (by have h_ : ((ji4) : Int) < ((x3_1.length : Int) : Int) := of_decide_eq_true (by first | (with_reducible assumption) | assumption); first | exact h_ | (have e_ := (Kd.R_reads' HO_3.out).1; omega) | simpa using h_) (seg := [.int .i64 ((rd_T48 l0 x4_1).f1)]) (j := 1) hcl12 hcc12 (show 2 ≤ 3 from by decide) (x' := (⟨(rd_T48 x3_1 (ji4)).f0, (rd_T48 l0 x4_1).f1, (rd_T48 x3_1 (ji4)).f2⟩ : S48)) (k48_mkM _ _ _ (⟨(rd_T48 x3_1 (ji4)).f0, (rd_T48 l0 x4_1).f1, (rd_T48 x3_1 (ji4)).f2⟩ : S48) ) (fun _ hk => hk))); (try (have hx12_1 := hcc12 1 _ rfl)); (try (try simp only [show (k48).sz = 3 from rfl, Nat.mul_one, Nat.add_zero] at hx12_1)); (try (have hf12_1 := hfr12 1)); (try (try simp only [show (k48).sz = 3 from rfl, Nat.mul_one, Nat.add_zero] at hf12_1)); (try (clear hcl12 hcc12 hfr12 hM12)))); refine store_event (t := 3) (p := 53) (v := ?vo_w13) (w1 := (wr.setCell ⟨go10, ((ji4) : Int).toNat * 3 + 1, none⟩ (.int .i64 ((rd_T48 l0 x4_1).f1)))) ?hg ?ho ?hn ?hr ?_; (case ho => rfl); (case hg => rfl); (case hn => rfl); (case hr => first | (go_simp; done) | (go_simp; rfl)); intro w13 hw; have hg : wr.grownBy w13 (some go10) := (by rw [hw]; exact HP12.2); have hp_ : Kd.R k48 48 w13 w.heap.size (fun _ => True) (.slice (some ⟨go10, 0, none⟩) x3_1.length co11) y162 := (by rw [hw, Ny162.out]; exact HP12.1); clear HP12; have n0_ := aK (hp_); have n1_ := aK ((by rw [hw]; exact yS (HB.out) GB10.out : Below w.heap.size w w13)); clear HO_3; clear HB; have HO_3 := n0_; have HB := n1_; clear n0_ n1_; clear hg hw hp_)))
          go_roundg k1
          case measure => have := HK1.out; omega
          case rel => exact ⟨(y162), (wrap64 (x4_1 + 1)), (by first | rfl | (simp; done) | (simp [*]; done)), H', ⟨by have := HK1.out; omega⟩, ⟨by (with_reducible repeat (first | apply Kd.R_alloc | apply Kd.R_drewN | apply Kd.R_drew)); exact HO_3.out⟩, ⟨by repeat (first | (with_reducible first | exact HB.out | apply yA | apply yN | apply yD) | exact HB.out)⟩⟩
         ·rw [if_neg c9] at H
          have c9b0 : (((rd_T48 x3_1 (ji4)).f2) == ((rd_T48 l0 x4_1).f2)) = false := beq_eq_false_iff_ne.mpr c9
          have c9b1 : (((rd_T48 x3_1 (ji4)).f2) != ((rd_T48 l0 x4_1).f2)) = true := bne_iff_ne.mpr c9
          by_cases c14 : x3_1.length < 5864062014805
          ·rw [if_pos c14] at H
           have LMc14 := aK c14
           clear c14
           obtain ⟨y164, hy164⟩ : ∃ y_ : List (S48), y_ = (x3_1 ++ [(⟨(rd_T48 l0 x4_1).f0, (rd_T48 l0 x4_1).f1, (rd_T48 l0 x4_1).f2⟩ : S48)]) := ⟨_, rfl⟩
           replace H : (gangsawref14_joined.l0 k1 l0 y164 (wrap64 (x4_1 + 1))) = some r := by first | (rw [hy164]; with_reducible exact H) | (have H2_ := (Option.bind_some _ _).symm.trans H; rw [hy164]; with_reducible exact H2_) | (have H2_ := (Option.bind_some _ _).symm.trans H; with_reducible exact H2_) | with_reducible exact H | (rw [hy164]; exact H) | exact H
           have Ny164 := aK hy164
           clear hy164
           have H' := aK H
           clear H
           obtain ⟨Ao15, co15, eo15⟩ := Kd.R_slice HO_3.out
           subst eo15
           have p157 : 0 ≤ ((ji4) : Int) := of_decide_eq_true (by first | (with_reducible assumption) | assumption)
           have q157 : (ji4) < (x3_1.length : Int) := of_decide_eq_true (by first | (with_reducible assumption) | assumption)
           obtain ⟨ad157, e157, hx157_0, hx157_1, hx157_2⟩ := at_T48 (Kd.R_reads' HO_3.out).2.2 (ji4) p157 q157
           cases e157
           replace p157 := eq_true p157
           replace q157 := eq_true q157
           have p158 : 0 ≤ (x4_1 : Int) := of_decide_eq_true (by first | (with_reducible assumption) | assumption)
           have q158 : x4_1 < (l0.length : Int) := of_decide_eq_true (by first | (with_reducible assumption) | assumption)
           obtain ⟨ad158, e158, hx158_0, hx158_1, hx158_2⟩ := at_T48 HR0.out x4_1 p158 q158
           cases e158
           replace hx158_0 := (HB.out.cell (World.block_lt_of_cell? w _ hx158_0)).trans hx158_0
           replace hx158_1 := (HB.out.cell (World.block_lt_of_cell? w _ hx158_1)).trans hx158_1
           replace hx158_2 := (HB.out.cell (World.block_lt_of_cell? w _ hx158_2)).trans hx158_2
           replace p158 := eq_true p158
           replace q158 := eq_true q158
           have p159 : 0 ≤ ((ji4) : Int) := of_decide_eq_true (by first | (with_reducible assumption) | assumption)
           have q159 : (ji4) < (x3_1.length : Int) := of_decide_eq_true (by first | (with_reducible assumption) | assumption)
           obtain ⟨ad159, e159, hx159_0, hx159_1, hx159_2⟩ := at_T48 (Kd.R_reads' HO_3.out).2.2 (ji4) p159 q159
           obtain rfl : ad157 = ad159 := (by injection e159)
           replace p159 := eq_true p159
           replace q159 := eq_true q159
           have p160 : 0 ≤ (x4_1 : Int) := of_decide_eq_true (by first | (with_reducible assumption) | assumption)
           have q160 : x4_1 < (l0.length : Int) := of_decide_eq_true (by first | (with_reducible assumption) | assumption)
           obtain ⟨ad160, e160, hx160_0, hx160_1, hx160_2⟩ := at_T48 HR0.out x4_1 p160 q160
           obtain rfl : ad158 = ad160 := (by injection e160)
           replace hx160_0 := (HB.out.cell (World.block_lt_of_cell? w _ hx160_0)).trans hx160_0
           replace hx160_1 := (HB.out.cell (World.block_lt_of_cell? w _ hx160_1)).trans hx160_1
           replace hx160_2 := (HB.out.cell (World.block_lt_of_cell? w _ hx160_2)).trans hx160_2
           replace p160 := eq_true p160
           replace q160 := eq_true q160
           have p163 : 0 ≤ (x4_1 : Int) := of_decide_eq_true (by first | (with_reducible assumption) | assumption)
           have q163 : x4_1 < (l0.length : Int) := of_decide_eq_true (by first | (with_reducible assumption) | assumption)
           obtain ⟨ad163, e163, hx163_0, hx163_1, hx163_2⟩ := at_T48 HR0.out x4_1 p163 q163
           obtain rfl : ad158 = ad163 := (by injection e163)
           replace hx163_0 := (HB.out.cell (World.block_lt_of_cell? w _ hx163_0)).trans hx163_0
           replace hx163_1 := (HB.out.cell (World.block_lt_of_cell? w _ hx163_1)).trans hx163_1
           replace hx163_2 := (HB.out.cell (World.block_lt_of_cell? w _ hx163_2)).trans hx163_2
           replace p163 := eq_true p163
           replace q163 := eq_true q163
           go_wp2_with (first | ((with_reducible refine gate_builtin (b := .append) (xs := #[.tmp 54, .tmp 59]) rfl ?_); at_builtin; refine Kd.R_append k48 (w0 := w) w.heap.size rfl (.tmp 54) (.tmp 59) 31 48 (.agg #[(.int .i64 0), (.int .i64 0), (.int .i64 0)]) 24 rfl Tryz.underlying31 info48 rfl (by decide) (by omega) (.slice (some ad157) x3_1.length co15) x3_1 (⟨(rd_T48 l0 x4_1).f0, (rd_T48 l0 x4_1).f1, (rd_T48 l0 x4_1).f2⟩ : S48) [.int .i64 ((rd_T48 l0 x4_1).f0), .int .i64 ((rd_T48 l0 x4_1).f1), .int .i64 ((rd_T48 l0 x4_1).f2)] (fun _ => True) (fun _ => False) rfl rfl ?aP (fun _ hk => hk.elim) ?aF ?aO ?aB ?aS ?aL ?_; (case aP => exact k48_mkM _ _ _ (⟨(rd_T48 l0 x4_1).f0, (rd_T48 l0 x4_1).f1, (rd_T48 l0 x4_1).f2⟩ : S48)); (case aB => exact (by repeat (first | (with_reducible first | exact HB.out | apply yA | apply yN | apply yD) | exact HB.out))); (case aF => exact (fun _ _ => trivial)); (case aO => exact (by (with_reducible repeat (first | apply Kd.R_alloc | apply Kd.R_drewN | apply Kd.R_drew)); exact HO_3.out)); (case aS => exact (yZ (by repeat (first | (with_reducible first | exact HB.out | apply yA | apply yN | apply yD) | exact HB.out)))); (case aL => have := LMc14.out; omega); intro v165 w16 ho hb hg hat; rw [← Ny164.out] at ho; have n0_ := aK (hb); have n1_ := aK (ho); clear HB; clear HO_3; have HB := n0_; have HO166 := n1_; clear n0_ n1_; clear ho hb hg hat))
           repeat (go_quiet (first | ((with_reducible refine gate_builtin (b := .append) (xs := #[.tmp 54, .tmp 59]) rfl ?_); at_builtin; refine Kd.R_append k48 (w0 := w) w.heap.size rfl (.tmp 54) (.tmp 59) 31 48 (.agg #[(.int .i64 0), (.int .i64 0), (.int .i64 0)]) 24 rfl Tryz.underlying31 info48 rfl (by decide) (by omega) (.slice (some ad157) x3_1.length co15) x3_1 (⟨(rd_T48 l0 x4_1).f0, (rd_T48 l0 x4_1).f1, (rd_T48 l0 x4_1).f2⟩ : S48) [.int .i64 ((rd_T48 l0 x4_1).f0), .int .i64 ((rd_T48 l0 x4_1).f1), .int .i64 ((rd_T48 l0 x4_1).f2)] (fun _ => True) (fun _ => False) rfl rfl ?aP (fun _ hk => hk.elim) ?aF ?aO ?aB ?aS ?aL ?_; (case aP => exact k48_mkM _ _ _ (⟨(rd_T48 l0 x4_1).f0, (rd_T48 l0 x4_1).f1, (rd_T48 l0 x4_1).f2⟩ : S48)); (case aB => exact (by repeat (first | (with_reducible first | exact HB.out | apply yA | apply yN | apply yD) | exact HB.out))); (case aF => exact (fun _ _ => trivial)); (case aO => exact (by (with_reducible repeat (first | apply Kd.R_alloc | apply Kd.R_drewN | apply Kd.R_drew)); exact HO_3.out)); (case aS => exact (yZ (by repeat (first | (with_reducible first | exact HB.out | apply yA | apply yN | apply yD) | exact HB.out)))); (case aL => have := LMc14.out; omega); intro v165 w16 ho hb hg hat; rw [← Ny164.out] at ho; have n0_ := aK (hb); have n1_ := aK (ho); clear HB; clear HO_3; have HB := n0_; have HO166 := n1_; clear n0_ n1_; clear ho hb hg hat)); try go_wp2_with (first | ((with_reducible refine gate_builtin (b := .append) (xs := #[.tmp 54, .tmp 59]) rfl ?_); at_builtin; refine Kd.R_append k48 (w0 := w) w.heap.size rfl (.tmp 54) (.tmp 59) 31 48 (.agg #[(.int .i64 0), (.int .i64 0), (.int .i64 0)]) 24 rfl Tryz.underlying31 info48 rfl (by decide) (by omega) (.slice (some ad157) x3_1.length co15) x3_1 (⟨(rd_T48 l0 x4_1).f0, (rd_T48 l0 x4_1).f1, (rd_T48 l0 x4_1).f2⟩ : S48) [.int .i64 ((rd_T48 l0 x4_1).f0), .int .i64 ((rd_T48 l0 x4_1).f1), .int .i64 ((rd_T48 l0 x4_1).f2)] (fun _ => True) (fun _ => False) rfl rfl ?aP (fun _ hk => hk.elim) ?aF ?aO ?aB ?aS ?aL ?_; (case aP => exact k48_mkM _ _ _ (⟨(rd_T48 l0 x4_1).f0, (rd_T48 l0 x4_1).f1, (rd_T48 l0 x4_1).f2⟩ : S48)); (case aB => exact (by repeat (first | (with_reducible first | exact HB.out | apply yA | apply yN | apply yD) | exact HB.out))); (case aF => exact (fun _ _ => trivial)); (case aO => exact (by (with_reducible repeat (first | apply Kd.R_alloc | apply Kd.R_drewN | apply Kd.R_drew)); exact HO_3.out)); (case aS => exact (yZ (by repeat (first | (with_reducible first | exact HB.out | apply yA | apply yN | apply yD) | exact HB.out)))); (case aL => have := LMc14.out; omega); intro v165 w16 ho hb hg hat; rw [← Ny164.out] at ho; have n0_ := aK (hb); have n1_ := aK (ho); clear HB; clear HO_3; have HB := n0_; have HO166 := n1_; clear n0_ n1_; clear ho hb hg hat)))
           go_roundg k1
           case measure => have := HK1.out; omega
           case rel => exact ⟨(y164), (wrap64 (x4_1 + 1)), (by first | rfl | (simp; done) | (simp [*]; done)), H', ⟨by have := HK1.out; omega⟩, ⟨by (with_reducible repeat (first | apply Kd.R_alloc | apply Kd.R_drewN | apply Kd.R_drew)); exact HO166.out⟩, ⟨by repeat (first | (with_reducible first | exact HB.out | apply yA | apply yN | apply yD) | exact HB.out)⟩⟩
          ·rw [if_neg c14] at H
           exact absurd H (by simp)
        ·rw [if_neg c8] at H
         have c8b0 : (((rd_T48 x3_1 (ji4)).f1) == ((rd_T48 l0 x4_1).f0)) = false := beq_eq_false_iff_ne.mpr c8
         have c8b1 : (((rd_T48 x3_1 (ji4)).f1) != ((rd_T48 l0 x4_1).f0)) = true := bne_iff_ne.mpr c8
         by_cases c17 : x3_1.length < 5864062014805
         ·rw [if_pos c17] at H
          have LMc17 := aK c17
          clear c17
          obtain ⟨y168, hy168⟩ : ∃ y_ : List (S48), y_ = (x3_1 ++ [(⟨(rd_T48 l0 x4_1).f0, (rd_T48 l0 x4_1).f1, (rd_T48 l0 x4_1).f2⟩ : S48)]) := ⟨_, rfl⟩
          replace H : (gangsawref14_joined.l0 k1 l0 y168 (wrap64 (x4_1 + 1))) = some r := by first | (rw [hy168]; with_reducible exact H) | (have H2_ := (Option.bind_some _ _).symm.trans H; rw [hy168]; with_reducible exact H2_) | (have H2_ := (Option.bind_some _ _).symm.trans H; with_reducible exact H2_) | with_reducible exact H | (rw [hy168]; exact H) | exact H
          have Ny168 := aK hy168
          clear hy168
          have H' := aK H
          clear H
          obtain ⟨Ao18, co18, eo18⟩ := Kd.R_slice HO_3.out
          subst eo18
          have p157 : 0 ≤ ((ji4) : Int) := of_decide_eq_true (by first | (with_reducible assumption) | assumption)
          have q157 : (ji4) < (x3_1.length : Int) := of_decide_eq_true (by first | (with_reducible assumption) | assumption)
          obtain ⟨ad157, e157, hx157_0, hx157_1, hx157_2⟩ := at_T48 (Kd.R_reads' HO_3.out).2.2 (ji4) p157 q157
          cases e157
          replace p157 := eq_true p157
          replace q157 := eq_true q157
          have p158 : 0 ≤ (x4_1 : Int) := of_decide_eq_true (by first | (with_reducible assumption) | assumption)
          have q158 : x4_1 < (l0.length : Int) := of_decide_eq_true (by first | (with_reducible assumption) | assumption)
          obtain ⟨ad158, e158, hx158_0, hx158_1, hx158_2⟩ := at_T48 HR0.out x4_1 p158 q158
          cases e158
          replace hx158_0 := (HB.out.cell (World.block_lt_of_cell? w _ hx158_0)).trans hx158_0
          replace hx158_1 := (HB.out.cell (World.block_lt_of_cell? w _ hx158_1)).trans hx158_1
          replace hx158_2 := (HB.out.cell (World.block_lt_of_cell? w _ hx158_2)).trans hx158_2
          replace p158 := eq_true p158
          replace q158 := eq_true q158
          have p167 : 0 ≤ (x4_1 : Int) := of_decide_eq_true (by first | (with_reducible assumption) | assumption)
          have q167 : x4_1 < (l0.length : Int) := of_decide_eq_true (by first | (with_reducible assumption) | assumption)
          obtain ⟨ad167, e167, hx167_0, hx167_1, hx167_2⟩ := at_T48 HR0.out x4_1 p167 q167
          obtain rfl : ad158 = ad167 := (by injection e167)
          replace hx167_0 := (HB.out.cell (World.block_lt_of_cell? w _ hx167_0)).trans hx167_0
          replace hx167_1 := (HB.out.cell (World.block_lt_of_cell? w _ hx167_1)).trans hx167_1
          replace hx167_2 := (HB.out.cell (World.block_lt_of_cell? w _ hx167_2)).trans hx167_2
          replace p167 := eq_true p167
          replace q167 := eq_true q167
          go_wp2_with (first | ((with_reducible refine gate_builtin (b := .append) (xs := #[.tmp 54, .tmp 59]) rfl ?_); at_builtin; refine Kd.R_append k48 (w0 := w) w.heap.size rfl (.tmp 54) (.tmp 59) 31 48 (.agg #[(.int .i64 0), (.int .i64 0), (.int .i64 0)]) 24 rfl Tryz.underlying31 info48 rfl (by decide) (by omega) (.slice (some ad157) x3_1.length co18) x3_1 (⟨(rd_T48 l0 x4_1).f0, (rd_T48 l0 x4_1).f1, (rd_T48 l0 x4_1).f2⟩ : S48) [.int .i64 ((rd_T48 l0 x4_1).f0), .int .i64 ((rd_T48 l0 x4_1).f1), .int .i64 ((rd_T48 l0 x4_1).f2)] (fun _ => True) (fun _ => False) rfl rfl ?aP (fun _ hk => hk.elim) ?aF ?aO ?aB ?aS ?aL ?_; (case aP => exact k48_mkM _ _ _ (⟨(rd_T48 l0 x4_1).f0, (rd_T48 l0 x4_1).f1, (rd_T48 l0 x4_1).f2⟩ : S48)); (case aB => exact (by repeat (first | (with_reducible first | exact HB.out | apply yA | apply yN | apply yD) | exact HB.out))); (case aF => exact (fun _ _ => trivial)); (case aO => exact (by (with_reducible repeat (first | apply Kd.R_alloc | apply Kd.R_drewN | apply Kd.R_drew)); exact HO_3.out)); (case aS => exact (yZ (by repeat (first | (with_reducible first | exact HB.out | apply yA | apply yN | apply yD) | exact HB.out)))); (case aL => have := LMc17.out; omega); intro v169 w19 ho hb hg hat; rw [← Ny168.out] at ho; have n0_ := aK (hb); have n1_ := aK (ho); clear HB; clear HO_3; have HB := n0_; have HO170 := n1_; clear n0_ n1_; clear ho hb hg hat))
          repeat (go_quiet (first | ((with_reducible refine gate_builtin (b := .append) (xs := #[.tmp 54, .tmp 59]) rfl ?_); at_builtin; refine Kd.R_append k48 (w0 := w) w.heap.size rfl (.tmp 54) (.tmp 59) 31 48 (.agg #[(.int .i64 0), (.int .i64 0), (.int .i64 0)]) 24 rfl Tryz.underlying31 info48 rfl (by decide) (by omega) (.slice (some ad157) x3_1.length co18) x3_1 (⟨(rd_T48 l0 x4_1).f0, (rd_T48 l0 x4_1).f1, (rd_T48 l0 x4_1).f2⟩ : S48) [.int .i64 ((rd_T48 l0 x4_1).f0), .int .i64 ((rd_T48 l0 x4_1).f1), .int .i64 ((rd_T48 l0 x4_1).f2)] (fun _ => True) (fun _ => False) rfl rfl ?aP (fun _ hk => hk.elim) ?aF ?aO ?aB ?aS ?aL ?_; (case aP => exact k48_mkM _ _ _ (⟨(rd_T48 l0 x4_1).f0, (rd_T48 l0 x4_1).f1, (rd_T48 l0 x4_1).f2⟩ : S48)); (case aB => exact (by repeat (first | (with_reducible first | exact HB.out | apply yA | apply yN | apply yD) | exact HB.out))); (case aF => exact (fun _ _ => trivial)); (case aO => exact (by (with_reducible repeat (first | apply Kd.R_alloc | apply Kd.R_drewN | apply Kd.R_drew)); exact HO_3.out)); (case aS => exact (yZ (by repeat (first | (with_reducible first | exact HB.out | apply yA | apply yN | apply yD) | exact HB.out)))); (case aL => have := LMc17.out; omega); intro v169 w19 ho hb hg hat; rw [← Ny168.out] at ho; have n0_ := aK (hb); have n1_ := aK (ho); clear HB; clear HO_3; have HB := n0_; have HO170 := n1_; clear n0_ n1_; clear ho hb hg hat)); try go_wp2_with (first | ((with_reducible refine gate_builtin (b := .append) (xs := #[.tmp 54, .tmp 59]) rfl ?_); at_builtin; refine Kd.R_append k48 (w0 := w) w.heap.size rfl (.tmp 54) (.tmp 59) 31 48 (.agg #[(.int .i64 0), (.int .i64 0), (.int .i64 0)]) 24 rfl Tryz.underlying31 info48 rfl (by decide) (by omega) (.slice (some ad157) x3_1.length co18) x3_1 (⟨(rd_T48 l0 x4_1).f0, (rd_T48 l0 x4_1).f1, (rd_T48 l0 x4_1).f2⟩ : S48) [.int .i64 ((rd_T48 l0 x4_1).f0), .int .i64 ((rd_T48 l0 x4_1).f1), .int .i64 ((rd_T48 l0 x4_1).f2)] (fun _ => True) (fun _ => False) rfl rfl ?aP (fun _ hk => hk.elim) ?aF ?aO ?aB ?aS ?aL ?_; (case aP => exact k48_mkM _ _ _ (⟨(rd_T48 l0 x4_1).f0, (rd_T48 l0 x4_1).f1, (rd_T48 l0 x4_1).f2⟩ : S48)); (case aB => exact (by repeat (first | (with_reducible first | exact HB.out | apply yA | apply yN | apply yD) | exact HB.out))); (case aF => exact (fun _ _ => trivial)); (case aO => exact (by (with_reducible repeat (first | apply Kd.R_alloc | apply Kd.R_drewN | apply Kd.R_drew)); exact HO_3.out)); (case aS => exact (yZ (by repeat (first | (with_reducible first | exact HB.out | apply yA | apply yN | apply yD) | exact HB.out)))); (case aL => have := LMc17.out; omega); intro v169 w19 ho hb hg hat; rw [← Ny168.out] at ho; have n0_ := aK (hb); have n1_ := aK (ho); clear HB; clear HO_3; have HB := n0_; have HO170 := n1_; clear n0_ n1_; clear ho hb hg hat)))
          go_roundg k1
          case measure => have := HK1.out; omega
          case rel => exact ⟨(y168), (wrap64 (x4_1 + 1)), (by first | rfl | (simp; done) | (simp [*]; done)), H', ⟨by have := HK1.out; omega⟩, ⟨by (with_reducible repeat (first | apply Kd.R_alloc | apply Kd.R_drewN | apply Kd.R_drew)); exact HO170.out⟩, ⟨by repeat (first | (with_reducible first | exact HB.out | apply yA | apply yN | apply yD) | exact HB.out)⟩⟩
         ·rw [if_neg c17] at H
          exact absurd H (by simp)
       ·rw [if_neg c7] at H
        exact absurd H (by simp)
      ·rw [if_neg c6] at H
       exact absurd H (by simp)
     ·rw [if_neg c5] at H
      exact absurd H (by simp)
    ·rw [if_neg c3] at H
     have c3b0 : decide (0 < (x3_1.length : Int)) = false := decide_eq_false c3
     have c3b1 : decide (0 < x3_1.length) = false := decide_eq_false (by omega)
     clear c3
     by_cases c20 : 0 ≤ x4_1
     ·rw [if_pos c20] at H
      have c20b0 : decide (0 ≤ x4_1) = true := decide_eq_true c20
      clear c20
      by_cases c21 : x3_1.length < 5864062014805
      ·rw [if_pos c21] at H
       have LMc21 := aK c21
       clear c21
       obtain ⟨y172, hy172⟩ : ∃ y_ : List (S48), y_ = (x3_1 ++ [(⟨(rd_T48 l0 x4_1).f0, (rd_T48 l0 x4_1).f1, (rd_T48 l0 x4_1).f2⟩ : S48)]) := ⟨_, rfl⟩
       replace H : (gangsawref14_joined.l0 k1 l0 y172 (wrap64 (x4_1 + 1))) = some r := by first | (rw [hy172]; with_reducible exact H) | (have H2_ := (Option.bind_some _ _).symm.trans H; rw [hy172]; with_reducible exact H2_) | (have H2_ := (Option.bind_some _ _).symm.trans H; with_reducible exact H2_) | with_reducible exact H | (rw [hy172]; exact H) | exact H
       have Ny172 := aK hy172
       clear hy172
       have H' := aK H
       clear H
       obtain ⟨Ao22, co22, eo22⟩ := Kd.R_slice HO_3.out
       subst eo22
       have p171 : 0 ≤ (x4_1 : Int) := of_decide_eq_true (by first | (with_reducible assumption) | assumption)
       have q171 : x4_1 < (l0.length : Int) := of_decide_eq_true (by first | (with_reducible assumption) | assumption)
       obtain ⟨ad171, e171, hx171_0, hx171_1, hx171_2⟩ := at_T48 HR0.out x4_1 p171 q171
       cases e171
       replace hx171_0 := (HB.out.cell (World.block_lt_of_cell? w _ hx171_0)).trans hx171_0
       replace hx171_1 := (HB.out.cell (World.block_lt_of_cell? w _ hx171_1)).trans hx171_1
       replace hx171_2 := (HB.out.cell (World.block_lt_of_cell? w _ hx171_2)).trans hx171_2
       replace p171 := eq_true p171
       replace q171 := eq_true q171
       go_wp2_with (first | ((with_reducible refine gate_builtin (b := .append) (xs := #[.tmp 54, .tmp 59]) rfl ?_); at_builtin; refine Kd.R_append k48 (w0 := w) w.heap.size rfl (.tmp 54) (.tmp 59) 31 48 (.agg #[(.int .i64 0), (.int .i64 0), (.int .i64 0)]) 24 rfl Tryz.underlying31 info48 rfl (by decide) (by omega) (.slice Ao22 x3_1.length co22) x3_1 (⟨(rd_T48 l0 x4_1).f0, (rd_T48 l0 x4_1).f1, (rd_T48 l0 x4_1).f2⟩ : S48) [.int .i64 ((rd_T48 l0 x4_1).f0), .int .i64 ((rd_T48 l0 x4_1).f1), .int .i64 ((rd_T48 l0 x4_1).f2)] (fun _ => True) (fun _ => False) rfl rfl ?aP (fun _ hk => hk.elim) ?aF ?aO ?aB ?aS ?aL ?_; (case aP => exact k48_mkM _ _ _ (⟨(rd_T48 l0 x4_1).f0, (rd_T48 l0 x4_1).f1, (rd_T48 l0 x4_1).f2⟩ : S48)); (case aB => exact (by repeat (first | (with_reducible first | exact HB.out | apply yA | apply yN | apply yD) | exact HB.out))); (case aF => exact (fun _ _ => trivial)); (case aO => exact (by (with_reducible repeat (first | apply Kd.R_alloc | apply Kd.R_drewN | apply Kd.R_drew)); exact HO_3.out)); (case aS => exact (yZ (by repeat (first | (with_reducible first | exact HB.out | apply yA | apply yN | apply yD) | exact HB.out)))); (case aL => have := LMc21.out; omega); intro v173 w23 ho hb hg hat; rw [← Ny172.out] at ho; have n0_ := aK (hb); have n1_ := aK (ho); clear HB; clear HO_3; have HB := n0_; have HO174 := n1_; clear n0_ n1_; clear ho hb hg hat))
       repeat (go_quiet (first | ((with_reducible refine gate_builtin (b := .append) (xs := #[.tmp 54, .tmp 59]) rfl ?_); at_builtin; refine Kd.R_append k48 (w0 := w) w.heap.size rfl (.tmp 54) (.tmp 59) 31 48 (.agg #[(.int .i64 0), (.int .i64 0), (.int .i64 0)]) 24 rfl Tryz.underlying31 info48 rfl (by decide) (by omega) (.slice Ao22 x3_1.length co22) x3_1 (⟨(rd_T48 l0 x4_1).f0, (rd_T48 l0 x4_1).f1, (rd_T48 l0 x4_1).f2⟩ : S48) [.int .i64 ((rd_T48 l0 x4_1).f0), .int .i64 ((rd_T48 l0 x4_1).f1), .int .i64 ((rd_T48 l0 x4_1).f2)] (fun _ => True) (fun _ => False) rfl rfl ?aP (fun _ hk => hk.elim) ?aF ?aO ?aB ?aS ?aL ?_; (case aP => exact k48_mkM _ _ _ (⟨(rd_T48 l0 x4_1).f0, (rd_T48 l0 x4_1).f1, (rd_T48 l0 x4_1).f2⟩ : S48)); (case aB => exact (by repeat (first | (with_reducible first | exact HB.out | apply yA | apply yN | apply yD) | exact HB.out))); (case aF => exact (fun _ _ => trivial)); (case aO => exact (by (with_reducible repeat (first | apply Kd.R_alloc | apply Kd.R_drewN | apply Kd.R_drew)); exact HO_3.out)); (case aS => exact (yZ (by repeat (first | (with_reducible first | exact HB.out | apply yA | apply yN | apply yD) | exact HB.out)))); (case aL => have := LMc21.out; omega); intro v173 w23 ho hb hg hat; rw [← Ny172.out] at ho; have n0_ := aK (hb); have n1_ := aK (ho); clear HB; clear HO_3; have HB := n0_; have HO174 := n1_; clear n0_ n1_; clear ho hb hg hat)); try go_wp2_with (first | ((with_reducible refine gate_builtin (b := .append) (xs := #[.tmp 54, .tmp 59]) rfl ?_); at_builtin; refine Kd.R_append k48 (w0 := w) w.heap.size rfl (.tmp 54) (.tmp 59) 31 48 (.agg #[(.int .i64 0), (.int .i64 0), (.int .i64 0)]) 24 rfl Tryz.underlying31 info48 rfl (by decide) (by omega) (.slice Ao22 x3_1.length co22) x3_1 (⟨(rd_T48 l0 x4_1).f0, (rd_T48 l0 x4_1).f1, (rd_T48 l0 x4_1).f2⟩ : S48) [.int .i64 ((rd_T48 l0 x4_1).f0), .int .i64 ((rd_T48 l0 x4_1).f1), .int .i64 ((rd_T48 l0 x4_1).f2)] (fun _ => True) (fun _ => False) rfl rfl ?aP (fun _ hk => hk.elim) ?aF ?aO ?aB ?aS ?aL ?_; (case aP => exact k48_mkM _ _ _ (⟨(rd_T48 l0 x4_1).f0, (rd_T48 l0 x4_1).f1, (rd_T48 l0 x4_1).f2⟩ : S48)); (case aB => exact (by repeat (first | (with_reducible first | exact HB.out | apply yA | apply yN | apply yD) | exact HB.out))); (case aF => exact (fun _ _ => trivial)); (case aO => exact (by (with_reducible repeat (first | apply Kd.R_alloc | apply Kd.R_drewN | apply Kd.R_drew)); exact HO_3.out)); (case aS => exact (yZ (by repeat (first | (with_reducible first | exact HB.out | apply yA | apply yN | apply yD) | exact HB.out)))); (case aL => have := LMc21.out; omega); intro v173 w23 ho hb hg hat; rw [← Ny172.out] at ho; have n0_ := aK (hb); have n1_ := aK (ho); clear HB; clear HO_3; have HB := n0_; have HO174 := n1_; clear n0_ n1_; clear ho hb hg hat)))
       go_roundg k1
       case measure => have := HK1.out; omega
       case rel => exact ⟨(y172), (wrap64 (x4_1 + 1)), (by first | rfl | (simp; done) | (simp [*]; done)), H', ⟨by have := HK1.out; omega⟩, ⟨by (with_reducible repeat (first | apply Kd.R_alloc | apply Kd.R_drewN | apply Kd.R_drew)); exact HO174.out⟩, ⟨by repeat (first | (with_reducible first | exact HB.out | apply yA | apply yN | apply yD) | exact HB.out)⟩⟩
      ·rw [if_neg c21] at H
       exact absurd H (by simp)
     ·rw [if_neg c20] at H
      exact absurd H (by simp)
   ·rw [if_neg c2] at H
    have c2b0 : decide (x4_1 < (l0.length : Int)) = false := decide_eq_false c2
    clear c2
    obtain rfl := Option.some.inj H
    simp only [Option.some.injEq, Prod.mk.injEq] at H
    obtain ⟨rfl⟩ := H
    go_wp2
    go_ret
    exact ⟨_, by first | rfl | (simp [errW_none, errW_some] <;> rfl) | (simp [*, errW_none, errW_some] <;> rfl), by (with_reducible repeat (first | apply Kd.R_alloc | apply Kd.R_drewN | apply Kd.R_drew)); exact HO_3.out, by repeat (first | (with_reducible first | exact HB.out | apply yA | apply yN | apply yD) | exact HB.out)⟩

def gangsawref14_Normal.f (k : Nat) (a0_0 : ByteArray) (a0_1 : Int) (a0_2 : Int) (l0_3 : List (S48)) : Option (ByteArray × Int × Int × (List (S48)) × Int) := (gangsawref14_Formed.f k a0_0 a0_1 a0_2 l0_3).bind fun t177 => (if t177 = 0 then ((gangsawref14_joined.f k l0_3).bind fun t178 => (some (a0_0, a0_1, a0_2, t178, 0))) else (some ((⟨#[]⟩ : ByteArray), 0, 0, ([] : List (S48)), t177)))
theorem gangsawref14_Normal.mono : ∀ a0 a1 a2 a3 k, LeO (gangsawref14_Normal.f k a0 a1 a2 a3) (gangsawref14_Normal.f (k + 1) a0 a1 a2 a3) := by
 intro a0 a1 a2 a3 k
 unfold gangsawref14_Normal.f
 repeat' first
   | (with_reducible exact gangsawref14_Formed.mono _ _ _ _ _)
   | (with_reducible exact gangsawref14_joined.mono _ _)
   | (with_reducible refine contains3.mono2 (fun x_ => ?_))
   | (with_reducible refine contains33.mono2 (fun x_ => ?_))
   | (with_reducible refine contains48.mono2 (fun x_ => ?_))
   | (with_reducible refine contains9.mono2 (fun x_ => ?_))
   | (with_reducible refine index3.mono2 (fun x_ => ?_))
   | (with_reducible refine index33.mono2 (fun x_ => ?_))
   | (with_reducible refine index48.mono2 (fun x_ => ?_))
   | (with_reducible refine index9.mono2 (fun x_ => ?_))
   | (with_reducible exact LeO.refl _)
   | (with_reducible exact LeO.none _)
   | (with_reducible refine LeO.ite ?_ ?_)
   | (with_reducible refine LeO.bind ?_ (fun _ => ?_))
   | exact gangsawref14_Formed.mono _ _ _ _ _
   | exact gangsawref14_joined.mono _ _
   | exact LeO.none _
   | refine LeO.ite ?_ ?_
   | refine LeO.bind ?_ (fun _ => ?_)
set_option maxHeartbeats 8000000 in
set_option maxRecDepth 100000 in
theorem gangsawref14_Normal.calls (k : Nat) (a0_0 : ByteArray) (a0_1 : Int) (a0_2 : Int) (A0_3 : Option Addr) (c0_3 : Nat) (l0_3 : List (S48)) (r1 : ByteArray) (r2 : Int) (r3 : Int) (r4 : List (S48)) (r5 : Int) (w : World) (hr0_3 : Kd.C k48 w A0_3 l0_3.length l0_3) (hc0_3 : l0_3.length ≤ c0_3) (h : gangsawref14_Normal.f k a0_0 a0_1 a0_2 l0_3 = some (r1, r2, r3, r4, r5)) :
  Calls Tryz.prog 18 #[.agg #[.string a0_0, .int .i64 a0_1, .int .i64 a0_2, .slice A0_3 l0_3.length c0_3]] w fun e w' => ∃ v3_ : Value, e = .returned (.tuple #[.agg #[.string r1, .int .i64 r2, .int .i64 r3, v3_], .int .i64 r5]) ∧ Kd.R k48 48 w' w.heap.size (fun _ => True) v3_ r4 ∧ Below w.heap.size w w' := by
 have hu33 := Tryz.underlying33
 have HR0_3 := aK hr0_3
 have HC0_3 := aK hc0_3
 clear hr0_3 hc0_3
 have HB := aK (Below.refl w.heap.size w)
 have H : ((gangsawref14_Formed.f k a0_0 a0_1 a0_2 l0_3).bind fun t177 => (if t177 = 0 then ((gangsawref14_joined.f k l0_3).bind fun t178 => (some (a0_0, a0_1, a0_2, t178, 0))) else (some ((⟨#[]⟩ : ByteArray), 0, 0, ([] : List (S48)), t177)))) = some (r1, r2, r3, r4, r5) := h
 clear h
 replace H := Option.bind_eq_some_iff.mp H
 obtain ⟨t177, A20, H⟩ := H
 replace H : (if t177 = 0 then ((gangsawref14_joined.f k l0_3).bind fun t178 => (some (a0_0, a0_1, a0_2, t178, 0))) else (some ((⟨#[]⟩ : ByteArray), 0, 0, ([] : List (S48)), t177))) = some (r1, r2, r3, r4, r5) := H
 have A2 := aK A20
 clear A20
 by_cases c3 : t177 = 0
 ·rw [if_pos c3] at H
  have c3b0 : (t177 == 0) = true := beq_iff_eq.mpr c3
  have c3b1 : (t177 != 0) = false := bne_eq_false_iff_eq.mpr c3
  clear c3
  replace H := Option.bind_eq_some_iff.mp H
  obtain ⟨t178, A40, H⟩ := H
  replace H : (some (a0_0, a0_1, a0_2, t178, 0)) = some (r1, r2, r3, r4, r5) := H
  have A4 := aK A40
  clear A40
  simp only [Option.some.injEq, Prod.mk.injEq] at H
  obtain ⟨rfl, rfl, rfl, rfl, rfl⟩ := H
  go_enter Tryz.func18, Tryz.ntmps18
  go_wp2_with (first | ((with_reducible refine gate_dst (N := 1) rfl ?_); refine box_event ?hg (N := 1) ?hd (cs := #[.string a0_0, .int .i64 a0_1, .int .i64 a0_2, .slice A0_3 l0_3.length c0_3]) (t := 33) ?hr ?_; (case hd => rfl); (case hg => rfl); (case hr => first | (go_simp; done) | (go_simp; rfl)); intro gb175 hg w5 hbox hb; have ⟨n0_, n2_⟩ := zV (w := w) hb hg (by repeat (first | (with_reducible first | exact HB.out | apply yA | apply yN | apply yD) | exact HB.out)); have n1_ := aK (hbox); have n3_ := n2_; clear HB; have HB := n0_; have BK175 := n1_; have GW175 := n2_; have GE175 := n3_; clear n0_ n1_ n2_ n3_; clear hb hbox hg) | ((with_reducible refine gate_dst (N := 2) rfl ?_); refine box_event ?hg (N := 2) ?hd (cs := #[.string (⟨#[]⟩ : ByteArray), .int .i64 0, .int .i64 0, .slice none 0 0]) (t := 33) ?hr ?_; (case hd => rfl); (case hg => rfl); (case hr => first | (go_simp; done) | (go_simp; rfl)); intro gb176 hg w6 hbox hb; have n0_ := zG BK175 hb (fun h => by (with_reducible repeat (first | refine zN ?_ _ | refine zD ?_ | refine zA ?_ _)); exact h); have ⟨n1_, n3_⟩ := zV (w := w) hb hg (by repeat (first | (with_reducible first | exact HB.out | apply yA | apply yN | apply yD | refine yS ?_ GE175.out) | exact HB.out)); have n2_ := aK (hbox); have n4_ := n3_; have n5_ := aK ((by rw [hg]; exact Nat.ne_of_lt (blk_lt (g := gb175) (o := .cells #[.string a0_0, .int .i64 a0_1, .int .i64 a0_2, .slice A0_3 l0_3.length c0_3] 33 (0, 0)) (by (with_reducible repeat (first | refine zN ?_ _ | refine zD ?_ | refine zA ?_ _)); exact BK175.out)) : gb175 ≠ gb176)); have n6_ := aK ((by rw [hg]; exact Nat.ne_of_gt (blk_lt (g := gb175) (o := .cells #[.string a0_0, .int .i64 a0_1, .int .i64 a0_2, .slice A0_3 l0_3.length c0_3] 33 (0, 0)) (by (with_reducible repeat (first | refine zN ?_ _ | refine zD ?_ | refine zA ?_ _)); exact BK175.out)) : gb176 ≠ gb175)); clear BK175; clear HB; have BK175 := n0_; have HB := n1_; have BK176 := n2_; have GW176 := n3_; have GE176 := n4_; have NB175_176 := n5_; have NB176_175 := n6_; clear n0_ n1_ n2_ n3_ n4_ n5_ n6_; clear hb hbox hg; have hnb7 := NB175_176.out; have hnc7 := NB176_175.out; have hcz8_0 := zI BK175 0 rfl; have hcz8_1 := zI BK175 1 rfl; have hcz8_2 := zI BK175 2 rfl; have hcz8_3 := zI BK175 3 rfl; have hfz8_0 := zF BK175.out 0; have hfz8_1 := zF BK175.out 1; have hfz8_2 := zF BK175.out 2; have hfz8_3 := zF BK175.out 3) | ((with_reducible refine gate_callee (f := 48) rfl ?_); refine goesL_ (some 6) rfl rfl Tryz.func48 (by kernel_rfl) rfl #[.agg #[.string a0_0, .int .i64 a0_1, .int .i64 a0_2, .slice A0_3 l0_3.length c0_3]] rfl (by (try simp only [List.map_toArray, List.map_cons, List.map_nil]); first | done | rfl | (simp only [List.length_drop, List.length_take]; rfl)) ?_; (with_reducible refine (gangsawref14_Formed.calls k a0_0 a0_1 a0_2 _ _ l0_3 t177 _ ?side1 ?side2 A2.out).mono ?_); (case side1 => repeat (first | exact (Kd.C_below HR0_3.out HB.out) | (with_reducible refine Kd.C_alloc ?_ _) | (with_reducible refine Kd.C_drewN ?_ _) | (with_reducible refine Kd.C_drew ?_))); (case side2 => exact HC0_3.out); rintro e w9 ⟨rfl, hb⟩; refine ⟨_, rfl, ?_⟩; have n0_ := zG BK175 hb (fun h => by (with_reducible repeat (first | refine zN ?_ _ | refine zD ?_ | refine zA ?_ _)); exact h); have n1_ := aK (zB (g := gb176) (o := .cells #[.string (⟨#[]⟩ : ByteArray), .int .i64 0, .int .i64 0, .slice none 0 0] 33 (0, 0)) (by (with_reducible repeat (first | refine zN ?_ _ | refine zD ?_ | refine zA ?_ _)); exact BK176.out) hb); have n2_ := aK (yT (by repeat (first | (with_reducible first | exact HB.out | apply yA | apply yN | apply yD | refine yS ?_ GE175.out | refine yS ?_ GE176.out) | exact HB.out)) hb); clear BK175; clear BK176; clear HB; have BK175 := n0_; have BK176 := n1_; have HB := n2_; clear n0_ n1_ n2_; (try clear hb); (try clear hb2); (try clear hk); (try clear hi); have hcz10_0 := zI BK175 0 rfl; have hcz10_1 := zI BK175 1 rfl; have hcz10_2 := zI BK175 2 rfl; have hcz10_3 := zI BK175 3 rfl; have hfz10_0 := zF BK175.out 0; have hfz10_1 := zF BK175.out 1; have hfz10_2 := zF BK175.out 2; have hfz10_3 := zF BK175.out 3) | ((with_reducible refine gate_callee (f := 49) rfl ?_); refine goesL_ (some 13) rfl rfl Tryz.func49 (by kernel_rfl) rfl #[.slice A0_3 l0_3.length c0_3] rfl (by (try simp only [List.map_toArray, List.map_cons, List.map_nil]); first | done | rfl | (simp only [List.length_drop, List.length_take]; rfl)) ?_; (with_reducible refine (gangsawref14_joined.calls k _ _ l0_3 t178 _ ?side1 ?side2 A4.out).mono ?_); (case side1 => repeat (first | exact (Kd.C_below HR0_3.out HB.out) | (with_reducible refine Kd.C_alloc ?_ _) | (with_reducible refine Kd.C_drewN ?_ _) | (with_reducible refine Kd.C_drew ?_))); (case side2 => exact HC0_3.out); rintro e w11 ⟨v179, rfl, ho0, hb⟩; refine ⟨_, rfl, ?_⟩; have n0_ := aK (Kd.R_lower ho0 (yZ (by repeat (first | (with_reducible first | exact HB.out | apply yA | apply yN | apply yD | refine yS ?_ GE175.out | refine yS ?_ GE176.out) | exact HB.out)))); have n1_ := zG BK175 hb (fun h => by (with_reducible repeat (first | refine zN ?_ _ | refine zD ?_ | refine zA ?_ _)); exact h); have n2_ := aK (zB (g := gb176) (o := .cells #[.string (⟨#[]⟩ : ByteArray), .int .i64 0, .int .i64 0, .slice none 0 0] 33 (0, 0)) (by (with_reducible repeat (first | refine zN ?_ _ | refine zD ?_ | refine zA ?_ _)); exact BK176.out) hb); have n3_ := aK (yT (by repeat (first | (with_reducible first | exact HB.out | apply yA | apply yN | apply yD | refine yS ?_ GE175.out | refine yS ?_ GE176.out) | exact HB.out)) hb); clear BK175; clear BK176; clear HB; have HO180 := n0_; have BK175 := n1_; have BK176 := n2_; have HB := n3_; clear n0_ n1_ n2_ n3_; (try clear hb); (try clear hb2); (try clear hk); (try clear hi); (try clear ho0); obtain ⟨Ao12, co12, eo12⟩ := Kd.R_slice HO180.out; subst eo12; have hcz13_0 := zI BK175 0 rfl; have hcz13_1 := zI BK175 1 rfl; have hcz13_2 := zI BK175 2 rfl; have hcz13_3 := zI BK175 3 rfl; have hfz13_0 := zF BK175.out 0; have hfz13_1 := zF BK175.out 1; have hfz13_2 := zF BK175.out 2; have hfz13_3 := zF BK175.out 3; have hcz14_0 := zI BK176 0 rfl; have hcz14_1 := zI BK176 1 rfl; have hcz14_2 := zI BK176 2 rfl; have hcz14_3 := zI BK176 3 rfl; have hfz14_0 := zF BK176.out 0; have hfz14_1 := zF BK176.out 1; have hfz14_2 := zF BK176.out 2; have hfz14_3 := zF BK176.out 3))
  refine bodyPost_ret (results_ct rfl _ _ gb176 33 #[.string a0_0, .int .i64 a0_1, .int .i64 a0_2, .slice Ao12 t178.length co12] (0, 0) _ rfl (by (with_reducible repeat (first | refine zN ?_ _ | refine zD ?_ | refine zA ?_ _)); refine blk_put (cs := #[.string a0_0, .int .i64 a0_1, .int .i64 a0_2, .slice none 0 0]) ?_ 3 _ rfl; (with_reducible repeat (first | refine zN ?_ _ | refine zD ?_ | refine zA ?_ _)); refine blk_put (cs := #[.string a0_0, .int .i64 a0_1, .int .i64 0, .slice none 0 0]) ?_ 2 _ rfl; (with_reducible repeat (first | refine zN ?_ _ | refine zD ?_ | refine zA ?_ _)); refine blk_put (cs := #[.string a0_0, .int .i64 0, .int .i64 0, .slice none 0 0]) ?_ 1 _ rfl; (with_reducible repeat (first | refine zN ?_ _ | refine zD ?_ | refine zA ?_ _)); refine blk_put (cs := #[.string (⟨#[]⟩ : ByteArray), .int .i64 0, .int .i64 0, .slice none 0 0]) ?_ 0 _ rfl; (with_reducible repeat (first | refine zN ?_ _ | refine zD ?_ | refine zA ?_ _)); refine blk_far ?_ NB176_175.out _; (with_reducible repeat (first | refine zN ?_ _ | refine zD ?_ | refine zA ?_ _)); exact BK176.out) Tryz.underlying33 rfl (by kernel_rfl)) rfl ?_
  exact ⟨_, by first | rfl | (simp [errW_none, errW_some] <;> rfl) | (simp [*, errW_none, errW_some] <;> rfl), by (with_reducible repeat (first | apply Kd.R_alloc | apply Kd.R_drewN | apply Kd.R_drew)); exact Kd.R_mono (Kd.R_far (p := ⟨gb176, 3, none⟩) (Kd.R_far (p := ⟨gb176, 2, none⟩) (Kd.R_far (p := ⟨gb176, 1, none⟩) (Kd.R_far (p := ⟨gb176, 0, none⟩) (Kd.R_far (p := ⟨gb175, 3, none⟩) (Kd.R_types (Kd.R_types HO180.out BK175.out (by decide)) BK176.out (by decide)) (fun _ hk => hk.1.2) (.slice Ao12 t178.length co12)) (fun _ hk => hk.2) (.string a0_0)) (fun _ hk => hk.2) (.int .i64 a0_1)) (fun _ hk => hk.2) (.int .i64 a0_2)) (fun _ hk => hk.2) (.slice Ao12 t178.length co12)) (fun _ hk => trivial), by repeat (first | (with_reducible first | exact HB.out | apply yA | apply yN | apply yD | refine yS ?_ GE175.out | refine yS ?_ GE176.out) | exact HB.out)⟩
 ·rw [if_neg c3] at H
  have c3b0 : (t177 == 0) = false := beq_eq_false_iff_ne.mpr c3
  have c3b1 : (t177 != 0) = true := bne_iff_ne.mpr c3
  simp only [Option.some.injEq, Prod.mk.injEq] at H
  obtain ⟨rfl, rfl, rfl, rfl, rfl⟩ := H
  go_enter Tryz.func18, Tryz.ntmps18
  go_wp2_with (first | ((with_reducible refine gate_dst (N := 1) rfl ?_); refine box_event ?hg (N := 1) ?hd (cs := #[.string a0_0, .int .i64 a0_1, .int .i64 a0_2, .slice A0_3 l0_3.length c0_3]) (t := 33) ?hr ?_; (case hd => rfl); (case hg => rfl); (case hr => first | (go_simp; done) | (go_simp; rfl)); intro gb175 hg w15 hbox hb; have ⟨n0_, n2_⟩ := zV (w := w) hb hg (by repeat (first | (with_reducible first | exact HB.out | apply yA | apply yN | apply yD) | exact HB.out)); have n1_ := aK (hbox); have n3_ := n2_; clear HB; have HB := n0_; have BK175 := n1_; have GW175 := n2_; have GE175 := n3_; clear n0_ n1_ n2_ n3_; clear hb hbox hg) | ((with_reducible refine gate_dst (N := 2) rfl ?_); refine box_event ?hg (N := 2) ?hd (cs := #[.string (⟨#[]⟩ : ByteArray), .int .i64 0, .int .i64 0, .slice none 0 0]) (t := 33) ?hr ?_; (case hd => rfl); (case hg => rfl); (case hr => first | (go_simp; done) | (go_simp; rfl)); intro gb176 hg w16 hbox hb; have n0_ := zG BK175 hb (fun h => by (with_reducible repeat (first | refine zN ?_ _ | refine zD ?_ | refine zA ?_ _)); exact h); have ⟨n1_, n3_⟩ := zV (w := w) hb hg (by repeat (first | (with_reducible first | exact HB.out | apply yA | apply yN | apply yD | refine yS ?_ GE175.out) | exact HB.out)); have n2_ := aK (hbox); have n4_ := n3_; have n5_ := aK ((by rw [hg]; exact Nat.ne_of_lt (blk_lt (g := gb175) (o := .cells #[.string a0_0, .int .i64 a0_1, .int .i64 a0_2, .slice A0_3 l0_3.length c0_3] 33 (0, 0)) (by (with_reducible repeat (first | refine zN ?_ _ | refine zD ?_ | refine zA ?_ _)); exact BK175.out)) : gb175 ≠ gb176)); have n6_ := aK ((by rw [hg]; exact Nat.ne_of_gt (blk_lt (g := gb175) (o := .cells #[.string a0_0, .int .i64 a0_1, .int .i64 a0_2, .slice A0_3 l0_3.length c0_3] 33 (0, 0)) (by (with_reducible repeat (first | refine zN ?_ _ | refine zD ?_ | refine zA ?_ _)); exact BK175.out)) : gb176 ≠ gb175)); clear BK175; clear HB; have BK175 := n0_; have HB := n1_; have BK176 := n2_; have GW176 := n3_; have GE176 := n4_; have NB175_176 := n5_; have NB176_175 := n6_; clear n0_ n1_ n2_ n3_ n4_ n5_ n6_; clear hb hbox hg; have hnb17 := NB175_176.out; have hnc17 := NB176_175.out; have hcz18_0 := zI BK175 0 rfl; have hcz18_1 := zI BK175 1 rfl; have hcz18_2 := zI BK175 2 rfl; have hcz18_3 := zI BK175 3 rfl; have hfz18_0 := zF BK175.out 0; have hfz18_1 := zF BK175.out 1; have hfz18_2 := zF BK175.out 2; have hfz18_3 := zF BK175.out 3) | ((with_reducible refine gate_callee (f := 48) rfl ?_); refine goesL_ (some 6) rfl rfl Tryz.func48 (by kernel_rfl) rfl #[.agg #[.string a0_0, .int .i64 a0_1, .int .i64 a0_2, .slice A0_3 l0_3.length c0_3]] rfl (by (try simp only [List.map_toArray, List.map_cons, List.map_nil]); first | done | rfl | (simp only [List.length_drop, List.length_take]; rfl)) ?_; (with_reducible refine (gangsawref14_Formed.calls k a0_0 a0_1 a0_2 _ _ l0_3 t177 _ ?side1 ?side2 A2.out).mono ?_); (case side1 => repeat (first | exact (Kd.C_below HR0_3.out HB.out) | (with_reducible refine Kd.C_alloc ?_ _) | (with_reducible refine Kd.C_drewN ?_ _) | (with_reducible refine Kd.C_drew ?_))); (case side2 => exact HC0_3.out); rintro e w19 ⟨rfl, hb⟩; refine ⟨_, rfl, ?_⟩; have n0_ := zG BK175 hb (fun h => by (with_reducible repeat (first | refine zN ?_ _ | refine zD ?_ | refine zA ?_ _)); exact h); have n1_ := aK (zB (g := gb176) (o := .cells #[.string (⟨#[]⟩ : ByteArray), .int .i64 0, .int .i64 0, .slice none 0 0] 33 (0, 0)) (by (with_reducible repeat (first | refine zN ?_ _ | refine zD ?_ | refine zA ?_ _)); exact BK176.out) hb); have n2_ := aK (yT (by repeat (first | (with_reducible first | exact HB.out | apply yA | apply yN | apply yD | refine yS ?_ GE175.out | refine yS ?_ GE176.out) | exact HB.out)) hb); clear BK175; clear BK176; clear HB; have BK175 := n0_; have BK176 := n1_; have HB := n2_; clear n0_ n1_ n2_; (try clear hb); (try clear hb2); (try clear hk); (try clear hi); have hcz20_0 := zI BK176 0 rfl; have hcz20_1 := zI BK176 1 rfl; have hcz20_2 := zI BK176 2 rfl; have hcz20_3 := zI BK176 3 rfl; have hfz20_0 := zF BK176.out 0; have hfz20_1 := zF BK176.out 1; have hfz20_2 := zF BK176.out 2; have hfz20_3 := zF BK176.out 3))
  refine bodyPost_ret (results_ct rfl _ _ gb176 33 #[.string (⟨#[]⟩ : ByteArray), .int .i64 0, .int .i64 0, .slice none 0 0] (0, 0) _ rfl (by (with_reducible repeat (first | refine zN ?_ _ | refine zD ?_ | refine zA ?_ _)); refine blk_put (cs := #[.string (⟨#[]⟩ : ByteArray), .int .i64 0, .int .i64 0, .slice none 0 0]) ?_ 3 _ rfl; (with_reducible repeat (first | refine zN ?_ _ | refine zD ?_ | refine zA ?_ _)); refine blk_put (cs := #[.string (⟨#[]⟩ : ByteArray), .int .i64 0, .int .i64 0, .slice none 0 0]) ?_ 2 _ rfl; (with_reducible repeat (first | refine zN ?_ _ | refine zD ?_ | refine zA ?_ _)); refine blk_put (cs := #[.string (⟨#[]⟩ : ByteArray), .int .i64 0, .int .i64 0, .slice none 0 0]) ?_ 1 _ rfl; (with_reducible repeat (first | refine zN ?_ _ | refine zD ?_ | refine zA ?_ _)); refine blk_put (cs := #[.string (⟨#[]⟩ : ByteArray), .int .i64 0, .int .i64 0, .slice none 0 0]) ?_ 0 _ rfl; (with_reducible repeat (first | refine zN ?_ _ | refine zD ?_ | refine zA ?_ _)); exact BK176.out) Tryz.underlying33 rfl (by kernel_rfl)) rfl ?_
  exact ⟨_, by first | rfl | (simp [errW_none, errW_some] <;> rfl) | (simp [*, errW_none, errW_some] <;> rfl), by first | exact Kd.R_nil _ _ _ _ _ | exact Kd.N_nil _ _ _ _ _ | exact Kd.V_nil _ _ _ _ _ | exact Kd.Q_nil _ _ _ _ _ | exact Kd.S_nil _ _ _ _ _, by repeat (first | (with_reducible first | exact HB.out | apply yA | apply yN | apply yD | refine yS ?_ GE175.out | refine yS ?_ GE176.out) | exact HB.out)⟩

def boring_column.f (a0_0 : Int) (a0_1 : Int) (a1 : Int) (a2 : Int) : Option (Int × Int × Int × Int × Int × Int) := some (a0_0, a0_1, a1, wrap64 (a0_0 + 1), wrap64 (a0_1 + 1), a2)
set_option maxHeartbeats 8000000 in
set_option maxRecDepth 100000 in
theorem boring_column.calls (a0_0 : Int) (a0_1 : Int) (a1 : Int) (a2 : Int) (r1 : Int) (r2 : Int) (r3 : Int) (r4 : Int) (r5 : Int) (r6 : Int) (w : World) (h : boring_column.f a0_0 a0_1 a1 a2 = some (r1, r2, r3, r4, r5, r6)) :
  Calls Tryz.prog 50 #[.agg #[.int .i64 a0_0, .int .i64 a0_1], .int .i64 a1, .int .i64 a2] w fun e w' => e = .returned (.agg #[.int .i64 r1, .int .i64 r2, .int .i64 r3, .int .i64 r4, .int .i64 r5, .int .i64 r6]) ∧ Below w.heap.size w w' := by
 have hu30 := Tryz.underlying30
 have hu26 := Tryz.underlying26
 have hu24 := Tryz.underlying24
 have HB := aK (Below.refl w.heap.size w)
 have H : (some (a0_0, a0_1, a1, wrap64 (a0_0 + 1), wrap64 (a0_1 + 1), a2)) = some (r1, r2, r3, r4, r5, r6) := h
 clear h
 simp only [Option.some.injEq, Prod.mk.injEq] at H
 obtain ⟨rfl, rfl, rfl, rfl, rfl, rfl⟩ := H
 go_enter Tryz.func50, Tryz.ntmps50
 go_wp2_with (first | ((with_reducible refine gate_dst (N := 3) rfl ?_); refine box_event ?hg (N := 3) ?hd (cs := #[.int .i64 a0_0, .int .i64 a0_1]) (t := 30) ?hr ?_; (case hd => rfl); (case hg => rfl); (case hr => first | (go_simp; done) | (go_simp; rfl)); intro gb181 hg w4 hbox hb; have ⟨n0_, n2_⟩ := zV (w := w) hb hg (by repeat (first | (with_reducible first | exact HB.out | apply yA | apply yN | apply yD) | exact HB.out)); have n1_ := aK (hbox); have n3_ := n2_; clear HB; have HB := n0_; have BK181 := n1_; have GW181 := n2_; have GE181 := n3_; clear n0_ n1_ n2_ n3_; clear hb hbox hg) | ((with_reducible refine gate_dst (N := 6) rfl ?_); refine box_event ?hg (N := 6) ?hd (cs := #[.int .i64 0, .int .i64 0, .int .i64 0, .int .i64 0, .int .i64 0, .int .i64 0]) (t := 26) ?hr ?_; (case hd => rfl); (case hg => rfl); (case hr => first | (go_simp; done) | (go_simp; rfl)); intro gb182 hg w5 hbox hb; have n0_ := zG BK181 hb (fun h => by (with_reducible repeat (first | refine zN ?_ _ | refine zD ?_ | refine zA ?_ _)); exact h); have ⟨n1_, n3_⟩ := zV (w := w) hb hg (by repeat (first | (with_reducible first | exact HB.out | apply yA | apply yN | apply yD | refine yS ?_ GE181.out) | exact HB.out)); have n2_ := aK (hbox); have n4_ := n3_; have n5_ := aK ((by rw [hg]; exact Nat.ne_of_lt (blk_lt (g := gb181) (o := .cells #[.int .i64 a0_0, .int .i64 a0_1] 30 (0, 0)) (by (with_reducible repeat (first | refine zN ?_ _ | refine zD ?_ | refine zA ?_ _)); exact BK181.out)) : gb181 ≠ gb182)); have n6_ := aK ((by rw [hg]; exact Nat.ne_of_gt (blk_lt (g := gb181) (o := .cells #[.int .i64 a0_0, .int .i64 a0_1] 30 (0, 0)) (by (with_reducible repeat (first | refine zN ?_ _ | refine zD ?_ | refine zA ?_ _)); exact BK181.out)) : gb182 ≠ gb181)); clear BK181; clear HB; have BK181 := n0_; have HB := n1_; have BK182 := n2_; have GW182 := n3_; have GE182 := n4_; have NB181_182 := n5_; have NB182_181 := n6_; clear n0_ n1_ n2_ n3_ n4_ n5_ n6_; clear hb hbox hg; have hnb6 := NB181_182.out; have hnc6 := NB182_181.out; have hcz7_0 := zI BK181 0 rfl; have hcz7_1 := zI BK181 1 rfl; have hfz7_0 := zF BK181.out 0; have hfz7_1 := zF BK181.out 1; have hcz8_0 := zI BK182 0 rfl; have hcz8_1 := zI BK182 1 rfl; have hcz8_2 := zI BK182 2 rfl; have hcz8_3 := zI BK182 3 rfl; have hcz8_4 := zI BK182 4 rfl; have hcz8_5 := zI BK182 5 rfl; have hfz8_0 := zF BK182.out 0; have hfz8_1 := zF BK182.out 1; have hfz8_2 := zF BK182.out 2; have hfz8_3 := zF BK182.out 3; have hfz8_4 := zF BK182.out 4; have hfz8_5 := zF BK182.out 5))
 refine bodyPost_ret (results_cell_row rfl _ _ gb182 26 #[.int .i64 a0_0, .int .i64 a0_1, .int .i64 a1, .int .i64 (wrap64 (a0_0 + 1)), .int .i64 (wrap64 (a0_1 + 1)), .int .i64 a2] (0, 0) _ rfl (by (with_reducible repeat (first | refine zN ?_ _ | refine zD ?_ | refine zA ?_ _)); refine blk_put (cs := #[.int .i64 a0_0, .int .i64 a0_1, .int .i64 a1, .int .i64 (wrap64 (a0_0 + 1)), .int .i64 (wrap64 (a0_1 + 1)), .int .i64 0]) ?_ 5 _ rfl; (with_reducible repeat (first | refine zN ?_ _ | refine zD ?_ | refine zA ?_ _)); refine blk_put (cs := #[.int .i64 a0_0, .int .i64 a0_1, .int .i64 a1, .int .i64 (wrap64 (a0_0 + 1)), .int .i64 0, .int .i64 0]) ?_ 4 _ rfl; (with_reducible repeat (first | refine zN ?_ _ | refine zD ?_ | refine zA ?_ _)); refine blk_put (cs := #[.int .i64 a0_0, .int .i64 a0_1, .int .i64 a1, .int .i64 0, .int .i64 0, .int .i64 0]) ?_ 3 _ rfl; (with_reducible repeat (first | refine zN ?_ _ | refine zD ?_ | refine zA ?_ _)); refine blk_put (cs := #[.int .i64 a0_0, .int .i64 a0_1, .int .i64 0, .int .i64 0, .int .i64 0, .int .i64 0]) ?_ 2 _ rfl; (with_reducible repeat (first | refine zN ?_ _ | refine zD ?_ | refine zA ?_ _)); refine blk_put (cs := #[.int .i64 a0_0, .int .i64 0, .int .i64 0, .int .i64 0, .int .i64 0, .int .i64 0]) ?_ 1 _ rfl; (with_reducible repeat (first | refine zN ?_ _ | refine zD ?_ | refine zA ?_ _)); refine blk_put (cs := #[.int .i64 0, .int .i64 0, .int .i64 0, .int .i64 0, .int .i64 0, .int .i64 0]) ?_ 0 _ rfl; (with_reducible repeat (first | refine zN ?_ _ | refine zD ?_ | refine zA ?_ _)); exact BK182.out) Tryz.underlying26 rfl (by kernel_rfl)) rfl ?_
 exact ⟨by first | rfl | (simp [errW_none, errW_some] <;> rfl) | (simp [*, errW_none, errW_some] <;> rfl), by repeat (first | (with_reducible first | exact HB.out | apply yA | apply yN | apply yD | refine yS ?_ GE181.out | refine yS ?_ GE182.out) | exact HB.out)⟩

def gangsawref14_column.f (a0_0 : Int) (a0_1 : Int) (a1 : Int) (a2 : Int) : Option (Int × Int × Int × Int × Int × Int) := some (a0_0, a0_1, a1, wrap64 (a0_0 + 1), wrap64 (a0_1 + 1), a2)
set_option maxHeartbeats 8000000 in
set_option maxRecDepth 100000 in
theorem gangsawref14_column.calls (a0_0 : Int) (a0_1 : Int) (a1 : Int) (a2 : Int) (r1 : Int) (r2 : Int) (r3 : Int) (r4 : Int) (r5 : Int) (r6 : Int) (w : World) (h : gangsawref14_column.f a0_0 a0_1 a1 a2 = some (r1, r2, r3, r4, r5, r6)) :
  Calls Tryz.prog 51 #[.agg #[.int .i64 a0_0, .int .i64 a0_1], .int .i64 a1, .int .i64 a2] w fun e w' => e = .returned (.agg #[.int .i64 r1, .int .i64 r2, .int .i64 r3, .int .i64 r4, .int .i64 r5, .int .i64 r6]) ∧ Below w.heap.size w w' := by
 have hu30 := Tryz.underlying30
 have hu26 := Tryz.underlying26
 have hu24 := Tryz.underlying24
 have HB := aK (Below.refl w.heap.size w)
 have H : (some (a0_0, a0_1, a1, wrap64 (a0_0 + 1), wrap64 (a0_1 + 1), a2)) = some (r1, r2, r3, r4, r5, r6) := h
 clear h
 simp only [Option.some.injEq, Prod.mk.injEq] at H
 obtain ⟨rfl, rfl, rfl, rfl, rfl, rfl⟩ := H
 go_enter Tryz.func51, Tryz.ntmps51
 go_wp2_with (first | ((with_reducible refine gate_dst (N := 3) rfl ?_); refine box_event ?hg (N := 3) ?hd (cs := #[.int .i64 a0_0, .int .i64 a0_1]) (t := 30) ?hr ?_; (case hd => rfl); (case hg => rfl); (case hr => first | (go_simp; done) | (go_simp; rfl)); intro gb183 hg w4 hbox hb; have ⟨n0_, n2_⟩ := zV (w := w) hb hg (by repeat (first | (with_reducible first | exact HB.out | apply yA | apply yN | apply yD) | exact HB.out)); have n1_ := aK (hbox); have n3_ := n2_; clear HB; have HB := n0_; have BK183 := n1_; have GW183 := n2_; have GE183 := n3_; clear n0_ n1_ n2_ n3_; clear hb hbox hg) | ((with_reducible refine gate_dst (N := 6) rfl ?_); refine box_event ?hg (N := 6) ?hd (cs := #[.int .i64 0, .int .i64 0, .int .i64 0, .int .i64 0, .int .i64 0, .int .i64 0]) (t := 26) ?hr ?_; (case hd => rfl); (case hg => rfl); (case hr => first | (go_simp; done) | (go_simp; rfl)); intro gb184 hg w5 hbox hb; have n0_ := zG BK183 hb (fun h => by (with_reducible repeat (first | refine zN ?_ _ | refine zD ?_ | refine zA ?_ _)); exact h); have ⟨n1_, n3_⟩ := zV (w := w) hb hg (by repeat (first | (with_reducible first | exact HB.out | apply yA | apply yN | apply yD | refine yS ?_ GE183.out) | exact HB.out)); have n2_ := aK (hbox); have n4_ := n3_; have n5_ := aK ((by rw [hg]; exact Nat.ne_of_lt (blk_lt (g := gb183) (o := .cells #[.int .i64 a0_0, .int .i64 a0_1] 30 (0, 0)) (by (with_reducible repeat (first | refine zN ?_ _ | refine zD ?_ | refine zA ?_ _)); exact BK183.out)) : gb183 ≠ gb184)); have n6_ := aK ((by rw [hg]; exact Nat.ne_of_gt (blk_lt (g := gb183) (o := .cells #[.int .i64 a0_0, .int .i64 a0_1] 30 (0, 0)) (by (with_reducible repeat (first | refine zN ?_ _ | refine zD ?_ | refine zA ?_ _)); exact BK183.out)) : gb184 ≠ gb183)); clear BK183; clear HB; have BK183 := n0_; have HB := n1_; have BK184 := n2_; have GW184 := n3_; have GE184 := n4_; have NB183_184 := n5_; have NB184_183 := n6_; clear n0_ n1_ n2_ n3_ n4_ n5_ n6_; clear hb hbox hg; have hnb6 := NB183_184.out; have hnc6 := NB184_183.out; have hcz7_0 := zI BK183 0 rfl; have hcz7_1 := zI BK183 1 rfl; have hfz7_0 := zF BK183.out 0; have hfz7_1 := zF BK183.out 1; have hcz8_0 := zI BK184 0 rfl; have hcz8_1 := zI BK184 1 rfl; have hcz8_2 := zI BK184 2 rfl; have hcz8_3 := zI BK184 3 rfl; have hcz8_4 := zI BK184 4 rfl; have hcz8_5 := zI BK184 5 rfl; have hfz8_0 := zF BK184.out 0; have hfz8_1 := zF BK184.out 1; have hfz8_2 := zF BK184.out 2; have hfz8_3 := zF BK184.out 3; have hfz8_4 := zF BK184.out 4; have hfz8_5 := zF BK184.out 5))
 refine bodyPost_ret (results_cell_row rfl _ _ gb184 26 #[.int .i64 a0_0, .int .i64 a0_1, .int .i64 a1, .int .i64 (wrap64 (a0_0 + 1)), .int .i64 (wrap64 (a0_1 + 1)), .int .i64 a2] (0, 0) _ rfl (by (with_reducible repeat (first | refine zN ?_ _ | refine zD ?_ | refine zA ?_ _)); refine blk_put (cs := #[.int .i64 a0_0, .int .i64 a0_1, .int .i64 a1, .int .i64 (wrap64 (a0_0 + 1)), .int .i64 (wrap64 (a0_1 + 1)), .int .i64 0]) ?_ 5 _ rfl; (with_reducible repeat (first | refine zN ?_ _ | refine zD ?_ | refine zA ?_ _)); refine blk_put (cs := #[.int .i64 a0_0, .int .i64 a0_1, .int .i64 a1, .int .i64 (wrap64 (a0_0 + 1)), .int .i64 0, .int .i64 0]) ?_ 4 _ rfl; (with_reducible repeat (first | refine zN ?_ _ | refine zD ?_ | refine zA ?_ _)); refine blk_put (cs := #[.int .i64 a0_0, .int .i64 a0_1, .int .i64 a1, .int .i64 0, .int .i64 0, .int .i64 0]) ?_ 3 _ rfl; (with_reducible repeat (first | refine zN ?_ _ | refine zD ?_ | refine zA ?_ _)); refine blk_put (cs := #[.int .i64 a0_0, .int .i64 a0_1, .int .i64 0, .int .i64 0, .int .i64 0, .int .i64 0]) ?_ 2 _ rfl; (with_reducible repeat (first | refine zN ?_ _ | refine zD ?_ | refine zA ?_ _)); refine blk_put (cs := #[.int .i64 a0_0, .int .i64 0, .int .i64 0, .int .i64 0, .int .i64 0, .int .i64 0]) ?_ 1 _ rfl; (with_reducible repeat (first | refine zN ?_ _ | refine zD ?_ | refine zA ?_ _)); refine blk_put (cs := #[.int .i64 0, .int .i64 0, .int .i64 0, .int .i64 0, .int .i64 0, .int .i64 0]) ?_ 0 _ rfl; (with_reducible repeat (first | refine zN ?_ _ | refine zD ?_ | refine zA ?_ _)); exact BK184.out) Tryz.underlying26 rfl (by kernel_rfl)) rfl ?_
 exact ⟨by first | rfl | (simp [errW_none, errW_some] <;> rfl) | (simp [*, errW_none, errW_some] <;> rfl), by repeat (first | (with_reducible first | exact HB.out | apply yA | apply yN | apply yD | refine yS ?_ GE183.out | refine yS ?_ GE184.out) | exact HB.out)⟩

end Go.Proofs.YtfedmcehkpfciaaGreat.P
