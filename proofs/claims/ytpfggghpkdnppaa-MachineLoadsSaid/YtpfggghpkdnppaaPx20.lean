/- What functions of the program return: each contract says so of one function, for every input at which its pure function yields. -/
import Derived.Test.YtpfggghpkdnppaaPx0
import Derived.Test.YtpfggghpkdnppaaPx13
namespace Go.Proofs.Ytpfggghpkdnppaa.P
open Go.RowKit Go.Proofs.YtpfggghpkdnppaaW.PrintWords Go.Proofs.YtpfggghpkdnppaaW.PrintLast Go.Proofs.YtpfggghpkdnppaaW.PrintMore
attribute [local go_sem] max2_int min2_int max_two min_two max_three min_three max_four min_four   -- for this text's walks alone
set_option linter.unusedVariables false
set_option linter.unusedSimpArgs false

mutual
def gangsawref49_Load.l0 : Nat → List (S34) → List (S47) → List Int → Int → Option (List Int)
 | 0, _, _, _, _ => none
 | k + 1, x0, x1, x5, x6 => if x6 < (x1.length : Int) then (gangsawref49_Load.l1 k x0 x1 x5 x6 0) else (some x5)
def gangsawref49_Load.l1 : Nat → List (S34) → List (S47) → List Int → Int → Int → Option (List Int)
 | 0, _, _, _, _, _ => none
 | k + 1, x0, x1, x5, x6, x7 => if 0 ≤ x6 then (if x6 < (x1.length : Int) then (if x7 < (((rd_T47 x1 x6).f1).length : Int) then (if 0 ≤ x7 then ((gangsawref49_Who.f k x0 ((rd_T36 ((rd_T47 x1 x6).f1) x7).f0)).bind fun t409 => (if (t409.length : Int) = 1 then (if 0 < (t409.length : Int) then (if 0 ≤ (rd t409 0) then (if (rd t409 0) < (x5.length : Int) then (gangsawref49_Load.l1 k x0 x1 (x5.set ((rd t409 0) : Int).toNat (wrap64 ((rd x5 (rd t409 0)) + ((rd_T36 ((rd_T47 x1 x6).f1) x7).f1)))) x6 (wrap64 (x7 + 1))) else (none)) else (none)) else (none)) else (gangsawref49_Load.l1 k x0 x1 x5 x6 (wrap64 (x7 + 1))))) else (none)) else (gangsawref49_Load.l0 k x0 x1 x5 (wrap64 (x6 + 1)))) else (none)) else (none)
end
def gangsawref49_Load.f (k : Nat) (l0 : List (S34)) (l1 : List (S47)) : Option (List Int) := if 0 ≤ (l0.length : Int) then (if ((l0.length : Int) : Int).toNat ≤ 35184372088832 then (gangsawref49_Load.l0 k l0 l1 (List.replicate ((l0.length : Int) : Int).toNat 0) 0) else (none)) else (none)
def gangsawref49_Load.T11 : Bool × List (List Nat × List Nat) := (true, [([], []), ([], []), ([1], [1]), ([2], [2]), ([0, 3], [0, 3]), ([4], [4]), ([], []), ([6], [6]), ([5, 7], [5, 7]), ([0, 3, 0, 1, 2, 3, 4, 5, 6, 7, 8], [0, 3]), ([9, 8, 0, 1, 2, 3, 4, 5, 6, 7, 8], [8, 9])])
def gangsawref49_Load.B11 : List Nat := [0, 0, 2, 6, 15, 31, 0, 64, 255, 511, 1023]
theorem gangsawref49_Load.tab11 : rtab .any (opsOf Try.f19 11) = gangsawref49_Load.T11 := by kernel_rfl
theorem gangsawref49_Load.bits11 : waitsOk gangsawref49_Load.T11.2 gangsawref49_Load.B11 = true := by kernel_rfl
set_option maxHeartbeats 8000000 in
set_option maxRecDepth 100000 in
theorem gangsawref49_Load.calls (k : Nat) (A0 : Option Addr) (c0 : Nat) (l0 : List (S34)) (A1 : Option Addr) (c1 : Nat) (l1 : List (S47)) (r : List Int) (w : World) (hr0 : Kd.C k34 w A0 l0.length l0) (hc0 : l0.length ≤ c0) (hr1 : Kd.C k47 w A1 l1.length l1) (hc1 : l1.length ≤ c1) (h : gangsawref49_Load.f k l0 l1 = some r) :
  Calls Try.prog 19 #[.slice A0 l0.length c0, .slice A1 l1.length c1] w fun e w' => ∃ v0_ : Value, e = .returned (v0_) ∧ Kd.R (Kd.int .i64) 3 w' w.heap.size (fun _ => True) v0_ r ∧ Below w.heap.size w w' := by
 have hu36 := Try.underlying36
 have HR0 := Aside0.mk hr0
 have HC0 := Aside0.mk hc0
 clear hr0 hc0
 have HR1 := Aside0.mk hr1
 have HC1 := Aside0.mk hc1
 clear hr1 hc1
 have HB := Aside0.mk (Below.refl w.heap.size w)
 have H : (if 0 ≤ (l0.length : Int) then (if ((l0.length : Int) : Int).toNat ≤ 35184372088832 then (gangsawref49_Load.l0 k l0 l1 (List.replicate ((l0.length : Int) : Int).toNat 0) 0) else (none)) else (none)) = some r := h
 clear h
 by_cases c3 : 0 ≤ (l0.length : Int)
 ·rw [if_pos c3] at H
  have c3b0 := eq_true c3
  have c3b1 : decide (0 ≤ (l0.length : Int)) = true := decide_eq_true c3
  clear c3
  by_cases c4 : ((l0.length : Int) : Int).toNat ≤ 35184372088832
  ·rw [if_pos c4] at H
   have c4b0 := eq_true c4
   have c4b1 : decide (((l0.length : Int) : Int).toNat ≤ 35184372088832) = true := decide_eq_true c4
   clear c4
   obtain ⟨y402, hy402⟩ : ∃ y_ : List Int, y_ = (List.replicate ((l0.length : Int) : Int).toNat 0) := ⟨_, rfl⟩
   replace H : (gangsawref49_Load.l0 k l0 l1 y402 0) = some r := by first | (rw [hy402]; with_reducible exact H) | (have H2_ := (Option.bind_some _ _).symm.trans H; rw [hy402]; with_reducible exact H2_) | (have H2_ := (Option.bind_some _ _).symm.trans H; with_reducible exact H2_) | with_reducible exact H | (rw [hy402]; exact H) | exact H
   have Ny402 := Aside0.mk hy402
   clear hy402
   have H' := Aside0.mk H
   clear H
   go_enter Try.func19, Try.ntmps19
   go_wp2_with (first | ((with_reducible refine gate_dst (N := 12) rfl ?_); refine Kd.R_make (Kd.int .i64) _ 3 rfl (N := 12) rfl 25 _ _ rfl (l0.length : Int) rfl rfl Try.underlying25 (.int .i64 0) 8 info3 rfl (by decide) (by omega) 0 (ok := fun _ => True) (okp := fun _ => True) rfl (fun _ hk => hk) trivial (of_decide_eq_true (by first | (with_reducible assumption) | assumption)) (Nat.le_trans (Nat.mul_le_mul_right _ (of_decide_eq_true (by first | (with_reducible assumption) | assumption) : (l0.length : Int).toNat ≤ 35184372088832)) (by omega)) (Below.refl _ _) (Nat.le_refl _) ?_; intro v403 w5 ho6 hb hg_ hnew_; clear hg_ hnew_; (first | rw [← Ny402.out] at ho6 | (simp only [Int.reduceToNat] at ho6; rw [← Ny402.out] at ho6)); have n0_ := Aside0.mk (Kd.R_lower ho6 (below_size (by repeat (first | (with_reducible first | exact HB.out | apply below_alloc | apply pw_below_drewN | apply below_drew1) | exact HB.out)))); have n1_ := Aside0.mk (below_step (by repeat (first | (with_reducible first | exact HB.out | apply below_alloc | apply pw_below_drewN | apply below_drew1) | exact HB.out)) hb); clear HB; have HO404 := n0_; have HB := n1_; clear n0_ n1_; clear hb ho6))
   go_loopg [6] k (fun kq v6 w' => ∃ (x5_1 : List Int) (x6_1 : Int), v6 = .int .i64 x6_1 ∧ Aside0 (gangsawref49_Load.l0 kq l0 l1 x5_1 x6_1 = some r) ∧ Aside0 (kq ≤ k) ∧ Aside0 (Kd.R (Kd.int .i64) 3 w' w.heap.size (fun _ => True) v403 x5_1) ∧ Aside0 (Below w.heap.size w w'))
   case atStart => exact ⟨(y402), (0), (by first | rfl | (simp; done) | (simp [*]; done)), H', ⟨Nat.le_refl _⟩, ⟨by (with_reducible repeat (first | apply Kd.R_alloc | apply Kd.R_drewN | apply Kd.R_drew)); exact HO404.out⟩, ⟨by repeat (first | (with_reducible first | exact HB.out | apply below_alloc | apply pw_below_drewN | apply below_drew1) | exact HB.out)⟩⟩
   case round =>
    clear H'
    try clear c1
    try clear p2
    try clear c3
    try clear c3b0
    try clear c3b1
    try clear c4
    try clear c4b0
    try clear c4b1
    obtain ⟨x5_1, x6_1, rfl, HA, HK1, HO_5, HB⟩ := hrel
    cases gk with
    | zero => exact absurd HA.out (by simp [gangsawref49_Load.l0])
    | succ k1 =>
     have H := HA.out
     clear HA
     simp only [gangsawref49_Load.l0] at H
     by_cases c7 : x6_1 < (l1.length : Int)
     ·rw [if_pos c7] at H
      have c7b0 : decide (x6_1 < (l1.length : Int)) = true := decide_eq_true c7
      clear c7
      have H' := Aside0.mk H
      clear H
      go_wp2
      go_loopg [7] k1 (fun kq v7 w' => ∃ (x5_2 : List Int) (x7_2 : Int), v7 = .int .i64 x7_2 ∧ Aside0 (gangsawref49_Load.l1 kq l0 l1 x5_2 x6_1 x7_2 = some r) ∧ Aside0 (kq ≤ k1) ∧ Aside0 (Kd.R (Kd.int .i64) 3 w' w.heap.size (fun _ => True) v403 x5_2) ∧ Aside0 (Below w.heap.size w w'))
      case atStart => exact ⟨(x5_1), (0), (by first | rfl | (simp; done) | (simp [*]; done)), H', ⟨Nat.le_refl _⟩, ⟨by (with_reducible repeat (first | apply Kd.R_alloc | apply Kd.R_drewN | apply Kd.R_drew)); exact HO_5.out⟩, ⟨by repeat (first | (with_reducible first | exact HB.out | apply below_alloc | apply pw_below_drewN | apply below_drew1) | exact HB.out)⟩⟩
      case round =>
       clear H'
       try clear c1
       try clear p2
       try clear c3
       try clear c3b0
       try clear c3b1
       try clear c4
       try clear c4b0
       try clear c4b1
       try clear c7
       try clear c7b0
       try clear p2
       obtain ⟨x5_2, x7_2, rfl, HA, HK2, HO_5, HB⟩ := hrel
       cases gk with
       | zero => exact absurd HA.out (by simp [gangsawref49_Load.l1])
       | succ k2 =>
        have H := HA.out
        clear HA
        simp only [gangsawref49_Load.l1] at H
        by_cases c8 : 0 ≤ x6_1
        ·rw [if_pos c8] at H
         have c8b0 : decide (0 ≤ x6_1) = true := decide_eq_true c8
         clear c8
         by_cases c9 : x6_1 < (l1.length : Int)
         ·rw [if_pos c9] at H
          have c9b0 : decide (x6_1 < (l1.length : Int)) = true := decide_eq_true c9
          clear c9
          by_cases c10 : x7_2 < (((rd_T47 l1 x6_1).f1).length : Int)
          ·rw [if_pos c10] at H
           have c10b0 : decide (x7_2 < (((rd_T47 l1 x6_1).f1).length : Int)) = true := decide_eq_true c10
           clear c10
           by_cases c11 : 0 ≤ x7_2
           ·rw [if_pos c11] at H
            have c11b0 : decide (0 ≤ x7_2) = true := decide_eq_true c11
            clear c11
            replace H := Option.bind_eq_some_iff.mp H
            obtain ⟨t409, A120, H⟩ := H
            replace H : (if (t409.length : Int) = 1 then (if 0 < (t409.length : Int) then (if 0 ≤ (rd t409 0) then (if (rd t409 0) < (x5_2.length : Int) then (gangsawref49_Load.l1 k2 l0 l1 (x5_2.set ((rd t409 0) : Int).toNat (wrap64 ((rd x5_2 (rd t409 0)) + ((rd_T36 ((rd_T47 l1 x6_1).f1) x7_2).f1)))) x6_1 (wrap64 (x7_2 + 1))) else (none)) else (none)) else (none)) else (gangsawref49_Load.l1 k2 l0 l1 x5_2 x6_1 (wrap64 (x7_2 + 1)))) = some r := H
            have A12 := Aside0.mk A120
            clear A120
            by_cases c13 : (t409.length : Int) = 1
            ·rw [if_pos c13] at H
             have c13b0 : ((t409.length : Int) == 1) = true := beq_iff_eq.mpr c13
             have c13b1 : ((t409.length : Int) != 1) = false := bne_eq_false_iff_eq.mpr c13
             clear c13
             by_cases c14 : 0 < (t409.length : Int)
             ·rw [if_pos c14] at H
              have c14b0 : decide (0 < (t409.length : Int)) = true := decide_eq_true c14
              have c14b1 : decide (0 < t409.length) = true := decide_eq_true (by omega)
              clear c14
              by_cases c15 : 0 ≤ (rd t409 0)
              ·rw [if_pos c15] at H
               have c15b0 : decide (0 ≤ (rd t409 0)) = true := decide_eq_true c15
               clear c15
               by_cases c16 : (rd t409 0) < (x5_2.length : Int)
               ·rw [if_pos c16] at H
                have c16b0 : decide ((rd t409 0) < (x5_2.length : Int)) = true := decide_eq_true c16
                clear c16
                obtain ⟨y414, hy414⟩ : ∃ y_ : List Int, y_ = (x5_2.set ((rd t409 0) : Int).toNat (wrap64 ((rd x5_2 (rd t409 0)) + ((rd_T36 ((rd_T47 l1 x6_1).f1) x7_2).f1)))) := ⟨_, rfl⟩
                replace H : (gangsawref49_Load.l1 k2 l0 l1 y414 x6_1 (wrap64 (x7_2 + 1))) = some r := by first | (rw [hy414]; with_reducible exact H) | (have H2_ := (Option.bind_some _ _).symm.trans H; rw [hy414]; with_reducible exact H2_) | (have H2_ := (Option.bind_some _ _).symm.trans H; with_reducible exact H2_) | with_reducible exact H | (rw [hy414]; exact H) | exact H
                have Ny414 := Aside0.mk hy414
                clear hy414
                have H' := Aside0.mk H
                clear H
                have p405 : 0 ≤ (x6_1 : Int) := of_decide_eq_true (by first | (with_reducible assumption) | assumption)
                have q405 : x6_1 < (l1.length : Int) := of_decide_eq_true (by first | (with_reducible assumption) | assumption)
                obtain ⟨ad405, A405_1, c405_1, e405, hx405_0, hx405_1, hx405_2, hx405_3, hx405_4, hl405_1, hi405_1⟩ := at_T47 HR1.out x6_1 p405 q405
                cases e405
                replace hx405_0 := (HB.out.cell (World.block_lt_of_cell? w _ hx405_0)).trans hx405_0
                replace hx405_1 := (HB.out.cell (World.block_lt_of_cell? w _ hx405_1)).trans hx405_1
                replace hx405_2 := (HB.out.cell (World.block_lt_of_cell? w _ hx405_2)).trans hx405_2
                replace hx405_3 := (HB.out.cell (World.block_lt_of_cell? w _ hx405_3)).trans hx405_3
                replace hx405_4 := (HB.out.cell (World.block_lt_of_cell? w _ hx405_4)).trans hx405_4
                have HR405_1 := Aside0.mk hi405_1
                have HC405_1 := Aside0.mk hl405_1
                clear hi405_1 hl405_1
                replace p405 := eq_true p405
                replace q405 := eq_true q405
                have p406 : 0 ≤ (x6_1 : Int) := of_decide_eq_true (by first | (with_reducible assumption) | assumption)
                have q406 : x6_1 < (l1.length : Int) := of_decide_eq_true (by first | (with_reducible assumption) | assumption)
                obtain ⟨ad406, A406_1, c406_1, e406, hx406_0, hx406_1, hx406_2, hx406_3, hx406_4, hl406_1, hi406_1⟩ := at_T47 HR1.out x6_1 p406 q406
                obtain rfl : ad405 = ad406 := (by injection e406)
                replace hx406_0 := (HB.out.cell (World.block_lt_of_cell? w _ hx406_0)).trans hx406_0
                replace hx406_1 := (HB.out.cell (World.block_lt_of_cell? w _ hx406_1)).trans hx406_1
                replace hx406_2 := (HB.out.cell (World.block_lt_of_cell? w _ hx406_2)).trans hx406_2
                replace hx406_3 := (HB.out.cell (World.block_lt_of_cell? w _ hx406_3)).trans hx406_3
                replace hx406_4 := (HB.out.cell (World.block_lt_of_cell? w _ hx406_4)).trans hx406_4
                have HR406_1 := Aside0.mk hi406_1
                have HC406_1 := Aside0.mk hl406_1
                clear hi406_1 hl406_1
                replace p406 := eq_true p406
                replace q406 := eq_true q406
                have ea_ := Option.some.inj (hx405_1.symm.trans hx406_1)
                injection ea_ with ea_ en_ ec_
                subst ea_
                subst ec_
                clear en_
                have p407 : 0 ≤ (x7_2 : Int) := of_decide_eq_true (by first | (with_reducible assumption) | assumption)
                have q407 : x7_2 < (((rd_T47 l1 x6_1).f1).length : Int) := of_decide_eq_true (by first | (with_reducible assumption) | assumption)
                obtain ⟨ad407, e407, hx407_0, hx407_1, hx407_2⟩ := at_T36 HR406_1.out x7_2 p407 q407
                cases e407
                replace hx407_0 := (HB.out.cell (World.block_lt_of_cell? w _ hx407_0)).trans hx407_0
                replace hx407_1 := (HB.out.cell (World.block_lt_of_cell? w _ hx407_1)).trans hx407_1
                replace hx407_2 := (HB.out.cell (World.block_lt_of_cell? w _ hx407_2)).trans hx407_2
                replace p407 := eq_true p407
                replace q407 := eq_true q407
                try go_wp2_with (first | ((with_reducible refine gate_dst (N := 8) rfl ?_); refine box_event ?hg (N := 8) ?hd (cs := #[.string (⟨#[]⟩ : ByteArray), .int .i64 0, .int .i64 0]) (t := 36) ?hr ?_; (case hd => rfl); (case hg => rfl); (case hr => first | (go_simp; done) | (go_simp; rfl)); intro gb408 hg w18 hbox hb; have n0_ := Aside0.mk (Kd.R_below (by (with_reducible repeat (first | apply Kd.R_alloc | apply Kd.R_drewN | apply Kd.R_drew)); exact HO_5.out) hb); have n1_ := Aside0.mk (below_step (by repeat (first | (with_reducible first | exact HB.out | apply below_alloc | apply pw_below_drewN | apply below_drew1) | exact HB.out)) hb); have n2_ := Aside0.mk (hbox); have n3_ := Aside0.mk ((by rw [hg]; exact (below_size (by repeat (first | (with_reducible first | exact HB.out | apply below_alloc | apply pw_below_drewN | apply below_drew1) | exact HB.out))) : w.heap.size ≤ gb408)); have n4_ := Aside0.mk ((by rw [hg]; exact (below_size (by repeat (first | (with_reducible first | exact HB.out | apply below_alloc | apply pw_below_drewN | apply below_drew1) | exact HB.out))) : w.heap.size ≤ gb408)); clear HO_5; clear HB; have HO_5 := n0_; have HB := n1_; have BK408 := n2_; have GW408 := n3_; have GE408 := n4_; clear n0_ n1_ n2_ n3_ n4_; clear hb hbox hg; have hcz19_0 : w18.cell? ⟨gb408, 0, none⟩ = some (.string (⟨#[]⟩ : ByteArray)) := (blk_cell BK408.out 0).trans rfl; have hcz19_1 : w18.cell? ⟨gb408, 1, none⟩ = some (.int .i64 0) := (blk_cell BK408.out 1).trans rfl; have hcz19_2 : w18.cell? ⟨gb408, 2, none⟩ = some (.int .i64 0) := (blk_cell BK408.out 2).trans rfl; have hfz19_0 := blk_frozen BK408.out 0; have hfz19_1 := blk_frozen BK408.out 1; have hfz19_2 := blk_frozen BK408.out 2) | ((with_reducible refine gate_callee (f := 13) rfl ?_); refine goesL_ (some 40) rfl rfl Try.func13 (by kernel_rfl) rfl #[.slice A0 l0.length c0, .string ((rd_T36 ((rd_T47 l1 x6_1).f1) x7_2).f0)] rfl (by (try simp only [List.map_toArray, List.map_cons, List.map_nil]); first | done | rfl | (simp only [List.length_drop, List.length_take]; rfl)) ?_; (with_reducible refine (gangsawref49_Who.calls k2 _ _ l0 ((rd_T36 ((rd_T47 l1 x6_1).f1) x7_2).f0) t409 _ ?side1 ?side2 A12.out).mono ?_); (case side1 => exact Kd.C_below HR0.out (by repeat (first | (with_reducible first | exact HB.out | apply below_alloc | apply pw_below_drewN | apply below_drew1 | refine below_set ?_ GE408.out) | exact HB.out))); (case side2 => exact HC0.out); rintro e w20 ⟨v410, rfl, ho0, hb⟩; refine ⟨_, rfl, ?_⟩; have n0_ := Aside0.mk (Kd.R_elder' (by (with_reducible repeat (first | apply Kd.R_alloc | apply Kd.R_drewN | apply Kd.R_drew)); exact (Kd.R_mono (Kd.R_far (p := ⟨gb408, 2, none⟩) (Kd.R_far (p := ⟨gb408, 1, none⟩) (Kd.R_far (p := ⟨gb408, 0, none⟩) (Kd.R_types HO_5.out BK408.out (by decide)) (fun _ hk => hk.2) (.string ((rd_T36 ((rd_T47 l1 x6_1).f1) x7_2).f0))) (fun _ hk => hk.2) (.int .i64 ((rd_T36 ((rd_T47 l1 x6_1).f1) x7_2).f1))) (fun _ hk => hk.2) (.int .i64 ((rd_T36 ((rd_T47 l1 x6_1).f1) x7_2).f2))) (fun _ h_ => h_.1))) (Kd.R_base ho0) hb); have n1_ := Aside0.mk (Kd.R_lower (Kd.R_new' ho0 (Kd.R_lt (by (with_reducible repeat (first | apply Kd.R_alloc | apply Kd.R_drewN | apply Kd.R_drew)); exact (Kd.R_mono (Kd.R_far (p := ⟨gb408, 2, none⟩) (Kd.R_far (p := ⟨gb408, 1, none⟩) (Kd.R_far (p := ⟨gb408, 0, none⟩) (Kd.R_types HO_5.out BK408.out (by decide)) (fun _ hk => hk.2) (.string ((rd_T36 ((rd_T47 l1 x6_1).f1) x7_2).f0))) (fun _ hk => hk.2) (.int .i64 ((rd_T36 ((rd_T47 l1 x6_1).f1) x7_2).f1))) (fun _ hk => hk.2) (.int .i64 ((rd_T36 ((rd_T47 l1 x6_1).f1) x7_2).f2))) (fun _ h_ => h_.1))))) (below_size (by repeat (first | (with_reducible first | exact HB.out | apply below_alloc | apply pw_below_drewN | apply below_drew1 | refine below_set ?_ GE408.out) | exact HB.out)))); have n2_ := Aside0.mk (blk_below (g := gb408) (o := .cells #[.string ((rd_T36 ((rd_T47 l1 x6_1).f1) x7_2).f0), .int .i64 ((rd_T36 ((rd_T47 l1 x6_1).f1) x7_2).f1), .int .i64 ((rd_T36 ((rd_T47 l1 x6_1).f1) x7_2).f2)] 36 (0, 0)) (by (with_reducible repeat (first | refine blk_drewN ?_ _ | refine blk_drew ?_ | refine blk_alloc ?_ _)); refine blk_put (cs := #[.string ((rd_T36 ((rd_T47 l1 x6_1).f1) x7_2).f0), .int .i64 ((rd_T36 ((rd_T47 l1 x6_1).f1) x7_2).f1), .int .i64 0]) ?_ 2 _ rfl; (with_reducible repeat (first | refine blk_drewN ?_ _ | refine blk_drew ?_ | refine blk_alloc ?_ _)); refine blk_put (cs := #[.string ((rd_T36 ((rd_T47 l1 x6_1).f1) x7_2).f0), .int .i64 0, .int .i64 0]) ?_ 1 _ rfl; (with_reducible repeat (first | refine blk_drewN ?_ _ | refine blk_drew ?_ | refine blk_alloc ?_ _)); refine blk_put (cs := #[.string (⟨#[]⟩ : ByteArray), .int .i64 0, .int .i64 0]) ?_ 0 _ rfl; (with_reducible repeat (first | refine blk_drewN ?_ _ | refine blk_drew ?_ | refine blk_alloc ?_ _)); exact BK408.out) hb); have n3_ := Aside0.mk (below_step (by repeat (first | (with_reducible first | exact HB.out | apply below_alloc | apply pw_below_drewN | apply below_drew1 | refine below_set ?_ GE408.out) | exact HB.out)) hb); clear HO_5; clear BK408; clear HB; have HO_5 := n0_; have HO411 := n1_; have BK408 := n2_; have HB := n3_; clear n0_ n1_ n2_ n3_; (try clear hb); (try clear hb2); (try clear hk); (try clear hi); (try clear ho0); obtain ⟨Ao21, co21, eo21⟩ := Kd.R_slice HO411.out; subst eo21))
                have n0_ := Aside0.mk (Kd.R_drew HO_5.out)
                have n1_ := Aside0.mk (Kd.R_drew HO411.out)
                have n2_ := Aside0.mk (blk_drew BK408.out)
                have n3_ := Aside0.mk (below_drew1 HB.out)
                clear HO_5
                clear HO411
                clear BK408
                clear HB
                have HO_5 := n0_
                have HO411 := n1_
                have BK408 := n2_
                have HB := n3_
                clear n0_ n1_ n2_ n3_
                have p412 : 0 ≤ (0 : Int) := (by omega)
                have q412 : 0 < (t409.length : Int) := of_decide_eq_true (by first | (with_reducible assumption) | assumption)
                obtain ⟨ad412, e412, hx412_0⟩ := Kd.at_int (Kd.R_reads' HO411.out).2.2 0 p412 q412
                cases e412
                have qi412 : (0 < t409.length) = True := eq_true (by omega)
                (try rw [show ((0 : Int)).toNat = 0 from rfl] at hx412_0)
                (try rw [Addr.add_zero'] at hx412_0)
                replace p412 := eq_true p412
                replace q412 := eq_true q412
                obtain ⟨Ao23, co23, eo23⟩ := Kd.R_slice HO_5.out
                (first | subst eo23 | (injection eo23 with f1_ f2_ f3_; have f4_ := f1_.symm; have f5_ := f3_.symm; clear f1_ f2_ f3_; subst f4_; subst f5_))
                have p413 : 0 ≤ ((rd t409 0) : Int) := of_decide_eq_true (by first | (with_reducible assumption) | assumption)
                have q413 : (rd t409 0) < (x5_2.length : Int) := of_decide_eq_true (by first | (with_reducible assumption) | assumption)
                obtain ⟨ad413, e413, hx413_0⟩ := Kd.at_int (Kd.R_reads' HO_5.out).2.2 (rd t409 0) p413 q413
                cases e413
                replace p413 := eq_true p413
                replace q413 := eq_true q413
                have p17 : 0 ≤ ((rd t409 0) : Int) := of_decide_eq_true (by first | (with_reducible assumption) | assumption)
                have q17 : ((rd t409 0) : Int) < ((x5_2.length : Int) : Int) := of_decide_eq_true (by first | (with_reducible assumption) | assumption)
                obtain ⟨go17, co17, eo17, gb17, gl17, cl17, HG17⟩ := Kd.R_form HO_5.out (by omega)
                (first | cases eo17 | (injection eo17 with ea_ en_ ec_; (first | subst ea_ | (injection ea_ with ea_; subst ea_)); subst ec_; clear en_))
                have GB17 := Aside0.mk gb17
                have GG17 := Aside0.mk HG17
                clear gb17 gl17 HG17
                (first | simp only [add_plain] at hx413_0 | skip)
                obtain ⟨hx17_0, hf17_0⟩ := Kd.R_celln 0 HO_5.out ((rd t409 0) : Int) p17 q17
                replace p17 := eq_true p17
                replace q17 := eq_true q17
                have HP24 := Kd.R_putn HO_5.out ((rd t409 0) : Int) (wrap64 ((rd x5_2 (rd t409 0)) + ((rd_T36 ((rd_T47 l1 x6_1).f1) x7_2).f1)))
                rw [← Ny414.out] at HP24
                have HQ24 := Aside0.mk HP24
                clear HP24
                refine start_ (n := 11) (S := fun w' => w'.cell? ⟨gb408, 0, none⟩ = some (.string ((rd_T36 ((rd_T47 l1 x6_1).f1) x7_2).f0)) ∧ w'.cell? ⟨gb408, 1, none⟩ = some (.int .i64 ((rd_T36 ((rd_T47 l1 x6_1).f1) x7_2).f1)) ∧ w'.cell? ⟨gb408, 2, none⟩ = some (.int .i64 ((rd_T36 ((rd_T47 l1 x6_1).f1) x7_2).f2)) ∧ w'.cell? ad412 = some (.int .i64 (rd t409 0)) ∧ w'.cell? ⟨go17, ((rd t409 0)).toNat, none⟩ = some (.int .i64 (rd x5_2 (rd t409 0)))) (ds := [10]) #[false, false, false, false, false, false, false, false, false, false, false] (by kernel_rfl) rfl rfl ⟨(blk_cell BK408.out 0).trans rfl, (blk_cell BK408.out 1).trans rfl, (blk_cell BK408.out 2).trans rfl, hx412_0, hx413_0⟩ (fun hHeld => ?_); refine with_tabW gangsawref49_Load.tab11 gangsawref49_Load.bits11 (fun HT_ HW_ => ?_)
                generalize w20.drew = w22 at HO_5 HO411 BK408 HB GG17 HQ24 hf17_0 hx17_0 hx412_0 hx413_0 hHeld ⊢
                refine pure_ (i := 0) (N := some 44) (v := ?_) (a' := ?_) #[true, false, false, false, false, false, false, false, false, false, false] rfl rfl (any_of HT_.out (by kernel_rfl)) (fun _ _ _ h => h) (Or.inl ⟨by rfl, ?_⟩) ?_ ?_
                rotate_left
                ·intro w'
                 go_simp
                 with_reducible rfl
                rotate_left
                ·simp only [Act.put, List.setIfInBounds_toArray, List.set_cons_zero, List.set_cons_succ, i64_w, i32_w]
                 rfl
                refine pure_ (i := 1) (N := some 45) (v := ?_) (a' := ?_) #[true, true, false, false, false, false, false, false, false, false, false] rfl rfl (any_of HT_.out (by kernel_rfl)) (fun _ _ _ h => h) (Or.inl ⟨by rfl, ?_⟩) ?_ ?_
                rotate_left
                ·intro w'
                 go_simp
                 with_reducible rfl
                rotate_left
                ·simp only [Act.put, List.setIfInBounds_toArray, List.set_cons_zero, List.set_cons_succ, i64_w, i32_w]
                 rfl
                refine pure_ (i := 2) (N := some 46) (v := ?_) (a' := ?_) #[true, true, true, false, false, false, false, false, false, false, false] rfl rfl (any_of HT_.out (by kernel_rfl)) (fun _ _ _ h => h) (Or.inl ⟨by rfl, ?_⟩) ?_ ?_
                rotate_left
                ·intro w'
                 go_simp
                 with_reducible rfl
                rotate_left
                ·simp only [Act.put, List.setIfInBounds_toArray, List.set_cons_zero, List.set_cons_succ, i64_w, i32_w]
                 rfl
                refine pure_ (i := 6) (N := some 50) (v := ?_) (a' := ?_) #[true, true, true, false, false, false, true, false, false, false, false] rfl rfl (any_of HT_.out (by kernel_rfl)) (fun _ _ _ h => h) (Or.inl ⟨by rfl, ?_⟩) ?_ ?_
                rotate_left
                ·intro w'
                 go_simp
                 with_reducible rfl
                rotate_left
                ·simp only [Act.put, List.setIfInBounds_toArray, List.set_cons_zero, List.set_cons_succ, i64_w, i32_w]
                 rfl
                refine take_ (i := 3) (N := some 47) (v := ?_) (a' := ?_) #[true, true, true, true, false, false, true, false, false, false, false] rfl rfl (take_ofW HT_.out HW_.out (by kernel_rfl)) (fun _ _ _ h => h) (Or.inl ⟨by rfl, ?_⟩) hHeld ?_ ?_
                rotate_left
                ·rintro w' ⟨s0, s1, s2, s3, s4⟩
                 go_simp
                 with_reducible rfl
                rotate_left
                ·simp only [Act.put, List.setIfInBounds_toArray, List.set_cons_zero, List.set_cons_succ, i64_w, i32_w]
                 rfl
                refine pure_ (i := 4) (N := some 48) (v := ?_) (a' := ?_) #[true, true, true, true, true, false, true, false, false, false, false] rfl rfl (any_of HT_.out (by kernel_rfl)) (fun _ _ _ h => h) (Or.inl ⟨by rfl, ?_⟩) ?_ ?_
                rotate_left
                ·intro w'
                 go_simp
                 with_reducible rfl
                rotate_left
                ·simp only [Act.put, List.setIfInBounds_toArray, List.set_cons_zero, List.set_cons_succ, i64_w, i32_w]
                 rfl
                refine take_ (i := 5) (N := some 49) (v := ?_) (a' := ?_) #[true, true, true, true, true, true, true, false, false, false, false] rfl rfl (take_ofW HT_.out HW_.out (by kernel_rfl)) (fun _ _ _ h => h) (Or.inl ⟨by rfl, ?_⟩) hHeld ?_ ?_
                rotate_left
                ·rintro w' ⟨s0, s1, s2, s3, s4⟩
                 go_simp
                 with_reducible rfl
                rotate_left
                ·simp only [Act.put, List.setIfInBounds_toArray, List.set_cons_zero, List.set_cons_succ, i64_w, i32_w]
                 rfl
                refine take_ (i := 7) (N := some 51) (v := ?_) (a' := ?_) #[true, true, true, true, true, true, true, true, false, false, false] rfl rfl (take_ofW HT_.out HW_.out (by kernel_rfl)) (fun _ _ _ h => h) (Or.inl ⟨by rfl, ?_⟩) hHeld ?_ ?_
                rotate_left
                ·rintro w' ⟨s0, s1, s2, s3, s4⟩
                 go_simp
                 with_reducible rfl
                rotate_left
                ·simp only [Act.put, List.setIfInBounds_toArray, List.set_cons_zero, List.set_cons_succ, i64_w, i32_w]
                 rfl
                refine pure_ (i := 8) (N := some 52) (v := ?_) (a' := ?_) #[true, true, true, true, true, true, true, true, true, false, false] rfl rfl (any_of HT_.out (by kernel_rfl)) (fun _ _ _ h => h) (Or.inl ⟨by rfl, ?_⟩) ?_ ?_
                rotate_left
                ·intro w'
                 go_simp
                 with_reducible rfl
                rotate_left
                ·simp only [Act.put, List.setIfInBounds_toArray, List.set_cons_zero, List.set_cons_succ, i64_w, i32_w]
                 rfl
                refine pure_ (i := 9) (N := some 53) (v := ?_) (a' := ?_) #[true, true, true, true, true, true, true, true, true, true, false] rfl rfl (any_of HT_.out (by kernel_rfl)) (fun _ _ _ h => h) (Or.inl ⟨by rfl, ?_⟩) ?_ ?_
                rotate_left
                ·intro w'
                 go_simp
                 with_reducible rfl
                rotate_left
                ·simp only [Act.put, List.setIfInBounds_toArray, List.set_cons_zero, List.set_cons_succ, i64_w, i32_w]
                 rfl
                refine last_ (i := 10) (N := none) #[true, true, true, true, true, true, true, true, true, true, true] rfl rfl (one_of HT_.out (by kernel_rfl)) (by decide) (fun K hK => ?_)
                refine skip_ (w1 := ?_) (by rfl) rfl ?_ ?_
                rotate_left
                ·go_simp
                 rfl
                refine hK.out _ _ ?_
                clear hK K
                refine done_ (done_of HT_.out (by kernel_rfl)) ?_
                try go_wp2
                go_roundg k2
                case measure => have := HK1.out; have := HK2.out; omega
                case rel => exact ⟨(y414), (wrap64 (x7_2 + 1)), (by first | rfl | (simp; done) | (simp [*]; done)), H', ⟨by have := HK1.out; have := HK2.out; omega⟩, ⟨by (with_reducible repeat (first | apply Kd.R_alloc | apply Kd.R_drewN | apply Kd.R_drew)); exact Kd.R_mono HQ24.out (fun _ hk => trivial)⟩, ⟨by repeat (first | (with_reducible first | exact HB.out | apply below_alloc | apply pw_below_drewN | apply below_drew1 | refine below_set ?_ GB17.out | refine below_set ?_ GE408.out) | exact HB.out)⟩⟩
               ·rw [if_neg c16] at H
                exact absurd H (by simp)
              ·rw [if_neg c15] at H
               exact absurd H (by simp)
             ·rw [if_neg c14] at H
              exact absurd H (by simp)
            ·rw [if_neg c13] at H
             have c13b0 : ((t409.length : Int) == 1) = false := beq_eq_false_iff_ne.mpr c13
             have c13b1 : ((t409.length : Int) != 1) = true := bne_iff_ne.mpr c13
             have H' := Aside0.mk H
             clear H
             have p405 : 0 ≤ (x6_1 : Int) := of_decide_eq_true (by first | (with_reducible assumption) | assumption)
             have q405 : x6_1 < (l1.length : Int) := of_decide_eq_true (by first | (with_reducible assumption) | assumption)
             obtain ⟨ad405, A405_1, c405_1, e405, hx405_0, hx405_1, hx405_2, hx405_3, hx405_4, hl405_1, hi405_1⟩ := at_T47 HR1.out x6_1 p405 q405
             cases e405
             replace hx405_0 := (HB.out.cell (World.block_lt_of_cell? w _ hx405_0)).trans hx405_0
             replace hx405_1 := (HB.out.cell (World.block_lt_of_cell? w _ hx405_1)).trans hx405_1
             replace hx405_2 := (HB.out.cell (World.block_lt_of_cell? w _ hx405_2)).trans hx405_2
             replace hx405_3 := (HB.out.cell (World.block_lt_of_cell? w _ hx405_3)).trans hx405_3
             replace hx405_4 := (HB.out.cell (World.block_lt_of_cell? w _ hx405_4)).trans hx405_4
             have HR405_1 := Aside0.mk hi405_1
             have HC405_1 := Aside0.mk hl405_1
             clear hi405_1 hl405_1
             replace p405 := eq_true p405
             replace q405 := eq_true q405
             have p406 : 0 ≤ (x6_1 : Int) := of_decide_eq_true (by first | (with_reducible assumption) | assumption)
             have q406 : x6_1 < (l1.length : Int) := of_decide_eq_true (by first | (with_reducible assumption) | assumption)
             obtain ⟨ad406, A406_1, c406_1, e406, hx406_0, hx406_1, hx406_2, hx406_3, hx406_4, hl406_1, hi406_1⟩ := at_T47 HR1.out x6_1 p406 q406
             obtain rfl : ad405 = ad406 := (by injection e406)
             replace hx406_0 := (HB.out.cell (World.block_lt_of_cell? w _ hx406_0)).trans hx406_0
             replace hx406_1 := (HB.out.cell (World.block_lt_of_cell? w _ hx406_1)).trans hx406_1
             replace hx406_2 := (HB.out.cell (World.block_lt_of_cell? w _ hx406_2)).trans hx406_2
             replace hx406_3 := (HB.out.cell (World.block_lt_of_cell? w _ hx406_3)).trans hx406_3
             replace hx406_4 := (HB.out.cell (World.block_lt_of_cell? w _ hx406_4)).trans hx406_4
             have HR406_1 := Aside0.mk hi406_1
             have HC406_1 := Aside0.mk hl406_1
             clear hi406_1 hl406_1
             replace p406 := eq_true p406
             replace q406 := eq_true q406
             have ea_ := Option.some.inj (hx405_1.symm.trans hx406_1)
             injection ea_ with ea_ en_ ec_
             subst ea_
             subst ec_
             clear en_
             have p407 : 0 ≤ (x7_2 : Int) := of_decide_eq_true (by first | (with_reducible assumption) | assumption)
             have q407 : x7_2 < (((rd_T47 l1 x6_1).f1).length : Int) := of_decide_eq_true (by first | (with_reducible assumption) | assumption)
             obtain ⟨ad407, e407, hx407_0, hx407_1, hx407_2⟩ := at_T36 HR406_1.out x7_2 p407 q407
             cases e407
             replace hx407_0 := (HB.out.cell (World.block_lt_of_cell? w _ hx407_0)).trans hx407_0
             replace hx407_1 := (HB.out.cell (World.block_lt_of_cell? w _ hx407_1)).trans hx407_1
             replace hx407_2 := (HB.out.cell (World.block_lt_of_cell? w _ hx407_2)).trans hx407_2
             replace p407 := eq_true p407
             replace q407 := eq_true q407
             go_wp2_with (first | ((with_reducible refine gate_dst (N := 8) rfl ?_); refine box_event ?hg (N := 8) ?hd (cs := #[.string (⟨#[]⟩ : ByteArray), .int .i64 0, .int .i64 0]) (t := 36) ?hr ?_; (case hd => rfl); (case hg => rfl); (case hr => first | (go_simp; done) | (go_simp; rfl)); intro gb408 hg w25 hbox hb; have n0_ := Aside0.mk (Kd.R_below (by (with_reducible repeat (first | apply Kd.R_alloc | apply Kd.R_drewN | apply Kd.R_drew)); exact HO_5.out) hb); have n1_ := Aside0.mk (below_step (by repeat (first | (with_reducible first | exact HB.out | apply below_alloc | apply pw_below_drewN | apply below_drew1) | exact HB.out)) hb); have n2_ := Aside0.mk (hbox); have n3_ := Aside0.mk ((by rw [hg]; exact (below_size (by repeat (first | (with_reducible first | exact HB.out | apply below_alloc | apply pw_below_drewN | apply below_drew1) | exact HB.out))) : w.heap.size ≤ gb408)); have n4_ := Aside0.mk ((by rw [hg]; exact (below_size (by repeat (first | (with_reducible first | exact HB.out | apply below_alloc | apply pw_below_drewN | apply below_drew1) | exact HB.out))) : w.heap.size ≤ gb408)); clear HO_5; clear HB; have HO_5 := n0_; have HB := n1_; have BK408 := n2_; have GW408 := n3_; have GE408 := n4_; clear n0_ n1_ n2_ n3_ n4_; clear hb hbox hg; have hcz26_0 : w25.cell? ⟨gb408, 0, none⟩ = some (.string (⟨#[]⟩ : ByteArray)) := (blk_cell BK408.out 0).trans rfl; have hcz26_1 : w25.cell? ⟨gb408, 1, none⟩ = some (.int .i64 0) := (blk_cell BK408.out 1).trans rfl; have hcz26_2 : w25.cell? ⟨gb408, 2, none⟩ = some (.int .i64 0) := (blk_cell BK408.out 2).trans rfl; have hfz26_0 := blk_frozen BK408.out 0; have hfz26_1 := blk_frozen BK408.out 1; have hfz26_2 := blk_frozen BK408.out 2) | ((with_reducible refine gate_callee (f := 13) rfl ?_); refine goesL_ (some 40) rfl rfl Try.func13 (by kernel_rfl) rfl #[.slice A0 l0.length c0, .string ((rd_T36 ((rd_T47 l1 x6_1).f1) x7_2).f0)] rfl (by (try simp only [List.map_toArray, List.map_cons, List.map_nil]); first | done | rfl | (simp only [List.length_drop, List.length_take]; rfl)) ?_; (with_reducible refine (gangsawref49_Who.calls k2 _ _ l0 ((rd_T36 ((rd_T47 l1 x6_1).f1) x7_2).f0) t409 _ ?side1 ?side2 A12.out).mono ?_); (case side1 => exact Kd.C_below HR0.out (by repeat (first | (with_reducible first | exact HB.out | apply below_alloc | apply pw_below_drewN | apply below_drew1 | refine below_set ?_ GE408.out) | exact HB.out))); (case side2 => exact HC0.out); rintro e w27 ⟨v410, rfl, ho0, hb⟩; refine ⟨_, rfl, ?_⟩; have n0_ := Aside0.mk (Kd.R_elder' (by (with_reducible repeat (first | apply Kd.R_alloc | apply Kd.R_drewN | apply Kd.R_drew)); exact (Kd.R_mono (Kd.R_far (p := ⟨gb408, 2, none⟩) (Kd.R_far (p := ⟨gb408, 1, none⟩) (Kd.R_far (p := ⟨gb408, 0, none⟩) (Kd.R_types HO_5.out BK408.out (by decide)) (fun _ hk => hk.2) (.string ((rd_T36 ((rd_T47 l1 x6_1).f1) x7_2).f0))) (fun _ hk => hk.2) (.int .i64 ((rd_T36 ((rd_T47 l1 x6_1).f1) x7_2).f1))) (fun _ hk => hk.2) (.int .i64 ((rd_T36 ((rd_T47 l1 x6_1).f1) x7_2).f2))) (fun _ h_ => h_.1))) (Kd.R_base ho0) hb); have n1_ := Aside0.mk (Kd.R_lower (Kd.R_new' ho0 (Kd.R_lt (by (with_reducible repeat (first | apply Kd.R_alloc | apply Kd.R_drewN | apply Kd.R_drew)); exact (Kd.R_mono (Kd.R_far (p := ⟨gb408, 2, none⟩) (Kd.R_far (p := ⟨gb408, 1, none⟩) (Kd.R_far (p := ⟨gb408, 0, none⟩) (Kd.R_types HO_5.out BK408.out (by decide)) (fun _ hk => hk.2) (.string ((rd_T36 ((rd_T47 l1 x6_1).f1) x7_2).f0))) (fun _ hk => hk.2) (.int .i64 ((rd_T36 ((rd_T47 l1 x6_1).f1) x7_2).f1))) (fun _ hk => hk.2) (.int .i64 ((rd_T36 ((rd_T47 l1 x6_1).f1) x7_2).f2))) (fun _ h_ => h_.1))))) (below_size (by repeat (first | (with_reducible first | exact HB.out | apply below_alloc | apply pw_below_drewN | apply below_drew1 | refine below_set ?_ GE408.out) | exact HB.out)))); have n2_ := Aside0.mk (blk_below (g := gb408) (o := .cells #[.string ((rd_T36 ((rd_T47 l1 x6_1).f1) x7_2).f0), .int .i64 ((rd_T36 ((rd_T47 l1 x6_1).f1) x7_2).f1), .int .i64 ((rd_T36 ((rd_T47 l1 x6_1).f1) x7_2).f2)] 36 (0, 0)) (by (with_reducible repeat (first | refine blk_drewN ?_ _ | refine blk_drew ?_ | refine blk_alloc ?_ _)); refine blk_put (cs := #[.string ((rd_T36 ((rd_T47 l1 x6_1).f1) x7_2).f0), .int .i64 ((rd_T36 ((rd_T47 l1 x6_1).f1) x7_2).f1), .int .i64 0]) ?_ 2 _ rfl; (with_reducible repeat (first | refine blk_drewN ?_ _ | refine blk_drew ?_ | refine blk_alloc ?_ _)); refine blk_put (cs := #[.string ((rd_T36 ((rd_T47 l1 x6_1).f1) x7_2).f0), .int .i64 0, .int .i64 0]) ?_ 1 _ rfl; (with_reducible repeat (first | refine blk_drewN ?_ _ | refine blk_drew ?_ | refine blk_alloc ?_ _)); refine blk_put (cs := #[.string (⟨#[]⟩ : ByteArray), .int .i64 0, .int .i64 0]) ?_ 0 _ rfl; (with_reducible repeat (first | refine blk_drewN ?_ _ | refine blk_drew ?_ | refine blk_alloc ?_ _)); exact BK408.out) hb); have n3_ := Aside0.mk (below_step (by repeat (first | (with_reducible first | exact HB.out | apply below_alloc | apply pw_below_drewN | apply below_drew1 | refine below_set ?_ GE408.out) | exact HB.out)) hb); clear HO_5; clear BK408; clear HB; have HO_5 := n0_; have HO411 := n1_; have BK408 := n2_; have HB := n3_; clear n0_ n1_ n2_ n3_; (try clear hb); (try clear hb2); (try clear hk); (try clear hi); (try clear ho0); obtain ⟨Ao28, co28, eo28⟩ := Kd.R_slice HO411.out; subst eo28))
             go_roundg k2
             case measure => have := HK1.out; have := HK2.out; omega
             case rel => exact ⟨(x5_2), (wrap64 (x7_2 + 1)), (by first | rfl | (simp; done) | (simp [*]; done)), H', ⟨by have := HK1.out; have := HK2.out; omega⟩, ⟨by (with_reducible repeat (first | apply Kd.R_alloc | apply Kd.R_drewN | apply Kd.R_drew)); exact Kd.R_mono HO_5.out (fun _ hk => trivial)⟩, ⟨by repeat (first | (with_reducible first | exact HB.out | apply below_alloc | apply pw_below_drewN | apply below_drew1 | refine below_set ?_ GE408.out) | exact HB.out)⟩⟩
           ·rw [if_neg c11] at H
            exact absurd H (by simp)
          ·rw [if_neg c10] at H
           have c10b0 : decide (x7_2 < (((rd_T47 l1 x6_1).f1).length : Int)) = false := decide_eq_false c10
           clear c10
           have H' := Aside0.mk H
           clear H
           have p405 : 0 ≤ (x6_1 : Int) := of_decide_eq_true (by first | (with_reducible assumption) | assumption)
           have q405 : x6_1 < (l1.length : Int) := of_decide_eq_true (by first | (with_reducible assumption) | assumption)
           obtain ⟨ad405, A405_1, c405_1, e405, hx405_0, hx405_1, hx405_2, hx405_3, hx405_4, hl405_1, hi405_1⟩ := at_T47 HR1.out x6_1 p405 q405
           cases e405
           replace hx405_0 := (HB.out.cell (World.block_lt_of_cell? w _ hx405_0)).trans hx405_0
           replace hx405_1 := (HB.out.cell (World.block_lt_of_cell? w _ hx405_1)).trans hx405_1
           replace hx405_2 := (HB.out.cell (World.block_lt_of_cell? w _ hx405_2)).trans hx405_2
           replace hx405_3 := (HB.out.cell (World.block_lt_of_cell? w _ hx405_3)).trans hx405_3
           replace hx405_4 := (HB.out.cell (World.block_lt_of_cell? w _ hx405_4)).trans hx405_4
           have HR405_1 := Aside0.mk hi405_1
           have HC405_1 := Aside0.mk hl405_1
           clear hi405_1 hl405_1
           replace p405 := eq_true p405
           replace q405 := eq_true q405
           go_wp2
           go_roundg k2
           case measure => have := HK1.out; have := HK2.out; omega
           case rel => exact ⟨(x5_2), (wrap64 (x6_1 + 1)), (by first | rfl | (simp; done) | (simp [*]; done)), H', ⟨by have := HK1.out; have := HK2.out; omega⟩, ⟨by (with_reducible repeat (first | apply Kd.R_alloc | apply Kd.R_drewN | apply Kd.R_drew)); exact HO_5.out⟩, ⟨by repeat (first | (with_reducible first | exact HB.out | apply below_alloc | apply pw_below_drewN | apply below_drew1) | exact HB.out)⟩⟩
         ·rw [if_neg c9] at H
          exact absurd H (by simp)
        ·rw [if_neg c8] at H
         exact absurd H (by simp)
     ·rw [if_neg c7] at H
      have c7b0 : decide (x6_1 < (l1.length : Int)) = false := decide_eq_false c7
      clear c7
      obtain rfl := Option.some.inj H
      simp only [Option.some.injEq, Prod.mk.injEq] at H
      obtain ⟨rfl⟩ := H
      go_wp2
      go_ret
      exact ⟨_, by first | rfl | (simp [errW_none, errW_some] <;> rfl) | (simp [*, errW_none, errW_some] <;> rfl), by (with_reducible repeat (first | apply Kd.R_alloc | apply Kd.R_drewN | apply Kd.R_drew)); exact HO_5.out, by repeat (first | (with_reducible first | exact HB.out | apply below_alloc | apply pw_below_drewN | apply below_drew1) | exact HB.out)⟩
  ·rw [if_neg c4] at H
   exact absurd H (by simp)
 ·rw [if_neg c3] at H
  exact absurd H (by simp)

end Go.Proofs.Ytpfggghpkdnppaa.P
