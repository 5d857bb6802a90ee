/- What functions of the program return: each contract says so of one function, for every input at which its pure function yields. -/
import Derived.Test.YtpfggghpkdnppaaPx0
import Derived.Test.YtpfggghpkdnppaaPx13
namespace Go.Proofs.Ytpfggghpkdnppaa.P
open Go.RowKit Go.Proofs.YtpfggghpkdnppaaW.PrintWords Go.Proofs.YtpfggghpkdnppaaW.PrintLast Go.Proofs.YtpfggghpkdnppaaW.PrintMore
attribute [local go_sem] max2_int min2_int max_two min_two max_three min_three max_four min_four   -- for this text's walks alone
set_option linter.unusedVariables false
set_option linter.unusedSimpArgs false

mutual
def gangsawref49_Works.l0 : Nat → List (S34) → List (S47) → List ByteArray → Int → Option (List ByteArray)
 | 0, _, _, _, _ => none
 | k + 1, x0, x1, x5, x6 => if x6 < (x1.length : Int) then (gangsawref49_Works.l1 k x0 x1 x5 x6 0) else (some x5)
def gangsawref49_Works.l1 : Nat → List (S34) → List (S47) → List ByteArray → Int → Int → Option (List ByteArray)
 | 0, _, _, _, _, _ => none
 | k + 1, x0, x1, x5, x6, x7 => if 0 ≤ x6 then (if x6 < (x1.length : Int) then (if x7 < (((rd_T47 x1 x6).f1).length : Int) then (if 0 ≤ x7 then (gangsawref49_Works.l2 k x0 x1 x5 x6 x7 ((rd_T36 ((rd_T47 x1 x6).f1) x7).f0) 0) else (none)) else (gangsawref49_Works.l0 k x0 x1 x5 (wrap64 (x6 + 1)))) else (none)) else (none)
def gangsawref49_Works.l2 : Nat → List (S34) → List (S47) → List ByteArray → Int → Int → ByteArray → Int → Option (List ByteArray)
 | 0, _, _, _, _, _, _, _ => none
 | k + 1, x0, x1, x5, x6, x7, x8, x9 => if x9 < (x5.length : Int) then (if 0 ≤ x9 then (if (Op.bytesLess ((rdOf ByteArray.empty x5 x9).toList) x8.toList) = true then (gangsawref49_Works.l2 k x0 x1 x5 x6 x7 x8 (wrap64 (x9 + 1))) else ((gangsawref49_Who.f k x0 x8).bind fun t303 => (if (t303.length : Int) = 0 then (if x9 = (x5.length : Int) then ((some (([] : List ByteArray) : List ByteArray)).bind fun y306 => (if x9 ≤ (x5.length : Int) then ((some (x5.take (x9 : Int).toNat : List ByteArray)).bind fun y309 => (if y306.length + y309.length < 8796093022208 then ((some (y306 ++ y309 : List ByteArray)).bind fun y313 => ((some (([x8] : List ByteArray) : List ByteArray)).bind fun y316 => (if y313.length + y316.length < 8796093022208 then ((some (y313 ++ y316 : List ByteArray)).bind fun y319 => ((some (x5.drop (x9 : Int).toNat : List ByteArray)).bind fun y322 => (if y319.length + y322.length < 8796093022208 then (gangsawref49_Works.l1 k x0 x1 (y319 ++ y322) x6 (wrap64 (x7 + 1))) else (none)))) else (none)))) else (none))) else (none))) else (if (rdOf ByteArray.empty x5 x9).toList = x8.toList then (gangsawref49_Works.l1 k x0 x1 x5 x6 (wrap64 (x7 + 1))) else ((some (([] : List ByteArray) : List ByteArray)).bind fun y330 => (if x9 ≤ (x5.length : Int) then ((some (x5.take (x9 : Int).toNat : List ByteArray)).bind fun y333 => (if y330.length + y333.length < 8796093022208 then ((some (y330 ++ y333 : List ByteArray)).bind fun y337 => ((some (([x8] : List ByteArray) : List ByteArray)).bind fun y340 => (if y337.length + y340.length < 8796093022208 then ((some (y337 ++ y340 : List ByteArray)).bind fun y343 => ((some (x5.drop (x9 : Int).toNat : List ByteArray)).bind fun y346 => (if y343.length + y346.length < 8796093022208 then (gangsawref49_Works.l1 k x0 x1 (y343 ++ y346) x6 (wrap64 (x7 + 1))) else (none)))) else (none)))) else (none))) else (none))))) else (gangsawref49_Works.l1 k x0 x1 x5 x6 (wrap64 (x7 + 1)))))) else (none)) else ((gangsawref49_Who.f k x0 x8).bind fun t353 => (if (t353.length : Int) = 0 then (if x9 = (x5.length : Int) then ((some (([] : List ByteArray) : List ByteArray)).bind fun y356 => (if 0 ≤ x9 then (if x9 ≤ (x5.length : Int) then ((some (x5.take (x9 : Int).toNat : List ByteArray)).bind fun y359 => (if y356.length + y359.length < 8796093022208 then ((some (y356 ++ y359 : List ByteArray)).bind fun y363 => ((some (([x8] : List ByteArray) : List ByteArray)).bind fun y366 => (if y363.length + y366.length < 8796093022208 then ((some (y363 ++ y366 : List ByteArray)).bind fun y369 => ((some (x5.drop (x9 : Int).toNat : List ByteArray)).bind fun y372 => (if y369.length + y372.length < 8796093022208 then (gangsawref49_Works.l1 k x0 x1 (y369 ++ y372) x6 (wrap64 (x7 + 1))) else (none)))) else (none)))) else (none))) else (none)) else (none))) else (if 0 ≤ x9 then (none) else (none))) else (gangsawref49_Works.l1 k x0 x1 x5 x6 (wrap64 (x7 + 1)))))
end
def gangsawref49_Works.f (k : Nat) (l0 : List (S34)) (l1 : List (S47)) : Option (List ByteArray) := gangsawref49_Works.l0 k l0 l1 (([] : List ByteArray)) 0
def gangsawref49_Works.T13 : Bool × List (List Nat × List Nat) := (true, [([], []), ([], []), ([], []), ([1, 2], [1, 2]), ([0, 3], [0, 3]), ([], []), ([5], [5]), ([4, 6, 4], [4, 6]), ([], []), ([], []), ([8, 9], [8, 9]), ([7, 10, 7], [7, 10]), ([11, 11, 0, 1, 2, 3, 4, 5, 6, 7, 8, 9, 10, 11], [1, 8, 11])])
def gangsawref49_Works.B13 : List Nat := [0, 0, 0, 6, 15, 0, 32, 127, 0, 0, 768, 2047, 4095]
theorem gangsawref49_Works.tab13 : rtab .any (opsOf Try.f27 13) = gangsawref49_Works.T13 := by kernel_rfl
theorem gangsawref49_Works.bits13 : waitsOk gangsawref49_Works.T13.2 gangsawref49_Works.B13 = true := by kernel_rfl
set_option maxHeartbeats 8000000 in
set_option maxRecDepth 100000 in
theorem gangsawref49_Works.calls (k : Nat) (A0 : Option Addr) (c0 : Nat) (l0 : List (S34)) (A1 : Option Addr) (c1 : Nat) (l1 : List (S47)) (r : List ByteArray) (w : World) (hr0 : Kd.C k34 w A0 l0.length l0) (hc0 : l0.length ≤ c0) (hr1 : Kd.C k47 w A1 l1.length l1) (hc1 : l1.length ≤ c1) (h : gangsawref49_Works.f k l0 l1 = some r) :
  Calls Try.prog 27 #[.slice A0 l0.length c0, .slice A1 l1.length c1] w fun e w' => ∃ v0_ : Value, e = .returned (v0_) ∧ Kd.R Kd.string 9 w' w.heap.size (fun _ => True) v0_ r ∧ Below w.heap.size w w' := by
 have HR0 := Aside0.mk hr0
 have HC0 := Aside0.mk hc0
 clear hr0 hc0
 have HR1 := Aside0.mk hr1
 have HC1 := Aside0.mk hc1
 clear hr1 hc1
 have HB := Aside0.mk (Below.refl w.heap.size w)
 have H : (gangsawref49_Works.l0 k l0 l1 (([] : List ByteArray)) 0) = some r := h
 clear h
 obtain ⟨y296, hy296⟩ : ∃ y_ : List ByteArray, y_ = (([] : List ByteArray)) := ⟨_, rfl⟩
 replace H : (gangsawref49_Works.l0 k l0 l1 y296 0) = some r := by first | (rw [hy296]; with_reducible exact H) | (have H2_ := (Option.bind_some _ _).symm.trans H; rw [hy296]; with_reducible exact H2_) | (have H2_ := (Option.bind_some _ _).symm.trans H; with_reducible exact H2_) | with_reducible exact H | (rw [hy296]; exact H) | exact H
 have Ny296 := Aside0.mk hy296
 clear hy296
 have H' := Aside0.mk H
 clear H
 go_enter Try.func27, Try.ntmps27
 go_wp2_with (first | ((with_reducible refine gate_dst (N := 10) rfl ?_); (try (refine gate_guard (by rfl) ?_; dsimp only)); refine Kd.R_lit Kd.string _ 9 ?hg (N := 10) ?hd (xs := ([] : List ByteArray)) (inner := []) (ok := fun _ => True) (okp := fun _ => True) ?hr ?hp (fun _ hk => hk) trivial (Below.refl _ _) (Nat.le_refl _) (by simp) ?_; (case hd => rfl); (case hg => rfl); (case hr => first | (go_simp; done) | (go_simp; rfl)); (case hp => exact (Reps.none _ _)); intro v297 w3 ho4 hb hg_ hnew_; clear hg_ hnew_; (first | rw [← Ny296.out] at ho4 | (simp only [Int.reduceToNat] at ho4; rw [← Ny296.out] at ho4)); have n0_ := Aside0.mk (Kd.R_lower ho4 (below_size (by repeat (first | (with_reducible first | exact HB.out | apply below_alloc | apply pw_below_drewN | apply below_drew1) | exact HB.out)))); have n1_ := Aside0.mk (below_step (by repeat (first | (with_reducible first | exact HB.out | apply below_alloc | apply pw_below_drewN | apply below_drew1) | exact HB.out)) hb); clear HB; have HO298 := n0_; have HB := n1_; clear n0_ n1_; clear hb ho4))
 go_loopg [5, 6] k (fun kq v5 v6 w' => ∃ (x5_1 : List ByteArray) (x6_1 : Int), v6 = .int .i64 x6_1 ∧ Aside0 (gangsawref49_Works.l0 kq l0 l1 x5_1 x6_1 = some r) ∧ Aside0 (kq ≤ k) ∧ Aside0 (Kd.R Kd.string 9 w' w.heap.size (fun _ => True) v5 x5_1) ∧ Aside0 (Below w.heap.size w w'))
 case atStart => exact ⟨(y296), (0), (by first | rfl | (simp; done) | (simp [*]; done)), H', ⟨Nat.le_refl _⟩, ⟨by (with_reducible repeat (first | apply Kd.R_alloc | apply Kd.R_drewN | apply Kd.R_drew)); exact HO298.out⟩, ⟨by repeat (first | (with_reducible first | exact HB.out | apply below_alloc | apply pw_below_drewN | apply below_drew1) | exact HB.out)⟩⟩
 case round =>
  clear H'
  try clear c1
  try clear c2
  try clear p2
  obtain ⟨x5_1, x6_1, rfl, HA, HK1, HO_5, HB⟩ := hrel
  cases gk with
  | zero => exact absurd HA.out (by simp [gangsawref49_Works.l0])
  | succ k1 =>
   have H := HA.out
   clear HA
   simp only [gangsawref49_Works.l0] at H
   by_cases c5 : x6_1 < (l1.length : Int)
   ·rw [if_pos c5] at H
    have c5b0 : decide (x6_1 < (l1.length : Int)) = true := decide_eq_true c5
    clear c5
    have H' := Aside0.mk H
    clear H
    go_wp2
    go_loopg [5, 7] k1 (fun kq v5 v7 w' => ∃ (x5_2 : List ByteArray) (x7_2 : Int), v7 = .int .i64 x7_2 ∧ Aside0 (gangsawref49_Works.l1 kq l0 l1 x5_2 x6_1 x7_2 = some r) ∧ Aside0 (kq ≤ k1) ∧ Aside0 (Kd.R Kd.string 9 w' w.heap.size (fun _ => True) v5 x5_2) ∧ Aside0 (Below w.heap.size w w'))
    case atStart => exact ⟨(x5_1), (0), (by first | rfl | (simp; done) | (simp [*]; done)), H', ⟨Nat.le_refl _⟩, ⟨by (with_reducible repeat (first | apply Kd.R_alloc | apply Kd.R_drewN | apply Kd.R_drew)); exact HO_5.out⟩, ⟨by repeat (first | (with_reducible first | exact HB.out | apply below_alloc | apply pw_below_drewN | apply below_drew1) | exact HB.out)⟩⟩
    case round =>
     clear H'
     try clear c1
     try clear c2
     try clear p2
     try clear c5
     try clear c5b0
     try clear p2
     obtain ⟨x5_2, x7_2, rfl, HA, HK2, HO_5, HB⟩ := hrel
     cases gk with
     | zero => exact absurd HA.out (by simp [gangsawref49_Works.l1])
     | succ k2 =>
      have H := HA.out
      clear HA
      simp only [gangsawref49_Works.l1] at H
      by_cases c6 : 0 ≤ x6_1
      ·rw [if_pos c6] at H
       have c6b0 : decide (0 ≤ x6_1) = true := decide_eq_true c6
       clear c6
       by_cases c7 : x6_1 < (l1.length : Int)
       ·rw [if_pos c7] at H
        have c7b0 : decide (x6_1 < (l1.length : Int)) = true := decide_eq_true c7
        clear c7
        by_cases c8 : x7_2 < (((rd_T47 l1 x6_1).f1).length : Int)
        ·rw [if_pos c8] at H
         have c8b0 : decide (x7_2 < (((rd_T47 l1 x6_1).f1).length : Int)) = true := decide_eq_true c8
         clear c8
         by_cases c9 : 0 ≤ x7_2
         ·rw [if_pos c9] at H
          have c9b0 : decide (0 ≤ x7_2) = true := decide_eq_true c9
          clear c9
          have H' := Aside0.mk H
          clear H
          have p299 : 0 ≤ (x6_1 : Int) := of_decide_eq_true (by first | (with_reducible assumption) | assumption)
          have q299 : x6_1 < (l1.length : Int) := of_decide_eq_true (by first | (with_reducible assumption) | assumption)
          obtain ⟨ad299, A299_1, c299_1, e299, hx299_0, hx299_1, hx299_2, hx299_3, hx299_4, hl299_1, hi299_1⟩ := at_T47 HR1.out x6_1 p299 q299
          cases e299
          replace hx299_0 := (HB.out.cell (World.block_lt_of_cell? w _ hx299_0)).trans hx299_0
          replace hx299_1 := (HB.out.cell (World.block_lt_of_cell? w _ hx299_1)).trans hx299_1
          replace hx299_2 := (HB.out.cell (World.block_lt_of_cell? w _ hx299_2)).trans hx299_2
          replace hx299_3 := (HB.out.cell (World.block_lt_of_cell? w _ hx299_3)).trans hx299_3
          replace hx299_4 := (HB.out.cell (World.block_lt_of_cell? w _ hx299_4)).trans hx299_4
          have HR299_1 := Aside0.mk hi299_1
          have HC299_1 := Aside0.mk hl299_1
          clear hi299_1 hl299_1
          replace p299 := eq_true p299
          replace q299 := eq_true q299
          have p300 : 0 ≤ (x6_1 : Int) := of_decide_eq_true (by first | (with_reducible assumption) | assumption)
          have q300 : x6_1 < (l1.length : Int) := of_decide_eq_true (by first | (with_reducible assumption) | assumption)
          obtain ⟨ad300, A300_1, c300_1, e300, hx300_0, hx300_1, hx300_2, hx300_3, hx300_4, hl300_1, hi300_1⟩ := at_T47 HR1.out x6_1 p300 q300
          obtain rfl : ad299 = ad300 := (by injection e300)
          replace hx300_0 := (HB.out.cell (World.block_lt_of_cell? w _ hx300_0)).trans hx300_0
          replace hx300_1 := (HB.out.cell (World.block_lt_of_cell? w _ hx300_1)).trans hx300_1
          replace hx300_2 := (HB.out.cell (World.block_lt_of_cell? w _ hx300_2)).trans hx300_2
          replace hx300_3 := (HB.out.cell (World.block_lt_of_cell? w _ hx300_3)).trans hx300_3
          replace hx300_4 := (HB.out.cell (World.block_lt_of_cell? w _ hx300_4)).trans hx300_4
          have HR300_1 := Aside0.mk hi300_1
          have HC300_1 := Aside0.mk hl300_1
          clear hi300_1 hl300_1
          replace p300 := eq_true p300
          replace q300 := eq_true q300
          have ea_ := Option.some.inj (hx299_1.symm.trans hx300_1)
          injection ea_ with ea_ en_ ec_
          subst ea_
          subst ec_
          clear en_
          have p301 : 0 ≤ (x7_2 : Int) := of_decide_eq_true (by first | (with_reducible assumption) | assumption)
          have q301 : x7_2 < (((rd_T47 l1 x6_1).f1).length : Int) := of_decide_eq_true (by first | (with_reducible assumption) | assumption)
          obtain ⟨ad301, e301, hx301_0, hx301_1, hx301_2⟩ := at_T36 HR300_1.out x7_2 p301 q301
          cases e301
          replace hx301_0 := (HB.out.cell (World.block_lt_of_cell? w _ hx301_0)).trans hx301_0
          replace hx301_1 := (HB.out.cell (World.block_lt_of_cell? w _ hx301_1)).trans hx301_1
          replace hx301_2 := (HB.out.cell (World.block_lt_of_cell? w _ hx301_2)).trans hx301_2
          replace p301 := eq_true p301
          replace q301 := eq_true q301
          go_wp2
          go_loopg [9] k2 (fun kq v9 w' => ∃ (x9_3 : Int), v9 = .int .i64 x9_3 ∧ Aside0 (gangsawref49_Works.l2 kq l0 l1 x5_2 x6_1 x7_2 ((rd_T36 ((rd_T47 l1 x6_1).f1) x7_2).f0) x9_3 = some r) ∧ Aside0 (kq ≤ k2) ∧ Aside0 (Kd.R Kd.string 9 w' w.heap.size (fun _ => True) u5 x5_2) ∧ Aside0 (Below w.heap.size w w'))
          case atStart => exact ⟨(0), (by first | rfl | (simp; done) | (simp [*]; done)), H', ⟨Nat.le_refl _⟩, ⟨by (with_reducible repeat (first | apply Kd.R_alloc | apply Kd.R_drewN | apply Kd.R_drew)); exact HO_5.out⟩, ⟨by repeat (first | (with_reducible first | exact HB.out | apply below_alloc | apply pw_below_drewN | apply below_drew1) | exact HB.out)⟩⟩
          case round =>
           clear H'
           try clear c1
           try clear c2
           try clear p2
           try clear q2
           try clear hx2
           try clear c3
           try clear p3
           try clear q3
           try clear hx3
           try clear c5
           try clear c5b0
           try clear c6
           try clear c6b0
           try clear c7
           try clear c7b0
           try clear c8
           try clear c8b0
           try clear c9
           try clear c9b0
           try clear hx299_0
           try clear hx299_1
           try clear hx299_2
           try clear hx299_3
           try clear hx299_4
           try clear hx300_0
           try clear hx300_1
           try clear hx300_2
           try clear hx300_3
           try clear hx300_4
           try clear hx301_0
           try clear hx301_1
           try clear hx301_2
           try clear p2
           try clear p299
           try clear p300
           try clear p301
           try clear q299
           try clear q300
           try clear q301
           obtain ⟨x9_3, rfl, HA, HK3, HO_5, HB⟩ := hrel
           cases gk with
           | zero => exact absurd HA.out (by simp [gangsawref49_Works.l2])
           | succ k3 =>
            have H := HA.out
            clear HA
            simp only [gangsawref49_Works.l2] at H
            by_cases c10 : x9_3 < (x5_2.length : Int)
            ·rw [if_pos c10] at H
             have c10b0 : decide (x9_3 < (x5_2.length : Int)) = true := decide_eq_true c10
             clear c10
             by_cases c11 : 0 ≤ x9_3
             ·rw [if_pos c11] at H
              have c11b0 : decide (0 ≤ x9_3) = true := decide_eq_true c11
              clear c11
              by_cases c12 : (Op.bytesLess ((rdOf ByteArray.empty x5_2 x9_3).toList) ((rd_T36 ((rd_T47 l1 x6_1).f1) x7_2).f0).toList) = true
              ·rw [if_pos c12] at H
               have c12b0 : (Op.bytesLess ((rdOf ByteArray.empty x5_2 x9_3).toList) ((rd_T36 ((rd_T47 l1 x6_1).f1) x7_2).f0).toList) = true := c12
               clear c12
               have H' := Aside0.mk H
               clear H
               obtain ⟨Ao13, co13, eo13⟩ := Kd.R_slice HO_5.out
               subst eo13
               have p302 : 0 ≤ (x9_3 : Int) := of_decide_eq_true (by first | (with_reducible assumption) | assumption)
               have q302 : x9_3 < (x5_2.length : Int) := of_decide_eq_true (by first | (with_reducible assumption) | assumption)
               obtain ⟨ad302, e302, hx302_0⟩ := Kd.at_string (Kd.R_reads' HO_5.out).2.2 x9_3 p302 q302
               cases e302
               replace p302 := eq_true p302
               replace q302 := eq_true q302
               go_wp2
               go_roundg k3
               case measure => have := HK1.out; have := HK2.out; have := HK3.out; omega
               case rel => exact ⟨(wrap64 (x9_3 + 1)), (by first | rfl | (simp; done) | (simp [*]; done)), H', ⟨by have := HK1.out; have := HK2.out; have := HK3.out; omega⟩, ⟨by (with_reducible repeat (first | apply Kd.R_alloc | apply Kd.R_drewN | apply Kd.R_drew)); exact HO_5.out⟩, ⟨by repeat (first | (with_reducible first | exact HB.out | apply below_alloc | apply pw_below_drewN | apply below_drew1) | exact HB.out)⟩⟩
              ·rw [if_neg c12] at H
               have c12b0 : (Op.bytesLess ((rdOf ByteArray.empty x5_2 x9_3).toList) ((rd_T36 ((rd_T47 l1 x6_1).f1) x7_2).f0).toList) = false := by simpa using c12
               clear c12
               replace H := Option.bind_eq_some_iff.mp H
               obtain ⟨t303, A140, H⟩ := H
               replace H : (if (t303.length : Int) = 0 then (if x9_3 = (x5_2.length : Int) then ((some (([] : List ByteArray) : List ByteArray)).bind fun y306 => (if x9_3 ≤ (x5_2.length : Int) then ((some (x5_2.take (x9_3 : Int).toNat : List ByteArray)).bind fun y309 => (if y306.length + y309.length < 8796093022208 then ((some (y306 ++ y309 : List ByteArray)).bind fun y313 => ((some (([((rd_T36 ((rd_T47 l1 x6_1).f1) x7_2).f0)] : List ByteArray) : List ByteArray)).bind fun y316 => (if y313.length + y316.length < 8796093022208 then ((some (y313 ++ y316 : List ByteArray)).bind fun y319 => ((some (x5_2.drop (x9_3 : Int).toNat : List ByteArray)).bind fun y322 => (if y319.length + y322.length < 8796093022208 then (gangsawref49_Works.l1 k3 l0 l1 (y319 ++ y322) x6_1 (wrap64 (x7_2 + 1))) else (none)))) else (none)))) else (none))) else (none))) else (if (rdOf ByteArray.empty x5_2 x9_3).toList = ((rd_T36 ((rd_T47 l1 x6_1).f1) x7_2).f0).toList then (gangsawref49_Works.l1 k3 l0 l1 x5_2 x6_1 (wrap64 (x7_2 + 1))) else ((some (([] : List ByteArray) : List ByteArray)).bind fun y330 => (if x9_3 ≤ (x5_2.length : Int) then ((some (x5_2.take (x9_3 : Int).toNat : List ByteArray)).bind fun y333 => (if y330.length + y333.length < 8796093022208 then ((some (y330 ++ y333 : List ByteArray)).bind fun y337 => ((some (([((rd_T36 ((rd_T47 l1 x6_1).f1) x7_2).f0)] : List ByteArray) : List ByteArray)).bind fun y340 => (if y337.length + y340.length < 8796093022208 then ((some (y337 ++ y340 : List ByteArray)).bind fun y343 => ((some (x5_2.drop (x9_3 : Int).toNat : List ByteArray)).bind fun y346 => (if y343.length + y346.length < 8796093022208 then (gangsawref49_Works.l1 k3 l0 l1 (y343 ++ y346) x6_1 (wrap64 (x7_2 + 1))) else (none)))) else (none)))) else (none))) else (none))))) else (gangsawref49_Works.l1 k3 l0 l1 x5_2 x6_1 (wrap64 (x7_2 + 1)))) = some r := H
               have A14 := Aside0.mk A140
               clear A140
               by_cases c15 : (t303.length : Int) = 0
               ·rw [if_pos c15] at H
                have c15b0 : ((t303.length : Int) == 0) = true := beq_iff_eq.mpr c15
                have c15b1 : ((t303.length : Int) != 0) = false := bne_eq_false_iff_eq.mpr c15
                clear c15
                by_cases c16 : x9_3 = (x5_2.length : Int)
                ·rw [if_pos c16] at H
                 have c16b0 : (x9_3 == (x5_2.length : Int)) = true := beq_iff_eq.mpr c16
                 have c16b1 : (x9_3 != (x5_2.length : Int)) = false := bne_eq_false_iff_eq.mpr c16
                 clear c16
                 obtain ⟨y306, hy306⟩ : ∃ y_ : List ByteArray, y_ = (([] : List ByteArray)) := ⟨_, rfl⟩
                 replace H : (if x9_3 ≤ (x5_2.length : Int) then ((some (x5_2.take (x9_3 : Int).toNat : List ByteArray)).bind fun y309 => (if y306.length + y309.length < 8796093022208 then ((some (y306 ++ y309 : List ByteArray)).bind fun y313 => ((some (([((rd_T36 ((rd_T47 l1 x6_1).f1) x7_2).f0)] : List ByteArray) : List ByteArray)).bind fun y316 => (if y313.length + y316.length < 8796093022208 then ((some (y313 ++ y316 : List ByteArray)).bind fun y319 => ((some (x5_2.drop (x9_3 : Int).toNat : List ByteArray)).bind fun y322 => (if y319.length + y322.length < 8796093022208 then (gangsawref49_Works.l1 k3 l0 l1 (y319 ++ y322) x6_1 (wrap64 (x7_2 + 1))) else (none)))) else (none)))) else (none))) else (none)) = some r := by first | (rw [hy306]; with_reducible exact H) | (have H2_ := (Option.bind_some _ _).symm.trans H; rw [hy306]; with_reducible exact H2_) | (have H2_ := (Option.bind_some _ _).symm.trans H; with_reducible exact H2_) | with_reducible exact H | (rw [hy306]; exact H) | exact H
                 have Ny306 := Aside0.mk hy306
                 clear hy306
                 have c17b0 := eq_true (of_decide_eq_true (by first | (with_reducible assumption) | assumption) : 0 ≤ x9_3)
                 by_cases c18 : x9_3 ≤ (x5_2.length : Int)
                 ·rw [if_pos c18] at H
                  have c18b0 := eq_true c18
                  have c18b1 : decide (x9_3 ≤ (x5_2.length : Int)) = true := decide_eq_true c18
                  clear c18
                  obtain ⟨y309, hy309⟩ : ∃ y_ : List ByteArray, y_ = (x5_2.take (x9_3 : Int).toNat) := ⟨_, rfl⟩
                  replace H : (if y306.length + y309.length < 8796093022208 then ((some (y306 ++ y309 : List ByteArray)).bind fun y313 => ((some (([((rd_T36 ((rd_T47 l1 x6_1).f1) x7_2).f0)] : List ByteArray) : List ByteArray)).bind fun y316 => (if y313.length + y316.length < 8796093022208 then ((some (y313 ++ y316 : List ByteArray)).bind fun y319 => ((some (x5_2.drop (x9_3 : Int).toNat : List ByteArray)).bind fun y322 => (if y319.length + y322.length < 8796093022208 then (gangsawref49_Works.l1 k3 l0 l1 (y319 ++ y322) x6_1 (wrap64 (x7_2 + 1))) else (none)))) else (none)))) else (none)) = some r := by first | (rw [hy309]; with_reducible exact H) | (have H2_ := (Option.bind_some _ _).symm.trans H; rw [hy309]; with_reducible exact H2_) | (have H2_ := (Option.bind_some _ _).symm.trans H; with_reducible exact H2_) | with_reducible exact H | (rw [hy309]; exact H) | exact H
                  have Ny309 := Aside0.mk hy309
                  clear hy309
                  by_cases c19 : y306.length + y309.length < 8796093022208
                  ·rw [if_pos c19] at H
                   have LMc19 := Aside0.mk c19
                   clear c19
                   obtain ⟨y313, hy313⟩ : ∃ y_ : List ByteArray, y_ = (y306 ++ y309) := ⟨_, rfl⟩
                   replace H : ((some (([((rd_T36 ((rd_T47 l1 x6_1).f1) x7_2).f0)] : List ByteArray) : List ByteArray)).bind fun y316 => (if y313.length + y316.length < 8796093022208 then ((some (y313 ++ y316 : List ByteArray)).bind fun y319 => ((some (x5_2.drop (x9_3 : Int).toNat : List ByteArray)).bind fun y322 => (if y319.length + y322.length < 8796093022208 then (gangsawref49_Works.l1 k3 l0 l1 (y319 ++ y322) x6_1 (wrap64 (x7_2 + 1))) else (none)))) else (none))) = some r := by first | (rw [hy313]; with_reducible exact H) | (have H2_ := (Option.bind_some _ _).symm.trans H; rw [hy313]; with_reducible exact H2_) | (have H2_ := (Option.bind_some _ _).symm.trans H; with_reducible exact H2_) | with_reducible exact H | (rw [hy313]; exact H) | exact H
                   have Ny313 := Aside0.mk hy313
                   clear hy313
                   obtain ⟨y316, hy316⟩ : ∃ y_ : List ByteArray, y_ = (([((rd_T36 ((rd_T47 l1 x6_1).f1) x7_2).f0)] : List ByteArray)) := ⟨_, rfl⟩
                   replace H : (if y313.length + y316.length < 8796093022208 then ((some (y313 ++ y316 : List ByteArray)).bind fun y319 => ((some (x5_2.drop (x9_3 : Int).toNat : List ByteArray)).bind fun y322 => (if y319.length + y322.length < 8796093022208 then (gangsawref49_Works.l1 k3 l0 l1 (y319 ++ y322) x6_1 (wrap64 (x7_2 + 1))) else (none)))) else (none)) = some r := by first | (rw [hy316]; with_reducible exact H) | (have H2_ := (Option.bind_some _ _).symm.trans H; rw [hy316]; with_reducible exact H2_) | (have H2_ := (Option.bind_some _ _).symm.trans H; with_reducible exact H2_) | with_reducible exact H | (rw [hy316]; exact H) | exact H
                   have Ny316 := Aside0.mk hy316
                   clear hy316
                   by_cases c20 : y313.length + y316.length < 8796093022208
                   ·rw [if_pos c20] at H
                    have LMc20 := Aside0.mk c20
                    clear c20
                    obtain ⟨y319, hy319⟩ : ∃ y_ : List ByteArray, y_ = (y313 ++ y316) := ⟨_, rfl⟩
                    replace H : ((some (x5_2.drop (x9_3 : Int).toNat : List ByteArray)).bind fun y322 => (if y319.length + y322.length < 8796093022208 then (gangsawref49_Works.l1 k3 l0 l1 (y319 ++ y322) x6_1 (wrap64 (x7_2 + 1))) else (none))) = some r := by first | (rw [hy319]; with_reducible exact H) | (have H2_ := (Option.bind_some _ _).symm.trans H; rw [hy319]; with_reducible exact H2_) | (have H2_ := (Option.bind_some _ _).symm.trans H; with_reducible exact H2_) | with_reducible exact H | (rw [hy319]; exact H) | exact H
                    have Ny319 := Aside0.mk hy319
                    clear hy319
                    have c21b0 := eq_true (of_decide_eq_true (by first | (with_reducible assumption) | assumption) : 0 ≤ x9_3)
                    have c22b0 := eq_true (of_decide_eq_true (by first | (with_reducible assumption) | assumption) : x9_3 ≤ (x5_2.length : Int))
                    obtain ⟨y322, hy322⟩ : ∃ y_ : List ByteArray, y_ = (x5_2.drop (x9_3 : Int).toNat) := ⟨_, rfl⟩
                    replace H : (if y319.length + y322.length < 8796093022208 then (gangsawref49_Works.l1 k3 l0 l1 (y319 ++ y322) x6_1 (wrap64 (x7_2 + 1))) else (none)) = some r := by first | (rw [hy322]; with_reducible exact H) | (have H2_ := (Option.bind_some _ _).symm.trans H; rw [hy322]; with_reducible exact H2_) | (have H2_ := (Option.bind_some _ _).symm.trans H; with_reducible exact H2_) | with_reducible exact H | (rw [hy322]; exact H) | exact H
                    have Ny322 := Aside0.mk hy322
                    clear hy322
                    by_cases c23 : y319.length + y322.length < 8796093022208
                    ·rw [if_pos c23] at H
                     have LMc23 := Aside0.mk c23
                     clear c23
                     obtain ⟨y326, hy326⟩ : ∃ y_ : List ByteArray, y_ = (y319 ++ y322) := ⟨_, rfl⟩
                     replace H : (gangsawref49_Works.l1 k3 l0 l1 y326 x6_1 (wrap64 (x7_2 + 1))) = some r := by first | (rw [hy326]; with_reducible exact H) | (have H2_ := (Option.bind_some _ _).symm.trans H; rw [hy326]; with_reducible exact H2_) | (have H2_ := (Option.bind_some _ _).symm.trans H; with_reducible exact H2_) | with_reducible exact H | (rw [hy326]; exact H) | exact H
                     have Ny326 := Aside0.mk hy326
                     clear hy326
                     have H' := Aside0.mk H
                     clear H
                     obtain ⟨Ao24, co24, eo24⟩ := Kd.R_slice HO_5.out
                     subst eo24
                     have p302 : 0 ≤ (x9_3 : Int) := of_decide_eq_true (by first | (with_reducible assumption) | assumption)
                     have q302 : x9_3 < (x5_2.length : Int) := of_decide_eq_true (by first | (with_reducible assumption) | assumption)
                     obtain ⟨ad302, e302, hx302_0⟩ := Kd.at_string (Kd.R_reads' HO_5.out).2.2 x9_3 p302 q302
                     cases e302
                     replace p302 := eq_true p302
                     replace q302 := eq_true q302
                     try go_wp2_with (first | ((with_reducible refine gate_callee (f := 13) rfl ?_); refine goesL_ (some 52) rfl rfl Try.func13 (by kernel_rfl) rfl #[.slice A0 l0.length c0, .string ((rd_T36 ((rd_T47 l1 x6_1).f1) x7_2).f0)] rfl (by (try simp only [List.map_toArray, List.map_cons, List.map_nil]); first | done | rfl | (simp only [List.length_drop, List.length_take]; rfl)) ?_; (with_reducible refine (gangsawref49_Who.calls k3 _ _ l0 ((rd_T36 ((rd_T47 l1 x6_1).f1) x7_2).f0) t303 _ ?side1 ?side2 A14.out).mono ?_); (case side1 => repeat (first | exact (Kd.C_below HR0.out HB.out) | (with_reducible refine Kd.C_alloc ?_ _) | (with_reducible refine Kd.C_drewN ?_ _) | (with_reducible refine Kd.C_drew ?_))); (case side2 => exact HC0.out); rintro e w25 ⟨v304, rfl, ho0, hb⟩; refine ⟨_, rfl, ?_⟩; have n0_ := Aside0.mk (Kd.R_below (by (with_reducible repeat (first | apply Kd.R_alloc | apply Kd.R_drewN | apply Kd.R_drew)); exact HO_5.out) hb); have n1_ := Aside0.mk (Kd.R_lower ho0 (below_size (by repeat (first | (with_reducible first | exact HB.out | apply below_alloc | apply pw_below_drewN | apply below_drew1) | exact HB.out)))); have n2_ := Aside0.mk (below_step (by repeat (first | (with_reducible first | exact HB.out | apply below_alloc | apply pw_below_drewN | apply below_drew1) | exact HB.out)) hb); clear HO_5; clear HB; have HO_5 := n0_; have HO305 := n1_; have HB := n2_; clear n0_ n1_ n2_; (try clear hb); (try clear hb2); (try clear hk); (try clear hi); (try clear ho0); obtain ⟨Ao26, co26, eo26⟩ := Kd.R_slice HO305.out; subst eo26))
                     have n0_ := Aside0.mk (Kd.R_drew HO_5.out)
                     have n1_ := Aside0.mk (Kd.R_drew HO305.out)
                     have n2_ := Aside0.mk (below_drew1 HB.out)
                     clear HO_5
                     clear HO305
                     clear HB
                     have HO_5 := n0_
                     have HO305 := n1_
                     have HB := n2_
                     clear n0_ n1_ n2_
                     have q28 : (x9_3 : Int) ≤ ((x5_2.length : Int) : Int) := of_decide_eq_true (by first | (with_reducible assumption) | assumption)
                     obtain ⟨i028, hi028, _, hsz28, _⟩ := info_parts info9
                     have hroom28 : x5_2.length ≤ co24 := (Kd.R_reads' HO_5.out).2.1
                     have hC28 : Kd.C Kd.string _ (some ad302) x5_2.length x5_2 := (Kd.R_reads' HO_5.out).2.2
                     have hcut28 := cut_to (P := Try.prog) 52 9 .i64 Try.underlying52 hi028 (some ad302) x5_2.length co24 x9_3 (of_decide_eq_true (by first | (with_reducible assumption) | assumption)) q28 hroom28
                     have hr28 := Kd.C_take (m := (x9_3 : Int).toNat) hC28 (by omega)
                     have hy28 : y309.length = (x9_3 : Int).toNat := (by rw [Ny309.out, List.length_take]; omega)
                     rw [← Ny309.out] at hr28
                     rw [← hy28] at hcut28
                     have HR312 := Aside0.mk hr28
                     have HC312 := Aside0.mk (show y309.length ≤ co24 from by omega)
                     clear hr28 hC28 hroom28 hi028 hsz28
                     have KY28 := Aside0.mk hy28
                     clear hy28
                     have KL28 := Aside0.mk (show (x9_3 : Int).toNat ≤ x5_2.length from by omega)
                     replace q28 := eq_true q28
                     have q29 : (x9_3 : Int) ≤ ((x5_2.length : Int) : Int) := of_decide_eq_true (by first | (with_reducible assumption) | assumption)
                     obtain ⟨i029, hi029, _, hsz29, _⟩ := info_parts info9
                     have hroom29 : x5_2.length ≤ co24 := (Kd.R_reads' HO_5.out).2.1
                     have hC29 : Kd.C Kd.string _ (some ad302) x5_2.length x5_2 := (Kd.R_reads' HO_5.out).2.2
                     have q029 : (0 : Int) ≤ (x9_3 : Int) := of_decide_eq_true (by first | (with_reducible assumption) | assumption)
                     have hcut29 := cut_from (P := Try.prog) 52 9 .i64 Try.underlying52 hi029 1 hsz29 (some ad302) x5_2.length co24 x9_3 q029 q29
                     have hr29 := Kd.C_drop (m := (x9_3 : Int).toNat) (c := co24) hC29 (by omega) hroom29
                     obtain ⟨A29, hA29⟩ : ∃ A1, A1 = (if co24 = (x9_3 : Int).toNat then (some ad302) else ((some ad302) : Option Addr).map (·.add ((x9_3 : Int).toNat * 1))) := ⟨_, rfl⟩
                     obtain ⟨c29, hc29⟩ : ∃ c1, c1 = co24 - (x9_3 : Int).toNat := ⟨_, rfl⟩
                     have hy29 : y322.length = x5_2.length - (x9_3 : Int).toNat := (by rw [Ny322.out, List.length_drop] <;> omega)
                     rw [show (x5_2).drop (x9_3 : Int).toNat = y322 from Ny322.out.symm] at hr29
                     replace hr29 : Kd.C Kd.string _ A29 y322.length y322 := (by rw [hA29]; exact hr29)
                     rw [← hy29, ← hA29, ← hc29] at hcut29
                     have HR325 := Aside0.mk hr29
                     have HC325 := Aside0.mk (show y322.length ≤ c29 from by rw [hy29, hc29]; exact Nat.sub_le_sub_right hroom29 _)
                     clear hr29 hC29 hroom29 hi029 hsz29 hc29
                     have KY29 := Aside0.mk hy29
                     have KA29 := Aside0.mk hA29
                     clear hy29 hA29
                     have KL29 := Aside0.mk (show (x9_3 : Int).toNat ≤ x5_2.length from by omega)
                     replace q29 := eq_true q29
                     refine start_ (n := 13) (S := fun w' => True) (ds := []) #[false, false, false, false, false, false, false, false, false, false, false, false, false] (by kernel_rfl) rfl rfl trivial (fun hHeld => ?_); refine with_tabW gangsawref49_Works.tab13 gangsawref49_Works.bits13 (fun HT_ HW_ => ?_)
                     generalize w25.drew = w27 at HO_5 HO305 HB HR312 HR325 hHeld ⊢
                     refine pure_ (i := 1) (N := some 70) (v := ?_) (a' := ?_) #[false, true, false, false, false, false, false, false, false, false, false, false, false] rfl rfl (any_of HT_.out (by kernel_rfl)) (fun _ _ _ h => h) (Or.inl ⟨by rfl, ?_⟩) ?_ ?_
                     rotate_left
                     ·intro w'
                      go_simp
                      with_reducible rfl
                     rotate_left
                     ·simp only [Act.put, List.setIfInBounds_toArray, List.set_cons_zero, List.set_cons_succ, i64_w, i32_w]
                      rfl
                     refine pure_ (i := 2) (N := some 71) (v := ?_) (a' := ?_) #[false, true, true, false, false, false, false, false, false, false, false, false, false] rfl rfl (any_of HT_.out (by kernel_rfl)) (fun _ _ _ h => h) (Or.inl ⟨by rfl, ?_⟩) ?_ ?_
                     rotate_left
                     ·intro w'
                      go_simp
                      with_reducible rfl
                     rotate_left
                     ·simp only [Act.put, List.setIfInBounds_toArray, List.set_cons_zero, List.set_cons_succ, i64_w, i32_w]
                      rfl
                     refine pure_ (i := 3) (N := some 72) (v := ?_) (a' := ?_) #[false, true, true, true, false, false, false, false, false, false, false, false, false] rfl rfl (any_of HT_.out (by kernel_rfl)) (fun _ _ _ h => h) (Or.inl ⟨by rfl, ?_⟩) ?_ ?_
                     rotate_left
                     ·intro w'
                      go_simp
                      with_reducible rfl
                     rotate_left
                     ·simp only [Act.put, List.setIfInBounds_toArray, List.set_cons_zero, List.set_cons_succ, i64_w, i32_w]
                      rfl
                     refine pure_ (i := 5) (N := some 74) (v := ?_) (a' := ?_) #[false, true, true, true, false, true, false, false, false, false, false, false, false] rfl rfl (any_of HT_.out (by kernel_rfl)) (fun _ _ _ h => h) (Or.inl ⟨by rfl, ?_⟩) ?_ ?_
                     rotate_left
                     ·intro w'
                      go_simp
                      with_reducible rfl
                     rotate_left
                     ·simp only [Act.put, List.setIfInBounds_toArray, List.set_cons_zero, List.set_cons_succ, i64_w, i32_w]
                      rfl
                     refine pure_ (i := 8) (N := some 77) (v := ?_) (a' := ?_) #[false, true, true, true, false, true, false, false, true, false, false, false, false] rfl rfl (any_of HT_.out (by kernel_rfl)) (fun _ _ _ h => h) (Or.inl ⟨by rfl, ?_⟩) ?_ ?_
                     rotate_left
                     ·intro w'
                      go_simp
                      with_reducible rfl
                     rotate_left
                     ·simp only [Act.put, List.setIfInBounds_toArray, List.set_cons_zero, List.set_cons_succ, i64_w, i32_w]
                      rfl
                     refine pure_ (i := 9) (N := some 78) (v := ?_) (a' := ?_) #[false, true, true, true, false, true, false, false, true, true, false, false, false] rfl rfl (any_of HT_.out (by kernel_rfl)) (fun _ _ _ h => h) (Or.inl ⟨by rfl, ?_⟩) ?_ ?_
                     rotate_left
                     ·intro w'
                      go_simp
                      with_reducible rfl
                     rotate_left
                     ·simp only [Act.put, List.setIfInBounds_toArray, List.set_cons_zero, List.set_cons_succ, i64_w, i32_w]
                      rfl
                     refine pure_ (i := 10) (N := some 79) (v := ?_) (a' := ?_) #[false, true, true, true, false, true, false, false, true, true, true, false, false] rfl rfl (any_of HT_.out (by kernel_rfl)) (fun _ _ _ h => h) (Or.inl ⟨by rfl, ?_⟩) ?_ ?_
                     rotate_left
                     ·intro w'
                      go_simp
                      with_reducible rfl
                     rotate_left
                     ·simp only [Act.put, List.setIfInBounds_toArray, List.set_cons_zero, List.set_cons_succ, i64_w, i32_w]
                      rfl
                     refine join_ (σ := Value × Value × Value) 3 #[true, true, true, true, true, true, true, false, true, true, true, false, false] (fun s_ => [(69, s_.1), (73, s_.2.1), (75, s_.2.2)]) (fun s_ w' => (Kd.R (Kd.int .i64) 3 w' w.heap.size (fun _ => True) (.slice Ao26 t303.length co26) t303) ∧ (Kd.R Kd.string 9 w' w.heap.size (fun k_ => some k_ ≠ (s_.2.2 : Value).ownBlock ∧ some k_ ≠ (.slice (some ad302) x5_2.length co24 : Value).ownBlock) s_.2.1 y313) ∧ (Kd.R Kd.string 9 w' w.heap.size (fun k_ => some k_ ≠ (s_.2.1 : Value).ownBlock ∧ some k_ ≠ (.slice (some ad302) x5_2.length co24 : Value).ownBlock) s_.2.2 y316) ∧ (Kd.R Kd.string 9 w' w.heap.size (fun k_ => some k_ ≠ (s_.2.1 : Value).ownBlock ∧ some k_ ≠ (s_.2.2 : Value).ownBlock) (.slice (some ad302) x5_2.length co24) x5_2) ∧ (Kd.C Kd.string w' (some ad302) y309.length y309) ∧ (Kd.C Kd.string w' A29 y322.length y322) ∧ (Below w.heap.size w w')) ?_ ?_
                     rotate_left
                     ·intro hCont
                      refine two_ (i := 0) (j := 6) (Ni := some 69) (Nj := some 75) #[true, true, true, true, false, true, false, false, true, true, true, false, false] #[false, true, true, true, false, true, true, false, true, true, true, false, false] rfl rfl rfl rfl (two_of HT_.out (by kernel_rfl)) (by decide) (by decide) (fun K hK => ?_) (fun K hK => ?_)
                      ·skip
                       refine Kd.R_lit_step Kd.string _ 9 ?hg (N := 69) ?hd (xs := ([] : List ByteArray)) (inner := []) (ok := fun _ => True) (okp := fun _ => True) ?hr ?hp (fun _ hk => hk) trivial (Below.refl _ _) (Nat.le_refl _) (by simp) ?_; (case hd => rfl); (case hg => rfl); (case hr => first | (go_simp; done) | (go_simp; rfl)); (case hp => exact (Reps.none _ _))
                       intro v307 w30 ho31 hb hg_ hnew_
                       clear hg_ hnew_
                       (first | rw [← Ny306.out] at ho31 | (simp only [Int.reduceToNat] at ho31; rw [← Ny306.out] at ho31))
                       have n0_ := Aside0.mk (Kd.R_elder' (by (with_reducible repeat (first | apply Kd.R_alloc | apply Kd.R_drewN | apply Kd.R_drew)); exact HO_5.out) (Kd.R_base ho31) hb)
                       have n1_ := Aside0.mk (Kd.R_below (by (with_reducible repeat (first | apply Kd.R_alloc | apply Kd.R_drewN | apply Kd.R_drew)); exact HO305.out) hb)
                       have n2_ := Aside0.mk (Kd.R_lower (Kd.R_new' ho31 (Kd.R_lt (by (with_reducible repeat (first | apply Kd.R_alloc | apply Kd.R_drewN | apply Kd.R_drew)); exact HO_5.out))) (below_size (by repeat (first | (with_reducible first | exact HB.out | apply below_alloc | apply pw_below_drewN | apply below_drew1) | exact HB.out))))
                       have n3_ := Aside0.mk (Kd.C_below (by repeat (first | (with_reducible exact HR312.out) | (with_reducible refine Kd.C_alloc ?_ _) | (with_reducible refine Kd.C_drewN ?_ _) | (with_reducible refine Kd.C_drew ?_) | exact HR312.out)) hb)
                       have n4_ := Aside0.mk (Kd.C_below (by repeat (first | (with_reducible exact HR325.out) | (with_reducible refine Kd.C_alloc ?_ _) | (with_reducible refine Kd.C_drewN ?_ _) | (with_reducible refine Kd.C_drew ?_) | exact HR325.out)) hb)
                       have n5_ := Aside0.mk (below_step (by repeat (first | (with_reducible first | exact HB.out | apply below_alloc | apply pw_below_drewN | apply below_drew1) | exact HB.out)) hb)
                       clear HO_5
                       clear HO305
                       clear HR312
                       clear HR325
                       clear HB
                       have HO_5 := n0_
                       have HO305 := n1_
                       have HO308 := n2_
                       have HR312 := n3_
                       have HR325 := n4_
                       have HB := n5_
                       clear n0_ n1_ n2_ n3_ n4_ n5_
                       clear hb ho31
                       refine hK.out _ _ trivial (fun hHeld => ?_)
                       clear hK K
                       refine norm_ (a' := ?_) ?_ ?_
                       rotate_left
                       ·show Act.put _ (some 69) _ = _
                        simp only [Act.put, List.setIfInBounds_toArray, List.set_cons_zero, List.set_cons_succ, i64_w, i32_w]
                        rfl
                       refine two_ (i := 4) (j := 6) (Ni := some 73) (Nj := some 75) #[true, true, true, true, true, true, false, false, true, true, true, false, false] #[true, true, true, true, false, true, true, false, true, true, true, false, false] rfl rfl rfl rfl (two_of HT_.out (by kernel_rfl)) (by decide) (by decide) (fun K hK => ?_) (fun K hK => ?_)
                       ·skip
                        refine Kd.R_append_rows_step Kd.string (w0 := w) w.heap.size (by rfl) (.tmp 69) (.tmp 72) 52 9 (.string ⟨#[]⟩) 16 rfl Try.underlying52 info9 rfl (by decide) (by omega) v307 y306 y309 _ _ _ (fun k_ => some k_ ≠ (.slice (some ad302) x5_2.length co24 : Value).ownBlock) (fun _ => False) rfl rfl ?aO ?aR (fun _ _ h => h) (fun _ h => h.elim) ?aF ?aB ?aS ?aL ?_
                        (case aR => repeat (first | exact (by repeat (first | (with_reducible exact HR312.out) | (with_reducible refine Kd.C_alloc ?_ _) | (with_reducible refine Kd.C_drewN ?_ _) | (with_reducible refine Kd.C_drew ?_) | exact HR312.out)) | (with_reducible refine Kd.C_alloc ?_ _) | (with_reducible refine Kd.C_drewN ?_ _) | (with_reducible refine Kd.C_drew ?_)))
                        (case aB => exact (by repeat (first | (with_reducible first | exact HB.out | apply below_alloc | apply pw_below_drewN | apply below_drew1) | exact HB.out)))
                        (case aF => exact (fun k_ hk => Kd.fresh' (Kd.R_lt (by (with_reducible repeat (first | apply Kd.R_alloc | apply Kd.R_drewN | apply Kd.R_drew)); exact HO_5.out)) k_ hk))
                        (case aO => exact (by (with_reducible repeat (first | apply Kd.R_alloc | apply Kd.R_drewN | apply Kd.R_drew)); exact Kd.R_mono HO308.out (fun _ hk => hk.2)))
                        (case aS => exact (below_size (by repeat (first | (with_reducible first | exact HB.out | apply below_alloc | apply pw_below_drewN | apply below_drew1) | exact HB.out))))
                        (case aL => have := LMc19.out; omega)
                        intro v314 w32 ho hb hg hat
                        rw [← Ny313.out] at ho
                        have n0_ := Aside0.mk (Kd.R_after (ok := (fun _ => True)) (by (with_reducible repeat (first | apply Kd.R_alloc | apply Kd.R_drewN | apply Kd.R_drew)); exact HO_5.out) hg hat)
                        have n1_ := Aside0.mk (Kd.R_over' (by (with_reducible repeat (first | apply Kd.R_alloc | apply Kd.R_drewN | apply Kd.R_drew)); exact HO305.out) (Kd.R_typed (by (with_reducible repeat (first | apply Kd.R_alloc | apply Kd.R_drewN | apply Kd.R_drew)); exact HO308.out)) (by decide) hg)
                        have n2_ := Aside0.mk (hb)
                        have n3_ := Aside0.mk ((show Kd.C Kd.string w32 (some ad302) y309.length y309 from by rw [Ny309.out]; exact Kd.C_take (m := (x9_3 : Int).toNat) ((Kd.R_reads' (Kd.R_after (ok := (fun _ => True)) (by (with_reducible repeat (first | apply Kd.R_alloc | apply Kd.R_drewN | apply Kd.R_drew)); exact HO_5.out) hg hat)).2.2) KL28.out))
                        have n4_ := Aside0.mk ((show Kd.C Kd.string w32 A29 y322.length y322 from by rw [Ny322.out, KA29.out]; exact Kd.C_drop (m := (x9_3 : Int).toNat) (c := co24) ((Kd.R_reads' (Kd.R_after (ok := (fun _ => True)) (by (with_reducible repeat (first | apply Kd.R_alloc | apply Kd.R_drewN | apply Kd.R_drew)); exact HO_5.out) hg hat)).2.2) KL29.out ((Kd.R_reads' (Kd.R_after (ok := (fun _ => True)) (by (with_reducible repeat (first | apply Kd.R_alloc | apply Kd.R_drewN | apply Kd.R_drew)); exact HO_5.out) hg hat)).2.1)))
                        have n5_ := Aside0.mk (ho)
                        clear HO_5
                        clear HO305
                        clear HB
                        clear HR312
                        clear HR325
                        clear HO308
                        have HO_5 := n0_
                        have HO305 := n1_
                        have HB := n2_
                        have HR312 := n3_
                        have HR325 := n4_
                        have HO315 := n5_
                        clear n0_ n1_ n2_ n3_ n4_ n5_
                        clear ho hb hg hat
                        refine hK.out _ _ trivial (fun hHeld => ?_)
                        clear hK K
                        refine norm_ (a' := ?_) ?_ ?_
                        rotate_left
                        ·show Act.put _ (some 73) _ = _
                         simp only [Act.put, List.setIfInBounds_toArray, List.set_cons_zero, List.set_cons_succ, i64_w, i32_w]
                         rfl
                        refine one_ (i := 6) (N := some 75) #[true, true, true, true, true, true, true, false, true, true, true, false, false] rfl rfl (one_of HT_.out (by kernel_rfl)) (by decide) (fun K hK => ?_)
                        refine Kd.R_lit_step Kd.string _ 9 ?hg (N := 75) ?hd (xs := ([((rd_T36 ((rd_T47 l1 x6_1).f1) x7_2).f0)] : List ByteArray)) (inner := [.string ((rd_T36 ((rd_T47 l1 x6_1).f1) x7_2).f0)]) (ok := fun _ => True) (okp := fun _ => True) ?hr ?hp (fun _ hk => hk) trivial (Below.refl _ _) (Nat.le_refl _) (by simp) ?_; (case hd => rfl); (case hg => rfl); (case hr => first | (go_simp; done) | (go_simp; rfl)); (case hp => exact (Reps.one (show Kd.M Kd.string _ _ _ ((rd_T36 ((rd_T47 l1 x6_1).f1) x7_2).f0) [.string ((rd_T36 ((rd_T47 l1 x6_1).f1) x7_2).f0)] from rfl) (Reps.none _ _)))
                        intro v317 w33 ho34 hb hg_ hnew_
                        clear hg_ hnew_
                        (first | rw [← Ny316.out] at ho34 | (simp only [Int.reduceToNat] at ho34; rw [← Ny316.out] at ho34))
                        have n0_ := Aside0.mk (Kd.R_elder' (by (with_reducible repeat (first | apply Kd.R_alloc | apply Kd.R_drewN | apply Kd.R_drew)); exact HO_5.out) (Kd.R_base ho34) hb)
                        have n1_ := Aside0.mk (Kd.R_below (by (with_reducible repeat (first | apply Kd.R_alloc | apply Kd.R_drewN | apply Kd.R_drew)); exact HO305.out) hb)
                        have n2_ := Aside0.mk (Kd.R_elder' (by (with_reducible repeat (first | apply Kd.R_alloc | apply Kd.R_drewN | apply Kd.R_drew)); exact HO315.out) (Kd.R_base ho34) hb)
                        have n3_ := Aside0.mk (Kd.R_lower (Kd.R_new' (Kd.R_new' ho34 (Kd.R_lt (by (with_reducible repeat (first | apply Kd.R_alloc | apply Kd.R_drewN | apply Kd.R_drew)); exact HO_5.out))) (Kd.R_lt (by (with_reducible repeat (first | apply Kd.R_alloc | apply Kd.R_drewN | apply Kd.R_drew)); exact HO315.out))) (below_size (by repeat (first | (with_reducible first | exact HB.out | apply below_alloc | apply pw_below_drewN | apply below_drew1) | exact HB.out))))
                        have n4_ := Aside0.mk (Kd.C_below (by repeat (first | (with_reducible exact HR312.out) | (with_reducible refine Kd.C_alloc ?_ _) | (with_reducible refine Kd.C_drewN ?_ _) | (with_reducible refine Kd.C_drew ?_) | exact HR312.out)) hb)
                        have n5_ := Aside0.mk (Kd.C_below (by repeat (first | (with_reducible exact HR325.out) | (with_reducible refine Kd.C_alloc ?_ _) | (with_reducible refine Kd.C_drewN ?_ _) | (with_reducible refine Kd.C_drew ?_) | exact HR325.out)) hb)
                        have n6_ := Aside0.mk (below_step (by repeat (first | (with_reducible first | exact HB.out | apply below_alloc | apply pw_below_drewN | apply below_drew1) | exact HB.out)) hb)
                        clear HO_5
                        clear HO305
                        clear HO315
                        clear HR312
                        clear HR325
                        clear HB
                        have HO_5 := n0_
                        have HO305 := n1_
                        have HO315 := n2_
                        have HO318 := n3_
                        have HR312 := n4_
                        have HR325 := n5_
                        have HB := n6_
                        clear n0_ n1_ n2_ n3_ n4_ n5_ n6_
                        clear hb ho34
                        refine hK.out _ _ trivial (fun hHeld => ?_)
                        clear hK K
                        refine norm_ (a' := ?_) ?_ ?_
                        rotate_left
                        ·show Act.put _ (some 75) _ = _
                         simp only [Act.put, List.setIfInBounds_toArray, List.set_cons_zero, List.set_cons_succ, i64_w, i32_w]
                         rfl
                        exact norm_ (by simp only [putAll, Act.put, List.setIfInBounds_toArray, List.set_cons_zero, List.set_cons_succ]) (hCont (v307, v314, v317) _ ⟨(by (with_reducible repeat (first | apply Kd.R_alloc | apply Kd.R_drewN | apply Kd.R_drew)); exact HO305.out), (by (with_reducible repeat (first | apply Kd.R_alloc | apply Kd.R_drewN | apply Kd.R_drew)); exact Kd.R_mono HO315.out (fun _ hk => ⟨hk.2, hk.1⟩)), (by (with_reducible repeat (first | apply Kd.R_alloc | apply Kd.R_drewN | apply Kd.R_drew)); exact Kd.R_mono HO318.out (fun _ hk => ⟨hk.2, hk.1.2⟩)), (by (with_reducible repeat (first | apply Kd.R_alloc | apply Kd.R_drewN | apply Kd.R_drew)); exact Kd.R_mono HO_5.out (fun _ hk => ⟨hk.1.2, hk.2⟩)), (by repeat (first | (with_reducible exact HR312.out) | (with_reducible refine Kd.C_alloc ?_ _) | (with_reducible refine Kd.C_drewN ?_ _) | (with_reducible refine Kd.C_drew ?_) | exact HR312.out)), (by repeat (first | (with_reducible exact HR325.out) | (with_reducible refine Kd.C_alloc ?_ _) | (with_reducible refine Kd.C_drewN ?_ _) | (with_reducible refine Kd.C_drew ?_) | exact HR325.out)), (by repeat (first | (with_reducible first | exact HB.out | apply below_alloc | apply pw_below_drewN | apply below_drew1) | exact HB.out))⟩)
                       ·skip
                        refine Kd.R_lit_step Kd.string _ 9 ?hg (N := 75) ?hd (xs := ([((rd_T36 ((rd_T47 l1 x6_1).f1) x7_2).f0)] : List ByteArray)) (inner := [.string ((rd_T36 ((rd_T47 l1 x6_1).f1) x7_2).f0)]) (ok := fun _ => True) (okp := fun _ => True) ?hr ?hp (fun _ hk => hk) trivial (Below.refl _ _) (Nat.le_refl _) (by simp) ?_; (case hd => rfl); (case hg => rfl); (case hr => first | (go_simp; done) | (go_simp; rfl)); (case hp => exact (Reps.one (show Kd.M Kd.string _ _ _ ((rd_T36 ((rd_T47 l1 x6_1).f1) x7_2).f0) [.string ((rd_T36 ((rd_T47 l1 x6_1).f1) x7_2).f0)] from rfl) (Reps.none _ _)))
                        intro v317 w32 ho33 hb hg_ hnew_
                        clear hg_ hnew_
                        (first | rw [← Ny316.out] at ho33 | (simp only [Int.reduceToNat] at ho33; rw [← Ny316.out] at ho33))
                        have n0_ := Aside0.mk (Kd.R_elder' (by (with_reducible repeat (first | apply Kd.R_alloc | apply Kd.R_drewN | apply Kd.R_drew)); exact HO_5.out) (Kd.R_base ho33) hb)
                        have n1_ := Aside0.mk (Kd.R_below (by (with_reducible repeat (first | apply Kd.R_alloc | apply Kd.R_drewN | apply Kd.R_drew)); exact HO305.out) hb)
                        have n2_ := Aside0.mk (Kd.R_elder' (by (with_reducible repeat (first | apply Kd.R_alloc | apply Kd.R_drewN | apply Kd.R_drew)); exact HO308.out) (Kd.R_base ho33) hb)
                        have n3_ := Aside0.mk (Kd.R_lower (Kd.R_new' (Kd.R_new' ho33 (Kd.R_lt (by (with_reducible repeat (first | apply Kd.R_alloc | apply Kd.R_drewN | apply Kd.R_drew)); exact HO_5.out))) (Kd.R_lt (by (with_reducible repeat (first | apply Kd.R_alloc | apply Kd.R_drewN | apply Kd.R_drew)); exact HO308.out))) (below_size (by repeat (first | (with_reducible first | exact HB.out | apply below_alloc | apply pw_below_drewN | apply below_drew1) | exact HB.out))))
                        have n4_ := Aside0.mk (Kd.C_below (by repeat (first | (with_reducible exact HR312.out) | (with_reducible refine Kd.C_alloc ?_ _) | (with_reducible refine Kd.C_drewN ?_ _) | (with_reducible refine Kd.C_drew ?_) | exact HR312.out)) hb)
                        have n5_ := Aside0.mk (Kd.C_below (by repeat (first | (with_reducible exact HR325.out) | (with_reducible refine Kd.C_alloc ?_ _) | (with_reducible refine Kd.C_drewN ?_ _) | (with_reducible refine Kd.C_drew ?_) | exact HR325.out)) hb)
                        have n6_ := Aside0.mk (below_step (by repeat (first | (with_reducible first | exact HB.out | apply below_alloc | apply pw_below_drewN | apply below_drew1) | exact HB.out)) hb)
                        clear HO_5
                        clear HO305
                        clear HO308
                        clear HR312
                        clear HR325
                        clear HB
                        have HO_5 := n0_
                        have HO305 := n1_
                        have HO308 := n2_
                        have HO318 := n3_
                        have HR312 := n4_
                        have HR325 := n5_
                        have HB := n6_
                        clear n0_ n1_ n2_ n3_ n4_ n5_ n6_
                        clear hb ho33
                        refine hK.out _ _ trivial (fun hHeld => ?_)
                        clear hK K
                        refine norm_ (a' := ?_) ?_ ?_
                        rotate_left
                        ·show Act.put _ (some 75) _ = _
                         simp only [Act.put, List.setIfInBounds_toArray, List.set_cons_zero, List.set_cons_succ, i64_w, i32_w]
                         rfl
                        refine one_ (i := 4) (N := some 73) #[true, true, true, true, true, true, true, false, true, true, true, false, false] rfl rfl (one_of HT_.out (by kernel_rfl)) (by decide) (fun K hK => ?_)
                        refine Kd.R_append_rows_step Kd.string (w0 := w) w.heap.size (by rfl) (.tmp 69) (.tmp 72) 52 9 (.string ⟨#[]⟩) 16 rfl Try.underlying52 info9 rfl (by decide) (by omega) v307 y306 y309 _ _ _ (fun k_ => some k_ ≠ (.slice (some ad302) x5_2.length co24 : Value).ownBlock ∧ some k_ ≠ (v317 : Value).ownBlock) (fun _ => False) rfl rfl ?aO ?aR (fun _ _ h => h) (fun _ h => h.elim) ?aF ?aB ?aS ?aL ?_
                        (case aR => repeat (first | exact (by repeat (first | (with_reducible exact HR312.out) | (with_reducible refine Kd.C_alloc ?_ _) | (with_reducible refine Kd.C_drewN ?_ _) | (with_reducible refine Kd.C_drew ?_) | exact HR312.out)) | (with_reducible refine Kd.C_alloc ?_ _) | (with_reducible refine Kd.C_drewN ?_ _) | (with_reducible refine Kd.C_drew ?_)))
                        (case aB => exact (by repeat (first | (with_reducible first | exact HB.out | apply below_alloc | apply pw_below_drewN | apply below_drew1) | exact HB.out)))
                        (case aF => exact (fun k_ hk => ⟨Kd.fresh' (Kd.R_lt (by (with_reducible repeat (first | apply Kd.R_alloc | apply Kd.R_drewN | apply Kd.R_drew)); exact HO_5.out)) k_ hk, Kd.fresh' (Kd.R_lt (by (with_reducible repeat (first | apply Kd.R_alloc | apply Kd.R_drewN | apply Kd.R_drew)); exact HO318.out)) k_ hk⟩))
                        (case aO => exact (by (with_reducible repeat (first | apply Kd.R_alloc | apply Kd.R_drewN | apply Kd.R_drew)); exact Kd.R_mono HO308.out (fun _ hk => ⟨hk.1.2, hk.2⟩)))
                        (case aS => exact (below_size (by repeat (first | (with_reducible first | exact HB.out | apply below_alloc | apply pw_below_drewN | apply below_drew1) | exact HB.out))))
                        (case aL => have := LMc19.out; omega)
                        intro v314 w34 ho hb hg hat
                        rw [← Ny313.out] at ho
                        have n0_ := Aside0.mk (Kd.R_after (ok := (fun k_ => some k_ ≠ (v317 : Value).ownBlock)) (by (with_reducible repeat (first | apply Kd.R_alloc | apply Kd.R_drewN | apply Kd.R_drew)); exact Kd.R_mono HO_5.out (fun _ hk => ⟨hk.2, hk.1.2⟩)) hg hat)
                        have n1_ := Aside0.mk (Kd.R_over' (by (with_reducible repeat (first | apply Kd.R_alloc | apply Kd.R_drewN | apply Kd.R_drew)); exact HO305.out) (Kd.R_typed (by (with_reducible repeat (first | apply Kd.R_alloc | apply Kd.R_drewN | apply Kd.R_drew)); exact HO308.out)) (by decide) hg)
                        have n2_ := Aside0.mk (Kd.R_after (ok := (fun k_ => some k_ ≠ (.slice (some ad302) x5_2.length co24 : Value).ownBlock)) (by (with_reducible repeat (first | apply Kd.R_alloc | apply Kd.R_drewN | apply Kd.R_drew)); exact Kd.R_mono HO318.out (fun _ hk => ⟨hk.1.2, hk.2⟩)) hg hat)
                        have n3_ := Aside0.mk (hb)
                        have n4_ := Aside0.mk ((show Kd.C Kd.string w34 (some ad302) y309.length y309 from by rw [Ny309.out]; exact Kd.C_take (m := (x9_3 : Int).toNat) ((Kd.R_reads' (Kd.R_after (ok := (fun k_ => some k_ ≠ (v317 : Value).ownBlock)) (by (with_reducible repeat (first | apply Kd.R_alloc | apply Kd.R_drewN | apply Kd.R_drew)); exact Kd.R_mono HO_5.out (fun _ hk => ⟨hk.2, hk.1.2⟩)) hg hat)).2.2) KL28.out))
                        have n5_ := Aside0.mk ((show Kd.C Kd.string w34 A29 y322.length y322 from by rw [Ny322.out, KA29.out]; exact Kd.C_drop (m := (x9_3 : Int).toNat) (c := co24) ((Kd.R_reads' (Kd.R_after (ok := (fun k_ => some k_ ≠ (v317 : Value).ownBlock)) (by (with_reducible repeat (first | apply Kd.R_alloc | apply Kd.R_drewN | apply Kd.R_drew)); exact Kd.R_mono HO_5.out (fun _ hk => ⟨hk.2, hk.1.2⟩)) hg hat)).2.2) KL29.out ((Kd.R_reads' (Kd.R_after (ok := (fun k_ => some k_ ≠ (v317 : Value).ownBlock)) (by (with_reducible repeat (first | apply Kd.R_alloc | apply Kd.R_drewN | apply Kd.R_drew)); exact Kd.R_mono HO_5.out (fun _ hk => ⟨hk.2, hk.1.2⟩)) hg hat)).2.1)))
                        have n6_ := Aside0.mk (ho)
                        clear HO_5
                        clear HO305
                        clear HO318
                        clear HB
                        clear HR312
                        clear HR325
                        clear HO308
                        have HO_5 := n0_
                        have HO305 := n1_
                        have HO318 := n2_
                        have HB := n3_
                        have HR312 := n4_
                        have HR325 := n5_
                        have HO315 := n6_
                        clear n0_ n1_ n2_ n3_ n4_ n5_ n6_
                        clear ho hb hg hat
                        refine hK.out _ _ trivial (fun hHeld => ?_)
                        clear hK K
                        refine norm_ (a' := ?_) ?_ ?_
                        rotate_left
                        ·show Act.put _ (some 73) _ = _
                         simp only [Act.put, List.setIfInBounds_toArray, List.set_cons_zero, List.set_cons_succ, i64_w, i32_w]
                         rfl
                        exact norm_ (by simp only [putAll, Act.put, List.setIfInBounds_toArray, List.set_cons_zero, List.set_cons_succ]) (hCont (v307, v314, v317) _ ⟨(by (with_reducible repeat (first | apply Kd.R_alloc | apply Kd.R_drewN | apply Kd.R_drew)); exact HO305.out), (by (with_reducible repeat (first | apply Kd.R_alloc | apply Kd.R_drewN | apply Kd.R_drew)); exact Kd.R_mono HO315.out (fun _ hk => ⟨hk.2, hk.1⟩)), (by (with_reducible repeat (first | apply Kd.R_alloc | apply Kd.R_drewN | apply Kd.R_drew)); exact Kd.R_mono HO318.out (fun _ hk => ⟨hk.2, hk.1⟩)), (by (with_reducible repeat (first | apply Kd.R_alloc | apply Kd.R_drewN | apply Kd.R_drew)); exact Kd.R_mono HO_5.out (fun _ hk => ⟨hk.2, hk.1⟩)), (by repeat (first | (with_reducible exact HR312.out) | (with_reducible refine Kd.C_alloc ?_ _) | (with_reducible refine Kd.C_drewN ?_ _) | (with_reducible refine Kd.C_drew ?_) | exact HR312.out)), (by repeat (first | (with_reducible exact HR325.out) | (with_reducible refine Kd.C_alloc ?_ _) | (with_reducible refine Kd.C_drewN ?_ _) | (with_reducible refine Kd.C_drew ?_) | exact HR325.out)), (by repeat (first | (with_reducible first | exact HB.out | apply below_alloc | apply pw_below_drewN | apply below_drew1) | exact HB.out))⟩)
                      ·skip
                       refine Kd.R_lit_step Kd.string _ 9 ?hg (N := 75) ?hd (xs := ([((rd_T36 ((rd_T47 l1 x6_1).f1) x7_2).f0)] : List ByteArray)) (inner := [.string ((rd_T36 ((rd_T47 l1 x6_1).f1) x7_2).f0)]) (ok := fun _ => True) (okp := fun _ => True) ?hr ?hp (fun _ hk => hk) trivial (Below.refl _ _) (Nat.le_refl _) (by simp) ?_; (case hd => rfl); (case hg => rfl); (case hr => first | (go_simp; done) | (go_simp; rfl)); (case hp => exact (Reps.one (show Kd.M Kd.string _ _ _ ((rd_T36 ((rd_T47 l1 x6_1).f1) x7_2).f0) [.string ((rd_T36 ((rd_T47 l1 x6_1).f1) x7_2).f0)] from rfl) (Reps.none _ _)))
                       intro v317 w30 ho31 hb hg_ hnew_
                       clear hg_ hnew_
                       (first | rw [← Ny316.out] at ho31 | (simp only [Int.reduceToNat] at ho31; rw [← Ny316.out] at ho31))
                       have n0_ := Aside0.mk (Kd.R_elder' (by (with_reducible repeat (first | apply Kd.R_alloc | apply Kd.R_drewN | apply Kd.R_drew)); exact HO_5.out) (Kd.R_base ho31) hb)
                       have n1_ := Aside0.mk (Kd.R_below (by (with_reducible repeat (first | apply Kd.R_alloc | apply Kd.R_drewN | apply Kd.R_drew)); exact HO305.out) hb)
                       have n2_ := Aside0.mk (Kd.R_lower (Kd.R_new' ho31 (Kd.R_lt (by (with_reducible repeat (first | apply Kd.R_alloc | apply Kd.R_drewN | apply Kd.R_drew)); exact HO_5.out))) (below_size (by repeat (first | (with_reducible first | exact HB.out | apply below_alloc | apply pw_below_drewN | apply below_drew1) | exact HB.out))))
                       have n3_ := Aside0.mk (Kd.C_below (by repeat (first | (with_reducible exact HR312.out) | (with_reducible refine Kd.C_alloc ?_ _) | (with_reducible refine Kd.C_drewN ?_ _) | (with_reducible refine Kd.C_drew ?_) | exact HR312.out)) hb)
                       have n4_ := Aside0.mk (Kd.C_below (by repeat (first | (with_reducible exact HR325.out) | (with_reducible refine Kd.C_alloc ?_ _) | (with_reducible refine Kd.C_drewN ?_ _) | (with_reducible refine Kd.C_drew ?_) | exact HR325.out)) hb)
                       have n5_ := Aside0.mk (below_step (by repeat (first | (with_reducible first | exact HB.out | apply below_alloc | apply pw_below_drewN | apply below_drew1) | exact HB.out)) hb)
                       clear HO_5
                       clear HO305
                       clear HR312
                       clear HR325
                       clear HB
                       have HO_5 := n0_
                       have HO305 := n1_
                       have HO318 := n2_
                       have HR312 := n3_
                       have HR325 := n4_
                       have HB := n5_
                       clear n0_ n1_ n2_ n3_ n4_ n5_
                       clear hb ho31
                       refine hK.out _ _ trivial (fun hHeld => ?_)
                       clear hK K
                       refine norm_ (a' := ?_) ?_ ?_
                       rotate_left
                       ·show Act.put _ (some 75) _ = _
                        simp only [Act.put, List.setIfInBounds_toArray, List.set_cons_zero, List.set_cons_succ, i64_w, i32_w]
                        rfl
                       refine one_ (i := 0) (N := some 69) #[true, true, true, true, false, true, true, false, true, true, true, false, false] rfl rfl (one_of HT_.out (by kernel_rfl)) (by decide) (fun K hK => ?_)
                       refine Kd.R_lit_step Kd.string _ 9 ?hg (N := 69) ?hd (xs := ([] : List ByteArray)) (inner := []) (ok := fun _ => True) (okp := fun _ => True) ?hr ?hp (fun _ hk => hk) trivial (Below.refl _ _) (Nat.le_refl _) (by simp) ?_; (case hd => rfl); (case hg => rfl); (case hr => first | (go_simp; done) | (go_simp; rfl)); (case hp => exact (Reps.none _ _))
                       intro v307 w32 ho33 hb hg_ hnew_
                       clear hg_ hnew_
                       (first | rw [← Ny306.out] at ho33 | (simp only [Int.reduceToNat] at ho33; rw [← Ny306.out] at ho33))
                       have n0_ := Aside0.mk (Kd.R_elder' (by (with_reducible repeat (first | apply Kd.R_alloc | apply Kd.R_drewN | apply Kd.R_drew)); exact HO_5.out) (Kd.R_base ho33) hb)
                       have n1_ := Aside0.mk (Kd.R_below (by (with_reducible repeat (first | apply Kd.R_alloc | apply Kd.R_drewN | apply Kd.R_drew)); exact HO305.out) hb)
                       have n2_ := Aside0.mk (Kd.R_elder' (by (with_reducible repeat (first | apply Kd.R_alloc | apply Kd.R_drewN | apply Kd.R_drew)); exact HO318.out) (Kd.R_base ho33) hb)
                       have n3_ := Aside0.mk (Kd.R_lower (Kd.R_new' (Kd.R_new' ho33 (Kd.R_lt (by (with_reducible repeat (first | apply Kd.R_alloc | apply Kd.R_drewN | apply Kd.R_drew)); exact HO_5.out))) (Kd.R_lt (by (with_reducible repeat (first | apply Kd.R_alloc | apply Kd.R_drewN | apply Kd.R_drew)); exact HO318.out))) (below_size (by repeat (first | (with_reducible first | exact HB.out | apply below_alloc | apply pw_below_drewN | apply below_drew1) | exact HB.out))))
                       have n4_ := Aside0.mk (Kd.C_below (by repeat (first | (with_reducible exact HR312.out) | (with_reducible refine Kd.C_alloc ?_ _) | (with_reducible refine Kd.C_drewN ?_ _) | (with_reducible refine Kd.C_drew ?_) | exact HR312.out)) hb)
                       have n5_ := Aside0.mk (Kd.C_below (by repeat (first | (with_reducible exact HR325.out) | (with_reducible refine Kd.C_alloc ?_ _) | (with_reducible refine Kd.C_drewN ?_ _) | (with_reducible refine Kd.C_drew ?_) | exact HR325.out)) hb)
                       have n6_ := Aside0.mk (below_step (by repeat (first | (with_reducible first | exact HB.out | apply below_alloc | apply pw_below_drewN | apply below_drew1) | exact HB.out)) hb)
                       clear HO_5
                       clear HO305
                       clear HO318
                       clear HR312
                       clear HR325
                       clear HB
                       have HO_5 := n0_
                       have HO305 := n1_
                       have HO318 := n2_
                       have HO308 := n3_
                       have HR312 := n4_
                       have HR325 := n5_
                       have HB := n6_
                       clear n0_ n1_ n2_ n3_ n4_ n5_ n6_
                       clear hb ho33
                       refine hK.out _ _ trivial (fun hHeld => ?_)
                       clear hK K
                       refine norm_ (a' := ?_) ?_ ?_
                       rotate_left
                       ·show Act.put _ (some 69) _ = _
                        simp only [Act.put, List.setIfInBounds_toArray, List.set_cons_zero, List.set_cons_succ, i64_w, i32_w]
                        rfl
                       refine one_ (i := 4) (N := some 73) #[true, true, true, true, true, true, true, false, true, true, true, false, false] rfl rfl (one_of HT_.out (by kernel_rfl)) (by decide) (fun K hK => ?_)
                       refine Kd.R_append_rows_step Kd.string (w0 := w) w.heap.size (by rfl) (.tmp 69) (.tmp 72) 52 9 (.string ⟨#[]⟩) 16 rfl Try.underlying52 info9 rfl (by decide) (by omega) v307 y306 y309 _ _ _ (fun k_ => some k_ ≠ (.slice (some ad302) x5_2.length co24 : Value).ownBlock ∧ some k_ ≠ (v317 : Value).ownBlock) (fun _ => False) rfl rfl ?aO ?aR (fun _ _ h => h) (fun _ h => h.elim) ?aF ?aB ?aS ?aL ?_
                       (case aR => repeat (first | exact (by repeat (first | (with_reducible exact HR312.out) | (with_reducible refine Kd.C_alloc ?_ _) | (with_reducible refine Kd.C_drewN ?_ _) | (with_reducible refine Kd.C_drew ?_) | exact HR312.out)) | (with_reducible refine Kd.C_alloc ?_ _) | (with_reducible refine Kd.C_drewN ?_ _) | (with_reducible refine Kd.C_drew ?_)))
                       (case aB => exact (by repeat (first | (with_reducible first | exact HB.out | apply below_alloc | apply pw_below_drewN | apply below_drew1) | exact HB.out)))
                       (case aF => exact (fun k_ hk => ⟨Kd.fresh' (Kd.R_lt (by (with_reducible repeat (first | apply Kd.R_alloc | apply Kd.R_drewN | apply Kd.R_drew)); exact HO_5.out)) k_ hk, Kd.fresh' (Kd.R_lt (by (with_reducible repeat (first | apply Kd.R_alloc | apply Kd.R_drewN | apply Kd.R_drew)); exact HO318.out)) k_ hk⟩))
                       (case aO => exact (by (with_reducible repeat (first | apply Kd.R_alloc | apply Kd.R_drewN | apply Kd.R_drew)); exact Kd.R_mono HO308.out (fun _ hk => ⟨hk.1.2, hk.2⟩)))
                       (case aS => exact (below_size (by repeat (first | (with_reducible first | exact HB.out | apply below_alloc | apply pw_below_drewN | apply below_drew1) | exact HB.out))))
                       (case aL => have := LMc19.out; omega)
                       intro v314 w34 ho hb hg hat
                       rw [← Ny313.out] at ho
                       have n0_ := Aside0.mk (Kd.R_after (ok := (fun k_ => some k_ ≠ (v317 : Value).ownBlock)) (by (with_reducible repeat (first | apply Kd.R_alloc | apply Kd.R_drewN | apply Kd.R_drew)); exact Kd.R_mono HO_5.out (fun _ hk => ⟨hk.1.2, hk.2⟩)) hg hat)
                       have n1_ := Aside0.mk (Kd.R_over' (by (with_reducible repeat (first | apply Kd.R_alloc | apply Kd.R_drewN | apply Kd.R_drew)); exact HO305.out) (Kd.R_typed (by (with_reducible repeat (first | apply Kd.R_alloc | apply Kd.R_drewN | apply Kd.R_drew)); exact HO308.out)) (by decide) hg)
                       have n2_ := Aside0.mk (Kd.R_after (ok := (fun k_ => some k_ ≠ (.slice (some ad302) x5_2.length co24 : Value).ownBlock)) (by (with_reducible repeat (first | apply Kd.R_alloc | apply Kd.R_drewN | apply Kd.R_drew)); exact Kd.R_mono HO318.out (fun _ hk => ⟨hk.1.2, hk.2⟩)) hg hat)
                       have n3_ := Aside0.mk (hb)
                       have n4_ := Aside0.mk ((show Kd.C Kd.string w34 (some ad302) y309.length y309 from by rw [Ny309.out]; exact Kd.C_take (m := (x9_3 : Int).toNat) ((Kd.R_reads' (Kd.R_after (ok := (fun k_ => some k_ ≠ (v317 : Value).ownBlock)) (by (with_reducible repeat (first | apply Kd.R_alloc | apply Kd.R_drewN | apply Kd.R_drew)); exact Kd.R_mono HO_5.out (fun _ hk => ⟨hk.1.2, hk.2⟩)) hg hat)).2.2) KL28.out))
                       have n5_ := Aside0.mk ((show Kd.C Kd.string w34 A29 y322.length y322 from by rw [Ny322.out, KA29.out]; exact Kd.C_drop (m := (x9_3 : Int).toNat) (c := co24) ((Kd.R_reads' (Kd.R_after (ok := (fun k_ => some k_ ≠ (v317 : Value).ownBlock)) (by (with_reducible repeat (first | apply Kd.R_alloc | apply Kd.R_drewN | apply Kd.R_drew)); exact Kd.R_mono HO_5.out (fun _ hk => ⟨hk.1.2, hk.2⟩)) hg hat)).2.2) KL29.out ((Kd.R_reads' (Kd.R_after (ok := (fun k_ => some k_ ≠ (v317 : Value).ownBlock)) (by (with_reducible repeat (first | apply Kd.R_alloc | apply Kd.R_drewN | apply Kd.R_drew)); exact Kd.R_mono HO_5.out (fun _ hk => ⟨hk.1.2, hk.2⟩)) hg hat)).2.1)))
                       have n6_ := Aside0.mk (ho)
                       clear HO_5
                       clear HO305
                       clear HO318
                       clear HB
                       clear HR312
                       clear HR325
                       clear HO308
                       have HO_5 := n0_
                       have HO305 := n1_
                       have HO318 := n2_
                       have HB := n3_
                       have HR312 := n4_
                       have HR325 := n5_
                       have HO315 := n6_
                       clear n0_ n1_ n2_ n3_ n4_ n5_ n6_
                       clear ho hb hg hat
                       refine hK.out _ _ trivial (fun hHeld => ?_)
                       clear hK K
                       refine norm_ (a' := ?_) ?_ ?_
                       rotate_left
                       ·show Act.put _ (some 73) _ = _
                        simp only [Act.put, List.setIfInBounds_toArray, List.set_cons_zero, List.set_cons_succ, i64_w, i32_w]
                        rfl
                       exact norm_ (by simp only [putAll, Act.put, List.setIfInBounds_toArray, List.set_cons_zero, List.set_cons_succ]) (hCont (v307, v314, v317) _ ⟨(by (with_reducible repeat (first | apply Kd.R_alloc | apply Kd.R_drewN | apply Kd.R_drew)); exact HO305.out), (by (with_reducible repeat (first | apply Kd.R_alloc | apply Kd.R_drewN | apply Kd.R_drew)); exact Kd.R_mono HO315.out (fun _ hk => ⟨hk.2, hk.1⟩)), (by (with_reducible repeat (first | apply Kd.R_alloc | apply Kd.R_drewN | apply Kd.R_drew)); exact Kd.R_mono HO318.out (fun _ hk => ⟨hk.2, hk.1⟩)), (by (with_reducible repeat (first | apply Kd.R_alloc | apply Kd.R_drewN | apply Kd.R_drew)); exact Kd.R_mono HO_5.out (fun _ hk => ⟨hk.2, hk.1⟩)), (by repeat (first | (with_reducible exact HR312.out) | (with_reducible refine Kd.C_alloc ?_ _) | (with_reducible refine Kd.C_drewN ?_ _) | (with_reducible refine Kd.C_drew ?_) | exact HR312.out)), (by repeat (first | (with_reducible exact HR325.out) | (with_reducible refine Kd.C_alloc ?_ _) | (with_reducible refine Kd.C_drewN ?_ _) | (with_reducible refine Kd.C_drew ?_) | exact HR325.out)), (by repeat (first | (with_reducible first | exact HB.out | apply below_alloc | apply pw_below_drewN | apply below_drew1) | exact HB.out))⟩)
                     rintro ⟨v307, v314, v317⟩ w35 ⟨h0_, h1_, h2_, h3_, h4_, h5_, h6_⟩
                     have n0_ : Aside0 (Kd.R (Kd.int .i64) 3 w35 w.heap.size (fun _ => True) (.slice Ao26 t303.length co26) t303) := ⟨h0_⟩
                     have n1_ : Aside0 (Kd.R Kd.string 9 w35 w.heap.size (fun k_ => some k_ ≠ (v317 : Value).ownBlock ∧ some k_ ≠ (.slice (some ad302) x5_2.length co24 : Value).ownBlock) v314 y313) := ⟨h1_⟩
                     have n2_ : Aside0 (Kd.R Kd.string 9 w35 w.heap.size (fun k_ => some k_ ≠ (v314 : Value).ownBlock ∧ some k_ ≠ (.slice (some ad302) x5_2.length co24 : Value).ownBlock) v317 y316) := ⟨h2_⟩
                     have n3_ : Aside0 (Kd.R Kd.string 9 w35 w.heap.size (fun k_ => some k_ ≠ (v314 : Value).ownBlock ∧ some k_ ≠ (v317 : Value).ownBlock) (.slice (some ad302) x5_2.length co24) x5_2) := ⟨h3_⟩
                     have n4_ : Aside0 (Kd.C Kd.string w35 (some ad302) y309.length y309) := ⟨h4_⟩
                     have n5_ : Aside0 (Kd.C Kd.string w35 A29 y322.length y322) := ⟨h5_⟩
                     have n6_ : Aside0 (Below w.heap.size w w35) := ⟨h6_⟩
                     clear HO_5
                     clear HO305
                     clear HB
                     clear h0_ h1_ h2_ h3_ h4_ h5_ h6_
                     have HO305 := n0_
                     have HO315 := n1_
                     have HO318 := n2_
                     have HO_5 := n3_
                     have HR312 := n4_
                     have HR325 := n5_
                     have HB := n6_
                     clear n0_ n1_ n2_ n3_ n4_ n5_ n6_
                     have hHeld := trivial
                     obtain ⟨Ao37, co37, eo37⟩ := Kd.R_slice HO318.out
                     (first | subst eo37 | (injection eo37 with f1_ f2_ f3_; have f4_ := f1_.symm; have f5_ := f3_.symm; clear f1_ f2_ f3_; subst f4_; subst f5_))
                     refine norm_ (a' := ?_) ?_ ?_
                     rotate_left
                     ·simp only [putAll, Act.put, List.setIfInBounds_toArray, List.set_cons_zero, List.set_cons_succ]
                      rfl
                     refine one_ (i := 7) (N := some 76) #[true, true, true, true, true, true, true, true, true, true, true, false, false] rfl rfl (one_of HT_.out (by kernel_rfl)) (by decide) (fun K hK => ?_)
                     refine Kd.R_append_rows_step Kd.string (w0 := w) w.heap.size (by rfl) (.tmp 73) (.tmp 75) 52 9 (.string ⟨#[]⟩) 16 rfl Try.underlying52 info9 rfl (by decide) (by omega) v314 y313 y316 _ _ _ (fun k_ => some k_ ≠ (.slice (some ad302) x5_2.length co24 : Value).ownBlock ∧ some k_ ≠ (.slice Ao37 y316.length co37 : Value).ownBlock) (fun _ => False) rfl rfl ?aO ?aR (fun _ _ h => h) (fun _ h => h.elim) ?aF ?aB ?aS ?aL ?_
                     (case aR => repeat (first | exact (Kd.R_reads' HO318.out).2.2 | (with_reducible refine Kd.C_alloc ?_ _) | (with_reducible refine Kd.C_drewN ?_ _) | (with_reducible refine Kd.C_drew ?_)))
                     (case aB => exact (by repeat (first | (with_reducible first | exact HB.out | apply below_alloc | apply pw_below_drewN | apply below_drew1) | exact HB.out)))
                     (case aF => exact (fun k_ hk => ⟨Kd.fresh' (Kd.R_lt (by (with_reducible repeat (first | apply Kd.R_alloc | apply Kd.R_drewN | apply Kd.R_drew)); exact HO_5.out)) k_ hk, Kd.fresh' (Kd.R_lt (by (with_reducible repeat (first | apply Kd.R_alloc | apply Kd.R_drewN | apply Kd.R_drew)); exact HO318.out)) k_ hk⟩))
                     (case aO => exact (by (with_reducible repeat (first | apply Kd.R_alloc | apply Kd.R_drewN | apply Kd.R_drew)); exact Kd.R_mono HO315.out (fun _ hk => ⟨hk.2, hk.1⟩)))
                     (case aS => exact (below_size (by repeat (first | (with_reducible first | exact HB.out | apply below_alloc | apply pw_below_drewN | apply below_drew1) | exact HB.out))))
                     (case aL => have := LMc20.out; omega)
                     intro v320 w36 ho hb hg hat
                     rw [← Ny319.out] at ho
                     have n0_ := Aside0.mk (Kd.R_after (ok := (fun k_ => some k_ ≠ (.slice Ao37 y316.length co37 : Value).ownBlock)) (by (with_reducible repeat (first | apply Kd.R_alloc | apply Kd.R_drewN | apply Kd.R_drew)); exact Kd.R_mono HO_5.out (fun _ hk => ⟨hk.2, hk.1⟩)) hg hat)
                     have n1_ := Aside0.mk (Kd.R_over' (by (with_reducible repeat (first | apply Kd.R_alloc | apply Kd.R_drewN | apply Kd.R_drew)); exact HO305.out) (Kd.R_typed (by (with_reducible repeat (first | apply Kd.R_alloc | apply Kd.R_drewN | apply Kd.R_drew)); exact HO315.out)) (by decide) hg)
                     have n2_ := Aside0.mk (Kd.R_after (ok := (fun k_ => some k_ ≠ (.slice (some ad302) x5_2.length co24 : Value).ownBlock)) (by (with_reducible repeat (first | apply Kd.R_alloc | apply Kd.R_drewN | apply Kd.R_drew)); exact Kd.R_mono HO318.out (fun _ hk => ⟨hk.2, hk.1⟩)) hg hat)
                     have n3_ := Aside0.mk (hb)
                     have n4_ := Aside0.mk ((show Kd.C Kd.string w36 (some ad302) y309.length y309 from by rw [Ny309.out]; exact Kd.C_take (m := (x9_3 : Int).toNat) ((Kd.R_reads' (Kd.R_after (ok := (fun k_ => some k_ ≠ (.slice Ao37 y316.length co37 : Value).ownBlock)) (by (with_reducible repeat (first | apply Kd.R_alloc | apply Kd.R_drewN | apply Kd.R_drew)); exact Kd.R_mono HO_5.out (fun _ hk => ⟨hk.2, hk.1⟩)) hg hat)).2.2) KL28.out))
                     have n5_ := Aside0.mk ((show Kd.C Kd.string w36 A29 y322.length y322 from by rw [Ny322.out, KA29.out]; exact Kd.C_drop (m := (x9_3 : Int).toNat) (c := co24) ((Kd.R_reads' (Kd.R_after (ok := (fun k_ => some k_ ≠ (.slice Ao37 y316.length co37 : Value).ownBlock)) (by (with_reducible repeat (first | apply Kd.R_alloc | apply Kd.R_drewN | apply Kd.R_drew)); exact Kd.R_mono HO_5.out (fun _ hk => ⟨hk.2, hk.1⟩)) hg hat)).2.2) KL29.out ((Kd.R_reads' (Kd.R_after (ok := (fun k_ => some k_ ≠ (.slice Ao37 y316.length co37 : Value).ownBlock)) (by (with_reducible repeat (first | apply Kd.R_alloc | apply Kd.R_drewN | apply Kd.R_drew)); exact Kd.R_mono HO_5.out (fun _ hk => ⟨hk.2, hk.1⟩)) hg hat)).2.1)))
                     have n6_ := Aside0.mk (ho)
                     clear HO_5
                     clear HO305
                     clear HO318
                     clear HB
                     clear HR312
                     clear HR325
                     clear HO315
                     have HO_5 := n0_
                     have HO305 := n1_
                     have HO318 := n2_
                     have HB := n3_
                     have HR312 := n4_
                     have HR325 := n5_
                     have HO321 := n6_
                     clear n0_ n1_ n2_ n3_ n4_ n5_ n6_
                     clear ho hb hg hat
                     refine hK.out _ _ trivial (fun hHeld => ?_)
                     clear hK K
                     refine norm_ (a' := ?_) ?_ ?_
                     rotate_left
                     ·show Act.put _ (some 76) _ = _
                      simp only [Act.put, List.setIfInBounds_toArray, List.set_cons_zero, List.set_cons_succ, i64_w, i32_w]
                      rfl
                     refine one_ (i := 11) (N := some 80) #[true, true, true, true, true, true, true, true, true, true, true, true, false] rfl rfl (one_of HT_.out (by kernel_rfl)) (by decide) (fun K hK => ?_)
                     refine Kd.R_append_rows_step Kd.string (w0 := w) w.heap.size (by rfl) (.tmp 76) (.tmp 79) 52 9 (.string ⟨#[]⟩) 16 rfl Try.underlying52 info9 rfl (by decide) (by omega) v320 y319 y322 _ _ _ (fun k_ => some k_ ≠ (.slice (some ad302) x5_2.length co24 : Value).ownBlock ∧ some k_ ≠ (.slice Ao37 y316.length co37 : Value).ownBlock) (fun _ => False) rfl rfl ?aO ?aR (fun _ _ h => h) (fun _ h => h.elim) ?aF ?aB ?aS ?aL ?_
                     (case aR => repeat (first | exact (by repeat (first | (with_reducible exact HR325.out) | (with_reducible refine Kd.C_alloc ?_ _) | (with_reducible refine Kd.C_drewN ?_ _) | (with_reducible refine Kd.C_drew ?_) | exact HR325.out)) | (with_reducible refine Kd.C_alloc ?_ _) | (with_reducible refine Kd.C_drewN ?_ _) | (with_reducible refine Kd.C_drew ?_)))
                     (case aB => exact (by repeat (first | (with_reducible first | exact HB.out | apply below_alloc | apply pw_below_drewN | apply below_drew1) | exact HB.out)))
                     (case aF => exact (fun k_ hk => ⟨Kd.fresh' (Kd.R_lt (by (with_reducible repeat (first | apply Kd.R_alloc | apply Kd.R_drewN | apply Kd.R_drew)); exact HO_5.out)) k_ hk, Kd.fresh' (Kd.R_lt (by (with_reducible repeat (first | apply Kd.R_alloc | apply Kd.R_drewN | apply Kd.R_drew)); exact HO318.out)) k_ hk⟩))
                     (case aO => exact (by (with_reducible repeat (first | apply Kd.R_alloc | apply Kd.R_drewN | apply Kd.R_drew)); exact HO321.out))
                     (case aS => exact (below_size (by repeat (first | (with_reducible first | exact HB.out | apply below_alloc | apply pw_below_drewN | apply below_drew1) | exact HB.out))))
                     (case aL => have := LMc23.out; omega)
                     intro v327 w38 ho hb hg hat
                     rw [← Ny326.out] at ho
                     have n0_ := Aside0.mk (Kd.R_after (ok := (fun k_ => some k_ ≠ (.slice Ao37 y316.length co37 : Value).ownBlock)) (by (with_reducible repeat (first | apply Kd.R_alloc | apply Kd.R_drewN | apply Kd.R_drew)); exact HO_5.out) hg hat)
                     have n1_ := Aside0.mk (Kd.R_over' (by (with_reducible repeat (first | apply Kd.R_alloc | apply Kd.R_drewN | apply Kd.R_drew)); exact HO305.out) (Kd.R_typed (by (with_reducible repeat (first | apply Kd.R_alloc | apply Kd.R_drewN | apply Kd.R_drew)); exact HO321.out)) (by decide) hg)
                     have n2_ := Aside0.mk (Kd.R_after (ok := (fun k_ => some k_ ≠ (.slice (some ad302) x5_2.length co24 : Value).ownBlock)) (by (with_reducible repeat (first | apply Kd.R_alloc | apply Kd.R_drewN | apply Kd.R_drew)); exact HO318.out) hg hat)
                     have n3_ := Aside0.mk (hb)
                     have n4_ := Aside0.mk ((show Kd.C Kd.string w38 (some ad302) y309.length y309 from by rw [Ny309.out]; exact Kd.C_take (m := (x9_3 : Int).toNat) ((Kd.R_reads' (Kd.R_after (ok := (fun k_ => some k_ ≠ (.slice Ao37 y316.length co37 : Value).ownBlock)) (by (with_reducible repeat (first | apply Kd.R_alloc | apply Kd.R_drewN | apply Kd.R_drew)); exact HO_5.out) hg hat)).2.2) KL28.out))
                     have n5_ := Aside0.mk ((show Kd.C Kd.string w38 A29 y322.length y322 from by rw [Ny322.out, KA29.out]; exact Kd.C_drop (m := (x9_3 : Int).toNat) (c := co24) ((Kd.R_reads' (Kd.R_after (ok := (fun k_ => some k_ ≠ (.slice Ao37 y316.length co37 : Value).ownBlock)) (by (with_reducible repeat (first | apply Kd.R_alloc | apply Kd.R_drewN | apply Kd.R_drew)); exact HO_5.out) hg hat)).2.2) KL29.out ((Kd.R_reads' (Kd.R_after (ok := (fun k_ => some k_ ≠ (.slice Ao37 y316.length co37 : Value).ownBlock)) (by (with_reducible repeat (first | apply Kd.R_alloc | apply Kd.R_drewN | apply Kd.R_drew)); exact HO_5.out) hg hat)).2.1)))
                     have n6_ := Aside0.mk (ho)
                     clear HO_5
                     clear HO305
                     clear HO318
                     clear HB
                     clear HR312
                     clear HR325
                     clear HO321
                     have HO_5 := n0_
                     have HO305 := n1_
                     have HO318 := n2_
                     have HB := n3_
                     have HR312 := n4_
                     have HR325 := n5_
                     have HO328 := n6_
                     clear n0_ n1_ n2_ n3_ n4_ n5_ n6_
                     clear ho hb hg hat
                     refine hK.out _ _ trivial (fun hHeld => ?_)
                     clear hK K
                     refine norm_ (a' := ?_) ?_ ?_
                     rotate_left
                     ·show Act.put _ (some 80) _ = _
                      simp only [Act.put, List.setIfInBounds_toArray, List.set_cons_zero, List.set_cons_succ, i64_w, i32_w]
                      rfl
                     refine pure_ (i := 12) (N := some 5) (v := ?_) (a' := ?_) #[true, true, true, true, true, true, true, true, true, true, true, true, true] rfl rfl (any_of HT_.out (by kernel_rfl)) (fun _ _ _ h => h) (Or.inl ⟨by rfl, ?_⟩) ?_ ?_
                     rotate_left
                     ·intro w'
                      go_simp
                      with_reducible rfl
                     rotate_left
                     ·simp only [Act.put, List.setIfInBounds_toArray, List.set_cons_zero, List.set_cons_succ, i64_w, i32_w]
                      rfl
                     refine done_ (done_of HT_.out (by kernel_rfl)) ?_
                     try go_wp2
                     go_roundg k3
                     case measure => have := HK1.out; have := HK2.out; have := HK3.out; omega
                     case rel => exact ⟨(y326), (wrap64 (x7_2 + 1)), (by first | rfl | (simp; done) | (simp [*]; done)), H', ⟨by have := HK1.out; have := HK2.out; have := HK3.out; omega⟩, ⟨by (with_reducible repeat (first | apply Kd.R_alloc | apply Kd.R_drewN | apply Kd.R_drew)); exact Kd.R_mono HO328.out (fun _ hk => trivial)⟩, ⟨by repeat (first | (with_reducible first | exact HB.out | apply below_alloc | apply pw_below_drewN | apply below_drew1) | exact HB.out)⟩⟩
                    ·rw [if_neg c23] at H
                     exact absurd H (by simp)
                   ·rw [if_neg c20] at H
                    exact absurd H (by simp)
                  ·rw [if_neg c19] at H
                   exact absurd H (by simp)
                 ·rw [if_neg c18] at H
                  exact absurd H (by simp)
                ·rw [if_neg c16] at H
                 have c16b0 : (x9_3 == (x5_2.length : Int)) = false := beq_eq_false_iff_ne.mpr c16
                 have c16b1 : (x9_3 != (x5_2.length : Int)) = true := bne_iff_ne.mpr c16
                 by_cases c39 : (rdOf ByteArray.empty x5_2 x9_3).toList = ((rd_T36 ((rd_T47 l1 x6_1).f1) x7_2).f0).toList
                 ·rw [if_pos c39] at H
                  have c39b0 : ((rdOf ByteArray.empty x5_2 x9_3).toList == ((rd_T36 ((rd_T47 l1 x6_1).f1) x7_2).f0).toList) = true := beq_iff_eq.mpr c39
                  have c39b1 : ((rdOf ByteArray.empty x5_2 x9_3).toList != ((rd_T36 ((rd_T47 l1 x6_1).f1) x7_2).f0).toList) = false := bne_eq_false_iff_eq.mpr c39
                  clear c39
                  have H' := Aside0.mk H
                  clear H
                  obtain ⟨Ao40, co40, eo40⟩ := Kd.R_slice HO_5.out
                  subst eo40
                  have p302 : 0 ≤ (x9_3 : Int) := of_decide_eq_true (by first | (with_reducible assumption) | assumption)
                  have q302 : x9_3 < (x5_2.length : Int) := of_decide_eq_true (by first | (with_reducible assumption) | assumption)
                  obtain ⟨ad302, e302, hx302_0⟩ := Kd.at_string (Kd.R_reads' HO_5.out).2.2 x9_3 p302 q302
                  cases e302
                  replace p302 := eq_true p302
                  replace q302 := eq_true q302
                  go_wp2_with (first | ((with_reducible refine gate_callee (f := 13) rfl ?_); refine goesL_ (some 52) rfl rfl Try.func13 (by kernel_rfl) rfl #[.slice A0 l0.length c0, .string ((rd_T36 ((rd_T47 l1 x6_1).f1) x7_2).f0)] rfl (by (try simp only [List.map_toArray, List.map_cons, List.map_nil]); first | done | rfl | (simp only [List.length_drop, List.length_take]; rfl)) ?_; (with_reducible refine (gangsawref49_Who.calls k3 _ _ l0 ((rd_T36 ((rd_T47 l1 x6_1).f1) x7_2).f0) t303 _ ?side1 ?side2 A14.out).mono ?_); (case side1 => repeat (first | exact (Kd.C_below HR0.out HB.out) | (with_reducible refine Kd.C_alloc ?_ _) | (with_reducible refine Kd.C_drewN ?_ _) | (with_reducible refine Kd.C_drew ?_))); (case side2 => exact HC0.out); rintro e w41 ⟨v304, rfl, ho0, hb⟩; refine ⟨_, rfl, ?_⟩; have n0_ := Aside0.mk (Kd.R_below (by (with_reducible repeat (first | apply Kd.R_alloc | apply Kd.R_drewN | apply Kd.R_drew)); exact HO_5.out) hb); have n1_ := Aside0.mk (Kd.R_lower ho0 (below_size (by repeat (first | (with_reducible first | exact HB.out | apply below_alloc | apply pw_below_drewN | apply below_drew1) | exact HB.out)))); have n2_ := Aside0.mk (below_step (by repeat (first | (with_reducible first | exact HB.out | apply below_alloc | apply pw_below_drewN | apply below_drew1) | exact HB.out)) hb); clear HO_5; clear HB; have HO_5 := n0_; have HO305 := n1_; have HB := n2_; clear n0_ n1_ n2_; (try clear hb); (try clear hb2); (try clear hk); (try clear hi); (try clear ho0); obtain ⟨Ao42, co42, eo42⟩ := Kd.R_slice HO305.out; subst eo42; have p329 : 0 ≤ (x9_3 : Int) := of_decide_eq_true (by first | (with_reducible assumption) | assumption); have q329 : x9_3 < (x5_2.length : Int) := of_decide_eq_true (by first | (with_reducible assumption) | assumption); obtain ⟨ad329, e329, hx329_0⟩ := Kd.at_string (Kd.R_reads' HO_5.out).2.2 x9_3 p329 q329; obtain rfl : ad302 = ad329 := (by injection e329); replace p329 := eq_true p329; replace q329 := eq_true q329))
                  go_roundg k3
                  case measure => have := HK1.out; have := HK2.out; have := HK3.out; omega
                  case rel => exact ⟨(x5_2), (wrap64 (x7_2 + 1)), (by first | rfl | (simp; done) | (simp [*]; done)), H', ⟨by have := HK1.out; have := HK2.out; have := HK3.out; omega⟩, ⟨by (with_reducible repeat (first | apply Kd.R_alloc | apply Kd.R_drewN | apply Kd.R_drew)); exact HO_5.out⟩, ⟨by repeat (first | (with_reducible first | exact HB.out | apply below_alloc | apply pw_below_drewN | apply below_drew1) | exact HB.out)⟩⟩
                 ·rw [if_neg c39] at H
                  have c39b0 : ((rdOf ByteArray.empty x5_2 x9_3).toList == ((rd_T36 ((rd_T47 l1 x6_1).f1) x7_2).f0).toList) = false := beq_eq_false_iff_ne.mpr c39
                  have c39b1 : ((rdOf ByteArray.empty x5_2 x9_3).toList != ((rd_T36 ((rd_T47 l1 x6_1).f1) x7_2).f0).toList) = true := bne_iff_ne.mpr c39
                  obtain ⟨y330, hy330⟩ : ∃ y_ : List ByteArray, y_ = (([] : List ByteArray)) := ⟨_, rfl⟩
                  replace H : (if x9_3 ≤ (x5_2.length : Int) then ((some (x5_2.take (x9_3 : Int).toNat : List ByteArray)).bind fun y333 => (if y330.length + y333.length < 8796093022208 then ((some (y330 ++ y333 : List ByteArray)).bind fun y337 => ((some (([((rd_T36 ((rd_T47 l1 x6_1).f1) x7_2).f0)] : List ByteArray) : List ByteArray)).bind fun y340 => (if y337.length + y340.length < 8796093022208 then ((some (y337 ++ y340 : List ByteArray)).bind fun y343 => ((some (x5_2.drop (x9_3 : Int).toNat : List ByteArray)).bind fun y346 => (if y343.length + y346.length < 8796093022208 then (gangsawref49_Works.l1 k3 l0 l1 (y343 ++ y346) x6_1 (wrap64 (x7_2 + 1))) else (none)))) else (none)))) else (none))) else (none)) = some r := by first | (rw [hy330]; with_reducible exact H) | (have H2_ := (Option.bind_some _ _).symm.trans H; rw [hy330]; with_reducible exact H2_) | (have H2_ := (Option.bind_some _ _).symm.trans H; with_reducible exact H2_) | with_reducible exact H | (rw [hy330]; exact H) | exact H
                  have Ny330 := Aside0.mk hy330
                  clear hy330
                  have c43b0 := eq_true (of_decide_eq_true (by first | (with_reducible assumption) | assumption) : 0 ≤ x9_3)
                  by_cases c44 : x9_3 ≤ (x5_2.length : Int)
                  ·rw [if_pos c44] at H
                   have c44b0 := eq_true c44
                   have c44b1 : decide (x9_3 ≤ (x5_2.length : Int)) = true := decide_eq_true c44
                   clear c44
                   obtain ⟨y333, hy333⟩ : ∃ y_ : List ByteArray, y_ = (x5_2.take (x9_3 : Int).toNat) := ⟨_, rfl⟩
                   replace H : (if y330.length + y333.length < 8796093022208 then ((some (y330 ++ y333 : List ByteArray)).bind fun y337 => ((some (([((rd_T36 ((rd_T47 l1 x6_1).f1) x7_2).f0)] : List ByteArray) : List ByteArray)).bind fun y340 => (if y337.length + y340.length < 8796093022208 then ((some (y337 ++ y340 : List ByteArray)).bind fun y343 => ((some (x5_2.drop (x9_3 : Int).toNat : List ByteArray)).bind fun y346 => (if y343.length + y346.length < 8796093022208 then (gangsawref49_Works.l1 k3 l0 l1 (y343 ++ y346) x6_1 (wrap64 (x7_2 + 1))) else (none)))) else (none)))) else (none)) = some r := by first | (rw [hy333]; with_reducible exact H) | (have H2_ := (Option.bind_some _ _).symm.trans H; rw [hy333]; with_reducible exact H2_) | (have H2_ := (Option.bind_some _ _).symm.trans H; with_reducible exact H2_) | with_reducible exact H | (rw [hy333]; exact H) | exact H
                   have Ny333 := Aside0.mk hy333
                   clear hy333
                   by_cases c45 : y330.length + y333.length < 8796093022208
                   ·rw [if_pos c45] at H
                    have LMc45 := Aside0.mk c45
                    clear c45
                    obtain ⟨y337, hy337⟩ : ∃ y_ : List ByteArray, y_ = (y330 ++ y333) := ⟨_, rfl⟩
                    replace H : ((some (([((rd_T36 ((rd_T47 l1 x6_1).f1) x7_2).f0)] : List ByteArray) : List ByteArray)).bind fun y340 => (if y337.length + y340.length < 8796093022208 then ((some (y337 ++ y340 : List ByteArray)).bind fun y343 => ((some (x5_2.drop (x9_3 : Int).toNat : List ByteArray)).bind fun y346 => (if y343.length + y346.length < 8796093022208 then (gangsawref49_Works.l1 k3 l0 l1 (y343 ++ y346) x6_1 (wrap64 (x7_2 + 1))) else (none)))) else (none))) = some r := by first | (rw [hy337]; with_reducible exact H) | (have H2_ := (Option.bind_some _ _).symm.trans H; rw [hy337]; with_reducible exact H2_) | (have H2_ := (Option.bind_some _ _).symm.trans H; with_reducible exact H2_) | with_reducible exact H | (rw [hy337]; exact H) | exact H
                    have Ny337 := Aside0.mk hy337
                    clear hy337
                    obtain ⟨y340, hy340⟩ : ∃ y_ : List ByteArray, y_ = (([((rd_T36 ((rd_T47 l1 x6_1).f1) x7_2).f0)] : List ByteArray)) := ⟨_, rfl⟩
                    replace H : (if y337.length + y340.length < 8796093022208 then ((some (y337 ++ y340 : List ByteArray)).bind fun y343 => ((some (x5_2.drop (x9_3 : Int).toNat : List ByteArray)).bind fun y346 => (if y343.length + y346.length < 8796093022208 then (gangsawref49_Works.l1 k3 l0 l1 (y343 ++ y346) x6_1 (wrap64 (x7_2 + 1))) else (none)))) else (none)) = some r := by first | (rw [hy340]; with_reducible exact H) | (have H2_ := (Option.bind_some _ _).symm.trans H; rw [hy340]; with_reducible exact H2_) | (have H2_ := (Option.bind_some _ _).symm.trans H; with_reducible exact H2_) | with_reducible exact H | (rw [hy340]; exact H) | exact H
                    have Ny340 := Aside0.mk hy340
                    clear hy340
                    by_cases c46 : y337.length + y340.length < 8796093022208
                    ·rw [if_pos c46] at H
                     have LMc46 := Aside0.mk c46
                     clear c46
                     obtain ⟨y343, hy343⟩ : ∃ y_ : List ByteArray, y_ = (y337 ++ y340) := ⟨_, rfl⟩
                     replace H : ((some (x5_2.drop (x9_3 : Int).toNat : List ByteArray)).bind fun y346 => (if y343.length + y346.length < 8796093022208 then (gangsawref49_Works.l1 k3 l0 l1 (y343 ++ y346) x6_1 (wrap64 (x7_2 + 1))) else (none))) = some r := by first | (rw [hy343]; with_reducible exact H) | (have H2_ := (Option.bind_some _ _).symm.trans H; rw [hy343]; with_reducible exact H2_) | (have H2_ := (Option.bind_some _ _).symm.trans H; with_reducible exact H2_) | with_reducible exact H | (rw [hy343]; exact H) | exact H
                     have Ny343 := Aside0.mk hy343
                     clear hy343
                     have c47b0 := eq_true (of_decide_eq_true (by first | (with_reducible assumption) | assumption) : 0 ≤ x9_3)
                     have c48b0 := eq_true (of_decide_eq_true (by first | (with_reducible assumption) | assumption) : x9_3 ≤ (x5_2.length : Int))
                     obtain ⟨y346, hy346⟩ : ∃ y_ : List ByteArray, y_ = (x5_2.drop (x9_3 : Int).toNat) := ⟨_, rfl⟩
                     replace H : (if y343.length + y346.length < 8796093022208 then (gangsawref49_Works.l1 k3 l0 l1 (y343 ++ y346) x6_1 (wrap64 (x7_2 + 1))) else (none)) = some r := by first | (rw [hy346]; with_reducible exact H) | (have H2_ := (Option.bind_some _ _).symm.trans H; rw [hy346]; with_reducible exact H2_) | (have H2_ := (Option.bind_some _ _).symm.trans H; with_reducible exact H2_) | with_reducible exact H | (rw [hy346]; exact H) | exact H
                     have Ny346 := Aside0.mk hy346
                     clear hy346
                     by_cases c49 : y343.length + y346.length < 8796093022208
                     ·rw [if_pos c49] at H
                      have LMc49 := Aside0.mk c49
                      clear c49
                      obtain ⟨y350, hy350⟩ : ∃ y_ : List ByteArray, y_ = (y343 ++ y346) := ⟨_, rfl⟩
                      replace H : (gangsawref49_Works.l1 k3 l0 l1 y350 x6_1 (wrap64 (x7_2 + 1))) = some r := by first | (rw [hy350]; with_reducible exact H) | (have H2_ := (Option.bind_some _ _).symm.trans H; rw [hy350]; with_reducible exact H2_) | (have H2_ := (Option.bind_some _ _).symm.trans H; with_reducible exact H2_) | with_reducible exact H | (rw [hy350]; exact H) | exact H
                      have Ny350 := Aside0.mk hy350
                      clear hy350
                      have H' := Aside0.mk H
                      clear H
                      obtain ⟨Ao50, co50, eo50⟩ := Kd.R_slice HO_5.out
                      subst eo50
                      have p302 : 0 ≤ (x9_3 : Int) := of_decide_eq_true (by first | (with_reducible assumption) | assumption)
                      have q302 : x9_3 < (x5_2.length : Int) := of_decide_eq_true (by first | (with_reducible assumption) | assumption)
                      obtain ⟨ad302, e302, hx302_0⟩ := Kd.at_string (Kd.R_reads' HO_5.out).2.2 x9_3 p302 q302
                      cases e302
                      replace p302 := eq_true p302
                      replace q302 := eq_true q302
                      try go_wp2_with (first | ((with_reducible refine gate_callee (f := 13) rfl ?_); refine goesL_ (some 52) rfl rfl Try.func13 (by kernel_rfl) rfl #[.slice A0 l0.length c0, .string ((rd_T36 ((rd_T47 l1 x6_1).f1) x7_2).f0)] rfl (by (try simp only [List.map_toArray, List.map_cons, List.map_nil]); first | done | rfl | (simp only [List.length_drop, List.length_take]; rfl)) ?_; (with_reducible refine (gangsawref49_Who.calls k3 _ _ l0 ((rd_T36 ((rd_T47 l1 x6_1).f1) x7_2).f0) t303 _ ?side1 ?side2 A14.out).mono ?_); (case side1 => repeat (first | exact (Kd.C_below HR0.out HB.out) | (with_reducible refine Kd.C_alloc ?_ _) | (with_reducible refine Kd.C_drewN ?_ _) | (with_reducible refine Kd.C_drew ?_))); (case side2 => exact HC0.out); rintro e w51 ⟨v304, rfl, ho0, hb⟩; refine ⟨_, rfl, ?_⟩; have n0_ := Aside0.mk (Kd.R_below (by (with_reducible repeat (first | apply Kd.R_alloc | apply Kd.R_drewN | apply Kd.R_drew)); exact HO_5.out) hb); have n1_ := Aside0.mk (Kd.R_lower ho0 (below_size (by repeat (first | (with_reducible first | exact HB.out | apply below_alloc | apply pw_below_drewN | apply below_drew1) | exact HB.out)))); have n2_ := Aside0.mk (below_step (by repeat (first | (with_reducible first | exact HB.out | apply below_alloc | apply pw_below_drewN | apply below_drew1) | exact HB.out)) hb); clear HO_5; clear HB; have HO_5 := n0_; have HO305 := n1_; have HB := n2_; clear n0_ n1_ n2_; (try clear hb); (try clear hb2); (try clear hk); (try clear hi); (try clear ho0); obtain ⟨Ao52, co52, eo52⟩ := Kd.R_slice HO305.out; subst eo52; have p329 : 0 ≤ (x9_3 : Int) := of_decide_eq_true (by first | (with_reducible assumption) | assumption); have q329 : x9_3 < (x5_2.length : Int) := of_decide_eq_true (by first | (with_reducible assumption) | assumption); obtain ⟨ad329, e329, hx329_0⟩ := Kd.at_string (Kd.R_reads' HO_5.out).2.2 x9_3 p329 q329; obtain rfl : ad302 = ad329 := (by injection e329); replace p329 := eq_true p329; replace q329 := eq_true q329))
                      have n0_ := Aside0.mk (Kd.R_drew HO_5.out)
                      have n1_ := Aside0.mk (Kd.R_drew HO305.out)
                      have n2_ := Aside0.mk (below_drew1 HB.out)
                      clear HO_5
                      clear HO305
                      clear HB
                      have HO_5 := n0_
                      have HO305 := n1_
                      have HB := n2_
                      clear n0_ n1_ n2_
                      have q54 : (x9_3 : Int) ≤ ((x5_2.length : Int) : Int) := of_decide_eq_true (by first | (with_reducible assumption) | assumption)
                      obtain ⟨i054, hi054, _, hsz54, _⟩ := info_parts info9
                      have hroom54 : x5_2.length ≤ co50 := (Kd.R_reads' HO_5.out).2.1
                      have hC54 : Kd.C Kd.string _ (some ad302) x5_2.length x5_2 := (Kd.R_reads' HO_5.out).2.2
                      have hcut54 := cut_to (P := Try.prog) 52 9 .i64 Try.underlying52 hi054 (some ad302) x5_2.length co50 x9_3 (of_decide_eq_true (by first | (with_reducible assumption) | assumption)) q54 hroom54
                      have hr54 := Kd.C_take (m := (x9_3 : Int).toNat) hC54 (by omega)
                      have hy54 : y333.length = (x9_3 : Int).toNat := (by rw [Ny333.out, List.length_take]; omega)
                      rw [← Ny333.out] at hr54
                      rw [← hy54] at hcut54
                      have HR336 := Aside0.mk hr54
                      have HC336 := Aside0.mk (show y333.length ≤ co50 from by omega)
                      clear hr54 hC54 hroom54 hi054 hsz54
                      have KY54 := Aside0.mk hy54
                      clear hy54
                      have KL54 := Aside0.mk (show (x9_3 : Int).toNat ≤ x5_2.length from by omega)
                      replace q54 := eq_true q54
                      have q55 : (x9_3 : Int) ≤ ((x5_2.length : Int) : Int) := of_decide_eq_true (by first | (with_reducible assumption) | assumption)
                      obtain ⟨i055, hi055, _, hsz55, _⟩ := info_parts info9
                      have hroom55 : x5_2.length ≤ co50 := (Kd.R_reads' HO_5.out).2.1
                      have hC55 : Kd.C Kd.string _ (some ad302) x5_2.length x5_2 := (Kd.R_reads' HO_5.out).2.2
                      have q055 : (0 : Int) ≤ (x9_3 : Int) := of_decide_eq_true (by first | (with_reducible assumption) | assumption)
                      have hcut55 := cut_from (P := Try.prog) 52 9 .i64 Try.underlying52 hi055 1 hsz55 (some ad302) x5_2.length co50 x9_3 q055 q55
                      have hr55 := Kd.C_drop (m := (x9_3 : Int).toNat) (c := co50) hC55 (by omega) hroom55
                      obtain ⟨A55, hA55⟩ : ∃ A1, A1 = (if co50 = (x9_3 : Int).toNat then (some ad302) else ((some ad302) : Option Addr).map (·.add ((x9_3 : Int).toNat * 1))) := ⟨_, rfl⟩
                      obtain ⟨c55, hc55⟩ : ∃ c1, c1 = co50 - (x9_3 : Int).toNat := ⟨_, rfl⟩
                      have hy55 : y346.length = x5_2.length - (x9_3 : Int).toNat := (by rw [Ny346.out, List.length_drop] <;> omega)
                      rw [show (x5_2).drop (x9_3 : Int).toNat = y346 from Ny346.out.symm] at hr55
                      replace hr55 : Kd.C Kd.string _ A55 y346.length y346 := (by rw [hA55]; exact hr55)
                      rw [← hy55, ← hA55, ← hc55] at hcut55
                      have HR349 := Aside0.mk hr55
                      have HC349 := Aside0.mk (show y346.length ≤ c55 from by rw [hy55, hc55]; exact Nat.sub_le_sub_right hroom55 _)
                      clear hr55 hC55 hroom55 hi055 hsz55 hc55
                      have KY55 := Aside0.mk hy55
                      have KA55 := Aside0.mk hA55
                      clear hy55 hA55
                      have KL55 := Aside0.mk (show (x9_3 : Int).toNat ≤ x5_2.length from by omega)
                      replace q55 := eq_true q55
                      refine start_ (n := 13) (S := fun w' => True) (ds := []) #[false, false, false, false, false, false, false, false, false, false, false, false, false] (by kernel_rfl) rfl rfl trivial (fun hHeld => ?_); refine with_tabW gangsawref49_Works.tab13 gangsawref49_Works.bits13 (fun HT_ HW_ => ?_)
                      generalize w51.drew = w53 at HO_5 HO305 HB HR336 HR349 hHeld ⊢
                      refine pure_ (i := 1) (N := some 70) (v := ?_) (a' := ?_) #[false, true, false, false, false, false, false, false, false, false, false, false, false] rfl rfl (any_of HT_.out (by kernel_rfl)) (fun _ _ _ h => h) (Or.inl ⟨by rfl, ?_⟩) ?_ ?_
                      rotate_left
                      ·intro w'
                       go_simp
                       with_reducible rfl
                      rotate_left
                      ·simp only [Act.put, List.setIfInBounds_toArray, List.set_cons_zero, List.set_cons_succ, i64_w, i32_w]
                       rfl
                      refine pure_ (i := 2) (N := some 71) (v := ?_) (a' := ?_) #[false, true, true, false, false, false, false, false, false, false, false, false, false] rfl rfl (any_of HT_.out (by kernel_rfl)) (fun _ _ _ h => h) (Or.inl ⟨by rfl, ?_⟩) ?_ ?_
                      rotate_left
                      ·intro w'
                       go_simp
                       with_reducible rfl
                      rotate_left
                      ·simp only [Act.put, List.setIfInBounds_toArray, List.set_cons_zero, List.set_cons_succ, i64_w, i32_w]
                       rfl
                      refine pure_ (i := 3) (N := some 72) (v := ?_) (a' := ?_) #[false, true, true, true, false, false, false, false, false, false, false, false, false] rfl rfl (any_of HT_.out (by kernel_rfl)) (fun _ _ _ h => h) (Or.inl ⟨by rfl, ?_⟩) ?_ ?_
                      rotate_left
                      ·intro w'
                       go_simp
                       with_reducible rfl
                      rotate_left
                      ·simp only [Act.put, List.setIfInBounds_toArray, List.set_cons_zero, List.set_cons_succ, i64_w, i32_w]
                       rfl
                      refine pure_ (i := 5) (N := some 74) (v := ?_) (a' := ?_) #[false, true, true, true, false, true, false, false, false, false, false, false, false] rfl rfl (any_of HT_.out (by kernel_rfl)) (fun _ _ _ h => h) (Or.inl ⟨by rfl, ?_⟩) ?_ ?_
                      rotate_left
                      ·intro w'
                       go_simp
                       with_reducible rfl
                      rotate_left
                      ·simp only [Act.put, List.setIfInBounds_toArray, List.set_cons_zero, List.set_cons_succ, i64_w, i32_w]
                       rfl
                      refine pure_ (i := 8) (N := some 77) (v := ?_) (a' := ?_) #[false, true, true, true, false, true, false, false, true, false, false, false, false] rfl rfl (any_of HT_.out (by kernel_rfl)) (fun _ _ _ h => h) (Or.inl ⟨by rfl, ?_⟩) ?_ ?_
                      rotate_left
                      ·intro w'
                       go_simp
                       with_reducible rfl
                      rotate_left
                      ·simp only [Act.put, List.setIfInBounds_toArray, List.set_cons_zero, List.set_cons_succ, i64_w, i32_w]
                       rfl
                      refine pure_ (i := 9) (N := some 78) (v := ?_) (a' := ?_) #[false, true, true, true, false, true, false, false, true, true, false, false, false] rfl rfl (any_of HT_.out (by kernel_rfl)) (fun _ _ _ h => h) (Or.inl ⟨by rfl, ?_⟩) ?_ ?_
                      rotate_left
                      ·intro w'
                       go_simp
                       with_reducible rfl
                      rotate_left
                      ·simp only [Act.put, List.setIfInBounds_toArray, List.set_cons_zero, List.set_cons_succ, i64_w, i32_w]
                       rfl
                      refine pure_ (i := 10) (N := some 79) (v := ?_) (a' := ?_) #[false, true, true, true, false, true, false, false, true, true, true, false, false] rfl rfl (any_of HT_.out (by kernel_rfl)) (fun _ _ _ h => h) (Or.inl ⟨by rfl, ?_⟩) ?_ ?_
                      rotate_left
                      ·intro w'
                       go_simp
                       with_reducible rfl
                      rotate_left
                      ·simp only [Act.put, List.setIfInBounds_toArray, List.set_cons_zero, List.set_cons_succ, i64_w, i32_w]
                       rfl
                      refine join_ (σ := Value × Value × Value) 3 #[true, true, true, true, true, true, true, false, true, true, true, false, false] (fun s_ => [(69, s_.1), (73, s_.2.1), (75, s_.2.2)]) (fun s_ w' => (Kd.R (Kd.int .i64) 3 w' w.heap.size (fun _ => True) (.slice Ao52 t303.length co52) t303) ∧ (Kd.R Kd.string 9 w' w.heap.size (fun k_ => some k_ ≠ (s_.2.2 : Value).ownBlock ∧ some k_ ≠ (.slice (some ad302) x5_2.length co50 : Value).ownBlock) s_.2.1 y337) ∧ (Kd.R Kd.string 9 w' w.heap.size (fun k_ => some k_ ≠ (s_.2.1 : Value).ownBlock ∧ some k_ ≠ (.slice (some ad302) x5_2.length co50 : Value).ownBlock) s_.2.2 y340) ∧ (Kd.R Kd.string 9 w' w.heap.size (fun k_ => some k_ ≠ (s_.2.1 : Value).ownBlock ∧ some k_ ≠ (s_.2.2 : Value).ownBlock) (.slice (some ad302) x5_2.length co50) x5_2) ∧ (Kd.C Kd.string w' (some ad302) y333.length y333) ∧ (Kd.C Kd.string w' A55 y346.length y346) ∧ (Below w.heap.size w w')) ?_ ?_
                      rotate_left
                      ·intro hCont
                       refine two_ (i := 0) (j := 6) (Ni := some 69) (Nj := some 75) #[true, true, true, true, false, true, false, false, true, true, true, false, false] #[false, true, true, true, false, true, true, false, true, true, true, false, false] rfl rfl rfl rfl (two_of HT_.out (by kernel_rfl)) (by decide) (by decide) (fun K hK => ?_) (fun K hK => ?_)
                       ·skip
                        refine Kd.R_lit_step Kd.string _ 9 ?hg (N := 69) ?hd (xs := ([] : List ByteArray)) (inner := []) (ok := fun _ => True) (okp := fun _ => True) ?hr ?hp (fun _ hk => hk) trivial (Below.refl _ _) (Nat.le_refl _) (by simp) ?_; (case hd => rfl); (case hg => rfl); (case hr => first | (go_simp; done) | (go_simp; rfl)); (case hp => exact (Reps.none _ _))
                        intro v331 w56 ho57 hb hg_ hnew_
                        clear hg_ hnew_
                        (first | rw [← Ny330.out] at ho57 | (simp only [Int.reduceToNat] at ho57; rw [← Ny330.out] at ho57))
                        have n0_ := Aside0.mk (Kd.R_elder' (by (with_reducible repeat (first | apply Kd.R_alloc | apply Kd.R_drewN | apply Kd.R_drew)); exact HO_5.out) (Kd.R_base ho57) hb)
                        have n1_ := Aside0.mk (Kd.R_below (by (with_reducible repeat (first | apply Kd.R_alloc | apply Kd.R_drewN | apply Kd.R_drew)); exact HO305.out) hb)
                        have n2_ := Aside0.mk (Kd.R_lower (Kd.R_new' ho57 (Kd.R_lt (by (with_reducible repeat (first | apply Kd.R_alloc | apply Kd.R_drewN | apply Kd.R_drew)); exact HO_5.out))) (below_size (by repeat (first | (with_reducible first | exact HB.out | apply below_alloc | apply pw_below_drewN | apply below_drew1) | exact HB.out))))
                        have n3_ := Aside0.mk (Kd.C_below (by repeat (first | (with_reducible exact HR336.out) | (with_reducible refine Kd.C_alloc ?_ _) | (with_reducible refine Kd.C_drewN ?_ _) | (with_reducible refine Kd.C_drew ?_) | exact HR336.out)) hb)
                        have n4_ := Aside0.mk (Kd.C_below (by repeat (first | (with_reducible exact HR349.out) | (with_reducible refine Kd.C_alloc ?_ _) | (with_reducible refine Kd.C_drewN ?_ _) | (with_reducible refine Kd.C_drew ?_) | exact HR349.out)) hb)
                        have n5_ := Aside0.mk (below_step (by repeat (first | (with_reducible first | exact HB.out | apply below_alloc | apply pw_below_drewN | apply below_drew1) | exact HB.out)) hb)
                        clear HO_5
                        clear HO305
                        clear HR336
                        clear HR349
                        clear HB
                        have HO_5 := n0_
                        have HO305 := n1_
                        have HO332 := n2_
                        have HR336 := n3_
                        have HR349 := n4_
                        have HB := n5_
                        clear n0_ n1_ n2_ n3_ n4_ n5_
                        clear hb ho57
                        refine hK.out _ _ trivial (fun hHeld => ?_)
                        clear hK K
                        refine norm_ (a' := ?_) ?_ ?_
                        rotate_left
                        ·show Act.put _ (some 69) _ = _
                         simp only [Act.put, List.setIfInBounds_toArray, List.set_cons_zero, List.set_cons_succ, i64_w, i32_w]
                         rfl
                        refine two_ (i := 4) (j := 6) (Ni := some 73) (Nj := some 75) #[true, true, true, true, true, true, false, false, true, true, true, false, false] #[true, true, true, true, false, true, true, false, true, true, true, false, false] rfl rfl rfl rfl (two_of HT_.out (by kernel_rfl)) (by decide) (by decide) (fun K hK => ?_) (fun K hK => ?_)
                        ·skip
                         refine Kd.R_append_rows_step Kd.string (w0 := w) w.heap.size (by rfl) (.tmp 69) (.tmp 72) 52 9 (.string ⟨#[]⟩) 16 rfl Try.underlying52 info9 rfl (by decide) (by omega) v331 y330 y333 _ _ _ (fun k_ => some k_ ≠ (.slice (some ad302) x5_2.length co50 : Value).ownBlock) (fun _ => False) rfl rfl ?aO ?aR (fun _ _ h => h) (fun _ h => h.elim) ?aF ?aB ?aS ?aL ?_
                         (case aR => repeat (first | exact (by repeat (first | (with_reducible exact HR336.out) | (with_reducible refine Kd.C_alloc ?_ _) | (with_reducible refine Kd.C_drewN ?_ _) | (with_reducible refine Kd.C_drew ?_) | exact HR336.out)) | (with_reducible refine Kd.C_alloc ?_ _) | (with_reducible refine Kd.C_drewN ?_ _) | (with_reducible refine Kd.C_drew ?_)))
                         (case aB => exact (by repeat (first | (with_reducible first | exact HB.out | apply below_alloc | apply pw_below_drewN | apply below_drew1) | exact HB.out)))
                         (case aF => exact (fun k_ hk => Kd.fresh' (Kd.R_lt (by (with_reducible repeat (first | apply Kd.R_alloc | apply Kd.R_drewN | apply Kd.R_drew)); exact HO_5.out)) k_ hk))
                         (case aO => exact (by (with_reducible repeat (first | apply Kd.R_alloc | apply Kd.R_drewN | apply Kd.R_drew)); exact Kd.R_mono HO332.out (fun _ hk => hk.2)))
                         (case aS => exact (below_size (by repeat (first | (with_reducible first | exact HB.out | apply below_alloc | apply pw_below_drewN | apply below_drew1) | exact HB.out))))
                         (case aL => have := LMc45.out; omega)
                         intro v338 w58 ho hb hg hat
                         rw [← Ny337.out] at ho
                         have n0_ := Aside0.mk (Kd.R_after (ok := (fun _ => True)) (by (with_reducible repeat (first | apply Kd.R_alloc | apply Kd.R_drewN | apply Kd.R_drew)); exact HO_5.out) hg hat)
                         have n1_ := Aside0.mk (Kd.R_over' (by (with_reducible repeat (first | apply Kd.R_alloc | apply Kd.R_drewN | apply Kd.R_drew)); exact HO305.out) (Kd.R_typed (by (with_reducible repeat (first | apply Kd.R_alloc | apply Kd.R_drewN | apply Kd.R_drew)); exact HO332.out)) (by decide) hg)
                         have n2_ := Aside0.mk (hb)
                         have n3_ := Aside0.mk ((show Kd.C Kd.string w58 (some ad302) y333.length y333 from by rw [Ny333.out]; exact Kd.C_take (m := (x9_3 : Int).toNat) ((Kd.R_reads' (Kd.R_after (ok := (fun _ => True)) (by (with_reducible repeat (first | apply Kd.R_alloc | apply Kd.R_drewN | apply Kd.R_drew)); exact HO_5.out) hg hat)).2.2) KL54.out))
                         have n4_ := Aside0.mk ((show Kd.C Kd.string w58 A55 y346.length y346 from by rw [Ny346.out, KA55.out]; exact Kd.C_drop (m := (x9_3 : Int).toNat) (c := co50) ((Kd.R_reads' (Kd.R_after (ok := (fun _ => True)) (by (with_reducible repeat (first | apply Kd.R_alloc | apply Kd.R_drewN | apply Kd.R_drew)); exact HO_5.out) hg hat)).2.2) KL55.out ((Kd.R_reads' (Kd.R_after (ok := (fun _ => True)) (by (with_reducible repeat (first | apply Kd.R_alloc | apply Kd.R_drewN | apply Kd.R_drew)); exact HO_5.out) hg hat)).2.1)))
                         have n5_ := Aside0.mk (ho)
                         clear HO_5
                         clear HO305
                         clear HB
                         clear HR336
                         clear HR349
                         clear HO332
                         have HO_5 := n0_
                         have HO305 := n1_
                         have HB := n2_
                         have HR336 := n3_
                         have HR349 := n4_
                         have HO339 := n5_
                         clear n0_ n1_ n2_ n3_ n4_ n5_
                         clear ho hb hg hat
                         refine hK.out _ _ trivial (fun hHeld => ?_)
                         clear hK K
                         refine norm_ (a' := ?_) ?_ ?_
                         rotate_left
                         ·show Act.put _ (some 73) _ = _
                          simp only [Act.put, List.setIfInBounds_toArray, List.set_cons_zero, List.set_cons_succ, i64_w, i32_w]
                          rfl
                         refine one_ (i := 6) (N := some 75) #[true, true, true, true, true, true, true, false, true, true, true, false, false] rfl rfl (one_of HT_.out (by kernel_rfl)) (by decide) (fun K hK => ?_)
                         refine Kd.R_lit_step Kd.string _ 9 ?hg (N := 75) ?hd (xs := ([((rd_T36 ((rd_T47 l1 x6_1).f1) x7_2).f0)] : List ByteArray)) (inner := [.string ((rd_T36 ((rd_T47 l1 x6_1).f1) x7_2).f0)]) (ok := fun _ => True) (okp := fun _ => True) ?hr ?hp (fun _ hk => hk) trivial (Below.refl _ _) (Nat.le_refl _) (by simp) ?_; (case hd => rfl); (case hg => rfl); (case hr => first | (go_simp; done) | (go_simp; rfl)); (case hp => exact (Reps.one (show Kd.M Kd.string _ _ _ ((rd_T36 ((rd_T47 l1 x6_1).f1) x7_2).f0) [.string ((rd_T36 ((rd_T47 l1 x6_1).f1) x7_2).f0)] from rfl) (Reps.none _ _)))
                         intro v341 w59 ho60 hb hg_ hnew_
                         clear hg_ hnew_
                         (first | rw [← Ny340.out] at ho60 | (simp only [Int.reduceToNat] at ho60; rw [← Ny340.out] at ho60))
                         have n0_ := Aside0.mk (Kd.R_elder' (by (with_reducible repeat (first | apply Kd.R_alloc | apply Kd.R_drewN | apply Kd.R_drew)); exact HO_5.out) (Kd.R_base ho60) hb)
                         have n1_ := Aside0.mk (Kd.R_below (by (with_reducible repeat (first | apply Kd.R_alloc | apply Kd.R_drewN | apply Kd.R_drew)); exact HO305.out) hb)
                         have n2_ := Aside0.mk (Kd.R_elder' (by (with_reducible repeat (first | apply Kd.R_alloc | apply Kd.R_drewN | apply Kd.R_drew)); exact HO339.out) (Kd.R_base ho60) hb)
                         have n3_ := Aside0.mk (Kd.R_lower (Kd.R_new' (Kd.R_new' ho60 (Kd.R_lt (by (with_reducible repeat (first | apply Kd.R_alloc | apply Kd.R_drewN | apply Kd.R_drew)); exact HO_5.out))) (Kd.R_lt (by (with_reducible repeat (first | apply Kd.R_alloc | apply Kd.R_drewN | apply Kd.R_drew)); exact HO339.out))) (below_size (by repeat (first | (with_reducible first | exact HB.out | apply below_alloc | apply pw_below_drewN | apply below_drew1) | exact HB.out))))
                         have n4_ := Aside0.mk (Kd.C_below (by repeat (first | (with_reducible exact HR336.out) | (with_reducible refine Kd.C_alloc ?_ _) | (with_reducible refine Kd.C_drewN ?_ _) | (with_reducible refine Kd.C_drew ?_) | exact HR336.out)) hb)
                         have n5_ := Aside0.mk (Kd.C_below (by repeat (first | (with_reducible exact HR349.out) | (with_reducible refine Kd.C_alloc ?_ _) | (with_reducible refine Kd.C_drewN ?_ _) | (with_reducible refine Kd.C_drew ?_) | exact HR349.out)) hb)
                         have n6_ := Aside0.mk (below_step (by repeat (first | (with_reducible first | exact HB.out | apply below_alloc | apply pw_below_drewN | apply below_drew1) | exact HB.out)) hb)
                         clear HO_5
                         clear HO305
                         clear HO339
                         clear HR336
                         clear HR349
                         clear HB
                         have HO_5 := n0_
                         have HO305 := n1_
                         have HO339 := n2_
                         have HO342 := n3_
                         have HR336 := n4_
                         have HR349 := n5_
                         have HB := n6_
                         clear n0_ n1_ n2_ n3_ n4_ n5_ n6_
                         clear hb ho60
                         refine hK.out _ _ trivial (fun hHeld => ?_)
                         clear hK K
                         refine norm_ (a' := ?_) ?_ ?_
                         rotate_left
                         ·show Act.put _ (some 75) _ = _
                          simp only [Act.put, List.setIfInBounds_toArray, List.set_cons_zero, List.set_cons_succ, i64_w, i32_w]
                          rfl
                         exact norm_ (by simp only [putAll, Act.put, List.setIfInBounds_toArray, List.set_cons_zero, List.set_cons_succ]) (hCont (v331, v338, v341) _ ⟨(by (with_reducible repeat (first | apply Kd.R_alloc | apply Kd.R_drewN | apply Kd.R_drew)); exact HO305.out), (by (with_reducible repeat (first | apply Kd.R_alloc | apply Kd.R_drewN | apply Kd.R_drew)); exact Kd.R_mono HO339.out (fun _ hk => ⟨hk.2, hk.1⟩)), (by (with_reducible repeat (first | apply Kd.R_alloc | apply Kd.R_drewN | apply Kd.R_drew)); exact Kd.R_mono HO342.out (fun _ hk => ⟨hk.2, hk.1.2⟩)), (by (with_reducible repeat (first | apply Kd.R_alloc | apply Kd.R_drewN | apply Kd.R_drew)); exact Kd.R_mono HO_5.out (fun _ hk => ⟨hk.1.2, hk.2⟩)), (by repeat (first | (with_reducible exact HR336.out) | (with_reducible refine Kd.C_alloc ?_ _) | (with_reducible refine Kd.C_drewN ?_ _) | (with_reducible refine Kd.C_drew ?_) | exact HR336.out)), (by repeat (first | (with_reducible exact HR349.out) | (with_reducible refine Kd.C_alloc ?_ _) | (with_reducible refine Kd.C_drewN ?_ _) | (with_reducible refine Kd.C_drew ?_) | exact HR349.out)), (by repeat (first | (with_reducible first | exact HB.out | apply below_alloc | apply pw_below_drewN | apply below_drew1) | exact HB.out))⟩)
                        ·skip
                         refine Kd.R_lit_step Kd.string _ 9 ?hg (N := 75) ?hd (xs := ([((rd_T36 ((rd_T47 l1 x6_1).f1) x7_2).f0)] : List ByteArray)) (inner := [.string ((rd_T36 ((rd_T47 l1 x6_1).f1) x7_2).f0)]) (ok := fun _ => True) (okp := fun _ => True) ?hr ?hp (fun _ hk => hk) trivial (Below.refl _ _) (Nat.le_refl _) (by simp) ?_; (case hd => rfl); (case hg => rfl); (case hr => first | (go_simp; done) | (go_simp; rfl)); (case hp => exact (Reps.one (show Kd.M Kd.string _ _ _ ((rd_T36 ((rd_T47 l1 x6_1).f1) x7_2).f0) [.string ((rd_T36 ((rd_T47 l1 x6_1).f1) x7_2).f0)] from rfl) (Reps.none _ _)))
                         intro v341 w58 ho59 hb hg_ hnew_
                         clear hg_ hnew_
                         (first | rw [← Ny340.out] at ho59 | (simp only [Int.reduceToNat] at ho59; rw [← Ny340.out] at ho59))
                         have n0_ := Aside0.mk (Kd.R_elder' (by (with_reducible repeat (first | apply Kd.R_alloc | apply Kd.R_drewN | apply Kd.R_drew)); exact HO_5.out) (Kd.R_base ho59) hb)
                         have n1_ := Aside0.mk (Kd.R_below (by (with_reducible repeat (first | apply Kd.R_alloc | apply Kd.R_drewN | apply Kd.R_drew)); exact HO305.out) hb)
                         have n2_ := Aside0.mk (Kd.R_elder' (by (with_reducible repeat (first | apply Kd.R_alloc | apply Kd.R_drewN | apply Kd.R_drew)); exact HO332.out) (Kd.R_base ho59) hb)
                         have n3_ := Aside0.mk (Kd.R_lower (Kd.R_new' (Kd.R_new' ho59 (Kd.R_lt (by (with_reducible repeat (first | apply Kd.R_alloc | apply Kd.R_drewN | apply Kd.R_drew)); exact HO_5.out))) (Kd.R_lt (by (with_reducible repeat (first | apply Kd.R_alloc | apply Kd.R_drewN | apply Kd.R_drew)); exact HO332.out))) (below_size (by repeat (first | (with_reducible first | exact HB.out | apply below_alloc | apply pw_below_drewN | apply below_drew1) | exact HB.out))))
                         have n4_ := Aside0.mk (Kd.C_below (by repeat (first | (with_reducible exact HR336.out) | (with_reducible refine Kd.C_alloc ?_ _) | (with_reducible refine Kd.C_drewN ?_ _) | (with_reducible refine Kd.C_drew ?_) | exact HR336.out)) hb)
                         have n5_ := Aside0.mk (Kd.C_below (by repeat (first | (with_reducible exact HR349.out) | (with_reducible refine Kd.C_alloc ?_ _) | (with_reducible refine Kd.C_drewN ?_ _) | (with_reducible refine Kd.C_drew ?_) | exact HR349.out)) hb)
                         have n6_ := Aside0.mk (below_step (by repeat (first | (with_reducible first | exact HB.out | apply below_alloc | apply pw_below_drewN | apply below_drew1) | exact HB.out)) hb)
                         clear HO_5
                         clear HO305
                         clear HO332
                         clear HR336
                         clear HR349
                         clear HB
                         have HO_5 := n0_
                         have HO305 := n1_
                         have HO332 := n2_
                         have HO342 := n3_
                         have HR336 := n4_
                         have HR349 := n5_
                         have HB := n6_
                         clear n0_ n1_ n2_ n3_ n4_ n5_ n6_
                         clear hb ho59
                         refine hK.out _ _ trivial (fun hHeld => ?_)
                         clear hK K
                         refine norm_ (a' := ?_) ?_ ?_
                         rotate_left
                         ·show Act.put _ (some 75) _ = _
                          simp only [Act.put, List.setIfInBounds_toArray, List.set_cons_zero, List.set_cons_succ, i64_w, i32_w]
                          rfl
                         refine one_ (i := 4) (N := some 73) #[true, true, true, true, true, true, true, false, true, true, true, false, false] rfl rfl (one_of HT_.out (by kernel_rfl)) (by decide) (fun K hK => ?_)
                         refine Kd.R_append_rows_step Kd.string (w0 := w) w.heap.size (by rfl) (.tmp 69) (.tmp 72) 52 9 (.string ⟨#[]⟩) 16 rfl Try.underlying52 info9 rfl (by decide) (by omega) v331 y330 y333 _ _ _ (fun k_ => some k_ ≠ (.slice (some ad302) x5_2.length co50 : Value).ownBlock ∧ some k_ ≠ (v341 : Value).ownBlock) (fun _ => False) rfl rfl ?aO ?aR (fun _ _ h => h) (fun _ h => h.elim) ?aF ?aB ?aS ?aL ?_
                         (case aR => repeat (first | exact (by repeat (first | (with_reducible exact HR336.out) | (with_reducible refine Kd.C_alloc ?_ _) | (with_reducible refine Kd.C_drewN ?_ _) | (with_reducible refine Kd.C_drew ?_) | exact HR336.out)) | (with_reducible refine Kd.C_alloc ?_ _) | (with_reducible refine Kd.C_drewN ?_ _) | (with_reducible refine Kd.C_drew ?_)))
                         (case aB => exact (by repeat (first | (with_reducible first | exact HB.out | apply below_alloc | apply pw_below_drewN | apply below_drew1) | exact HB.out)))
                         (case aF => exact (fun k_ hk => ⟨Kd.fresh' (Kd.R_lt (by (with_reducible repeat (first | apply Kd.R_alloc | apply Kd.R_drewN | apply Kd.R_drew)); exact HO_5.out)) k_ hk, Kd.fresh' (Kd.R_lt (by (with_reducible repeat (first | apply Kd.R_alloc | apply Kd.R_drewN | apply Kd.R_drew)); exact HO342.out)) k_ hk⟩))
                         (case aO => exact (by (with_reducible repeat (first | apply Kd.R_alloc | apply Kd.R_drewN | apply Kd.R_drew)); exact Kd.R_mono HO332.out (fun _ hk => ⟨hk.1.2, hk.2⟩)))
                         (case aS => exact (below_size (by repeat (first | (with_reducible first | exact HB.out | apply below_alloc | apply pw_below_drewN | apply below_drew1) | exact HB.out))))
                         (case aL => have := LMc45.out; omega)
                         intro v338 w60 ho hb hg hat
                         rw [← Ny337.out] at ho
                         have n0_ := Aside0.mk (Kd.R_after (ok := (fun k_ => some k_ ≠ (v341 : Value).ownBlock)) (by (with_reducible repeat (first | apply Kd.R_alloc | apply Kd.R_drewN | apply Kd.R_drew)); exact Kd.R_mono HO_5.out (fun _ hk => ⟨hk.2, hk.1.2⟩)) hg hat)
                         have n1_ := Aside0.mk (Kd.R_over' (by (with_reducible repeat (first | apply Kd.R_alloc | apply Kd.R_drewN | apply Kd.R_drew)); exact HO305.out) (Kd.R_typed (by (with_reducible repeat (first | apply Kd.R_alloc | apply Kd.R_drewN | apply Kd.R_drew)); exact HO332.out)) (by decide) hg)
                         have n2_ := Aside0.mk (Kd.R_after (ok := (fun k_ => some k_ ≠ (.slice (some ad302) x5_2.length co50 : Value).ownBlock)) (by (with_reducible repeat (first | apply Kd.R_alloc | apply Kd.R_drewN | apply Kd.R_drew)); exact Kd.R_mono HO342.out (fun _ hk => ⟨hk.1.2, hk.2⟩)) hg hat)
                         have n3_ := Aside0.mk (hb)
                         have n4_ := Aside0.mk ((show Kd.C Kd.string w60 (some ad302) y333.length y333 from by rw [Ny333.out]; exact Kd.C_take (m := (x9_3 : Int).toNat) ((Kd.R_reads' (Kd.R_after (ok := (fun k_ => some k_ ≠ (v341 : Value).ownBlock)) (by (with_reducible repeat (first | apply Kd.R_alloc | apply Kd.R_drewN | apply Kd.R_drew)); exact Kd.R_mono HO_5.out (fun _ hk => ⟨hk.2, hk.1.2⟩)) hg hat)).2.2) KL54.out))
                         have n5_ := Aside0.mk ((show Kd.C Kd.string w60 A55 y346.length y346 from by rw [Ny346.out, KA55.out]; exact Kd.C_drop (m := (x9_3 : Int).toNat) (c := co50) ((Kd.R_reads' (Kd.R_after (ok := (fun k_ => some k_ ≠ (v341 : Value).ownBlock)) (by (with_reducible repeat (first | apply Kd.R_alloc | apply Kd.R_drewN | apply Kd.R_drew)); exact Kd.R_mono HO_5.out (fun _ hk => ⟨hk.2, hk.1.2⟩)) hg hat)).2.2) KL55.out ((Kd.R_reads' (Kd.R_after (ok := (fun k_ => some k_ ≠ (v341 : Value).ownBlock)) (by (with_reducible repeat (first | apply Kd.R_alloc | apply Kd.R_drewN | apply Kd.R_drew)); exact Kd.R_mono HO_5.out (fun _ hk => ⟨hk.2, hk.1.2⟩)) hg hat)).2.1)))
                         have n6_ := Aside0.mk (ho)
                         clear HO_5
                         clear HO305
                         clear HO342
                         clear HB
                         clear HR336
                         clear HR349
                         clear HO332
                         have HO_5 := n0_
                         have HO305 := n1_
                         have HO342 := n2_
                         have HB := n3_
                         have HR336 := n4_
                         have HR349 := n5_
                         have HO339 := n6_
                         clear n0_ n1_ n2_ n3_ n4_ n5_ n6_
                         clear ho hb hg hat
                         refine hK.out _ _ trivial (fun hHeld => ?_)
                         clear hK K
                         refine norm_ (a' := ?_) ?_ ?_
                         rotate_left
                         ·show Act.put _ (some 73) _ = _
                          simp only [Act.put, List.setIfInBounds_toArray, List.set_cons_zero, List.set_cons_succ, i64_w, i32_w]
                          rfl
                         exact norm_ (by simp only [putAll, Act.put, List.setIfInBounds_toArray, List.set_cons_zero, List.set_cons_succ]) (hCont (v331, v338, v341) _ ⟨(by (with_reducible repeat (first | apply Kd.R_alloc | apply Kd.R_drewN | apply Kd.R_drew)); exact HO305.out), (by (with_reducible repeat (first | apply Kd.R_alloc | apply Kd.R_drewN | apply Kd.R_drew)); exact Kd.R_mono HO339.out (fun _ hk => ⟨hk.2, hk.1⟩)), (by (with_reducible repeat (first | apply Kd.R_alloc | apply Kd.R_drewN | apply Kd.R_drew)); exact Kd.R_mono HO342.out (fun _ hk => ⟨hk.2, hk.1⟩)), (by (with_reducible repeat (first | apply Kd.R_alloc | apply Kd.R_drewN | apply Kd.R_drew)); exact Kd.R_mono HO_5.out (fun _ hk => ⟨hk.2, hk.1⟩)), (by repeat (first | (with_reducible exact HR336.out) | (with_reducible refine Kd.C_alloc ?_ _) | (with_reducible refine Kd.C_drewN ?_ _) | (with_reducible refine Kd.C_drew ?_) | exact HR336.out)), (by repeat (first | (with_reducible exact HR349.out) | (with_reducible refine Kd.C_alloc ?_ _) | (with_reducible refine Kd.C_drewN ?_ _) | (with_reducible refine Kd.C_drew ?_) | exact HR349.out)), (by repeat (first | (with_reducible first | exact HB.out | apply below_alloc | apply pw_below_drewN | apply below_drew1) | exact HB.out))⟩)
                       ·skip
                        refine Kd.R_lit_step Kd.string _ 9 ?hg (N := 75) ?hd (xs := ([((rd_T36 ((rd_T47 l1 x6_1).f1) x7_2).f0)] : List ByteArray)) (inner := [.string ((rd_T36 ((rd_T47 l1 x6_1).f1) x7_2).f0)]) (ok := fun _ => True) (okp := fun _ => True) ?hr ?hp (fun _ hk => hk) trivial (Below.refl _ _) (Nat.le_refl _) (by simp) ?_; (case hd => rfl); (case hg => rfl); (case hr => first | (go_simp; done) | (go_simp; rfl)); (case hp => exact (Reps.one (show Kd.M Kd.string _ _ _ ((rd_T36 ((rd_T47 l1 x6_1).f1) x7_2).f0) [.string ((rd_T36 ((rd_T47 l1 x6_1).f1) x7_2).f0)] from rfl) (Reps.none _ _)))
                        intro v341 w56 ho57 hb hg_ hnew_
                        clear hg_ hnew_
                        (first | rw [← Ny340.out] at ho57 | (simp only [Int.reduceToNat] at ho57; rw [← Ny340.out] at ho57))
                        have n0_ := Aside0.mk (Kd.R_elder' (by (with_reducible repeat (first | apply Kd.R_alloc | apply Kd.R_drewN | apply Kd.R_drew)); exact HO_5.out) (Kd.R_base ho57) hb)
                        have n1_ := Aside0.mk (Kd.R_below (by (with_reducible repeat (first | apply Kd.R_alloc | apply Kd.R_drewN | apply Kd.R_drew)); exact HO305.out) hb)
                        have n2_ := Aside0.mk (Kd.R_lower (Kd.R_new' ho57 (Kd.R_lt (by (with_reducible repeat (first | apply Kd.R_alloc | apply Kd.R_drewN | apply Kd.R_drew)); exact HO_5.out))) (below_size (by repeat (first | (with_reducible first | exact HB.out | apply below_alloc | apply pw_below_drewN | apply below_drew1) | exact HB.out))))
                        have n3_ := Aside0.mk (Kd.C_below (by repeat (first | (with_reducible exact HR336.out) | (with_reducible refine Kd.C_alloc ?_ _) | (with_reducible refine Kd.C_drewN ?_ _) | (with_reducible refine Kd.C_drew ?_) | exact HR336.out)) hb)
                        have n4_ := Aside0.mk (Kd.C_below (by repeat (first | (with_reducible exact HR349.out) | (with_reducible refine Kd.C_alloc ?_ _) | (with_reducible refine Kd.C_drewN ?_ _) | (with_reducible refine Kd.C_drew ?_) | exact HR349.out)) hb)
                        have n5_ := Aside0.mk (below_step (by repeat (first | (with_reducible first | exact HB.out | apply below_alloc | apply pw_below_drewN | apply below_drew1) | exact HB.out)) hb)
                        clear HO_5
                        clear HO305
                        clear HR336
                        clear HR349
                        clear HB
                        have HO_5 := n0_
                        have HO305 := n1_
                        have HO342 := n2_
                        have HR336 := n3_
                        have HR349 := n4_
                        have HB := n5_
                        clear n0_ n1_ n2_ n3_ n4_ n5_
                        clear hb ho57
                        refine hK.out _ _ trivial (fun hHeld => ?_)
                        clear hK K
                        refine norm_ (a' := ?_) ?_ ?_
                        rotate_left
                        ·show Act.put _ (some 75) _ = _
                         simp only [Act.put, List.setIfInBounds_toArray, List.set_cons_zero, List.set_cons_succ, i64_w, i32_w]
                         rfl
                        refine one_ (i := 0) (N := some 69) #[true, true, true, true, false, true, true, false, true, true, true, false, false] rfl rfl (one_of HT_.out (by kernel_rfl)) (by decide) (fun K hK => ?_)
                        refine Kd.R_lit_step Kd.string _ 9 ?hg (N := 69) ?hd (xs := ([] : List ByteArray)) (inner := []) (ok := fun _ => True) (okp := fun _ => True) ?hr ?hp (fun _ hk => hk) trivial (Below.refl _ _) (Nat.le_refl _) (by simp) ?_; (case hd => rfl); (case hg => rfl); (case hr => first | (go_simp; done) | (go_simp; rfl)); (case hp => exact (Reps.none _ _))
                        intro v331 w58 ho59 hb hg_ hnew_
                        clear hg_ hnew_
                        (first | rw [← Ny330.out] at ho59 | (simp only [Int.reduceToNat] at ho59; rw [← Ny330.out] at ho59))
                        have n0_ := Aside0.mk (Kd.R_elder' (by (with_reducible repeat (first | apply Kd.R_alloc | apply Kd.R_drewN | apply Kd.R_drew)); exact HO_5.out) (Kd.R_base ho59) hb)
                        have n1_ := Aside0.mk (Kd.R_below (by (with_reducible repeat (first | apply Kd.R_alloc | apply Kd.R_drewN | apply Kd.R_drew)); exact HO305.out) hb)
                        have n2_ := Aside0.mk (Kd.R_elder' (by (with_reducible repeat (first | apply Kd.R_alloc | apply Kd.R_drewN | apply Kd.R_drew)); exact HO342.out) (Kd.R_base ho59) hb)
                        have n3_ := Aside0.mk (Kd.R_lower (Kd.R_new' (Kd.R_new' ho59 (Kd.R_lt (by (with_reducible repeat (first | apply Kd.R_alloc | apply Kd.R_drewN | apply Kd.R_drew)); exact HO_5.out))) (Kd.R_lt (by (with_reducible repeat (first | apply Kd.R_alloc | apply Kd.R_drewN | apply Kd.R_drew)); exact HO342.out))) (below_size (by repeat (first | (with_reducible first | exact HB.out | apply below_alloc | apply pw_below_drewN | apply below_drew1) | exact HB.out))))
                        have n4_ := Aside0.mk (Kd.C_below (by repeat (first | (with_reducible exact HR336.out) | (with_reducible refine Kd.C_alloc ?_ _) | (with_reducible refine Kd.C_drewN ?_ _) | (with_reducible refine Kd.C_drew ?_) | exact HR336.out)) hb)
                        have n5_ := Aside0.mk (Kd.C_below (by repeat (first | (with_reducible exact HR349.out) | (with_reducible refine Kd.C_alloc ?_ _) | (with_reducible refine Kd.C_drewN ?_ _) | (with_reducible refine Kd.C_drew ?_) | exact HR349.out)) hb)
                        have n6_ := Aside0.mk (below_step (by repeat (first | (with_reducible first | exact HB.out | apply below_alloc | apply pw_below_drewN | apply below_drew1) | exact HB.out)) hb)
                        clear HO_5
                        clear HO305
                        clear HO342
                        clear HR336
                        clear HR349
                        clear HB
                        have HO_5 := n0_
                        have HO305 := n1_
                        have HO342 := n2_
                        have HO332 := n3_
                        have HR336 := n4_
                        have HR349 := n5_
                        have HB := n6_
                        clear n0_ n1_ n2_ n3_ n4_ n5_ n6_
                        clear hb ho59
                        refine hK.out _ _ trivial (fun hHeld => ?_)
                        clear hK K
                        refine norm_ (a' := ?_) ?_ ?_
                        rotate_left
                        ·show Act.put _ (some 69) _ = _
                         simp only [Act.put, List.setIfInBounds_toArray, List.set_cons_zero, List.set_cons_succ, i64_w, i32_w]
                         rfl
                        refine one_ (i := 4) (N := some 73) #[true, true, true, true, true, true, true, false, true, true, true, false, false] rfl rfl (one_of HT_.out (by kernel_rfl)) (by decide) (fun K hK => ?_)
                        refine Kd.R_append_rows_step Kd.string (w0 := w) w.heap.size (by rfl) (.tmp 69) (.tmp 72) 52 9 (.string ⟨#[]⟩) 16 rfl Try.underlying52 info9 rfl (by decide) (by omega) v331 y330 y333 _ _ _ (fun k_ => some k_ ≠ (.slice (some ad302) x5_2.length co50 : Value).ownBlock ∧ some k_ ≠ (v341 : Value).ownBlock) (fun _ => False) rfl rfl ?aO ?aR (fun _ _ h => h) (fun _ h => h.elim) ?aF ?aB ?aS ?aL ?_
                        (case aR => repeat (first | exact (by repeat (first | (with_reducible exact HR336.out) | (with_reducible refine Kd.C_alloc ?_ _) | (with_reducible refine Kd.C_drewN ?_ _) | (with_reducible refine Kd.C_drew ?_) | exact HR336.out)) | (with_reducible refine Kd.C_alloc ?_ _) | (with_reducible refine Kd.C_drewN ?_ _) | (with_reducible refine Kd.C_drew ?_)))
                        (case aB => exact (by repeat (first | (with_reducible first | exact HB.out | apply below_alloc | apply pw_below_drewN | apply below_drew1) | exact HB.out)))
                        (case aF => exact (fun k_ hk => ⟨Kd.fresh' (Kd.R_lt (by (with_reducible repeat (first | apply Kd.R_alloc | apply Kd.R_drewN | apply Kd.R_drew)); exact HO_5.out)) k_ hk, Kd.fresh' (Kd.R_lt (by (with_reducible repeat (first | apply Kd.R_alloc | apply Kd.R_drewN | apply Kd.R_drew)); exact HO342.out)) k_ hk⟩))
                        (case aO => exact (by (with_reducible repeat (first | apply Kd.R_alloc | apply Kd.R_drewN | apply Kd.R_drew)); exact Kd.R_mono HO332.out (fun _ hk => ⟨hk.1.2, hk.2⟩)))
                        (case aS => exact (below_size (by repeat (first | (with_reducible first | exact HB.out | apply below_alloc | apply pw_below_drewN | apply below_drew1) | exact HB.out))))
                        (case aL => have := LMc45.out; omega)
                        intro v338 w60 ho hb hg hat
                        rw [← Ny337.out] at ho
                        have n0_ := Aside0.mk (Kd.R_after (ok := (fun k_ => some k_ ≠ (v341 : Value).ownBlock)) (by (with_reducible repeat (first | apply Kd.R_alloc | apply Kd.R_drewN | apply Kd.R_drew)); exact Kd.R_mono HO_5.out (fun _ hk => ⟨hk.1.2, hk.2⟩)) hg hat)
                        have n1_ := Aside0.mk (Kd.R_over' (by (with_reducible repeat (first | apply Kd.R_alloc | apply Kd.R_drewN | apply Kd.R_drew)); exact HO305.out) (Kd.R_typed (by (with_reducible repeat (first | apply Kd.R_alloc | apply Kd.R_drewN | apply Kd.R_drew)); exact HO332.out)) (by decide) hg)
                        have n2_ := Aside0.mk (Kd.R_after (ok := (fun k_ => some k_ ≠ (.slice (some ad302) x5_2.length co50 : Value).ownBlock)) (by (with_reducible repeat (first | apply Kd.R_alloc | apply Kd.R_drewN | apply Kd.R_drew)); exact Kd.R_mono HO342.out (fun _ hk => ⟨hk.1.2, hk.2⟩)) hg hat)
                        have n3_ := Aside0.mk (hb)
                        have n4_ := Aside0.mk ((show Kd.C Kd.string w60 (some ad302) y333.length y333 from by rw [Ny333.out]; exact Kd.C_take (m := (x9_3 : Int).toNat) ((Kd.R_reads' (Kd.R_after (ok := (fun k_ => some k_ ≠ (v341 : Value).ownBlock)) (by (with_reducible repeat (first | apply Kd.R_alloc | apply Kd.R_drewN | apply Kd.R_drew)); exact Kd.R_mono HO_5.out (fun _ hk => ⟨hk.1.2, hk.2⟩)) hg hat)).2.2) KL54.out))
                        have n5_ := Aside0.mk ((show Kd.C Kd.string w60 A55 y346.length y346 from by rw [Ny346.out, KA55.out]; exact Kd.C_drop (m := (x9_3 : Int).toNat) (c := co50) ((Kd.R_reads' (Kd.R_after (ok := (fun k_ => some k_ ≠ (v341 : Value).ownBlock)) (by (with_reducible repeat (first | apply Kd.R_alloc | apply Kd.R_drewN | apply Kd.R_drew)); exact Kd.R_mono HO_5.out (fun _ hk => ⟨hk.1.2, hk.2⟩)) hg hat)).2.2) KL55.out ((Kd.R_reads' (Kd.R_after (ok := (fun k_ => some k_ ≠ (v341 : Value).ownBlock)) (by (with_reducible repeat (first | apply Kd.R_alloc | apply Kd.R_drewN | apply Kd.R_drew)); exact Kd.R_mono HO_5.out (fun _ hk => ⟨hk.1.2, hk.2⟩)) hg hat)).2.1)))
                        have n6_ := Aside0.mk (ho)
                        clear HO_5
                        clear HO305
                        clear HO342
                        clear HB
                        clear HR336
                        clear HR349
                        clear HO332
                        have HO_5 := n0_
                        have HO305 := n1_
                        have HO342 := n2_
                        have HB := n3_
                        have HR336 := n4_
                        have HR349 := n5_
                        have HO339 := n6_
                        clear n0_ n1_ n2_ n3_ n4_ n5_ n6_
                        clear ho hb hg hat
                        refine hK.out _ _ trivial (fun hHeld => ?_)
                        clear hK K
                        refine norm_ (a' := ?_) ?_ ?_
                        rotate_left
                        ·show Act.put _ (some 73) _ = _
                         simp only [Act.put, List.setIfInBounds_toArray, List.set_cons_zero, List.set_cons_succ, i64_w, i32_w]
                         rfl
                        exact norm_ (by simp only [putAll, Act.put, List.setIfInBounds_toArray, List.set_cons_zero, List.set_cons_succ]) (hCont (v331, v338, v341) _ ⟨(by (with_reducible repeat (first | apply Kd.R_alloc | apply Kd.R_drewN | apply Kd.R_drew)); exact HO305.out), (by (with_reducible repeat (first | apply Kd.R_alloc | apply Kd.R_drewN | apply Kd.R_drew)); exact Kd.R_mono HO339.out (fun _ hk => ⟨hk.2, hk.1⟩)), (by (with_reducible repeat (first | apply Kd.R_alloc | apply Kd.R_drewN | apply Kd.R_drew)); exact Kd.R_mono HO342.out (fun _ hk => ⟨hk.2, hk.1⟩)), (by (with_reducible repeat (first | apply Kd.R_alloc | apply Kd.R_drewN | apply Kd.R_drew)); exact Kd.R_mono HO_5.out (fun _ hk => ⟨hk.2, hk.1⟩)), (by repeat (first | (with_reducible exact HR336.out) | (with_reducible refine Kd.C_alloc ?_ _) | (with_reducible refine Kd.C_drewN ?_ _) | (with_reducible refine Kd.C_drew ?_) | exact HR336.out)), (by repeat (first | (with_reducible exact HR349.out) | (with_reducible refine Kd.C_alloc ?_ _) | (with_reducible refine Kd.C_drewN ?_ _) | (with_reducible refine Kd.C_drew ?_) | exact HR349.out)), (by repeat (first | (with_reducible first | exact HB.out | apply below_alloc | apply pw_below_drewN | apply below_drew1) | exact HB.out))⟩)
                      rintro ⟨v331, v338, v341⟩ w61 ⟨h0_, h1_, h2_, h3_, h4_, h5_, h6_⟩
                      have n0_ : Aside0 (Kd.R (Kd.int .i64) 3 w61 w.heap.size (fun _ => True) (.slice Ao52 t303.length co52) t303) := ⟨h0_⟩
                      have n1_ : Aside0 (Kd.R Kd.string 9 w61 w.heap.size (fun k_ => some k_ ≠ (v341 : Value).ownBlock ∧ some k_ ≠ (.slice (some ad302) x5_2.length co50 : Value).ownBlock) v338 y337) := ⟨h1_⟩
                      have n2_ : Aside0 (Kd.R Kd.string 9 w61 w.heap.size (fun k_ => some k_ ≠ (v338 : Value).ownBlock ∧ some k_ ≠ (.slice (some ad302) x5_2.length co50 : Value).ownBlock) v341 y340) := ⟨h2_⟩
                      have n3_ : Aside0 (Kd.R Kd.string 9 w61 w.heap.size (fun k_ => some k_ ≠ (v338 : Value).ownBlock ∧ some k_ ≠ (v341 : Value).ownBlock) (.slice (some ad302) x5_2.length co50) x5_2) := ⟨h3_⟩
                      have n4_ : Aside0 (Kd.C Kd.string w61 (some ad302) y333.length y333) := ⟨h4_⟩
                      have n5_ : Aside0 (Kd.C Kd.string w61 A55 y346.length y346) := ⟨h5_⟩
                      have n6_ : Aside0 (Below w.heap.size w w61) := ⟨h6_⟩
                      clear HO_5
                      clear HO305
                      clear HB
                      clear h0_ h1_ h2_ h3_ h4_ h5_ h6_
                      have HO305 := n0_
                      have HO339 := n1_
                      have HO342 := n2_
                      have HO_5 := n3_
                      have HR336 := n4_
                      have HR349 := n5_
                      have HB := n6_
                      clear n0_ n1_ n2_ n3_ n4_ n5_ n6_
                      have hHeld := trivial
                      obtain ⟨Ao63, co63, eo63⟩ := Kd.R_slice HO342.out
                      (first | subst eo63 | (injection eo63 with f1_ f2_ f3_; have f4_ := f1_.symm; have f5_ := f3_.symm; clear f1_ f2_ f3_; subst f4_; subst f5_))
                      refine norm_ (a' := ?_) ?_ ?_
                      rotate_left
                      ·simp only [putAll, Act.put, List.setIfInBounds_toArray, List.set_cons_zero, List.set_cons_succ]
                       rfl
                      refine one_ (i := 7) (N := some 76) #[true, true, true, true, true, true, true, true, true, true, true, false, false] rfl rfl (one_of HT_.out (by kernel_rfl)) (by decide) (fun K hK => ?_)
                      refine Kd.R_append_rows_step Kd.string (w0 := w) w.heap.size (by rfl) (.tmp 73) (.tmp 75) 52 9 (.string ⟨#[]⟩) 16 rfl Try.underlying52 info9 rfl (by decide) (by omega) v338 y337 y340 _ _ _ (fun k_ => some k_ ≠ (.slice (some ad302) x5_2.length co50 : Value).ownBlock ∧ some k_ ≠ (.slice Ao63 y340.length co63 : Value).ownBlock) (fun _ => False) rfl rfl ?aO ?aR (fun _ _ h => h) (fun _ h => h.elim) ?aF ?aB ?aS ?aL ?_
                      (case aR => repeat (first | exact (Kd.R_reads' HO342.out).2.2 | (with_reducible refine Kd.C_alloc ?_ _) | (with_reducible refine Kd.C_drewN ?_ _) | (with_reducible refine Kd.C_drew ?_)))
                      (case aB => exact (by repeat (first | (with_reducible first | exact HB.out | apply below_alloc | apply pw_below_drewN | apply below_drew1) | exact HB.out)))
                      (case aF => exact (fun k_ hk => ⟨Kd.fresh' (Kd.R_lt (by (with_reducible repeat (first | apply Kd.R_alloc | apply Kd.R_drewN | apply Kd.R_drew)); exact HO_5.out)) k_ hk, Kd.fresh' (Kd.R_lt (by (with_reducible repeat (first | apply Kd.R_alloc | apply Kd.R_drewN | apply Kd.R_drew)); exact HO342.out)) k_ hk⟩))
                      (case aO => exact (by (with_reducible repeat (first | apply Kd.R_alloc | apply Kd.R_drewN | apply Kd.R_drew)); exact Kd.R_mono HO339.out (fun _ hk => ⟨hk.2, hk.1⟩)))
                      (case aS => exact (below_size (by repeat (first | (with_reducible first | exact HB.out | apply below_alloc | apply pw_below_drewN | apply below_drew1) | exact HB.out))))
                      (case aL => have := LMc46.out; omega)
                      intro v344 w62 ho hb hg hat
                      rw [← Ny343.out] at ho
                      have n0_ := Aside0.mk (Kd.R_after (ok := (fun k_ => some k_ ≠ (.slice Ao63 y340.length co63 : Value).ownBlock)) (by (with_reducible repeat (first | apply Kd.R_alloc | apply Kd.R_drewN | apply Kd.R_drew)); exact Kd.R_mono HO_5.out (fun _ hk => ⟨hk.2, hk.1⟩)) hg hat)
                      have n1_ := Aside0.mk (Kd.R_over' (by (with_reducible repeat (first | apply Kd.R_alloc | apply Kd.R_drewN | apply Kd.R_drew)); exact HO305.out) (Kd.R_typed (by (with_reducible repeat (first | apply Kd.R_alloc | apply Kd.R_drewN | apply Kd.R_drew)); exact HO339.out)) (by decide) hg)
                      have n2_ := Aside0.mk (Kd.R_after (ok := (fun k_ => some k_ ≠ (.slice (some ad302) x5_2.length co50 : Value).ownBlock)) (by (with_reducible repeat (first | apply Kd.R_alloc | apply Kd.R_drewN | apply Kd.R_drew)); exact Kd.R_mono HO342.out (fun _ hk => ⟨hk.2, hk.1⟩)) hg hat)
                      have n3_ := Aside0.mk (hb)
                      have n4_ := Aside0.mk ((show Kd.C Kd.string w62 (some ad302) y333.length y333 from by rw [Ny333.out]; exact Kd.C_take (m := (x9_3 : Int).toNat) ((Kd.R_reads' (Kd.R_after (ok := (fun k_ => some k_ ≠ (.slice Ao63 y340.length co63 : Value).ownBlock)) (by (with_reducible repeat (first | apply Kd.R_alloc | apply Kd.R_drewN | apply Kd.R_drew)); exact Kd.R_mono HO_5.out (fun _ hk => ⟨hk.2, hk.1⟩)) hg hat)).2.2) KL54.out))
                      have n5_ := Aside0.mk ((show Kd.C Kd.string w62 A55 y346.length y346 from by rw [Ny346.out, KA55.out]; exact Kd.C_drop (m := (x9_3 : Int).toNat) (c := co50) ((Kd.R_reads' (Kd.R_after (ok := (fun k_ => some k_ ≠ (.slice Ao63 y340.length co63 : Value).ownBlock)) (by (with_reducible repeat (first | apply Kd.R_alloc | apply Kd.R_drewN | apply Kd.R_drew)); exact Kd.R_mono HO_5.out (fun _ hk => ⟨hk.2, hk.1⟩)) hg hat)).2.2) KL55.out ((Kd.R_reads' (Kd.R_after (ok := (fun k_ => some k_ ≠ (.slice Ao63 y340.length co63 : Value).ownBlock)) (by (with_reducible repeat (first | apply Kd.R_alloc | apply Kd.R_drewN | apply Kd.R_drew)); exact Kd.R_mono HO_5.out (fun _ hk => ⟨hk.2, hk.1⟩)) hg hat)).2.1)))
                      have n6_ := Aside0.mk (ho)
                      clear HO_5
                      clear HO305
                      clear HO342
                      clear HB
                      clear HR336
                      clear HR349
                      clear HO339
                      have HO_5 := n0_
                      have HO305 := n1_
                      have HO342 := n2_
                      have HB := n3_
                      have HR336 := n4_
                      have HR349 := n5_
                      have HO345 := n6_
                      clear n0_ n1_ n2_ n3_ n4_ n5_ n6_
                      clear ho hb hg hat
                      refine hK.out _ _ trivial (fun hHeld => ?_)
                      clear hK K
                      refine norm_ (a' := ?_) ?_ ?_
                      rotate_left
                      ·show Act.put _ (some 76) _ = _
                       simp only [Act.put, List.setIfInBounds_toArray, List.set_cons_zero, List.set_cons_succ, i64_w, i32_w]
                       rfl
                      refine one_ (i := 11) (N := some 80) #[true, true, true, true, true, true, true, true, true, true, true, true, false] rfl rfl (one_of HT_.out (by kernel_rfl)) (by decide) (fun K hK => ?_)
                      refine Kd.R_append_rows_step Kd.string (w0 := w) w.heap.size (by rfl) (.tmp 76) (.tmp 79) 52 9 (.string ⟨#[]⟩) 16 rfl Try.underlying52 info9 rfl (by decide) (by omega) v344 y343 y346 _ _ _ (fun k_ => some k_ ≠ (.slice (some ad302) x5_2.length co50 : Value).ownBlock ∧ some k_ ≠ (.slice Ao63 y340.length co63 : Value).ownBlock) (fun _ => False) rfl rfl ?aO ?aR (fun _ _ h => h) (fun _ h => h.elim) ?aF ?aB ?aS ?aL ?_
                      (case aR => repeat (first | exact (by repeat (first | (with_reducible exact HR349.out) | (with_reducible refine Kd.C_alloc ?_ _) | (with_reducible refine Kd.C_drewN ?_ _) | (with_reducible refine Kd.C_drew ?_) | exact HR349.out)) | (with_reducible refine Kd.C_alloc ?_ _) | (with_reducible refine Kd.C_drewN ?_ _) | (with_reducible refine Kd.C_drew ?_)))
                      (case aB => exact (by repeat (first | (with_reducible first | exact HB.out | apply below_alloc | apply pw_below_drewN | apply below_drew1) | exact HB.out)))
                      (case aF => exact (fun k_ hk => ⟨Kd.fresh' (Kd.R_lt (by (with_reducible repeat (first | apply Kd.R_alloc | apply Kd.R_drewN | apply Kd.R_drew)); exact HO_5.out)) k_ hk, Kd.fresh' (Kd.R_lt (by (with_reducible repeat (first | apply Kd.R_alloc | apply Kd.R_drewN | apply Kd.R_drew)); exact HO342.out)) k_ hk⟩))
                      (case aO => exact (by (with_reducible repeat (first | apply Kd.R_alloc | apply Kd.R_drewN | apply Kd.R_drew)); exact HO345.out))
                      (case aS => exact (below_size (by repeat (first | (with_reducible first | exact HB.out | apply below_alloc | apply pw_below_drewN | apply below_drew1) | exact HB.out))))
                      (case aL => have := LMc49.out; omega)
                      intro v351 w64 ho hb hg hat
                      rw [← Ny350.out] at ho
                      have n0_ := Aside0.mk (Kd.R_after (ok := (fun k_ => some k_ ≠ (.slice Ao63 y340.length co63 : Value).ownBlock)) (by (with_reducible repeat (first | apply Kd.R_alloc | apply Kd.R_drewN | apply Kd.R_drew)); exact HO_5.out) hg hat)
                      have n1_ := Aside0.mk (Kd.R_over' (by (with_reducible repeat (first | apply Kd.R_alloc | apply Kd.R_drewN | apply Kd.R_drew)); exact HO305.out) (Kd.R_typed (by (with_reducible repeat (first | apply Kd.R_alloc | apply Kd.R_drewN | apply Kd.R_drew)); exact HO345.out)) (by decide) hg)
                      have n2_ := Aside0.mk (Kd.R_after (ok := (fun k_ => some k_ ≠ (.slice (some ad302) x5_2.length co50 : Value).ownBlock)) (by (with_reducible repeat (first | apply Kd.R_alloc | apply Kd.R_drewN | apply Kd.R_drew)); exact HO342.out) hg hat)
                      have n3_ := Aside0.mk (hb)
                      have n4_ := Aside0.mk ((show Kd.C Kd.string w64 (some ad302) y333.length y333 from by rw [Ny333.out]; exact Kd.C_take (m := (x9_3 : Int).toNat) ((Kd.R_reads' (Kd.R_after (ok := (fun k_ => some k_ ≠ (.slice Ao63 y340.length co63 : Value).ownBlock)) (by (with_reducible repeat (first | apply Kd.R_alloc | apply Kd.R_drewN | apply Kd.R_drew)); exact HO_5.out) hg hat)).2.2) KL54.out))
                      have n5_ := Aside0.mk ((show Kd.C Kd.string w64 A55 y346.length y346 from by rw [Ny346.out, KA55.out]; exact Kd.C_drop (m := (x9_3 : Int).toNat) (c := co50) ((Kd.R_reads' (Kd.R_after (ok := (fun k_ => some k_ ≠ (.slice Ao63 y340.length co63 : Value).ownBlock)) (by (with_reducible repeat (first | apply Kd.R_alloc | apply Kd.R_drewN | apply Kd.R_drew)); exact HO_5.out) hg hat)).2.2) KL55.out ((Kd.R_reads' (Kd.R_after (ok := (fun k_ => some k_ ≠ (.slice Ao63 y340.length co63 : Value).ownBlock)) (by (with_reducible repeat (first | apply Kd.R_alloc | apply Kd.R_drewN | apply Kd.R_drew)); exact HO_5.out) hg hat)).2.1)))
                      have n6_ := Aside0.mk (ho)
                      clear HO_5
                      clear HO305
                      clear HO342
                      clear HB
                      clear HR336
                      clear HR349
                      clear HO345
                      have HO_5 := n0_
                      have HO305 := n1_
                      have HO342 := n2_
                      have HB := n3_
                      have HR336 := n4_
                      have HR349 := n5_
                      have HO352 := n6_
                      clear n0_ n1_ n2_ n3_ n4_ n5_ n6_
                      clear ho hb hg hat
                      refine hK.out _ _ trivial (fun hHeld => ?_)
                      clear hK K
                      refine norm_ (a' := ?_) ?_ ?_
                      rotate_left
                      ·show Act.put _ (some 80) _ = _
                       simp only [Act.put, List.setIfInBounds_toArray, List.set_cons_zero, List.set_cons_succ, i64_w, i32_w]
                       rfl
                      refine pure_ (i := 12) (N := some 5) (v := ?_) (a' := ?_) #[true, true, true, true, true, true, true, true, true, true, true, true, true] rfl rfl (any_of HT_.out (by kernel_rfl)) (fun _ _ _ h => h) (Or.inl ⟨by rfl, ?_⟩) ?_ ?_
                      rotate_left
                      ·intro w'
                       go_simp
                       with_reducible rfl
                      rotate_left
                      ·simp only [Act.put, List.setIfInBounds_toArray, List.set_cons_zero, List.set_cons_succ, i64_w, i32_w]
                       rfl
                      refine done_ (done_of HT_.out (by kernel_rfl)) ?_
                      try go_wp2
                      go_roundg k3
                      case measure => have := HK1.out; have := HK2.out; have := HK3.out; omega
                      case rel => exact ⟨(y350), (wrap64 (x7_2 + 1)), (by first | rfl | (simp; done) | (simp [*]; done)), H', ⟨by have := HK1.out; have := HK2.out; have := HK3.out; omega⟩, ⟨by (with_reducible repeat (first | apply Kd.R_alloc | apply Kd.R_drewN | apply Kd.R_drew)); exact Kd.R_mono HO352.out (fun _ hk => trivial)⟩, ⟨by repeat (first | (with_reducible first | exact HB.out | apply below_alloc | apply pw_below_drewN | apply below_drew1) | exact HB.out)⟩⟩
                     ·rw [if_neg c49] at H
                      exact absurd H (by simp)
                    ·rw [if_neg c46] at H
                     exact absurd H (by simp)
                   ·rw [if_neg c45] at H
                    exact absurd H (by simp)
                  ·rw [if_neg c44] at H
                   exact absurd H (by simp)
               ·rw [if_neg c15] at H
                have c15b0 : ((t303.length : Int) == 0) = false := beq_eq_false_iff_ne.mpr c15
                have c15b1 : ((t303.length : Int) != 0) = true := bne_iff_ne.mpr c15
                have c15b2 : ¬ (t303 = []) := fun h_ => c15 (by rw [h_]; rfl)
                have H' := Aside0.mk H
                clear H
                obtain ⟨Ao65, co65, eo65⟩ := Kd.R_slice HO_5.out
                subst eo65
                have p302 : 0 ≤ (x9_3 : Int) := of_decide_eq_true (by first | (with_reducible assumption) | assumption)
                have q302 : x9_3 < (x5_2.length : Int) := of_decide_eq_true (by first | (with_reducible assumption) | assumption)
                obtain ⟨ad302, e302, hx302_0⟩ := Kd.at_string (Kd.R_reads' HO_5.out).2.2 x9_3 p302 q302
                cases e302
                replace p302 := eq_true p302
                replace q302 := eq_true q302
                go_wp2_with (first | ((with_reducible refine gate_callee (f := 13) rfl ?_); refine goesL_ (some 52) rfl rfl Try.func13 (by kernel_rfl) rfl #[.slice A0 l0.length c0, .string ((rd_T36 ((rd_T47 l1 x6_1).f1) x7_2).f0)] rfl (by (try simp only [List.map_toArray, List.map_cons, List.map_nil]); first | done | rfl | (simp only [List.length_drop, List.length_take]; rfl)) ?_; (with_reducible refine (gangsawref49_Who.calls k3 _ _ l0 ((rd_T36 ((rd_T47 l1 x6_1).f1) x7_2).f0) t303 _ ?side1 ?side2 A14.out).mono ?_); (case side1 => repeat (first | exact (Kd.C_below HR0.out HB.out) | (with_reducible refine Kd.C_alloc ?_ _) | (with_reducible refine Kd.C_drewN ?_ _) | (with_reducible refine Kd.C_drew ?_))); (case side2 => exact HC0.out); rintro e w66 ⟨v304, rfl, ho0, hb⟩; refine ⟨_, rfl, ?_⟩; have n0_ := Aside0.mk (Kd.R_below (by (with_reducible repeat (first | apply Kd.R_alloc | apply Kd.R_drewN | apply Kd.R_drew)); exact HO_5.out) hb); have n1_ := Aside0.mk (Kd.R_lower ho0 (below_size (by repeat (first | (with_reducible first | exact HB.out | apply below_alloc | apply pw_below_drewN | apply below_drew1) | exact HB.out)))); have n2_ := Aside0.mk (below_step (by repeat (first | (with_reducible first | exact HB.out | apply below_alloc | apply pw_below_drewN | apply below_drew1) | exact HB.out)) hb); clear HO_5; clear HB; have HO_5 := n0_; have HO305 := n1_; have HB := n2_; clear n0_ n1_ n2_; (try clear hb); (try clear hb2); (try clear hk); (try clear hi); (try clear ho0); obtain ⟨Ao67, co67, eo67⟩ := Kd.R_slice HO305.out; subst eo67))
                go_roundg k3
                case measure => have := HK1.out; have := HK2.out; have := HK3.out; omega
                case rel => exact ⟨(x5_2), (wrap64 (x7_2 + 1)), (by first | rfl | (simp; done) | (simp [*]; done)), H', ⟨by have := HK1.out; have := HK2.out; have := HK3.out; omega⟩, ⟨by (with_reducible repeat (first | apply Kd.R_alloc | apply Kd.R_drewN | apply Kd.R_drew)); exact HO_5.out⟩, ⟨by repeat (first | (with_reducible first | exact HB.out | apply below_alloc | apply pw_below_drewN | apply below_drew1) | exact HB.out)⟩⟩
             ·rw [if_neg c11] at H
              exact absurd H (by simp)
            ·rw [if_neg c10] at H
             have c10b0 : decide (x9_3 < (x5_2.length : Int)) = false := decide_eq_false c10
             clear c10
             replace H := Option.bind_eq_some_iff.mp H
             obtain ⟨t353, A680, H⟩ := H
             replace H : (if (t353.length : Int) = 0 then (if x9_3 = (x5_2.length : Int) then ((some (([] : List ByteArray) : List ByteArray)).bind fun y356 => (if 0 ≤ x9_3 then (if x9_3 ≤ (x5_2.length : Int) then ((some (x5_2.take (x9_3 : Int).toNat : List ByteArray)).bind fun y359 => (if y356.length + y359.length < 8796093022208 then ((some (y356 ++ y359 : List ByteArray)).bind fun y363 => ((some (([((rd_T36 ((rd_T47 l1 x6_1).f1) x7_2).f0)] : List ByteArray) : List ByteArray)).bind fun y366 => (if y363.length + y366.length < 8796093022208 then ((some (y363 ++ y366 : List ByteArray)).bind fun y369 => ((some (x5_2.drop (x9_3 : Int).toNat : List ByteArray)).bind fun y372 => (if y369.length + y372.length < 8796093022208 then (gangsawref49_Works.l1 k3 l0 l1 (y369 ++ y372) x6_1 (wrap64 (x7_2 + 1))) else (none)))) else (none)))) else (none))) else (none)) else (none))) else (if 0 ≤ x9_3 then (none) else (none))) else (gangsawref49_Works.l1 k3 l0 l1 x5_2 x6_1 (wrap64 (x7_2 + 1)))) = some r := H
             have A68 := Aside0.mk A680
             clear A680
             by_cases c69 : (t353.length : Int) = 0
             ·rw [if_pos c69] at H
              have c69b0 : ((t353.length : Int) == 0) = true := beq_iff_eq.mpr c69
              have c69b1 : ((t353.length : Int) != 0) = false := bne_eq_false_iff_eq.mpr c69
              clear c69
              by_cases c70 : x9_3 = (x5_2.length : Int)
              ·rw [if_pos c70] at H
               have c70b0 : (x9_3 == (x5_2.length : Int)) = true := beq_iff_eq.mpr c70
               have c70b1 : (x9_3 != (x5_2.length : Int)) = false := bne_eq_false_iff_eq.mpr c70
               clear c70
               obtain ⟨y356, hy356⟩ : ∃ y_ : List ByteArray, y_ = (([] : List ByteArray)) := ⟨_, rfl⟩
               replace H : (if 0 ≤ x9_3 then (if x9_3 ≤ (x5_2.length : Int) then ((some (x5_2.take (x9_3 : Int).toNat : List ByteArray)).bind fun y359 => (if y356.length + y359.length < 8796093022208 then ((some (y356 ++ y359 : List ByteArray)).bind fun y363 => ((some (([((rd_T36 ((rd_T47 l1 x6_1).f1) x7_2).f0)] : List ByteArray) : List ByteArray)).bind fun y366 => (if y363.length + y366.length < 8796093022208 then ((some (y363 ++ y366 : List ByteArray)).bind fun y369 => ((some (x5_2.drop (x9_3 : Int).toNat : List ByteArray)).bind fun y372 => (if y369.length + y372.length < 8796093022208 then (gangsawref49_Works.l1 k3 l0 l1 (y369 ++ y372) x6_1 (wrap64 (x7_2 + 1))) else (none)))) else (none)))) else (none))) else (none)) else (none)) = some r := by first | (rw [hy356]; with_reducible exact H) | (have H2_ := (Option.bind_some _ _).symm.trans H; rw [hy356]; with_reducible exact H2_) | (have H2_ := (Option.bind_some _ _).symm.trans H; with_reducible exact H2_) | with_reducible exact H | (rw [hy356]; exact H) | exact H
               have Ny356 := Aside0.mk hy356
               clear hy356
               by_cases c71 : 0 ≤ x9_3
               ·rw [if_pos c71] at H
                have c71b0 := eq_true c71
                have c71b1 : decide (0 ≤ x9_3) = true := decide_eq_true c71
                clear c71
                by_cases c72 : x9_3 ≤ (x5_2.length : Int)
                ·rw [if_pos c72] at H
                 have c72b0 := eq_true c72
                 have c72b1 : decide (x9_3 ≤ (x5_2.length : Int)) = true := decide_eq_true c72
                 clear c72
                 obtain ⟨y359, hy359⟩ : ∃ y_ : List ByteArray, y_ = (x5_2.take (x9_3 : Int).toNat) := ⟨_, rfl⟩
                 replace H : (if y356.length + y359.length < 8796093022208 then ((some (y356 ++ y359 : List ByteArray)).bind fun y363 => ((some (([((rd_T36 ((rd_T47 l1 x6_1).f1) x7_2).f0)] : List ByteArray) : List ByteArray)).bind fun y366 => (if y363.length + y366.length < 8796093022208 then ((some (y363 ++ y366 : List ByteArray)).bind fun y369 => ((some (x5_2.drop (x9_3 : Int).toNat : List ByteArray)).bind fun y372 => (if y369.length + y372.length < 8796093022208 then (gangsawref49_Works.l1 k3 l0 l1 (y369 ++ y372) x6_1 (wrap64 (x7_2 + 1))) else (none)))) else (none)))) else (none)) = some r := by first | (rw [hy359]; with_reducible exact H) | (have H2_ := (Option.bind_some _ _).symm.trans H; rw [hy359]; with_reducible exact H2_) | (have H2_ := (Option.bind_some _ _).symm.trans H; with_reducible exact H2_) | with_reducible exact H | (rw [hy359]; exact H) | exact H
                 have Ny359 := Aside0.mk hy359
                 clear hy359
                 by_cases c73 : y356.length + y359.length < 8796093022208
                 ·rw [if_pos c73] at H
                  have LMc73 := Aside0.mk c73
                  clear c73
                  obtain ⟨y363, hy363⟩ : ∃ y_ : List ByteArray, y_ = (y356 ++ y359) := ⟨_, rfl⟩
                  replace H : ((some (([((rd_T36 ((rd_T47 l1 x6_1).f1) x7_2).f0)] : List ByteArray) : List ByteArray)).bind fun y366 => (if y363.length + y366.length < 8796093022208 then ((some (y363 ++ y366 : List ByteArray)).bind fun y369 => ((some (x5_2.drop (x9_3 : Int).toNat : List ByteArray)).bind fun y372 => (if y369.length + y372.length < 8796093022208 then (gangsawref49_Works.l1 k3 l0 l1 (y369 ++ y372) x6_1 (wrap64 (x7_2 + 1))) else (none)))) else (none))) = some r := by first | (rw [hy363]; with_reducible exact H) | (have H2_ := (Option.bind_some _ _).symm.trans H; rw [hy363]; with_reducible exact H2_) | (have H2_ := (Option.bind_some _ _).symm.trans H; with_reducible exact H2_) | with_reducible exact H | (rw [hy363]; exact H) | exact H
                  have Ny363 := Aside0.mk hy363
                  clear hy363
                  obtain ⟨y366, hy366⟩ : ∃ y_ : List ByteArray, y_ = (([((rd_T36 ((rd_T47 l1 x6_1).f1) x7_2).f0)] : List ByteArray)) := ⟨_, rfl⟩
                  replace H : (if y363.length + y366.length < 8796093022208 then ((some (y363 ++ y366 : List ByteArray)).bind fun y369 => ((some (x5_2.drop (x9_3 : Int).toNat : List ByteArray)).bind fun y372 => (if y369.length + y372.length < 8796093022208 then (gangsawref49_Works.l1 k3 l0 l1 (y369 ++ y372) x6_1 (wrap64 (x7_2 + 1))) else (none)))) else (none)) = some r := by first | (rw [hy366]; with_reducible exact H) | (have H2_ := (Option.bind_some _ _).symm.trans H; rw [hy366]; with_reducible exact H2_) | (have H2_ := (Option.bind_some _ _).symm.trans H; with_reducible exact H2_) | with_reducible exact H | (rw [hy366]; exact H) | exact H
                  have Ny366 := Aside0.mk hy366
                  clear hy366
                  by_cases c74 : y363.length + y366.length < 8796093022208
                  ·rw [if_pos c74] at H
                   have LMc74 := Aside0.mk c74
                   clear c74
                   obtain ⟨y369, hy369⟩ : ∃ y_ : List ByteArray, y_ = (y363 ++ y366) := ⟨_, rfl⟩
                   replace H : ((some (x5_2.drop (x9_3 : Int).toNat : List ByteArray)).bind fun y372 => (if y369.length + y372.length < 8796093022208 then (gangsawref49_Works.l1 k3 l0 l1 (y369 ++ y372) x6_1 (wrap64 (x7_2 + 1))) else (none))) = some r := by first | (rw [hy369]; with_reducible exact H) | (have H2_ := (Option.bind_some _ _).symm.trans H; rw [hy369]; with_reducible exact H2_) | (have H2_ := (Option.bind_some _ _).symm.trans H; with_reducible exact H2_) | with_reducible exact H | (rw [hy369]; exact H) | exact H
                   have Ny369 := Aside0.mk hy369
                   clear hy369
                   have c75b0 := eq_true (of_decide_eq_true (by first | (with_reducible assumption) | assumption) : 0 ≤ x9_3)
                   have c76b0 := eq_true (of_decide_eq_true (by first | (with_reducible assumption) | assumption) : x9_3 ≤ (x5_2.length : Int))
                   obtain ⟨y372, hy372⟩ : ∃ y_ : List ByteArray, y_ = (x5_2.drop (x9_3 : Int).toNat) := ⟨_, rfl⟩
                   replace H : (if y369.length + y372.length < 8796093022208 then (gangsawref49_Works.l1 k3 l0 l1 (y369 ++ y372) x6_1 (wrap64 (x7_2 + 1))) else (none)) = some r := by first | (rw [hy372]; with_reducible exact H) | (have H2_ := (Option.bind_some _ _).symm.trans H; rw [hy372]; with_reducible exact H2_) | (have H2_ := (Option.bind_some _ _).symm.trans H; with_reducible exact H2_) | with_reducible exact H | (rw [hy372]; exact H) | exact H
                   have Ny372 := Aside0.mk hy372
                   clear hy372
                   by_cases c77 : y369.length + y372.length < 8796093022208
                   ·rw [if_pos c77] at H
                    have LMc77 := Aside0.mk c77
                    clear c77
                    obtain ⟨y376, hy376⟩ : ∃ y_ : List ByteArray, y_ = (y369 ++ y372) := ⟨_, rfl⟩
                    replace H : (gangsawref49_Works.l1 k3 l0 l1 y376 x6_1 (wrap64 (x7_2 + 1))) = some r := by first | (rw [hy376]; with_reducible exact H) | (have H2_ := (Option.bind_some _ _).symm.trans H; rw [hy376]; with_reducible exact H2_) | (have H2_ := (Option.bind_some _ _).symm.trans H; with_reducible exact H2_) | with_reducible exact H | (rw [hy376]; exact H) | exact H
                    have Ny376 := Aside0.mk hy376
                    clear hy376
                    have H' := Aside0.mk H
                    clear H
                    obtain ⟨Ao78, co78, eo78⟩ := Kd.R_slice HO_5.out
                    subst eo78
                    try go_wp2_with (first | ((with_reducible refine gate_callee (f := 13) rfl ?_); refine goesL_ (some 52) rfl rfl Try.func13 (by kernel_rfl) rfl #[.slice A0 l0.length c0, .string ((rd_T36 ((rd_T47 l1 x6_1).f1) x7_2).f0)] rfl (by (try simp only [List.map_toArray, List.map_cons, List.map_nil]); first | done | rfl | (simp only [List.length_drop, List.length_take]; rfl)) ?_; (with_reducible refine (gangsawref49_Who.calls k3 _ _ l0 ((rd_T36 ((rd_T47 l1 x6_1).f1) x7_2).f0) t353 _ ?side1 ?side2 A68.out).mono ?_); (case side1 => repeat (first | exact (Kd.C_below HR0.out HB.out) | (with_reducible refine Kd.C_alloc ?_ _) | (with_reducible refine Kd.C_drewN ?_ _) | (with_reducible refine Kd.C_drew ?_))); (case side2 => exact HC0.out); rintro e w79 ⟨v354, rfl, ho0, hb⟩; refine ⟨_, rfl, ?_⟩; have n0_ := Aside0.mk (Kd.R_below (by (with_reducible repeat (first | apply Kd.R_alloc | apply Kd.R_drewN | apply Kd.R_drew)); exact HO_5.out) hb); have n1_ := Aside0.mk (Kd.R_lower ho0 (below_size (by repeat (first | (with_reducible first | exact HB.out | apply below_alloc | apply pw_below_drewN | apply below_drew1) | exact HB.out)))); have n2_ := Aside0.mk (below_step (by repeat (first | (with_reducible first | exact HB.out | apply below_alloc | apply pw_below_drewN | apply below_drew1) | exact HB.out)) hb); clear HO_5; clear HB; have HO_5 := n0_; have HO355 := n1_; have HB := n2_; clear n0_ n1_ n2_; (try clear hb); (try clear hb2); (try clear hk); (try clear hi); (try clear ho0); obtain ⟨Ao80, co80, eo80⟩ := Kd.R_slice HO355.out; subst eo80))
                    have n0_ := Aside0.mk (Kd.R_drew HO_5.out)
                    have n1_ := Aside0.mk (Kd.R_drew HO355.out)
                    have n2_ := Aside0.mk (below_drew1 HB.out)
                    clear HO_5
                    clear HO355
                    clear HB
                    have HO_5 := n0_
                    have HO355 := n1_
                    have HB := n2_
                    clear n0_ n1_ n2_
                    have q82 : (x9_3 : Int) ≤ ((x5_2.length : Int) : Int) := of_decide_eq_true (by first | (with_reducible assumption) | assumption)
                    obtain ⟨i082, hi082, _, hsz82, _⟩ := info_parts info9
                    have hroom82 : x5_2.length ≤ co78 := (Kd.R_reads' HO_5.out).2.1
                    have hC82 : Kd.C Kd.string _ Ao78 x5_2.length x5_2 := (Kd.R_reads' HO_5.out).2.2
                    have hcut82 := cut_to (P := Try.prog) 52 9 .i64 Try.underlying52 hi082 Ao78 x5_2.length co78 x9_3 (of_decide_eq_true (by first | (with_reducible assumption) | assumption)) q82 hroom82
                    have hr82 := Kd.C_take (m := (x9_3 : Int).toNat) hC82 (by omega)
                    have hy82 : y359.length = (x9_3 : Int).toNat := (by rw [Ny359.out, List.length_take]; omega)
                    rw [← Ny359.out] at hr82
                    rw [← hy82] at hcut82
                    have HR362 := Aside0.mk hr82
                    have HC362 := Aside0.mk (show y359.length ≤ co78 from by omega)
                    clear hr82 hC82 hroom82 hi082 hsz82
                    have KY82 := Aside0.mk hy82
                    clear hy82
                    have KL82 := Aside0.mk (show (x9_3 : Int).toNat ≤ x5_2.length from by omega)
                    replace q82 := eq_true q82
                    have q83 : (x9_3 : Int) ≤ ((x5_2.length : Int) : Int) := of_decide_eq_true (by first | (with_reducible assumption) | assumption)
                    obtain ⟨i083, hi083, _, hsz83, _⟩ := info_parts info9
                    have hroom83 : x5_2.length ≤ co78 := (Kd.R_reads' HO_5.out).2.1
                    have hC83 : Kd.C Kd.string _ Ao78 x5_2.length x5_2 := (Kd.R_reads' HO_5.out).2.2
                    have q083 : (0 : Int) ≤ (x9_3 : Int) := of_decide_eq_true (by first | (with_reducible assumption) | assumption)
                    have hcut83 := cut_from (P := Try.prog) 52 9 .i64 Try.underlying52 hi083 1 hsz83 Ao78 x5_2.length co78 x9_3 q083 q83
                    have hr83 := Kd.C_drop (m := (x9_3 : Int).toNat) (c := co78) hC83 (by omega) hroom83
                    obtain ⟨A83, hA83⟩ : ∃ A1, A1 = (if co78 = (x9_3 : Int).toNat then Ao78 else (Ao78 : Option Addr).map (·.add ((x9_3 : Int).toNat * 1))) := ⟨_, rfl⟩
                    obtain ⟨c83, hc83⟩ : ∃ c1, c1 = co78 - (x9_3 : Int).toNat := ⟨_, rfl⟩
                    have hy83 : y372.length = x5_2.length - (x9_3 : Int).toNat := (by rw [Ny372.out, List.length_drop] <;> omega)
                    rw [show (x5_2).drop (x9_3 : Int).toNat = y372 from Ny372.out.symm] at hr83
                    replace hr83 : Kd.C Kd.string _ A83 y372.length y372 := (by rw [hA83]; exact hr83)
                    rw [← hy83, ← hA83, ← hc83] at hcut83
                    have HR375 := Aside0.mk hr83
                    have HC375 := Aside0.mk (show y372.length ≤ c83 from by rw [hy83, hc83]; exact Nat.sub_le_sub_right hroom83 _)
                    clear hr83 hC83 hroom83 hi083 hsz83 hc83
                    have KY83 := Aside0.mk hy83
                    have KA83 := Aside0.mk hA83
                    clear hy83 hA83
                    have KL83 := Aside0.mk (show (x9_3 : Int).toNat ≤ x5_2.length from by omega)
                    replace q83 := eq_true q83
                    refine start_ (n := 13) (S := fun w' => True) (ds := []) #[false, false, false, false, false, false, false, false, false, false, false, false, false] (by kernel_rfl) rfl rfl trivial (fun hHeld => ?_); refine with_tabW gangsawref49_Works.tab13 gangsawref49_Works.bits13 (fun HT_ HW_ => ?_)
                    generalize w79.drew = w81 at HO_5 HO355 HB HR362 HR375 hHeld ⊢
                    refine pure_ (i := 1) (N := some 70) (v := ?_) (a' := ?_) #[false, true, false, false, false, false, false, false, false, false, false, false, false] rfl rfl (any_of HT_.out (by kernel_rfl)) (fun _ _ _ h => h) (Or.inl ⟨by rfl, ?_⟩) ?_ ?_
                    rotate_left
                    ·intro w'
                     go_simp
                     with_reducible rfl
                    rotate_left
                    ·simp only [Act.put, List.setIfInBounds_toArray, List.set_cons_zero, List.set_cons_succ, i64_w, i32_w]
                     rfl
                    refine pure_ (i := 2) (N := some 71) (v := ?_) (a' := ?_) #[false, true, true, false, false, false, false, false, false, false, false, false, false] rfl rfl (any_of HT_.out (by kernel_rfl)) (fun _ _ _ h => h) (Or.inl ⟨by rfl, ?_⟩) ?_ ?_
                    rotate_left
                    ·intro w'
                     go_simp
                     with_reducible rfl
                    rotate_left
                    ·simp only [Act.put, List.setIfInBounds_toArray, List.set_cons_zero, List.set_cons_succ, i64_w, i32_w]
                     rfl
                    refine pure_ (i := 3) (N := some 72) (v := ?_) (a' := ?_) #[false, true, true, true, false, false, false, false, false, false, false, false, false] rfl rfl (any_of HT_.out (by kernel_rfl)) (fun _ _ _ h => h) (Or.inl ⟨by rfl, ?_⟩) ?_ ?_
                    rotate_left
                    ·intro w'
                     go_simp
                     with_reducible rfl
                    rotate_left
                    ·simp only [Act.put, List.setIfInBounds_toArray, List.set_cons_zero, List.set_cons_succ, i64_w, i32_w]
                     rfl
                    refine pure_ (i := 5) (N := some 74) (v := ?_) (a' := ?_) #[false, true, true, true, false, true, false, false, false, false, false, false, false] rfl rfl (any_of HT_.out (by kernel_rfl)) (fun _ _ _ h => h) (Or.inl ⟨by rfl, ?_⟩) ?_ ?_
                    rotate_left
                    ·intro w'
                     go_simp
                     with_reducible rfl
                    rotate_left
                    ·simp only [Act.put, List.setIfInBounds_toArray, List.set_cons_zero, List.set_cons_succ, i64_w, i32_w]
                     rfl
                    refine pure_ (i := 8) (N := some 77) (v := ?_) (a' := ?_) #[false, true, true, true, false, true, false, false, true, false, false, false, false] rfl rfl (any_of HT_.out (by kernel_rfl)) (fun _ _ _ h => h) (Or.inl ⟨by rfl, ?_⟩) ?_ ?_
                    rotate_left
                    ·intro w'
                     go_simp
                     with_reducible rfl
                    rotate_left
                    ·simp only [Act.put, List.setIfInBounds_toArray, List.set_cons_zero, List.set_cons_succ, i64_w, i32_w]
                     rfl
                    refine pure_ (i := 9) (N := some 78) (v := ?_) (a' := ?_) #[false, true, true, true, false, true, false, false, true, true, false, false, false] rfl rfl (any_of HT_.out (by kernel_rfl)) (fun _ _ _ h => h) (Or.inl ⟨by rfl, ?_⟩) ?_ ?_
                    rotate_left
                    ·intro w'
                     go_simp
                     with_reducible rfl
                    rotate_left
                    ·simp only [Act.put, List.setIfInBounds_toArray, List.set_cons_zero, List.set_cons_succ, i64_w, i32_w]
                     rfl
                    refine pure_ (i := 10) (N := some 79) (v := ?_) (a' := ?_) #[false, true, true, true, false, true, false, false, true, true, true, false, false] rfl rfl (any_of HT_.out (by kernel_rfl)) (fun _ _ _ h => h) (Or.inl ⟨by rfl, ?_⟩) ?_ ?_
                    rotate_left
                    ·intro w'
                     go_simp
                     with_reducible rfl
                    rotate_left
                    ·simp only [Act.put, List.setIfInBounds_toArray, List.set_cons_zero, List.set_cons_succ, i64_w, i32_w]
                     rfl
                    refine join_ (σ := Value × Value × Value) 3 #[true, true, true, true, true, true, true, false, true, true, true, false, false] (fun s_ => [(69, s_.1), (73, s_.2.1), (75, s_.2.2)]) (fun s_ w' => (Kd.R (Kd.int .i64) 3 w' w.heap.size (fun _ => True) (.slice Ao80 t353.length co80) t353) ∧ (Kd.R Kd.string 9 w' w.heap.size (fun k_ => some k_ ≠ (s_.2.2 : Value).ownBlock ∧ some k_ ≠ (.slice Ao78 x5_2.length co78 : Value).ownBlock) s_.2.1 y363) ∧ (Kd.R Kd.string 9 w' w.heap.size (fun k_ => some k_ ≠ (s_.2.1 : Value).ownBlock ∧ some k_ ≠ (.slice Ao78 x5_2.length co78 : Value).ownBlock) s_.2.2 y366) ∧ (Kd.R Kd.string 9 w' w.heap.size (fun k_ => some k_ ≠ (s_.2.1 : Value).ownBlock ∧ some k_ ≠ (s_.2.2 : Value).ownBlock) (.slice Ao78 x5_2.length co78) x5_2) ∧ (Kd.C Kd.string w' Ao78 y359.length y359) ∧ (Kd.C Kd.string w' A83 y372.length y372) ∧ (Below w.heap.size w w')) ?_ ?_
                    rotate_left
                    ·intro hCont
                     refine two_ (i := 0) (j := 6) (Ni := some 69) (Nj := some 75) #[true, true, true, true, false, true, false, false, true, true, true, false, false] #[false, true, true, true, false, true, true, false, true, true, true, false, false] rfl rfl rfl rfl (two_of HT_.out (by kernel_rfl)) (by decide) (by decide) (fun K hK => ?_) (fun K hK => ?_)
                     ·skip
                      refine Kd.R_lit_step Kd.string _ 9 ?hg (N := 69) ?hd (xs := ([] : List ByteArray)) (inner := []) (ok := fun _ => True) (okp := fun _ => True) ?hr ?hp (fun _ hk => hk) trivial (Below.refl _ _) (Nat.le_refl _) (by simp) ?_; (case hd => rfl); (case hg => rfl); (case hr => first | (go_simp; done) | (go_simp; rfl)); (case hp => exact (Reps.none _ _))
                      intro v357 w84 ho85 hb hg_ hnew_
                      clear hg_ hnew_
                      (first | rw [← Ny356.out] at ho85 | (simp only [Int.reduceToNat] at ho85; rw [← Ny356.out] at ho85))
                      have n0_ := Aside0.mk (Kd.R_elder' (by (with_reducible repeat (first | apply Kd.R_alloc | apply Kd.R_drewN | apply Kd.R_drew)); exact HO_5.out) (Kd.R_base ho85) hb)
                      have n1_ := Aside0.mk (Kd.R_below (by (with_reducible repeat (first | apply Kd.R_alloc | apply Kd.R_drewN | apply Kd.R_drew)); exact HO355.out) hb)
                      have n2_ := Aside0.mk (Kd.R_lower (Kd.R_new' ho85 (Kd.R_lt (by (with_reducible repeat (first | apply Kd.R_alloc | apply Kd.R_drewN | apply Kd.R_drew)); exact HO_5.out))) (below_size (by repeat (first | (with_reducible first | exact HB.out | apply below_alloc | apply pw_below_drewN | apply below_drew1) | exact HB.out))))
                      have n3_ := Aside0.mk (Kd.C_below (by repeat (first | (with_reducible exact HR362.out) | (with_reducible refine Kd.C_alloc ?_ _) | (with_reducible refine Kd.C_drewN ?_ _) | (with_reducible refine Kd.C_drew ?_) | exact HR362.out)) hb)
                      have n4_ := Aside0.mk (Kd.C_below (by repeat (first | (with_reducible exact HR375.out) | (with_reducible refine Kd.C_alloc ?_ _) | (with_reducible refine Kd.C_drewN ?_ _) | (with_reducible refine Kd.C_drew ?_) | exact HR375.out)) hb)
                      have n5_ := Aside0.mk (below_step (by repeat (first | (with_reducible first | exact HB.out | apply below_alloc | apply pw_below_drewN | apply below_drew1) | exact HB.out)) hb)
                      clear HO_5
                      clear HO355
                      clear HR362
                      clear HR375
                      clear HB
                      have HO_5 := n0_
                      have HO355 := n1_
                      have HO358 := n2_
                      have HR362 := n3_
                      have HR375 := n4_
                      have HB := n5_
                      clear n0_ n1_ n2_ n3_ n4_ n5_
                      clear hb ho85
                      refine hK.out _ _ trivial (fun hHeld => ?_)
                      clear hK K
                      refine norm_ (a' := ?_) ?_ ?_
                      rotate_left
                      ·show Act.put _ (some 69) _ = _
                       simp only [Act.put, List.setIfInBounds_toArray, List.set_cons_zero, List.set_cons_succ, i64_w, i32_w]
                       rfl
                      refine two_ (i := 4) (j := 6) (Ni := some 73) (Nj := some 75) #[true, true, true, true, true, true, false, false, true, true, true, false, false] #[true, true, true, true, false, true, true, false, true, true, true, false, false] rfl rfl rfl rfl (two_of HT_.out (by kernel_rfl)) (by decide) (by decide) (fun K hK => ?_) (fun K hK => ?_)
                      ·skip
                       refine Kd.R_append_rows_step Kd.string (w0 := w) w.heap.size (by rfl) (.tmp 69) (.tmp 72) 52 9 (.string ⟨#[]⟩) 16 rfl Try.underlying52 info9 rfl (by decide) (by omega) v357 y356 y359 _ _ _ (fun k_ => some k_ ≠ (.slice Ao78 x5_2.length co78 : Value).ownBlock) (fun _ => False) rfl rfl ?aO ?aR (fun _ _ h => h) (fun _ h => h.elim) ?aF ?aB ?aS ?aL ?_
                       (case aR => repeat (first | exact (by repeat (first | (with_reducible exact HR362.out) | (with_reducible refine Kd.C_alloc ?_ _) | (with_reducible refine Kd.C_drewN ?_ _) | (with_reducible refine Kd.C_drew ?_) | exact HR362.out)) | (with_reducible refine Kd.C_alloc ?_ _) | (with_reducible refine Kd.C_drewN ?_ _) | (with_reducible refine Kd.C_drew ?_)))
                       (case aB => exact (by repeat (first | (with_reducible first | exact HB.out | apply below_alloc | apply pw_below_drewN | apply below_drew1) | exact HB.out)))
                       (case aF => exact (fun k_ hk => Kd.fresh' (Kd.R_lt (by (with_reducible repeat (first | apply Kd.R_alloc | apply Kd.R_drewN | apply Kd.R_drew)); exact HO_5.out)) k_ hk))
                       (case aO => exact (by (with_reducible repeat (first | apply Kd.R_alloc | apply Kd.R_drewN | apply Kd.R_drew)); exact Kd.R_mono HO358.out (fun _ hk => hk.2)))
                       (case aS => exact (below_size (by repeat (first | (with_reducible first | exact HB.out | apply below_alloc | apply pw_below_drewN | apply below_drew1) | exact HB.out))))
                       (case aL => have := LMc73.out; omega)
                       intro v364 w86 ho hb hg hat
                       rw [← Ny363.out] at ho
                       have n0_ := Aside0.mk (Kd.R_after (ok := (fun _ => True)) (by (with_reducible repeat (first | apply Kd.R_alloc | apply Kd.R_drewN | apply Kd.R_drew)); exact HO_5.out) hg hat)
                       have n1_ := Aside0.mk (Kd.R_over' (by (with_reducible repeat (first | apply Kd.R_alloc | apply Kd.R_drewN | apply Kd.R_drew)); exact HO355.out) (Kd.R_typed (by (with_reducible repeat (first | apply Kd.R_alloc | apply Kd.R_drewN | apply Kd.R_drew)); exact HO358.out)) (by decide) hg)
                       have n2_ := Aside0.mk (hb)
                       have n3_ := Aside0.mk ((show Kd.C Kd.string w86 Ao78 y359.length y359 from by rw [Ny359.out]; exact Kd.C_take (m := (x9_3 : Int).toNat) ((Kd.R_reads' (Kd.R_after (ok := (fun _ => True)) (by (with_reducible repeat (first | apply Kd.R_alloc | apply Kd.R_drewN | apply Kd.R_drew)); exact HO_5.out) hg hat)).2.2) KL82.out))
                       have n4_ := Aside0.mk ((show Kd.C Kd.string w86 A83 y372.length y372 from by rw [Ny372.out, KA83.out]; exact Kd.C_drop (m := (x9_3 : Int).toNat) (c := co78) ((Kd.R_reads' (Kd.R_after (ok := (fun _ => True)) (by (with_reducible repeat (first | apply Kd.R_alloc | apply Kd.R_drewN | apply Kd.R_drew)); exact HO_5.out) hg hat)).2.2) KL83.out ((Kd.R_reads' (Kd.R_after (ok := (fun _ => True)) (by (with_reducible repeat (first | apply Kd.R_alloc | apply Kd.R_drewN | apply Kd.R_drew)); exact HO_5.out) hg hat)).2.1)))
                       have n5_ := Aside0.mk (ho)
                       clear HO_5
                       clear HO355
                       clear HB
                       clear HR362
                       clear HR375
                       clear HO358
                       have HO_5 := n0_
                       have HO355 := n1_
                       have HB := n2_
                       have HR362 := n3_
                       have HR375 := n4_
                       have HO365 := n5_
                       clear n0_ n1_ n2_ n3_ n4_ n5_
                       clear ho hb hg hat
                       refine hK.out _ _ trivial (fun hHeld => ?_)
                       clear hK K
                       refine norm_ (a' := ?_) ?_ ?_
                       rotate_left
                       ·show Act.put _ (some 73) _ = _
                        simp only [Act.put, List.setIfInBounds_toArray, List.set_cons_zero, List.set_cons_succ, i64_w, i32_w]
                        rfl
                       refine one_ (i := 6) (N := some 75) #[true, true, true, true, true, true, true, false, true, true, true, false, false] rfl rfl (one_of HT_.out (by kernel_rfl)) (by decide) (fun K hK => ?_)
                       refine Kd.R_lit_step Kd.string _ 9 ?hg (N := 75) ?hd (xs := ([((rd_T36 ((rd_T47 l1 x6_1).f1) x7_2).f0)] : List ByteArray)) (inner := [.string ((rd_T36 ((rd_T47 l1 x6_1).f1) x7_2).f0)]) (ok := fun _ => True) (okp := fun _ => True) ?hr ?hp (fun _ hk => hk) trivial (Below.refl _ _) (Nat.le_refl _) (by simp) ?_; (case hd => rfl); (case hg => rfl); (case hr => first | (go_simp; done) | (go_simp; rfl)); (case hp => exact (Reps.one (show Kd.M Kd.string _ _ _ ((rd_T36 ((rd_T47 l1 x6_1).f1) x7_2).f0) [.string ((rd_T36 ((rd_T47 l1 x6_1).f1) x7_2).f0)] from rfl) (Reps.none _ _)))
                       intro v367 w87 ho88 hb hg_ hnew_
                       clear hg_ hnew_
                       (first | rw [← Ny366.out] at ho88 | (simp only [Int.reduceToNat] at ho88; rw [← Ny366.out] at ho88))
                       have n0_ := Aside0.mk (Kd.R_elder' (by (with_reducible repeat (first | apply Kd.R_alloc | apply Kd.R_drewN | apply Kd.R_drew)); exact HO_5.out) (Kd.R_base ho88) hb)
                       have n1_ := Aside0.mk (Kd.R_below (by (with_reducible repeat (first | apply Kd.R_alloc | apply Kd.R_drewN | apply Kd.R_drew)); exact HO355.out) hb)
                       have n2_ := Aside0.mk (Kd.R_elder' (by (with_reducible repeat (first | apply Kd.R_alloc | apply Kd.R_drewN | apply Kd.R_drew)); exact HO365.out) (Kd.R_base ho88) hb)
                       have n3_ := Aside0.mk (Kd.R_lower (Kd.R_new' (Kd.R_new' ho88 (Kd.R_lt (by (with_reducible repeat (first | apply Kd.R_alloc | apply Kd.R_drewN | apply Kd.R_drew)); exact HO_5.out))) (Kd.R_lt (by (with_reducible repeat (first | apply Kd.R_alloc | apply Kd.R_drewN | apply Kd.R_drew)); exact HO365.out))) (below_size (by repeat (first | (with_reducible first | exact HB.out | apply below_alloc | apply pw_below_drewN | apply below_drew1) | exact HB.out))))
                       have n4_ := Aside0.mk (Kd.C_below (by repeat (first | (with_reducible exact HR362.out) | (with_reducible refine Kd.C_alloc ?_ _) | (with_reducible refine Kd.C_drewN ?_ _) | (with_reducible refine Kd.C_drew ?_) | exact HR362.out)) hb)
                       have n5_ := Aside0.mk (Kd.C_below (by repeat (first | (with_reducible exact HR375.out) | (with_reducible refine Kd.C_alloc ?_ _) | (with_reducible refine Kd.C_drewN ?_ _) | (with_reducible refine Kd.C_drew ?_) | exact HR375.out)) hb)
                       have n6_ := Aside0.mk (below_step (by repeat (first | (with_reducible first | exact HB.out | apply below_alloc | apply pw_below_drewN | apply below_drew1) | exact HB.out)) hb)
                       clear HO_5
                       clear HO355
                       clear HO365
                       clear HR362
                       clear HR375
                       clear HB
                       have HO_5 := n0_
                       have HO355 := n1_
                       have HO365 := n2_
                       have HO368 := n3_
                       have HR362 := n4_
                       have HR375 := n5_
                       have HB := n6_
                       clear n0_ n1_ n2_ n3_ n4_ n5_ n6_
                       clear hb ho88
                       refine hK.out _ _ trivial (fun hHeld => ?_)
                       clear hK K
                       refine norm_ (a' := ?_) ?_ ?_
                       rotate_left
                       ·show Act.put _ (some 75) _ = _
                        simp only [Act.put, List.setIfInBounds_toArray, List.set_cons_zero, List.set_cons_succ, i64_w, i32_w]
                        rfl
                       exact norm_ (by simp only [putAll, Act.put, List.setIfInBounds_toArray, List.set_cons_zero, List.set_cons_succ]) (hCont (v357, v364, v367) _ ⟨(by (with_reducible repeat (first | apply Kd.R_alloc | apply Kd.R_drewN | apply Kd.R_drew)); exact HO355.out), (by (with_reducible repeat (first | apply Kd.R_alloc | apply Kd.R_drewN | apply Kd.R_drew)); exact Kd.R_mono HO365.out (fun _ hk => ⟨hk.2, hk.1⟩)), (by (with_reducible repeat (first | apply Kd.R_alloc | apply Kd.R_drewN | apply Kd.R_drew)); exact Kd.R_mono HO368.out (fun _ hk => ⟨hk.2, hk.1.2⟩)), (by (with_reducible repeat (first | apply Kd.R_alloc | apply Kd.R_drewN | apply Kd.R_drew)); exact Kd.R_mono HO_5.out (fun _ hk => ⟨hk.1.2, hk.2⟩)), (by repeat (first | (with_reducible exact HR362.out) | (with_reducible refine Kd.C_alloc ?_ _) | (with_reducible refine Kd.C_drewN ?_ _) | (with_reducible refine Kd.C_drew ?_) | exact HR362.out)), (by repeat (first | (with_reducible exact HR375.out) | (with_reducible refine Kd.C_alloc ?_ _) | (with_reducible refine Kd.C_drewN ?_ _) | (with_reducible refine Kd.C_drew ?_) | exact HR375.out)), (by repeat (first | (with_reducible first | exact HB.out | apply below_alloc | apply pw_below_drewN | apply below_drew1) | exact HB.out))⟩)
                      ·skip
                       refine Kd.R_lit_step Kd.string _ 9 ?hg (N := 75) ?hd (xs := ([((rd_T36 ((rd_T47 l1 x6_1).f1) x7_2).f0)] : List ByteArray)) (inner := [.string ((rd_T36 ((rd_T47 l1 x6_1).f1) x7_2).f0)]) (ok := fun _ => True) (okp := fun _ => True) ?hr ?hp (fun _ hk => hk) trivial (Below.refl _ _) (Nat.le_refl _) (by simp) ?_; (case hd => rfl); (case hg => rfl); (case hr => first | (go_simp; done) | (go_simp; rfl)); (case hp => exact (Reps.one (show Kd.M Kd.string _ _ _ ((rd_T36 ((rd_T47 l1 x6_1).f1) x7_2).f0) [.string ((rd_T36 ((rd_T47 l1 x6_1).f1) x7_2).f0)] from rfl) (Reps.none _ _)))
                       intro v367 w86 ho87 hb hg_ hnew_
                       clear hg_ hnew_
                       (first | rw [← Ny366.out] at ho87 | (simp only [Int.reduceToNat] at ho87; rw [← Ny366.out] at ho87))
                       have n0_ := Aside0.mk (Kd.R_elder' (by (with_reducible repeat (first | apply Kd.R_alloc | apply Kd.R_drewN | apply Kd.R_drew)); exact HO_5.out) (Kd.R_base ho87) hb)
                       have n1_ := Aside0.mk (Kd.R_below (by (with_reducible repeat (first | apply Kd.R_alloc | apply Kd.R_drewN | apply Kd.R_drew)); exact HO355.out) hb)
                       have n2_ := Aside0.mk (Kd.R_elder' (by (with_reducible repeat (first | apply Kd.R_alloc | apply Kd.R_drewN | apply Kd.R_drew)); exact HO358.out) (Kd.R_base ho87) hb)
                       have n3_ := Aside0.mk (Kd.R_lower (Kd.R_new' (Kd.R_new' ho87 (Kd.R_lt (by (with_reducible repeat (first | apply Kd.R_alloc | apply Kd.R_drewN | apply Kd.R_drew)); exact HO_5.out))) (Kd.R_lt (by (with_reducible repeat (first | apply Kd.R_alloc | apply Kd.R_drewN | apply Kd.R_drew)); exact HO358.out))) (below_size (by repeat (first | (with_reducible first | exact HB.out | apply below_alloc | apply pw_below_drewN | apply below_drew1) | exact HB.out))))
                       have n4_ := Aside0.mk (Kd.C_below (by repeat (first | (with_reducible exact HR362.out) | (with_reducible refine Kd.C_alloc ?_ _) | (with_reducible refine Kd.C_drewN ?_ _) | (with_reducible refine Kd.C_drew ?_) | exact HR362.out)) hb)
                       have n5_ := Aside0.mk (Kd.C_below (by repeat (first | (with_reducible exact HR375.out) | (with_reducible refine Kd.C_alloc ?_ _) | (with_reducible refine Kd.C_drewN ?_ _) | (with_reducible refine Kd.C_drew ?_) | exact HR375.out)) hb)
                       have n6_ := Aside0.mk (below_step (by repeat (first | (with_reducible first | exact HB.out | apply below_alloc | apply pw_below_drewN | apply below_drew1) | exact HB.out)) hb)
                       clear HO_5
                       clear HO355
                       clear HO358
                       clear HR362
                       clear HR375
                       clear HB
                       have HO_5 := n0_
                       have HO355 := n1_
                       have HO358 := n2_
                       have HO368 := n3_
                       have HR362 := n4_
                       have HR375 := n5_
                       have HB := n6_
                       clear n0_ n1_ n2_ n3_ n4_ n5_ n6_
                       clear hb ho87
                       refine hK.out _ _ trivial (fun hHeld => ?_)
                       clear hK K
                       refine norm_ (a' := ?_) ?_ ?_
                       rotate_left
                       ·show Act.put _ (some 75) _ = _
                        simp only [Act.put, List.setIfInBounds_toArray, List.set_cons_zero, List.set_cons_succ, i64_w, i32_w]
                        rfl
                       refine one_ (i := 4) (N := some 73) #[true, true, true, true, true, true, true, false, true, true, true, false, false] rfl rfl (one_of HT_.out (by kernel_rfl)) (by decide) (fun K hK => ?_)
                       refine Kd.R_append_rows_step Kd.string (w0 := w) w.heap.size (by rfl) (.tmp 69) (.tmp 72) 52 9 (.string ⟨#[]⟩) 16 rfl Try.underlying52 info9 rfl (by decide) (by omega) v357 y356 y359 _ _ _ (fun k_ => some k_ ≠ (.slice Ao78 x5_2.length co78 : Value).ownBlock ∧ some k_ ≠ (v367 : Value).ownBlock) (fun _ => False) rfl rfl ?aO ?aR (fun _ _ h => h) (fun _ h => h.elim) ?aF ?aB ?aS ?aL ?_
                       (case aR => repeat (first | exact (by repeat (first | (with_reducible exact HR362.out) | (with_reducible refine Kd.C_alloc ?_ _) | (with_reducible refine Kd.C_drewN ?_ _) | (with_reducible refine Kd.C_drew ?_) | exact HR362.out)) | (with_reducible refine Kd.C_alloc ?_ _) | (with_reducible refine Kd.C_drewN ?_ _) | (with_reducible refine Kd.C_drew ?_)))
                       (case aB => exact (by repeat (first | (with_reducible first | exact HB.out | apply below_alloc | apply pw_below_drewN | apply below_drew1) | exact HB.out)))
                       (case aF => exact (fun k_ hk => ⟨Kd.fresh' (Kd.R_lt (by (with_reducible repeat (first | apply Kd.R_alloc | apply Kd.R_drewN | apply Kd.R_drew)); exact HO_5.out)) k_ hk, Kd.fresh' (Kd.R_lt (by (with_reducible repeat (first | apply Kd.R_alloc | apply Kd.R_drewN | apply Kd.R_drew)); exact HO368.out)) k_ hk⟩))
                       (case aO => exact (by (with_reducible repeat (first | apply Kd.R_alloc | apply Kd.R_drewN | apply Kd.R_drew)); exact Kd.R_mono HO358.out (fun _ hk => ⟨hk.1.2, hk.2⟩)))
                       (case aS => exact (below_size (by repeat (first | (with_reducible first | exact HB.out | apply below_alloc | apply pw_below_drewN | apply below_drew1) | exact HB.out))))
                       (case aL => have := LMc73.out; omega)
                       intro v364 w88 ho hb hg hat
                       rw [← Ny363.out] at ho
                       have n0_ := Aside0.mk (Kd.R_after (ok := (fun k_ => some k_ ≠ (v367 : Value).ownBlock)) (by (with_reducible repeat (first | apply Kd.R_alloc | apply Kd.R_drewN | apply Kd.R_drew)); exact Kd.R_mono HO_5.out (fun _ hk => ⟨hk.2, hk.1.2⟩)) hg hat)
                       have n1_ := Aside0.mk (Kd.R_over' (by (with_reducible repeat (first | apply Kd.R_alloc | apply Kd.R_drewN | apply Kd.R_drew)); exact HO355.out) (Kd.R_typed (by (with_reducible repeat (first | apply Kd.R_alloc | apply Kd.R_drewN | apply Kd.R_drew)); exact HO358.out)) (by decide) hg)
                       have n2_ := Aside0.mk (Kd.R_after (ok := (fun k_ => some k_ ≠ (.slice Ao78 x5_2.length co78 : Value).ownBlock)) (by (with_reducible repeat (first | apply Kd.R_alloc | apply Kd.R_drewN | apply Kd.R_drew)); exact Kd.R_mono HO368.out (fun _ hk => ⟨hk.1.2, hk.2⟩)) hg hat)
                       have n3_ := Aside0.mk (hb)
                       have n4_ := Aside0.mk ((show Kd.C Kd.string w88 Ao78 y359.length y359 from by rw [Ny359.out]; exact Kd.C_take (m := (x9_3 : Int).toNat) ((Kd.R_reads' (Kd.R_after (ok := (fun k_ => some k_ ≠ (v367 : Value).ownBlock)) (by (with_reducible repeat (first | apply Kd.R_alloc | apply Kd.R_drewN | apply Kd.R_drew)); exact Kd.R_mono HO_5.out (fun _ hk => ⟨hk.2, hk.1.2⟩)) hg hat)).2.2) KL82.out))
                       have n5_ := Aside0.mk ((show Kd.C Kd.string w88 A83 y372.length y372 from by rw [Ny372.out, KA83.out]; exact Kd.C_drop (m := (x9_3 : Int).toNat) (c := co78) ((Kd.R_reads' (Kd.R_after (ok := (fun k_ => some k_ ≠ (v367 : Value).ownBlock)) (by (with_reducible repeat (first | apply Kd.R_alloc | apply Kd.R_drewN | apply Kd.R_drew)); exact Kd.R_mono HO_5.out (fun _ hk => ⟨hk.2, hk.1.2⟩)) hg hat)).2.2) KL83.out ((Kd.R_reads' (Kd.R_after (ok := (fun k_ => some k_ ≠ (v367 : Value).ownBlock)) (by (with_reducible repeat (first | apply Kd.R_alloc | apply Kd.R_drewN | apply Kd.R_drew)); exact Kd.R_mono HO_5.out (fun _ hk => ⟨hk.2, hk.1.2⟩)) hg hat)).2.1)))
                       have n6_ := Aside0.mk (ho)
                       clear HO_5
                       clear HO355
                       clear HO368
                       clear HB
                       clear HR362
                       clear HR375
                       clear HO358
                       have HO_5 := n0_
                       have HO355 := n1_
                       have HO368 := n2_
                       have HB := n3_
                       have HR362 := n4_
                       have HR375 := n5_
                       have HO365 := n6_
                       clear n0_ n1_ n2_ n3_ n4_ n5_ n6_
                       clear ho hb hg hat
                       refine hK.out _ _ trivial (fun hHeld => ?_)
                       clear hK K
                       refine norm_ (a' := ?_) ?_ ?_
                       rotate_left
                       ·show Act.put _ (some 73) _ = _
                        simp only [Act.put, List.setIfInBounds_toArray, List.set_cons_zero, List.set_cons_succ, i64_w, i32_w]
                        rfl
                       exact norm_ (by simp only [putAll, Act.put, List.setIfInBounds_toArray, List.set_cons_zero, List.set_cons_succ]) (hCont (v357, v364, v367) _ ⟨(by (with_reducible repeat (first | apply Kd.R_alloc | apply Kd.R_drewN | apply Kd.R_drew)); exact HO355.out), (by (with_reducible repeat (first | apply Kd.R_alloc | apply Kd.R_drewN | apply Kd.R_drew)); exact Kd.R_mono HO365.out (fun _ hk => ⟨hk.2, hk.1⟩)), (by (with_reducible repeat (first | apply Kd.R_alloc | apply Kd.R_drewN | apply Kd.R_drew)); exact Kd.R_mono HO368.out (fun _ hk => ⟨hk.2, hk.1⟩)), (by (with_reducible repeat (first | apply Kd.R_alloc | apply Kd.R_drewN | apply Kd.R_drew)); exact Kd.R_mono HO_5.out (fun _ hk => ⟨hk.2, hk.1⟩)), (by repeat (first | (with_reducible exact HR362.out) | (with_reducible refine Kd.C_alloc ?_ _) | (with_reducible refine Kd.C_drewN ?_ _) | (with_reducible refine Kd.C_drew ?_) | exact HR362.out)), (by repeat (first | (with_reducible exact HR375.out) | (with_reducible refine Kd.C_alloc ?_ _) | (with_reducible refine Kd.C_drewN ?_ _) | (with_reducible refine Kd.C_drew ?_) | exact HR375.out)), (by repeat (first | (with_reducible first | exact HB.out | apply below_alloc | apply pw_below_drewN | apply below_drew1) | exact HB.out))⟩)
                     ·skip
                      refine Kd.R_lit_step Kd.string _ 9 ?hg (N := 75) ?hd (xs := ([((rd_T36 ((rd_T47 l1 x6_1).f1) x7_2).f0)] : List ByteArray)) (inner := [.string ((rd_T36 ((rd_T47 l1 x6_1).f1) x7_2).f0)]) (ok := fun _ => True) (okp := fun _ => True) ?hr ?hp (fun _ hk => hk) trivial (Below.refl _ _) (Nat.le_refl _) (by simp) ?_; (case hd => rfl); (case hg => rfl); (case hr => first | (go_simp; done) | (go_simp; rfl)); (case hp => exact (Reps.one (show Kd.M Kd.string _ _ _ ((rd_T36 ((rd_T47 l1 x6_1).f1) x7_2).f0) [.string ((rd_T36 ((rd_T47 l1 x6_1).f1) x7_2).f0)] from rfl) (Reps.none _ _)))
                      intro v367 w84 ho85 hb hg_ hnew_
                      clear hg_ hnew_
                      (first | rw [← Ny366.out] at ho85 | (simp only [Int.reduceToNat] at ho85; rw [← Ny366.out] at ho85))
                      have n0_ := Aside0.mk (Kd.R_elder' (by (with_reducible repeat (first | apply Kd.R_alloc | apply Kd.R_drewN | apply Kd.R_drew)); exact HO_5.out) (Kd.R_base ho85) hb)
                      have n1_ := Aside0.mk (Kd.R_below (by (with_reducible repeat (first | apply Kd.R_alloc | apply Kd.R_drewN | apply Kd.R_drew)); exact HO355.out) hb)
                      have n2_ := Aside0.mk (Kd.R_lower (Kd.R_new' ho85 (Kd.R_lt (by (with_reducible repeat (first | apply Kd.R_alloc | apply Kd.R_drewN | apply Kd.R_drew)); exact HO_5.out))) (below_size (by repeat (first | (with_reducible first | exact HB.out | apply below_alloc | apply pw_below_drewN | apply below_drew1) | exact HB.out))))
                      have n3_ := Aside0.mk (Kd.C_below (by repeat (first | (with_reducible exact HR362.out) | (with_reducible refine Kd.C_alloc ?_ _) | (with_reducible refine Kd.C_drewN ?_ _) | (with_reducible refine Kd.C_drew ?_) | exact HR362.out)) hb)
                      have n4_ := Aside0.mk (Kd.C_below (by repeat (first | (with_reducible exact HR375.out) | (with_reducible refine Kd.C_alloc ?_ _) | (with_reducible refine Kd.C_drewN ?_ _) | (with_reducible refine Kd.C_drew ?_) | exact HR375.out)) hb)
                      have n5_ := Aside0.mk (below_step (by repeat (first | (with_reducible first | exact HB.out | apply below_alloc | apply pw_below_drewN | apply below_drew1) | exact HB.out)) hb)
                      clear HO_5
                      clear HO355
                      clear HR362
                      clear HR375
                      clear HB
                      have HO_5 := n0_
                      have HO355 := n1_
                      have HO368 := n2_
                      have HR362 := n3_
                      have HR375 := n4_
                      have HB := n5_
                      clear n0_ n1_ n2_ n3_ n4_ n5_
                      clear hb ho85
                      refine hK.out _ _ trivial (fun hHeld => ?_)
                      clear hK K
                      refine norm_ (a' := ?_) ?_ ?_
                      rotate_left
                      ·show Act.put _ (some 75) _ = _
                       simp only [Act.put, List.setIfInBounds_toArray, List.set_cons_zero, List.set_cons_succ, i64_w, i32_w]
                       rfl
                      refine one_ (i := 0) (N := some 69) #[true, true, true, true, false, true, true, false, true, true, true, false, false] rfl rfl (one_of HT_.out (by kernel_rfl)) (by decide) (fun K hK => ?_)
                      refine Kd.R_lit_step Kd.string _ 9 ?hg (N := 69) ?hd (xs := ([] : List ByteArray)) (inner := []) (ok := fun _ => True) (okp := fun _ => True) ?hr ?hp (fun _ hk => hk) trivial (Below.refl _ _) (Nat.le_refl _) (by simp) ?_; (case hd => rfl); (case hg => rfl); (case hr => first | (go_simp; done) | (go_simp; rfl)); (case hp => exact (Reps.none _ _))
                      intro v357 w86 ho87 hb hg_ hnew_
                      clear hg_ hnew_
                      (first | rw [← Ny356.out] at ho87 | (simp only [Int.reduceToNat] at ho87; rw [← Ny356.out] at ho87))
                      have n0_ := Aside0.mk (Kd.R_elder' (by (with_reducible repeat (first | apply Kd.R_alloc | apply Kd.R_drewN | apply Kd.R_drew)); exact HO_5.out) (Kd.R_base ho87) hb)
                      have n1_ := Aside0.mk (Kd.R_below (by (with_reducible repeat (first | apply Kd.R_alloc | apply Kd.R_drewN | apply Kd.R_drew)); exact HO355.out) hb)
                      have n2_ := Aside0.mk (Kd.R_elder' (by (with_reducible repeat (first | apply Kd.R_alloc | apply Kd.R_drewN | apply Kd.R_drew)); exact HO368.out) (Kd.R_base ho87) hb)
                      have n3_ := Aside0.mk (Kd.R_lower (Kd.R_new' (Kd.R_new' ho87 (Kd.R_lt (by (with_reducible repeat (first | apply Kd.R_alloc | apply Kd.R_drewN | apply Kd.R_drew)); exact HO_5.out))) (Kd.R_lt (by (with_reducible repeat (first | apply Kd.R_alloc | apply Kd.R_drewN | apply Kd.R_drew)); exact HO368.out))) (below_size (by repeat (first | (with_reducible first | exact HB.out | apply below_alloc | apply pw_below_drewN | apply below_drew1) | exact HB.out))))
                      have n4_ := Aside0.mk (Kd.C_below (by repeat (first | (with_reducible exact HR362.out) | (with_reducible refine Kd.C_alloc ?_ _) | (with_reducible refine Kd.C_drewN ?_ _) | (with_reducible refine Kd.C_drew ?_) | exact HR362.out)) hb)
                      have n5_ := Aside0.mk (Kd.C_below (by repeat (first | (with_reducible exact HR375.out) | (with_reducible refine Kd.C_alloc ?_ _) | (with_reducible refine Kd.C_drewN ?_ _) | (with_reducible refine Kd.C_drew ?_) | exact HR375.out)) hb)
                      have n6_ := Aside0.mk (below_step (by repeat (first | (with_reducible first | exact HB.out | apply below_alloc | apply pw_below_drewN | apply below_drew1) | exact HB.out)) hb)
                      clear HO_5
                      clear HO355
                      clear HO368
                      clear HR362
                      clear HR375
                      clear HB
                      have HO_5 := n0_
                      have HO355 := n1_
                      have HO368 := n2_
                      have HO358 := n3_
                      have HR362 := n4_
                      have HR375 := n5_
                      have HB := n6_
                      clear n0_ n1_ n2_ n3_ n4_ n5_ n6_
                      clear hb ho87
                      refine hK.out _ _ trivial (fun hHeld => ?_)
                      clear hK K
                      refine norm_ (a' := ?_) ?_ ?_
                      rotate_left
                      ·show Act.put _ (some 69) _ = _
                       simp only [Act.put, List.setIfInBounds_toArray, List.set_cons_zero, List.set_cons_succ, i64_w, i32_w]
                       rfl
                      refine one_ (i := 4) (N := some 73) #[true, true, true, true, true, true, true, false, true, true, true, false, false] rfl rfl (one_of HT_.out (by kernel_rfl)) (by decide) (fun K hK => ?_)
                      refine Kd.R_append_rows_step Kd.string (w0 := w) w.heap.size (by rfl) (.tmp 69) (.tmp 72) 52 9 (.string ⟨#[]⟩) 16 rfl Try.underlying52 info9 rfl (by decide) (by omega) v357 y356 y359 _ _ _ (fun k_ => some k_ ≠ (.slice Ao78 x5_2.length co78 : Value).ownBlock ∧ some k_ ≠ (v367 : Value).ownBlock) (fun _ => False) rfl rfl ?aO ?aR (fun _ _ h => h) (fun _ h => h.elim) ?aF ?aB ?aS ?aL ?_
                      (case aR => repeat (first | exact (by repeat (first | (with_reducible exact HR362.out) | (with_reducible refine Kd.C_alloc ?_ _) | (with_reducible refine Kd.C_drewN ?_ _) | (with_reducible refine Kd.C_drew ?_) | exact HR362.out)) | (with_reducible refine Kd.C_alloc ?_ _) | (with_reducible refine Kd.C_drewN ?_ _) | (with_reducible refine Kd.C_drew ?_)))
                      (case aB => exact (by repeat (first | (with_reducible first | exact HB.out | apply below_alloc | apply pw_below_drewN | apply below_drew1) | exact HB.out)))
                      (case aF => exact (fun k_ hk => ⟨Kd.fresh' (Kd.R_lt (by (with_reducible repeat (first | apply Kd.R_alloc | apply Kd.R_drewN | apply Kd.R_drew)); exact HO_5.out)) k_ hk, Kd.fresh' (Kd.R_lt (by (with_reducible repeat (first | apply Kd.R_alloc | apply Kd.R_drewN | apply Kd.R_drew)); exact HO368.out)) k_ hk⟩))
                      (case aO => exact (by (with_reducible repeat (first | apply Kd.R_alloc | apply Kd.R_drewN | apply Kd.R_drew)); exact Kd.R_mono HO358.out (fun _ hk => ⟨hk.1.2, hk.2⟩)))
                      (case aS => exact (below_size (by repeat (first | (with_reducible first | exact HB.out | apply below_alloc | apply pw_below_drewN | apply below_drew1) | exact HB.out))))
                      (case aL => have := LMc73.out; omega)
                      intro v364 w88 ho hb hg hat
                      rw [← Ny363.out] at ho
                      have n0_ := Aside0.mk (Kd.R_after (ok := (fun k_ => some k_ ≠ (v367 : Value).ownBlock)) (by (with_reducible repeat (first | apply Kd.R_alloc | apply Kd.R_drewN | apply Kd.R_drew)); exact Kd.R_mono HO_5.out (fun _ hk => ⟨hk.1.2, hk.2⟩)) hg hat)
                      have n1_ := Aside0.mk (Kd.R_over' (by (with_reducible repeat (first | apply Kd.R_alloc | apply Kd.R_drewN | apply Kd.R_drew)); exact HO355.out) (Kd.R_typed (by (with_reducible repeat (first | apply Kd.R_alloc | apply Kd.R_drewN | apply Kd.R_drew)); exact HO358.out)) (by decide) hg)
                      have n2_ := Aside0.mk (Kd.R_after (ok := (fun k_ => some k_ ≠ (.slice Ao78 x5_2.length co78 : Value).ownBlock)) (by (with_reducible repeat (first | apply Kd.R_alloc | apply Kd.R_drewN | apply Kd.R_drew)); exact Kd.R_mono HO368.out (fun _ hk => ⟨hk.1.2, hk.2⟩)) hg hat)
                      have n3_ := Aside0.mk (hb)
                      have n4_ := Aside0.mk ((show Kd.C Kd.string w88 Ao78 y359.length y359 from by rw [Ny359.out]; exact Kd.C_take (m := (x9_3 : Int).toNat) ((Kd.R_reads' (Kd.R_after (ok := (fun k_ => some k_ ≠ (v367 : Value).ownBlock)) (by (with_reducible repeat (first | apply Kd.R_alloc | apply Kd.R_drewN | apply Kd.R_drew)); exact Kd.R_mono HO_5.out (fun _ hk => ⟨hk.1.2, hk.2⟩)) hg hat)).2.2) KL82.out))
                      have n5_ := Aside0.mk ((show Kd.C Kd.string w88 A83 y372.length y372 from by rw [Ny372.out, KA83.out]; exact Kd.C_drop (m := (x9_3 : Int).toNat) (c := co78) ((Kd.R_reads' (Kd.R_after (ok := (fun k_ => some k_ ≠ (v367 : Value).ownBlock)) (by (with_reducible repeat (first | apply Kd.R_alloc | apply Kd.R_drewN | apply Kd.R_drew)); exact Kd.R_mono HO_5.out (fun _ hk => ⟨hk.1.2, hk.2⟩)) hg hat)).2.2) KL83.out ((Kd.R_reads' (Kd.R_after (ok := (fun k_ => some k_ ≠ (v367 : Value).ownBlock)) (by (with_reducible repeat (first | apply Kd.R_alloc | apply Kd.R_drewN | apply Kd.R_drew)); exact Kd.R_mono HO_5.out (fun _ hk => ⟨hk.1.2, hk.2⟩)) hg hat)).2.1)))
                      have n6_ := Aside0.mk (ho)
                      clear HO_5
                      clear HO355
                      clear HO368
                      clear HB
                      clear HR362
                      clear HR375
                      clear HO358
                      have HO_5 := n0_
                      have HO355 := n1_
                      have HO368 := n2_
                      have HB := n3_
                      have HR362 := n4_
                      have HR375 := n5_
                      have HO365 := n6_
                      clear n0_ n1_ n2_ n3_ n4_ n5_ n6_
                      clear ho hb hg hat
                      refine hK.out _ _ trivial (fun hHeld => ?_)
                      clear hK K
                      refine norm_ (a' := ?_) ?_ ?_
                      rotate_left
                      ·show Act.put _ (some 73) _ = _
                       simp only [Act.put, List.setIfInBounds_toArray, List.set_cons_zero, List.set_cons_succ, i64_w, i32_w]
                       rfl
                      exact norm_ (by simp only [putAll, Act.put, List.setIfInBounds_toArray, List.set_cons_zero, List.set_cons_succ]) (hCont (v357, v364, v367) _ ⟨(by (with_reducible repeat (first | apply Kd.R_alloc | apply Kd.R_drewN | apply Kd.R_drew)); exact HO355.out), (by (with_reducible repeat (first | apply Kd.R_alloc | apply Kd.R_drewN | apply Kd.R_drew)); exact Kd.R_mono HO365.out (fun _ hk => ⟨hk.2, hk.1⟩)), (by (with_reducible repeat (first | apply Kd.R_alloc | apply Kd.R_drewN | apply Kd.R_drew)); exact Kd.R_mono HO368.out (fun _ hk => ⟨hk.2, hk.1⟩)), (by (with_reducible repeat (first | apply Kd.R_alloc | apply Kd.R_drewN | apply Kd.R_drew)); exact Kd.R_mono HO_5.out (fun _ hk => ⟨hk.2, hk.1⟩)), (by repeat (first | (with_reducible exact HR362.out) | (with_reducible refine Kd.C_alloc ?_ _) | (with_reducible refine Kd.C_drewN ?_ _) | (with_reducible refine Kd.C_drew ?_) | exact HR362.out)), (by repeat (first | (with_reducible exact HR375.out) | (with_reducible refine Kd.C_alloc ?_ _) | (with_reducible refine Kd.C_drewN ?_ _) | (with_reducible refine Kd.C_drew ?_) | exact HR375.out)), (by repeat (first | (with_reducible first | exact HB.out | apply below_alloc | apply pw_below_drewN | apply below_drew1) | exact HB.out))⟩)
                    rintro ⟨v357, v364, v367⟩ w89 ⟨h0_, h1_, h2_, h3_, h4_, h5_, h6_⟩
                    have n0_ : Aside0 (Kd.R (Kd.int .i64) 3 w89 w.heap.size (fun _ => True) (.slice Ao80 t353.length co80) t353) := ⟨h0_⟩
                    have n1_ : Aside0 (Kd.R Kd.string 9 w89 w.heap.size (fun k_ => some k_ ≠ (v367 : Value).ownBlock ∧ some k_ ≠ (.slice Ao78 x5_2.length co78 : Value).ownBlock) v364 y363) := ⟨h1_⟩
                    have n2_ : Aside0 (Kd.R Kd.string 9 w89 w.heap.size (fun k_ => some k_ ≠ (v364 : Value).ownBlock ∧ some k_ ≠ (.slice Ao78 x5_2.length co78 : Value).ownBlock) v367 y366) := ⟨h2_⟩
                    have n3_ : Aside0 (Kd.R Kd.string 9 w89 w.heap.size (fun k_ => some k_ ≠ (v364 : Value).ownBlock ∧ some k_ ≠ (v367 : Value).ownBlock) (.slice Ao78 x5_2.length co78) x5_2) := ⟨h3_⟩
                    have n4_ : Aside0 (Kd.C Kd.string w89 Ao78 y359.length y359) := ⟨h4_⟩
                    have n5_ : Aside0 (Kd.C Kd.string w89 A83 y372.length y372) := ⟨h5_⟩
                    have n6_ : Aside0 (Below w.heap.size w w89) := ⟨h6_⟩
                    clear HO_5
                    clear HO355
                    clear HB
                    clear h0_ h1_ h2_ h3_ h4_ h5_ h6_
                    have HO355 := n0_
                    have HO365 := n1_
                    have HO368 := n2_
                    have HO_5 := n3_
                    have HR362 := n4_
                    have HR375 := n5_
                    have HB := n6_
                    clear n0_ n1_ n2_ n3_ n4_ n5_ n6_
                    have hHeld := trivial
                    obtain ⟨Ao91, co91, eo91⟩ := Kd.R_slice HO368.out
                    (first | subst eo91 | (injection eo91 with f1_ f2_ f3_; have f4_ := f1_.symm; have f5_ := f3_.symm; clear f1_ f2_ f3_; subst f4_; subst f5_))
                    refine norm_ (a' := ?_) ?_ ?_
                    rotate_left
                    ·simp only [putAll, Act.put, List.setIfInBounds_toArray, List.set_cons_zero, List.set_cons_succ]
                     rfl
                    refine one_ (i := 7) (N := some 76) #[true, true, true, true, true, true, true, true, true, true, true, false, false] rfl rfl (one_of HT_.out (by kernel_rfl)) (by decide) (fun K hK => ?_)
                    refine Kd.R_append_rows_step Kd.string (w0 := w) w.heap.size (by rfl) (.tmp 73) (.tmp 75) 52 9 (.string ⟨#[]⟩) 16 rfl Try.underlying52 info9 rfl (by decide) (by omega) v364 y363 y366 _ _ _ (fun k_ => some k_ ≠ (.slice Ao78 x5_2.length co78 : Value).ownBlock ∧ some k_ ≠ (.slice Ao91 y366.length co91 : Value).ownBlock) (fun _ => False) rfl rfl ?aO ?aR (fun _ _ h => h) (fun _ h => h.elim) ?aF ?aB ?aS ?aL ?_
                    (case aR => repeat (first | exact (Kd.R_reads' HO368.out).2.2 | (with_reducible refine Kd.C_alloc ?_ _) | (with_reducible refine Kd.C_drewN ?_ _) | (with_reducible refine Kd.C_drew ?_)))
                    (case aB => exact (by repeat (first | (with_reducible first | exact HB.out | apply below_alloc | apply pw_below_drewN | apply below_drew1) | exact HB.out)))
                    (case aF => exact (fun k_ hk => ⟨Kd.fresh' (Kd.R_lt (by (with_reducible repeat (first | apply Kd.R_alloc | apply Kd.R_drewN | apply Kd.R_drew)); exact HO_5.out)) k_ hk, Kd.fresh' (Kd.R_lt (by (with_reducible repeat (first | apply Kd.R_alloc | apply Kd.R_drewN | apply Kd.R_drew)); exact HO368.out)) k_ hk⟩))
                    (case aO => exact (by (with_reducible repeat (first | apply Kd.R_alloc | apply Kd.R_drewN | apply Kd.R_drew)); exact Kd.R_mono HO365.out (fun _ hk => ⟨hk.2, hk.1⟩)))
                    (case aS => exact (below_size (by repeat (first | (with_reducible first | exact HB.out | apply below_alloc | apply pw_below_drewN | apply below_drew1) | exact HB.out))))
                    (case aL => have := LMc74.out; omega)
                    intro v370 w90 ho hb hg hat
                    rw [← Ny369.out] at ho
                    have n0_ := Aside0.mk (Kd.R_after (ok := (fun k_ => some k_ ≠ (.slice Ao91 y366.length co91 : Value).ownBlock)) (by (with_reducible repeat (first | apply Kd.R_alloc | apply Kd.R_drewN | apply Kd.R_drew)); exact Kd.R_mono HO_5.out (fun _ hk => ⟨hk.2, hk.1⟩)) hg hat)
                    have n1_ := Aside0.mk (Kd.R_over' (by (with_reducible repeat (first | apply Kd.R_alloc | apply Kd.R_drewN | apply Kd.R_drew)); exact HO355.out) (Kd.R_typed (by (with_reducible repeat (first | apply Kd.R_alloc | apply Kd.R_drewN | apply Kd.R_drew)); exact HO365.out)) (by decide) hg)
                    have n2_ := Aside0.mk (Kd.R_after (ok := (fun k_ => some k_ ≠ (.slice Ao78 x5_2.length co78 : Value).ownBlock)) (by (with_reducible repeat (first | apply Kd.R_alloc | apply Kd.R_drewN | apply Kd.R_drew)); exact Kd.R_mono HO368.out (fun _ hk => ⟨hk.2, hk.1⟩)) hg hat)
                    have n3_ := Aside0.mk (hb)
                    have n4_ := Aside0.mk ((show Kd.C Kd.string w90 Ao78 y359.length y359 from by rw [Ny359.out]; exact Kd.C_take (m := (x9_3 : Int).toNat) ((Kd.R_reads' (Kd.R_after (ok := (fun k_ => some k_ ≠ (.slice Ao91 y366.length co91 : Value).ownBlock)) (by (with_reducible repeat (first | apply Kd.R_alloc | apply Kd.R_drewN | apply Kd.R_drew)); exact Kd.R_mono HO_5.out (fun _ hk => ⟨hk.2, hk.1⟩)) hg hat)).2.2) KL82.out))
                    have n5_ := Aside0.mk ((show Kd.C Kd.string w90 A83 y372.length y372 from by rw [Ny372.out, KA83.out]; exact Kd.C_drop (m := (x9_3 : Int).toNat) (c := co78) ((Kd.R_reads' (Kd.R_after (ok := (fun k_ => some k_ ≠ (.slice Ao91 y366.length co91 : Value).ownBlock)) (by (with_reducible repeat (first | apply Kd.R_alloc | apply Kd.R_drewN | apply Kd.R_drew)); exact Kd.R_mono HO_5.out (fun _ hk => ⟨hk.2, hk.1⟩)) hg hat)).2.2) KL83.out ((Kd.R_reads' (Kd.R_after (ok := (fun k_ => some k_ ≠ (.slice Ao91 y366.length co91 : Value).ownBlock)) (by (with_reducible repeat (first | apply Kd.R_alloc | apply Kd.R_drewN | apply Kd.R_drew)); exact Kd.R_mono HO_5.out (fun _ hk => ⟨hk.2, hk.1⟩)) hg hat)).2.1)))
                    have n6_ := Aside0.mk (ho)
                    clear HO_5
                    clear HO355
                    clear HO368
                    clear HB
                    clear HR362
                    clear HR375
                    clear HO365
                    have HO_5 := n0_
                    have HO355 := n1_
                    have HO368 := n2_
                    have HB := n3_
                    have HR362 := n4_
                    have HR375 := n5_
                    have HO371 := n6_
                    clear n0_ n1_ n2_ n3_ n4_ n5_ n6_
                    clear ho hb hg hat
                    refine hK.out _ _ trivial (fun hHeld => ?_)
                    clear hK K
                    refine norm_ (a' := ?_) ?_ ?_
                    rotate_left
                    ·show Act.put _ (some 76) _ = _
                     simp only [Act.put, List.setIfInBounds_toArray, List.set_cons_zero, List.set_cons_succ, i64_w, i32_w]
                     rfl
                    refine one_ (i := 11) (N := some 80) #[true, true, true, true, true, true, true, true, true, true, true, true, false] rfl rfl (one_of HT_.out (by kernel_rfl)) (by decide) (fun K hK => ?_)
                    refine Kd.R_append_rows_step Kd.string (w0 := w) w.heap.size (by rfl) (.tmp 76) (.tmp 79) 52 9 (.string ⟨#[]⟩) 16 rfl Try.underlying52 info9 rfl (by decide) (by omega) v370 y369 y372 _ _ _ (fun k_ => some k_ ≠ (.slice Ao78 x5_2.length co78 : Value).ownBlock ∧ some k_ ≠ (.slice Ao91 y366.length co91 : Value).ownBlock) (fun _ => False) rfl rfl ?aO ?aR (fun _ _ h => h) (fun _ h => h.elim) ?aF ?aB ?aS ?aL ?_
                    (case aR => repeat (first | exact (by repeat (first | (with_reducible exact HR375.out) | (with_reducible refine Kd.C_alloc ?_ _) | (with_reducible refine Kd.C_drewN ?_ _) | (with_reducible refine Kd.C_drew ?_) | exact HR375.out)) | (with_reducible refine Kd.C_alloc ?_ _) | (with_reducible refine Kd.C_drewN ?_ _) | (with_reducible refine Kd.C_drew ?_)))
                    (case aB => exact (by repeat (first | (with_reducible first | exact HB.out | apply below_alloc | apply pw_below_drewN | apply below_drew1) | exact HB.out)))
                    (case aF => exact (fun k_ hk => ⟨Kd.fresh' (Kd.R_lt (by (with_reducible repeat (first | apply Kd.R_alloc | apply Kd.R_drewN | apply Kd.R_drew)); exact HO_5.out)) k_ hk, Kd.fresh' (Kd.R_lt (by (with_reducible repeat (first | apply Kd.R_alloc | apply Kd.R_drewN | apply Kd.R_drew)); exact HO368.out)) k_ hk⟩))
                    (case aO => exact (by (with_reducible repeat (first | apply Kd.R_alloc | apply Kd.R_drewN | apply Kd.R_drew)); exact HO371.out))
                    (case aS => exact (below_size (by repeat (first | (with_reducible first | exact HB.out | apply below_alloc | apply pw_below_drewN | apply below_drew1) | exact HB.out))))
                    (case aL => have := LMc77.out; omega)
                    intro v377 w92 ho hb hg hat
                    rw [← Ny376.out] at ho
                    have n0_ := Aside0.mk (Kd.R_after (ok := (fun k_ => some k_ ≠ (.slice Ao91 y366.length co91 : Value).ownBlock)) (by (with_reducible repeat (first | apply Kd.R_alloc | apply Kd.R_drewN | apply Kd.R_drew)); exact HO_5.out) hg hat)
                    have n1_ := Aside0.mk (Kd.R_over' (by (with_reducible repeat (first | apply Kd.R_alloc | apply Kd.R_drewN | apply Kd.R_drew)); exact HO355.out) (Kd.R_typed (by (with_reducible repeat (first | apply Kd.R_alloc | apply Kd.R_drewN | apply Kd.R_drew)); exact HO371.out)) (by decide) hg)
                    have n2_ := Aside0.mk (Kd.R_after (ok := (fun k_ => some k_ ≠ (.slice Ao78 x5_2.length co78 : Value).ownBlock)) (by (with_reducible repeat (first | apply Kd.R_alloc | apply Kd.R_drewN | apply Kd.R_drew)); exact HO368.out) hg hat)
                    have n3_ := Aside0.mk (hb)
                    have n4_ := Aside0.mk ((show Kd.C Kd.string w92 Ao78 y359.length y359 from by rw [Ny359.out]; exact Kd.C_take (m := (x9_3 : Int).toNat) ((Kd.R_reads' (Kd.R_after (ok := (fun k_ => some k_ ≠ (.slice Ao91 y366.length co91 : Value).ownBlock)) (by (with_reducible repeat (first | apply Kd.R_alloc | apply Kd.R_drewN | apply Kd.R_drew)); exact HO_5.out) hg hat)).2.2) KL82.out))
                    have n5_ := Aside0.mk ((show Kd.C Kd.string w92 A83 y372.length y372 from by rw [Ny372.out, KA83.out]; exact Kd.C_drop (m := (x9_3 : Int).toNat) (c := co78) ((Kd.R_reads' (Kd.R_after (ok := (fun k_ => some k_ ≠ (.slice Ao91 y366.length co91 : Value).ownBlock)) (by (with_reducible repeat (first | apply Kd.R_alloc | apply Kd.R_drewN | apply Kd.R_drew)); exact HO_5.out) hg hat)).2.2) KL83.out ((Kd.R_reads' (Kd.R_after (ok := (fun k_ => some k_ ≠ (.slice Ao91 y366.length co91 : Value).ownBlock)) (by (with_reducible repeat (first | apply Kd.R_alloc | apply Kd.R_drewN | apply Kd.R_drew)); exact HO_5.out) hg hat)).2.1)))
                    have n6_ := Aside0.mk (ho)
                    clear HO_5
                    clear HO355
                    clear HO368
                    clear HB
                    clear HR362
                    clear HR375
                    clear HO371
                    have HO_5 := n0_
                    have HO355 := n1_
                    have HO368 := n2_
                    have HB := n3_
                    have HR362 := n4_
                    have HR375 := n5_
                    have HO378 := n6_
                    clear n0_ n1_ n2_ n3_ n4_ n5_ n6_
                    clear ho hb hg hat
                    refine hK.out _ _ trivial (fun hHeld => ?_)
                    clear hK K
                    refine norm_ (a' := ?_) ?_ ?_
                    rotate_left
                    ·show Act.put _ (some 80) _ = _
                     simp only [Act.put, List.setIfInBounds_toArray, List.set_cons_zero, List.set_cons_succ, i64_w, i32_w]
                     rfl
                    refine pure_ (i := 12) (N := some 5) (v := ?_) (a' := ?_) #[true, true, true, true, true, true, true, true, true, true, true, true, true] rfl rfl (any_of HT_.out (by kernel_rfl)) (fun _ _ _ h => h) (Or.inl ⟨by rfl, ?_⟩) ?_ ?_
                    rotate_left
                    ·intro w'
                     go_simp
                     with_reducible rfl
                    rotate_left
                    ·simp only [Act.put, List.setIfInBounds_toArray, List.set_cons_zero, List.set_cons_succ, i64_w, i32_w]
                     rfl
                    refine done_ (done_of HT_.out (by kernel_rfl)) ?_
                    try go_wp2
                    go_roundg k3
                    case measure => have := HK1.out; have := HK2.out; have := HK3.out; omega
                    case rel => exact ⟨(y376), (wrap64 (x7_2 + 1)), (by first | rfl | (simp; done) | (simp [*]; done)), H', ⟨by have := HK1.out; have := HK2.out; have := HK3.out; omega⟩, ⟨by (with_reducible repeat (first | apply Kd.R_alloc | apply Kd.R_drewN | apply Kd.R_drew)); exact Kd.R_mono HO378.out (fun _ hk => trivial)⟩, ⟨by repeat (first | (with_reducible first | exact HB.out | apply below_alloc | apply pw_below_drewN | apply below_drew1) | exact HB.out)⟩⟩
                   ·rw [if_neg c77] at H
                    exact absurd H (by simp)
                  ·rw [if_neg c74] at H
                   exact absurd H (by simp)
                 ·rw [if_neg c73] at H
                  exact absurd H (by simp)
                ·rw [if_neg c72] at H
                 exact absurd H (by simp)
               ·rw [if_neg c71] at H
                exact absurd H (by simp)
              ·rw [if_neg c70] at H
               have c70b0 : (x9_3 == (x5_2.length : Int)) = false := beq_eq_false_iff_ne.mpr c70
               have c70b1 : (x9_3 != (x5_2.length : Int)) = true := bne_iff_ne.mpr c70
               by_cases c93 : 0 ≤ x9_3
               ·rw [if_pos c93] at H
                exact absurd H (by simp)
               ·rw [if_neg c93] at H
                exact absurd H (by simp)
             ·rw [if_neg c69] at H
              have c69b0 : ((t353.length : Int) == 0) = false := beq_eq_false_iff_ne.mpr c69
              have c69b1 : ((t353.length : Int) != 0) = true := bne_iff_ne.mpr c69
              have c69b2 : ¬ (t353 = []) := fun h_ => c69 (by rw [h_]; rfl)
              have H' := Aside0.mk H
              clear H
              obtain ⟨Ao94, co94, eo94⟩ := Kd.R_slice HO_5.out
              subst eo94
              go_wp2_with (first | ((with_reducible refine gate_callee (f := 13) rfl ?_); refine goesL_ (some 52) rfl rfl Try.func13 (by kernel_rfl) rfl #[.slice A0 l0.length c0, .string ((rd_T36 ((rd_T47 l1 x6_1).f1) x7_2).f0)] rfl (by (try simp only [List.map_toArray, List.map_cons, List.map_nil]); first | done | rfl | (simp only [List.length_drop, List.length_take]; rfl)) ?_; (with_reducible refine (gangsawref49_Who.calls k3 _ _ l0 ((rd_T36 ((rd_T47 l1 x6_1).f1) x7_2).f0) t353 _ ?side1 ?side2 A68.out).mono ?_); (case side1 => repeat (first | exact (Kd.C_below HR0.out HB.out) | (with_reducible refine Kd.C_alloc ?_ _) | (with_reducible refine Kd.C_drewN ?_ _) | (with_reducible refine Kd.C_drew ?_))); (case side2 => exact HC0.out); rintro e w95 ⟨v354, rfl, ho0, hb⟩; refine ⟨_, rfl, ?_⟩; have n0_ := Aside0.mk (Kd.R_below (by (with_reducible repeat (first | apply Kd.R_alloc | apply Kd.R_drewN | apply Kd.R_drew)); exact HO_5.out) hb); have n1_ := Aside0.mk (Kd.R_lower ho0 (below_size (by repeat (first | (with_reducible first | exact HB.out | apply below_alloc | apply pw_below_drewN | apply below_drew1) | exact HB.out)))); have n2_ := Aside0.mk (below_step (by repeat (first | (with_reducible first | exact HB.out | apply below_alloc | apply pw_below_drewN | apply below_drew1) | exact HB.out)) hb); clear HO_5; clear HB; have HO_5 := n0_; have HO355 := n1_; have HB := n2_; clear n0_ n1_ n2_; (try clear hb); (try clear hb2); (try clear hk); (try clear hi); (try clear ho0); obtain ⟨Ao96, co96, eo96⟩ := Kd.R_slice HO355.out; subst eo96))
              go_roundg k3
              case measure => have := HK1.out; have := HK2.out; have := HK3.out; omega
              case rel => exact ⟨(x5_2), (wrap64 (x7_2 + 1)), (by first | rfl | (simp; done) | (simp [*]; done)), H', ⟨by have := HK1.out; have := HK2.out; have := HK3.out; omega⟩, ⟨by (with_reducible repeat (first | apply Kd.R_alloc | apply Kd.R_drewN | apply Kd.R_drew)); exact HO_5.out⟩, ⟨by repeat (first | (with_reducible first | exact HB.out | apply below_alloc | apply pw_below_drewN | apply below_drew1) | exact HB.out)⟩⟩
         ·rw [if_neg c9] at H
          exact absurd H (by simp)
        ·rw [if_neg c8] at H
         have c8b0 : decide (x7_2 < (((rd_T47 l1 x6_1).f1).length : Int)) = false := decide_eq_false c8
         clear c8
         have H' := Aside0.mk H
         clear H
         have p299 : 0 ≤ (x6_1 : Int) := of_decide_eq_true (by first | (with_reducible assumption) | assumption)
         have q299 : x6_1 < (l1.length : Int) := of_decide_eq_true (by first | (with_reducible assumption) | assumption)
         obtain ⟨ad299, A299_1, c299_1, e299, hx299_0, hx299_1, hx299_2, hx299_3, hx299_4, hl299_1, hi299_1⟩ := at_T47 HR1.out x6_1 p299 q299
         cases e299
         replace hx299_0 := (HB.out.cell (World.block_lt_of_cell? w _ hx299_0)).trans hx299_0
         replace hx299_1 := (HB.out.cell (World.block_lt_of_cell? w _ hx299_1)).trans hx299_1
         replace hx299_2 := (HB.out.cell (World.block_lt_of_cell? w _ hx299_2)).trans hx299_2
         replace hx299_3 := (HB.out.cell (World.block_lt_of_cell? w _ hx299_3)).trans hx299_3
         replace hx299_4 := (HB.out.cell (World.block_lt_of_cell? w _ hx299_4)).trans hx299_4
         have HR299_1 := Aside0.mk hi299_1
         have HC299_1 := Aside0.mk hl299_1
         clear hi299_1 hl299_1
         replace p299 := eq_true p299
         replace q299 := eq_true q299
         go_wp2
         go_roundg k2
         case measure => have := HK1.out; have := HK2.out; omega
         case rel => exact ⟨(x5_2), (wrap64 (x6_1 + 1)), (by first | rfl | (simp; done) | (simp [*]; done)), H', ⟨by have := HK1.out; have := HK2.out; omega⟩, ⟨by (with_reducible repeat (first | apply Kd.R_alloc | apply Kd.R_drewN | apply Kd.R_drew)); exact HO_5.out⟩, ⟨by repeat (first | (with_reducible first | exact HB.out | apply below_alloc | apply pw_below_drewN | apply below_drew1) | exact HB.out)⟩⟩
       ·rw [if_neg c7] at H
        exact absurd H (by simp)
      ·rw [if_neg c6] at H
       exact absurd H (by simp)
   ·rw [if_neg c5] at H
    have c5b0 : decide (x6_1 < (l1.length : Int)) = false := decide_eq_false c5
    clear c5
    obtain rfl := Option.some.inj H
    simp only [Option.some.injEq, Prod.mk.injEq] at H
    obtain ⟨rfl⟩ := H
    go_wp2
    go_ret
    exact ⟨_, by first | rfl | (simp [errW_none, errW_some] <;> rfl) | (simp [*, errW_none, errW_some] <;> rfl), by (with_reducible repeat (first | apply Kd.R_alloc | apply Kd.R_drewN | apply Kd.R_drew)); exact HO_5.out, by repeat (first | (with_reducible first | exact HB.out | apply below_alloc | apply pw_below_drewN | apply below_drew1) | exact HB.out)⟩

end Go.Proofs.Ytpfggghpkdnppaa.P
