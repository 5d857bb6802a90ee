/- What functions of the program return: each contract says so of one function, for every input at which its pure function yields. -/
import Derived.Test.YthkpgjjakdbbfaaPx0
import Derived.Test.YthkpgjjakdbbfaaPx2
import Derived.Test.YthkpgjjakdbbfaaPx3
import Derived.Test.YthkpgjjakdbbfaaSort
namespace Go.Proofs.Ythkpgjjakdbbfaa.P
open Go.RowKit Go.Proofs.YthkpgjjakdbbfaaW.PrintWords Go.Proofs.YthkpgjjakdbbfaaW.PrintLast Go.Proofs.YthkpgjjakdbbfaaW.PrintMore
attribute [local go_sem] max2_int min2_int max_two min_two max_three min_three max_four min_four   -- for this text's walks alone
set_option linter.unusedVariables false
set_option linter.unusedSimpArgs false

open Go.Proofs.Ythkpgjjakdbbfaa.Sort
def sample_Outliers.l0 : Nat → Int → Int → List ByteArray → List (S51) → Int → Int → Option (List ByteArray × Int)
 | 0, _, _, _, _, _, _ => none
 | k + 1, x7, x8, x9, x38, x39, x40 => if x40 < x39 then (if 0 ≤ x40 then (if x40 < (x38.length : Int) then (if (wrap64 (2 * ((rd_T51 x38 x40).f1))) < (wrap64 ((wrap64 (2 * x7)) - (wrap64 (3 * (wrap64 (x8 - x7)))))) then (if x9.length < 8796093022208 then (sample_Outliers.l0 k x7 x8 (x9 ++ [(rd_T51 x38 x40).f0]) x38 x39 (wrap64 (x40 + 1))) else (none)) else (sample_Outliers.l0 k x7 x8 x9 x38 x39 (wrap64 (x40 + 1)))) else (none)) else (none)) else ((slices_Sort_string.f x9).bind fun t359 => (some (t359, 0)))
def sample_Outliers.f (k : Nat) (l0 : List (S51)) : Option (List ByteArray × Int) := (sample_Check.f k l0).bind fun t348 => (if t348 = 0 then (if (l0.length : Int) < 4 then (some (([] : List ByteArray), 9)) else ((sample_sorted.f k l0 (fun x_ => sample_strength.f x_.f0 x_.f1 x_.f2)).bind fun t349 => (if 0 ≤ (wrap64 ((wrap64 (Int.tdiv (wrap64 ((l0.length : Int) + 3)) 4)) - 1)) then (if (wrap64 ((wrap64 (Int.tdiv (wrap64 ((l0.length : Int) + 3)) 4)) - 1)) < (t349.length : Int) then (if 0 ≤ (wrap64 ((wrap64 (Int.tdiv (wrap64 ((wrap64 (3 * (l0.length : Int))) + 3)) 4)) - 1)) then (if (wrap64 ((wrap64 (Int.tdiv (wrap64 ((wrap64 (3 * (l0.length : Int))) + 3)) 4)) - 1)) < (t349.length : Int) then (sample_Outliers.l0 k (rd t349 (wrap64 ((wrap64 (Int.tdiv (wrap64 ((l0.length : Int) + 3)) 4)) - 1))) (rd t349 (wrap64 ((wrap64 (Int.tdiv (wrap64 ((wrap64 (3 * (l0.length : Int))) + 3)) 4)) - 1))) ([] : List ByteArray) l0 (l0.length : Int) 0) else (none)) else (none)) else (none)) else (none)))) else (some (([] : List ByteArray), t348)))
set_option maxHeartbeats 8000000 in
set_option maxRecDepth 100000 in
theorem sample_Outliers.calls (k : Nat) (A0 : Option Addr) (c0 : Nat) (l0 : List (S51)) (r1 : List ByteArray) (r2 : Int) (w : World) (hr0 : Kd.C k51 w A0 l0.length l0) (hc0 : l0.length ≤ c0) (h : sample_Outliers.f k l0 = some (r1, r2)) :
  Calls Try.prog 24 #[.slice A0 l0.length c0] w fun e w' => ∃ v0_ : Value, e = .returned (.tuple #[v0_, .int .i64 r2]) ∧ Kd.R Kd.string 9 w' w.heap.size (fun _ => True) v0_ r1 ∧ Below w.heap.size w w' := by
 have hu51 := Try.underlying51
 have HR0 := Aside0.mk hr0
 have HC0 := Aside0.mk hc0
 clear hr0 hc0
 have HB := Aside0.mk (Below.refl w.heap.size w)
 have H : ((sample_Check.f k l0).bind fun t348 => (if t348 = 0 then (if (l0.length : Int) < 4 then (some (([] : List ByteArray), 9)) else ((sample_sorted.f k l0 (fun x_ => sample_strength.f x_.f0 x_.f1 x_.f2)).bind fun t349 => (if 0 ≤ (wrap64 ((wrap64 (Int.tdiv (wrap64 ((l0.length : Int) + 3)) 4)) - 1)) then (if (wrap64 ((wrap64 (Int.tdiv (wrap64 ((l0.length : Int) + 3)) 4)) - 1)) < (t349.length : Int) then (if 0 ≤ (wrap64 ((wrap64 (Int.tdiv (wrap64 ((wrap64 (3 * (l0.length : Int))) + 3)) 4)) - 1)) then (if (wrap64 ((wrap64 (Int.tdiv (wrap64 ((wrap64 (3 * (l0.length : Int))) + 3)) 4)) - 1)) < (t349.length : Int) then (sample_Outliers.l0 k (rd t349 (wrap64 ((wrap64 (Int.tdiv (wrap64 ((l0.length : Int) + 3)) 4)) - 1))) (rd t349 (wrap64 ((wrap64 (Int.tdiv (wrap64 ((wrap64 (3 * (l0.length : Int))) + 3)) 4)) - 1))) ([] : List ByteArray) l0 (l0.length : Int) 0) else (none)) else (none)) else (none)) else (none)))) else (some (([] : List ByteArray), t348)))) = some (r1, r2) := h
 clear h
 replace H := Option.bind_eq_some_iff.mp H
 obtain ⟨t348, A20, H⟩ := H
 replace H : (if t348 = 0 then (if (l0.length : Int) < 4 then (some (([] : List ByteArray), 9)) else ((sample_sorted.f k l0 (fun x_ => sample_strength.f x_.f0 x_.f1 x_.f2)).bind fun t349 => (if 0 ≤ (wrap64 ((wrap64 (Int.tdiv (wrap64 ((l0.length : Int) + 3)) 4)) - 1)) then (if (wrap64 ((wrap64 (Int.tdiv (wrap64 ((l0.length : Int) + 3)) 4)) - 1)) < (t349.length : Int) then (if 0 ≤ (wrap64 ((wrap64 (Int.tdiv (wrap64 ((wrap64 (3 * (l0.length : Int))) + 3)) 4)) - 1)) then (if (wrap64 ((wrap64 (Int.tdiv (wrap64 ((wrap64 (3 * (l0.length : Int))) + 3)) 4)) - 1)) < (t349.length : Int) then (sample_Outliers.l0 k (rd t349 (wrap64 ((wrap64 (Int.tdiv (wrap64 ((l0.length : Int) + 3)) 4)) - 1))) (rd t349 (wrap64 ((wrap64 (Int.tdiv (wrap64 ((wrap64 (3 * (l0.length : Int))) + 3)) 4)) - 1))) ([] : List ByteArray) l0 (l0.length : Int) 0) else (none)) else (none)) else (none)) else (none)))) else (some (([] : List ByteArray), t348))) = some (r1, r2) := H
 have A2 := Aside0.mk A20
 clear A20
 by_cases c3 : t348 = 0
 ·rw [if_pos c3] at H
  have c3b0 : (t348 == 0) = true := beq_iff_eq.mpr c3
  have c3b1 : (t348 != 0) = false := bne_eq_false_iff_eq.mpr c3
  clear c3
  by_cases c4 : (l0.length : Int) < 4
  ·rw [if_pos c4] at H
   have c4b0 : decide ((l0.length : Int) < 4) = true := decide_eq_true c4
   have c4b1 : decide (l0.length < 4) = true := decide_eq_true (by omega)
   clear c4
   simp only [Option.some.injEq, Prod.mk.injEq] at H
   obtain ⟨rfl, rfl⟩ := H
   go_enter Try.func24, Try.ntmps24
   go_wp2_with (first | (go_at_call 18; (with_reducible refine (sample_Check.calls k _ _ l0 t348 _ ?side1 ?side2 A2.out).mono ?_); (case side1 => repeat (first | exact HR0.out | (with_reducible refine Kd.C_alloc ?_ _) | (with_reducible refine Kd.C_drewN ?_ _) | (with_reducible refine Kd.C_drew ?_))); (case side2 => exact HC0.out); rintro e w5 ⟨rfl, hb⟩; have n0_ := Aside0.mk (below_step (by repeat (first | (with_reducible first | exact HB.out | apply below_alloc | apply pw_below_drewN | apply below_drew1) | exact HB.out)) hb); clear HB; have HB := n0_; clear n0_; (try clear hb); (try clear hb2); (try clear hk); (try clear hi)))
   go_ret2
   exact ⟨_, by first | rfl | (simp [errW_none, errW_some] <;> rfl) | (simp [*, errW_none, errW_some] <;> rfl), by first | exact Kd.R_nil _ _ _ _ _ | exact Kd.N_nil _ _ _ _ _ | exact Kd.V_nil _ _ _ _ _ | exact Kd.Q_nil _ _ _ _ _ | exact Kd.S_nil _ _ _ _ _, by repeat (first | (with_reducible first | exact HB.out | apply below_alloc | apply pw_below_drewN | apply below_drew1) | exact HB.out)⟩
  ·rw [if_neg c4] at H
   have c4b0 : decide ((l0.length : Int) < 4) = false := decide_eq_false c4
   have c4b1 : decide (l0.length < 4) = false := decide_eq_false (by omega)
   clear c4
   replace H := Option.bind_eq_some_iff.mp H
   obtain ⟨t349, A60, H⟩ := H
   replace H : (if 0 ≤ (wrap64 ((wrap64 (Int.tdiv (wrap64 ((l0.length : Int) + 3)) 4)) - 1)) then (if (wrap64 ((wrap64 (Int.tdiv (wrap64 ((l0.length : Int) + 3)) 4)) - 1)) < (t349.length : Int) then (if 0 ≤ (wrap64 ((wrap64 (Int.tdiv (wrap64 ((wrap64 (3 * (l0.length : Int))) + 3)) 4)) - 1)) then (if (wrap64 ((wrap64 (Int.tdiv (wrap64 ((wrap64 (3 * (l0.length : Int))) + 3)) 4)) - 1)) < (t349.length : Int) then (sample_Outliers.l0 k (rd t349 (wrap64 ((wrap64 (Int.tdiv (wrap64 ((l0.length : Int) + 3)) 4)) - 1))) (rd t349 (wrap64 ((wrap64 (Int.tdiv (wrap64 ((wrap64 (3 * (l0.length : Int))) + 3)) 4)) - 1))) ([] : List ByteArray) l0 (l0.length : Int) 0) else (none)) else (none)) else (none)) else (none)) = some (r1, r2) := H
   have A6 := Aside0.mk A60
   clear A60
   obtain ⟨ji7, hji7⟩ : ∃ j_ : Int, (wrap64 ((wrap64 (Int.tdiv (wrap64 ((l0.length : Int) + 3)) 4)) - 1)) = j_ := ⟨_, rfl⟩
   replace H : (if 0 ≤ (ji7) then (if (ji7) < (t349.length : Int) then (if 0 ≤ (wrap64 ((wrap64 (Int.tdiv (wrap64 ((wrap64 (3 * (l0.length : Int))) + 3)) 4)) - 1)) then (if (wrap64 ((wrap64 (Int.tdiv (wrap64 ((wrap64 (3 * (l0.length : Int))) + 3)) 4)) - 1)) < (t349.length : Int) then (sample_Outliers.l0 k (rd t349 (ji7)) (rd t349 (wrap64 ((wrap64 (Int.tdiv (wrap64 ((wrap64 (3 * (l0.length : Int))) + 3)) 4)) - 1))) ([] : List ByteArray) l0 (l0.length : Int) 0) else (none)) else (none)) else (none)) else (none)) = some (r1, r2) := by first | (rw [hji7] at H; exact H) | (simp only [hji7] at H ⊢; exact H)
   (try rw [hji7] at A2)
   (try rw [hji7] at A6)
   have hji7w : (IntKind.i64.wrap ((wrap64 (Int.tdiv (wrap64 ((l0.length : Int) + 3)) 4)) - 1)) = ji7 := (i64_w _).trans hji7
   by_cases c8 : 0 ≤ (ji7)
   ·rw [if_pos c8] at H
    have c8b0 : decide (0 ≤ (ji7)) = true := decide_eq_true c8
    clear c8
    by_cases c9 : (ji7) < (t349.length : Int)
    ·rw [if_pos c9] at H
     have c9b0 : decide ((ji7) < (t349.length : Int)) = true := decide_eq_true c9
     clear c9
     obtain ⟨ji10, hji10⟩ : ∃ j_ : Int, (wrap64 ((wrap64 (Int.tdiv (wrap64 ((wrap64 (3 * (l0.length : Int))) + 3)) 4)) - 1)) = j_ := ⟨_, rfl⟩
     replace H : (if 0 ≤ (ji10) then (if (ji10) < (t349.length : Int) then (sample_Outliers.l0 k (rd t349 (ji7)) (rd t349 (ji10)) ([] : List ByteArray) l0 (l0.length : Int) 0) else (none)) else (none)) = some (r1, r2) := by first | (rw [hji10] at H; exact H) | (simp only [hji10] at H ⊢; exact H)
     (try rw [hji10] at A2)
     (try rw [hji10] at A6)
     have hji10w : (IntKind.i64.wrap ((wrap64 (Int.tdiv (wrap64 ((wrap64 (3 * (l0.length : Int))) + 3)) 4)) - 1)) = ji10 := (i64_w _).trans hji10
     by_cases c11 : 0 ≤ (ji10)
     ·rw [if_pos c11] at H
      have c11b0 : decide (0 ≤ (ji10)) = true := decide_eq_true c11
      clear c11
      by_cases c12 : (ji10) < (t349.length : Int)
      ·rw [if_pos c12] at H
       have c12b0 : decide ((ji10) < (t349.length : Int)) = true := decide_eq_true c12
       clear c12
       have H' := Aside0.mk H
       clear H
       go_enter Try.func24, Try.ntmps24
       go_wp2_with (first | (go_at_call 18; (with_reducible refine (sample_Check.calls k _ _ l0 t348 _ ?side1 ?side2 A2.out).mono ?_); (case side1 => repeat (first | exact HR0.out | (with_reducible refine Kd.C_alloc ?_ _) | (with_reducible refine Kd.C_drewN ?_ _) | (with_reducible refine Kd.C_drew ?_))); (case side2 => exact HC0.out); rintro e w13 ⟨rfl, hb⟩; have n0_ := Aside0.mk (below_step (by repeat (first | (with_reducible first | exact HB.out | apply below_alloc | apply pw_below_drewN | apply below_drew1) | exact HB.out)) hb); clear HB; have HB := n0_; clear n0_; (try clear hb); (try clear hb2); (try clear hk); (try clear hi)) | (go_at_call 35; (with_reducible refine (sample_sorted.calls k _ _ l0 (.func (.func 36) #[] #[]) (fun x_ => sample_strength.f x_.f0 x_.f1 x_.f2) t349 _ ?side1 ?side2 ?side3 A6.out).mono ?_); (case side1 => repeat (first | exact (Kd.C_below HR0.out HB.out) | (with_reducible refine Kd.C_alloc ?_ _) | (with_reducible refine Kd.C_drewN ?_ _) | (with_reducible refine Kd.C_drew ?_))); (case side2 => exact HC0.out); (case side3 => exact sample_strength.fn   _ ); rintro e w14 ⟨v350, rfl, ho0, hb⟩; have n0_ := Aside0.mk (Kd.R_lower ho0 (below_size (by repeat (first | (with_reducible first | exact HB.out | apply below_alloc | apply pw_below_drewN | apply below_drew1) | exact HB.out)))); have n1_ := Aside0.mk (below_step (by repeat (first | (with_reducible first | exact HB.out | apply below_alloc | apply pw_below_drewN | apply below_drew1) | exact HB.out)) hb); clear HB; have HO351 := n0_; have HB := n1_; clear n0_ n1_; (try clear hb); (try clear hb2); (try clear hk); (try clear hi); (try clear ho0); obtain ⟨Ao15, co15, eo15⟩ := Kd.R_slice HO351.out; subst eo15; have p352 : 0 ≤ ((ji7) : Int) := of_decide_eq_true (by first | (with_reducible assumption) | assumption); have q352 : (ji7) < (t349.length : Int) := of_decide_eq_true (by first | (with_reducible assumption) | assumption); obtain ⟨ad352, e352, hx352_0⟩ := Kd.at_int (Kd.R_reads' HO351.out).2.2 (ji7) p352 q352; cases e352; replace p352 := eq_true p352; replace q352 := eq_true q352; have p353 : 0 ≤ ((ji10) : Int) := of_decide_eq_true (by first | (with_reducible assumption) | assumption); have q353 : (ji10) < (t349.length : Int) := of_decide_eq_true (by first | (with_reducible assumption) | assumption); obtain ⟨ad353, e353, hx353_0⟩ := Kd.at_int (Kd.R_reads' HO351.out).2.2 (ji10) p353 q353; obtain rfl : ad352 = ad353 := (by injection e353); replace p353 := eq_true p353; replace q353 := eq_true q353))
       repeat (go_quiet (first | (go_at_call 18; (with_reducible refine (sample_Check.calls k _ _ l0 t348 _ ?side1 ?side2 A2.out).mono ?_); (case side1 => repeat (first | exact HR0.out | (with_reducible refine Kd.C_alloc ?_ _) | (with_reducible refine Kd.C_drewN ?_ _) | (with_reducible refine Kd.C_drew ?_))); (case side2 => exact HC0.out); rintro e w13 ⟨rfl, hb⟩; have n0_ := Aside0.mk (below_step (by repeat (first | (with_reducible first | exact HB.out | apply below_alloc | apply pw_below_drewN | apply below_drew1) | exact HB.out)) hb); clear HB; have HB := n0_; clear n0_; (try clear hb); (try clear hb2); (try clear hk); (try clear hi)) | (go_at_call 35; (with_reducible refine (sample_sorted.calls k _ _ l0 (.func (.func 36) #[] #[]) (fun x_ => sample_strength.f x_.f0 x_.f1 x_.f2) t349 _ ?side1 ?side2 ?side3 A6.out).mono ?_); (case side1 => repeat (first | exact (Kd.C_below HR0.out HB.out) | (with_reducible refine Kd.C_alloc ?_ _) | (with_reducible refine Kd.C_drewN ?_ _) | (with_reducible refine Kd.C_drew ?_))); (case side2 => exact HC0.out); (case side3 => exact sample_strength.fn   _ ); rintro e w14 ⟨v350, rfl, ho0, hb⟩; have n0_ := Aside0.mk (Kd.R_lower ho0 (below_size (by repeat (first | (with_reducible first | exact HB.out | apply below_alloc | apply pw_below_drewN | apply below_drew1) | exact HB.out)))); have n1_ := Aside0.mk (below_step (by repeat (first | (with_reducible first | exact HB.out | apply below_alloc | apply pw_below_drewN | apply below_drew1) | exact HB.out)) hb); clear HB; have HO351 := n0_; have HB := n1_; clear n0_ n1_; (try clear hb); (try clear hb2); (try clear hk); (try clear hi); (try clear ho0); obtain ⟨Ao15, co15, eo15⟩ := Kd.R_slice HO351.out; subst eo15; have p352 : 0 ≤ ((ji7) : Int) := of_decide_eq_true (by first | (with_reducible assumption) | assumption); have q352 : (ji7) < (t349.length : Int) := of_decide_eq_true (by first | (with_reducible assumption) | assumption); obtain ⟨ad352, e352, hx352_0⟩ := Kd.at_int (Kd.R_reads' HO351.out).2.2 (ji7) p352 q352; cases e352; replace p352 := eq_true p352; replace q352 := eq_true q352; have p353 : 0 ≤ ((ji10) : Int) := of_decide_eq_true (by first | (with_reducible assumption) | assumption); have q353 : (ji10) < (t349.length : Int) := of_decide_eq_true (by first | (with_reducible assumption) | assumption); obtain ⟨ad353, e353, hx353_0⟩ := Kd.at_int (Kd.R_reads' HO351.out).2.2 (ji10) p353 q353; obtain rfl : ad352 = ad353 := (by injection e353); replace p353 := eq_true p353; replace q353 := eq_true q353)); try go_wp2_with (first | (go_at_call 18; (with_reducible refine (sample_Check.calls k _ _ l0 t348 _ ?side1 ?side2 A2.out).mono ?_); (case side1 => repeat (first | exact HR0.out | (with_reducible refine Kd.C_alloc ?_ _) | (with_reducible refine Kd.C_drewN ?_ _) | (with_reducible refine Kd.C_drew ?_))); (case side2 => exact HC0.out); rintro e w13 ⟨rfl, hb⟩; have n0_ := Aside0.mk (below_step (by repeat (first | (with_reducible first | exact HB.out | apply below_alloc | apply pw_below_drewN | apply below_drew1) | exact HB.out)) hb); clear HB; have HB := n0_; clear n0_; (try clear hb); (try clear hb2); (try clear hk); (try clear hi)) | (go_at_call 35; (with_reducible refine (sample_sorted.calls k _ _ l0 (.func (.func 36) #[] #[]) (fun x_ => sample_strength.f x_.f0 x_.f1 x_.f2) t349 _ ?side1 ?side2 ?side3 A6.out).mono ?_); (case side1 => repeat (first | exact (Kd.C_below HR0.out HB.out) | (with_reducible refine Kd.C_alloc ?_ _) | (with_reducible refine Kd.C_drewN ?_ _) | (with_reducible refine Kd.C_drew ?_))); (case side2 => exact HC0.out); (case side3 => exact sample_strength.fn   _ ); rintro e w14 ⟨v350, rfl, ho0, hb⟩; have n0_ := Aside0.mk (Kd.R_lower ho0 (below_size (by repeat (first | (with_reducible first | exact HB.out | apply below_alloc | apply pw_below_drewN | apply below_drew1) | exact HB.out)))); have n1_ := Aside0.mk (below_step (by repeat (first | (with_reducible first | exact HB.out | apply below_alloc | apply pw_below_drewN | apply below_drew1) | exact HB.out)) hb); clear HB; have HO351 := n0_; have HB := n1_; clear n0_ n1_; (try clear hb); (try clear hb2); (try clear hk); (try clear hi); (try clear ho0); obtain ⟨Ao15, co15, eo15⟩ := Kd.R_slice HO351.out; subst eo15; have p352 : 0 ≤ ((ji7) : Int) := of_decide_eq_true (by first | (with_reducible assumption) | assumption); have q352 : (ji7) < (t349.length : Int) := of_decide_eq_true (by first | (with_reducible assumption) | assumption); obtain ⟨ad352, e352, hx352_0⟩ := Kd.at_int (Kd.R_reads' HO351.out).2.2 (ji7) p352 q352; cases e352; replace p352 := eq_true p352; replace q352 := eq_true q352; have p353 : 0 ≤ ((ji10) : Int) := of_decide_eq_true (by first | (with_reducible assumption) | assumption); have q353 : (ji10) < (t349.length : Int) := of_decide_eq_true (by first | (with_reducible assumption) | assumption); obtain ⟨ad353, e353, hx353_0⟩ := Kd.at_int (Kd.R_reads' HO351.out).2.2 (ji10) p353 q353; obtain rfl : ad352 = ad353 := (by injection e353); replace p353 := eq_true p353; replace q353 := eq_true q353)))
       go_loopg [9, 40] k (fun kq v9 v40 w' => ∃ (x9_1 : List ByteArray) (x40_1 : Int), v40 = .int .i64 x40_1 ∧ Aside0 (sample_Outliers.l0 kq (rd t349 (ji7)) (rd t349 (ji10)) x9_1 l0 (l0.length : Int) x40_1 = some (r1, r2)) ∧ Aside0 (kq ≤ k) ∧ Aside0 (Kd.R Kd.string 9 w' w.heap.size (fun _ => True) v9 x9_1) ∧ Aside0 (Below w.heap.size w w'))
       case atStart => exact ⟨(([] : List ByteArray)), (0), (by first | rfl | (simp; done) | (simp [*]; done)), H', ⟨Nat.le_refl _⟩, ⟨by first | exact Kd.R_nil _ _ _ _ _ | exact Kd.N_nil _ _ _ _ _ | exact Kd.V_nil _ _ _ _ _ | exact Kd.Q_nil _ _ _ _ _ | exact Kd.S_nil _ _ _ _ _⟩, ⟨by repeat (first | (with_reducible first | exact HB.out | apply below_alloc | apply pw_below_drewN | apply below_drew1) | exact HB.out)⟩⟩
       case round =>
        clear H'
        try clear c1
        try clear c2
        try clear p2
        try clear c3
        try clear c3b0
        try clear c3b1
        try clear p3
        try clear q3
        try clear hx3
        try clear c4
        try clear c4b0
        try clear c4b1
        try clear p6
        try clear c8
        try clear c8b0
        try clear c9
        try clear c9b0
        try clear c11
        try clear c11b0
        try clear c12
        try clear c12b0
        try clear hx352_0
        try clear hx353_0
        try clear p352
        try clear p353
        try clear q352
        try clear q353
        obtain ⟨x9_1, x40_1, rfl, HA, HK1, HO_9, HB⟩ := hrel
        cases gk with
        | zero => exact absurd HA.out (by simp [sample_Outliers.l0])
        | succ k1 =>
         have H := HA.out
         clear HA
         simp only [sample_Outliers.l0] at H
         by_cases c16 : x40_1 < (l0.length : Int)
         ·rw [if_pos c16] at H
          have c16b0 : decide (x40_1 < (l0.length : Int)) = true := decide_eq_true c16
          clear c16
          by_cases c17 : 0 ≤ x40_1
          ·rw [if_pos c17] at H
           have c17b0 : decide (0 ≤ x40_1) = true := decide_eq_true c17
           clear c17
           by_cases c18 : x40_1 < (l0.length : Int)
           ·rw [if_pos c18] at H
            have c18b0 : decide (x40_1 < (l0.length : Int)) = true := decide_eq_true c18
            clear c18
            by_cases c19 : (wrap64 (2 * ((rd_T51 l0 x40_1).f1))) < (wrap64 ((wrap64 (2 * (rd t349 (ji7)))) - (wrap64 (3 * (wrap64 ((rd t349 (ji10)) - (rd t349 (ji7))))))))
            ·rw [if_pos c19] at H
             have c19b0 : decide ((wrap64 (2 * ((rd_T51 l0 x40_1).f1))) < (wrap64 ((wrap64 (2 * (rd t349 (ji7)))) - (wrap64 (3 * (wrap64 ((rd t349 (ji10)) - (rd t349 (ji7))))))))) = true := decide_eq_true c19
             clear c19
             by_cases c20 : x9_1.length < 8796093022208
             ·rw [if_pos c20] at H
              have LMc20 := Aside0.mk c20
              clear c20
              obtain ⟨y356, hy356⟩ : ∃ y_ : List ByteArray, y_ = (x9_1 ++ [(rd_T51 l0 x40_1).f0]) := ⟨_, rfl⟩
              replace H : (sample_Outliers.l0 k1 (rd t349 (ji7)) (rd t349 (ji10)) y356 l0 (l0.length : Int) (wrap64 (x40_1 + 1))) = some (r1, r2) := by first | (rw [hy356]; with_reducible exact H) | (have H2_ := (Option.bind_some _ _).symm.trans H; rw [hy356]; with_reducible exact H2_) | (have H2_ := (Option.bind_some _ _).symm.trans H; with_reducible exact H2_) | with_reducible exact H | (rw [hy356]; exact H) | exact H
              have Ny356 := Aside0.mk hy356
              clear hy356
              have H' := Aside0.mk H
              clear H
              have p354 : 0 ≤ (x40_1 : Int) := of_decide_eq_true (by first | (with_reducible assumption) | assumption)
              have q354 : x40_1 < (l0.length : Int) := of_decide_eq_true (by first | (with_reducible assumption) | assumption)
              obtain ⟨ad354, e354, hx354_0, hx354_1, hx354_2⟩ := at_T51 HR0.out x40_1 p354 q354
              cases e354
              replace hx354_0 := (HB.out.cell (World.block_lt_of_cell? w _ hx354_0)).trans hx354_0
              replace hx354_1 := (HB.out.cell (World.block_lt_of_cell? w _ hx354_1)).trans hx354_1
              replace hx354_2 := (HB.out.cell (World.block_lt_of_cell? w _ hx354_2)).trans hx354_2
              replace p354 := eq_true p354
              replace q354 := eq_true q354
              go_wp2_with (first | ((with_reducible refine gate_dst (N := 11) rfl ?_); refine box_event ?hg (N := 11) ?hd (cs := #[.string (⟨#[]⟩ : ByteArray), .int .i64 0, .int .i64 0]) (t := 51) ?hr ?_; (case hd => rfl); (case hg => rfl); (case hr => first | (go_simp; done) | (go_simp; rfl)); intro gb355 hg w21 hbox hb; have n0_ := Aside0.mk (Kd.R_below (by (with_reducible repeat (first | apply Kd.R_alloc | apply Kd.R_drewN | apply Kd.R_drew)); exact HO_9.out) hb); have n1_ := Aside0.mk (below_step (by repeat (first | (with_reducible first | exact HB.out | apply below_alloc | apply pw_below_drewN | apply below_drew1) | exact HB.out)) hb); have n2_ := Aside0.mk (hbox); have n3_ := Aside0.mk ((by rw [hg]; exact (below_size (by repeat (first | (with_reducible first | exact HB.out | apply below_alloc | apply pw_below_drewN | apply below_drew1) | exact HB.out))) : w.heap.size ≤ gb355)); have n4_ := Aside0.mk ((by rw [hg]; exact (below_size (by repeat (first | (with_reducible first | exact HB.out | apply below_alloc | apply pw_below_drewN | apply below_drew1) | exact HB.out))) : w.heap.size ≤ gb355)); clear HO_9; clear HB; have HO_9 := n0_; have HB := n1_; have BK355 := n2_; have GW355 := n3_; have GE355 := n4_; clear n0_ n1_ n2_ n3_ n4_; clear hb hbox hg; have hcz22_0 : w21.cell? ⟨gb355, 0, none⟩ = some (.string (⟨#[]⟩ : ByteArray)) := (blk_cell BK355.out 0).trans rfl; have hcz22_1 : w21.cell? ⟨gb355, 1, none⟩ = some (.int .i64 0) := (blk_cell BK355.out 1).trans rfl; have hcz22_2 : w21.cell? ⟨gb355, 2, none⟩ = some (.int .i64 0) := (blk_cell BK355.out 2).trans rfl; have hfz22_0 := blk_frozen BK355.out 0; have hfz22_1 := blk_frozen BK355.out 1; have hfz22_2 := blk_frozen BK355.out 2) | ((with_reducible refine gate_builtin (b := .append) (xs := #[.tmp 55, .tmp 58]) rfl ?_); at_builtin; refine Kd.R_append Kd.string (w0 := w) w.heap.size rfl (.tmp 55) (.tmp 58) 40 9 (.string ⟨#[]⟩) 16 rfl Try.underlying40 info9 rfl (by decide) (by omega) u9 x9_1 ((rd_T51 l0 x40_1).f0) [.string ((rd_T51 l0 x40_1).f0)] (fun _ => True) (fun _ => False) rfl (by first | (go_simp; done) | (go_simp; rfl)) ?aP (fun _ hk => hk.elim) ?aF ?aO ?aB ?aS ?aL ?_; (case aP => exact rfl); (case aB => exact (by repeat (first | (with_reducible first | exact HB.out | apply below_alloc | apply pw_below_drewN | apply below_drew1 | refine below_set ?_ GE355.out) | exact HB.out))); (case aF => exact (fun _ _ => trivial)); (case aO => exact (by (with_reducible repeat (first | apply Kd.R_alloc | apply Kd.R_drewN | apply Kd.R_drew)); exact Kd.R_mono (Kd.R_far (p := ⟨gb355, 2, none⟩) (Kd.R_far (p := ⟨gb355, 1, none⟩) (Kd.R_far (p := ⟨gb355, 0, none⟩) (Kd.R_types HO_9.out BK355.out (by decide)) (fun _ hk => hk.2) (.string ((rd_T51 l0 x40_1).f0))) (fun _ hk => hk.2) (.int .i64 ((rd_T51 l0 x40_1).f1))) (fun _ hk => hk.2) (.int .i64 ((rd_T51 l0 x40_1).f2))) (fun _ hk => trivial))); (case aS => exact (below_size (by repeat (first | (with_reducible first | exact HB.out | apply below_alloc | apply pw_below_drewN | apply below_drew1 | refine below_set ?_ GE355.out) | exact HB.out)))); (case aL => have := LMc20.out; omega); intro v357 w23 ho hb hg hat; rw [← Ny356.out] at ho; have n0_ := Aside0.mk (blk_grown (g := gb355) (o := .cells #[.string ((rd_T51 l0 x40_1).f0), .int .i64 ((rd_T51 l0 x40_1).f1), .int .i64 ((rd_T51 l0 x40_1).f2)] 51 (0, 0)) (by (with_reducible repeat (first | refine blk_drewN ?_ _ | refine blk_drew ?_ | refine blk_alloc ?_ _)); refine blk_put (cs := #[.string ((rd_T51 l0 x40_1).f0), .int .i64 ((rd_T51 l0 x40_1).f1), .int .i64 0]) ?_ 2 _ rfl; (with_reducible repeat (first | refine blk_drewN ?_ _ | refine blk_drew ?_ | refine blk_alloc ?_ _)); refine blk_put (cs := #[.string ((rd_T51 l0 x40_1).f0), .int .i64 0, .int .i64 0]) ?_ 1 _ rfl; (with_reducible repeat (first | refine blk_drewN ?_ _ | refine blk_drew ?_ | refine blk_alloc ?_ _)); refine blk_put (cs := #[.string (⟨#[]⟩ : ByteArray), .int .i64 0, .int .i64 0]) ?_ 0 _ rfl; (with_reducible repeat (first | refine blk_drewN ?_ _ | refine blk_drew ?_ | refine blk_alloc ?_ _)); exact BK355.out) hg (Kd.R_ne HO_9.out BK355.out (by decide))); have n1_ := Aside0.mk (hb); have n2_ := Aside0.mk (ho); clear BK355; clear HB; clear HO_9; have BK355 := n0_; have HB := n1_; have HO358 := n2_; clear n0_ n1_ n2_; clear ho hb hg hat))
              go_roundg k1
              case measure => have := HK1.out; omega
              case rel => exact ⟨(y356), (wrap64 (x40_1 + 1)), (by first | rfl | (simp; done) | (simp [*]; done)), H', ⟨by have := HK1.out; omega⟩, ⟨by (with_reducible repeat (first | apply Kd.R_alloc | apply Kd.R_drewN | apply Kd.R_drew)); exact HO358.out⟩, ⟨by repeat (first | (with_reducible first | exact HB.out | apply below_alloc | apply pw_below_drewN | apply below_drew1 | refine below_set ?_ GE355.out) | exact HB.out)⟩⟩
             ·rw [if_neg c20] at H
              exact absurd H (by simp)
            ·rw [if_neg c19] at H
             have c19b0 : decide ((wrap64 (2 * ((rd_T51 l0 x40_1).f1))) < (wrap64 ((wrap64 (2 * (rd t349 (ji7)))) - (wrap64 (3 * (wrap64 ((rd t349 (ji10)) - (rd t349 (ji7))))))))) = false := decide_eq_false c19
             clear c19
             have H' := Aside0.mk H
             clear H
             have p354 : 0 ≤ (x40_1 : Int) := of_decide_eq_true (by first | (with_reducible assumption) | assumption)
             have q354 : x40_1 < (l0.length : Int) := of_decide_eq_true (by first | (with_reducible assumption) | assumption)
             obtain ⟨ad354, e354, hx354_0, hx354_1, hx354_2⟩ := at_T51 HR0.out x40_1 p354 q354
             cases e354
             replace hx354_0 := (HB.out.cell (World.block_lt_of_cell? w _ hx354_0)).trans hx354_0
             replace hx354_1 := (HB.out.cell (World.block_lt_of_cell? w _ hx354_1)).trans hx354_1
             replace hx354_2 := (HB.out.cell (World.block_lt_of_cell? w _ hx354_2)).trans hx354_2
             replace p354 := eq_true p354
             replace q354 := eq_true q354
             go_wp2_with (first | ((with_reducible refine gate_dst (N := 11) rfl ?_); refine box_event ?hg (N := 11) ?hd (cs := #[.string (⟨#[]⟩ : ByteArray), .int .i64 0, .int .i64 0]) (t := 51) ?hr ?_; (case hd => rfl); (case hg => rfl); (case hr => first | (go_simp; done) | (go_simp; rfl)); intro gb355 hg w24 hbox hb; have n0_ := Aside0.mk (Kd.R_below (by (with_reducible repeat (first | apply Kd.R_alloc | apply Kd.R_drewN | apply Kd.R_drew)); exact HO_9.out) hb); have n1_ := Aside0.mk (below_step (by repeat (first | (with_reducible first | exact HB.out | apply below_alloc | apply pw_below_drewN | apply below_drew1) | exact HB.out)) hb); have n2_ := Aside0.mk (hbox); have n3_ := Aside0.mk ((by rw [hg]; exact (below_size (by repeat (first | (with_reducible first | exact HB.out | apply below_alloc | apply pw_below_drewN | apply below_drew1) | exact HB.out))) : w.heap.size ≤ gb355)); have n4_ := Aside0.mk ((by rw [hg]; exact (below_size (by repeat (first | (with_reducible first | exact HB.out | apply below_alloc | apply pw_below_drewN | apply below_drew1) | exact HB.out))) : w.heap.size ≤ gb355)); clear HO_9; clear HB; have HO_9 := n0_; have HB := n1_; have BK355 := n2_; have GW355 := n3_; have GE355 := n4_; clear n0_ n1_ n2_ n3_ n4_; clear hb hbox hg; have hcz25_0 : w24.cell? ⟨gb355, 0, none⟩ = some (.string (⟨#[]⟩ : ByteArray)) := (blk_cell BK355.out 0).trans rfl; have hcz25_1 : w24.cell? ⟨gb355, 1, none⟩ = some (.int .i64 0) := (blk_cell BK355.out 1).trans rfl; have hcz25_2 : w24.cell? ⟨gb355, 2, none⟩ = some (.int .i64 0) := (blk_cell BK355.out 2).trans rfl; have hfz25_0 := blk_frozen BK355.out 0; have hfz25_1 := blk_frozen BK355.out 1; have hfz25_2 := blk_frozen BK355.out 2))
             go_roundg k1
             case measure => have := HK1.out; omega
             case rel => exact ⟨(x9_1), (wrap64 (x40_1 + 1)), (by first | rfl | (simp; done) | (simp [*]; done)), H', ⟨by have := HK1.out; omega⟩, ⟨by (with_reducible repeat (first | apply Kd.R_alloc | apply Kd.R_drewN | apply Kd.R_drew)); exact Kd.R_mono (Kd.R_far (p := ⟨gb355, 2, none⟩) (Kd.R_far (p := ⟨gb355, 1, none⟩) (Kd.R_far (p := ⟨gb355, 0, none⟩) (Kd.R_types HO_9.out BK355.out (by decide)) (fun _ hk => hk.2) (.string ((rd_T51 l0 x40_1).f0))) (fun _ hk => hk.2) (.int .i64 ((rd_T51 l0 x40_1).f1))) (fun _ hk => hk.2) (.int .i64 ((rd_T51 l0 x40_1).f2))) (fun _ hk => trivial)⟩, ⟨by repeat (first | (with_reducible first | exact HB.out | apply below_alloc | apply pw_below_drewN | apply below_drew1 | refine below_set ?_ GE355.out) | exact HB.out)⟩⟩
           ·rw [if_neg c18] at H
            exact absurd H (by simp)
          ·rw [if_neg c17] at H
           exact absurd H (by simp)
         ·rw [if_neg c16] at H
          have c16b0 : decide (x40_1 < (l0.length : Int)) = false := decide_eq_false c16
          clear c16
          replace H := Option.bind_eq_some_iff.mp H
          obtain ⟨t359, A260, H⟩ := H
          replace H : (some (t359, 0)) = some (r1, r2) := H
          have A26 := Aside0.mk A260
          clear A260
          simp only [Option.some.injEq, Prod.mk.injEq] at H
          obtain ⟨rfl, rfl⟩ := H
          obtain ⟨Ao27, co27, eo27⟩ := Kd.R_slice HO_9.out
          subst eo27
          go_wp2_with (first | (go_at_call 50; (with_reducible refine (slices_Sort_string.calls (fun k_ => some k_ = (.slice Ao27 x9_1.length co27 : Value).ownBlock) (.slice Ao27 x9_1.length co27) x9_1 t359 w _ ?side1 ?side2 A26.out).mono ?_); (case side1 => repeat (first | (with_reducible first | exact HB.out | apply below_alloc | apply pw_below_drewN | apply below_drew1) | exact HB.out)); (case side2 => exact Kd.R_tight rfl HO_9.out); rintro e w28 ⟨rfl, hy0, hb, hkp⟩; have n0_ := Aside0.mk (Kd.R_reok rfl hy0 (fun k_ e_ => HO_9.out.1 k_ e_)); have n1_ := Aside0.mk (hb); clear HO_9; clear HB; have HO_9 := n0_; have HB := n1_; clear n0_ n1_; (try clear hb); (try clear hkp); (try clear hy0)))
          go_ret2
          exact ⟨_, by first | rfl | (simp [errW_none, errW_some] <;> rfl) | (simp only [← hji7, ← hji10]; first | rfl | (simp [errW_none, errW_some] <;> rfl)) | (simp [*, errW_none, errW_some] <;> rfl), by (with_reducible repeat (first | apply Kd.R_alloc | apply Kd.R_drewN | apply Kd.R_drew)); exact HO_9.out, by repeat (first | (with_reducible first | exact HB.out | apply below_alloc | apply pw_below_drewN | apply below_drew1) | exact HB.out)⟩
      ·rw [if_neg c12] at H
       exact absurd H (by simp)
     ·rw [if_neg c11] at H
      exact absurd H (by simp)
    ·rw [if_neg c9] at H
     exact absurd H (by simp)
   ·rw [if_neg c8] at H
    exact absurd H (by simp)
 ·rw [if_neg c3] at H
  have c3b0 : (t348 == 0) = false := beq_eq_false_iff_ne.mpr c3
  have c3b1 : (t348 != 0) = true := bne_iff_ne.mpr c3
  simp only [Option.some.injEq, Prod.mk.injEq] at H
  obtain ⟨rfl, rfl⟩ := H
  go_enter Try.func24, Try.ntmps24
  go_wp2_with (first | (go_at_call 18; (with_reducible refine (sample_Check.calls k _ _ l0 t348 _ ?side1 ?side2 A2.out).mono ?_); (case side1 => repeat (first | exact HR0.out | (with_reducible refine Kd.C_alloc ?_ _) | (with_reducible refine Kd.C_drewN ?_ _) | (with_reducible refine Kd.C_drew ?_))); (case side2 => exact HC0.out); rintro e w29 ⟨rfl, hb⟩; have n0_ := Aside0.mk (below_step (by repeat (first | (with_reducible first | exact HB.out | apply below_alloc | apply pw_below_drewN | apply below_drew1) | exact HB.out)) hb); clear HB; have HB := n0_; clear n0_; (try clear hb); (try clear hb2); (try clear hk); (try clear hi)))
  go_ret2
  exact ⟨_, by first | rfl | (simp [errW_none, errW_some] <;> rfl) | (simp [*, errW_none, errW_some] <;> rfl), by first | exact Kd.R_nil _ _ _ _ _ | exact Kd.N_nil _ _ _ _ _ | exact Kd.V_nil _ _ _ _ _ | exact Kd.Q_nil _ _ _ _ _ | exact Kd.S_nil _ _ _ _ _, by repeat (first | (with_reducible first | exact HB.out | apply below_alloc | apply pw_below_drewN | apply below_drew1) | exact HB.out)⟩

def gangsawref33_Same.l0 : Nat → List ByteArray → List ByteArray → Int → Option (Bool)
 | 0, _, _, _ => none
 | k + 1, x0, x1, x5 => if x5 < (x0.length : Int) then (if 0 ≤ x5 then (if x5 < (x1.length : Int) then (if (rdOf ByteArray.empty x0 x5).toList = (rdOf ByteArray.empty x1 x5).toList then (gangsawref33_Same.l0 k x0 x1 (wrap64 (x5 + 1))) else (some false)) else (none)) else (none)) else (some true)
def gangsawref33_Same.f (k : Nat) (l0 : List ByteArray) (l1 : List ByteArray) : Option (Bool) := if (l0.length : Int) = (l1.length : Int) then (gangsawref33_Same.l0 k l0 l1 0) else (some false)
set_option maxHeartbeats 8000000 in
set_option maxRecDepth 100000 in
theorem gangsawref33_Same.calls (k : Nat) (A0 : Option Addr) (c0 : Nat) (l0 : List ByteArray) (A1 : Option Addr) (c1 : Nat) (l1 : List ByteArray) (r : Bool) (w : World) (hr0 : Kd.C Kd.string w A0 l0.length l0) (hc0 : l0.length ≤ c0) (hr1 : Kd.C Kd.string w A1 l1.length l1) (hc1 : l1.length ≤ c1) (h : gangsawref33_Same.f k l0 l1 = some r) :
  Calls Try.prog 25 #[.slice A0 l0.length c0, .slice A1 l1.length c1] w fun e w' => e = .returned (.bool r) ∧ Drawn0 w w' := by
 have HR0 := Aside0.mk hr0
 have HC0 := Aside0.mk hc0
 clear hr0 hc0
 have HR1 := Aside0.mk hr1
 have HC1 := Aside0.mk hc1
 clear hr1 hc1
 have H : (if (l0.length : Int) = (l1.length : Int) then (gangsawref33_Same.l0 k l0 l1 0) else (some false)) = some r := h
 clear h
 by_cases c3 : (l0.length : Int) = (l1.length : Int)
 ·rw [if_pos c3] at H
  have c3b0 : ((l0.length : Int) == (l1.length : Int)) = true := beq_iff_eq.mpr c3
  have c3b1 : ((l0.length : Int) != (l1.length : Int)) = false := bne_eq_false_iff_eq.mpr c3
  have c3b2 : (l0.length == l1.length) = true := by first | simpa using c3 | (simp at c3 ⊢; omega)
  clear c3
  have H' := Aside0.mk H
  clear H
  go_enter Try.func25, Try.ntmps25
  go_wp2
  go_loopg [5] k (fun kq v5 w' => ∃ (x5_1 : Int), v5 = .int .i64 x5_1 ∧ Aside0 (gangsawref33_Same.l0 kq l0 l1 x5_1 = some r) ∧ Aside0 (kq ≤ k) ∧ Drawn0 w w')
  case atStart => exact ⟨(0), (by first | rfl | (simp; done) | (simp [*]; done)), H', ⟨Nat.le_refl _⟩, by repeat (first | exact Drawn0.refl _ | apply Drawn0.step)⟩
  case round =>
   clear H'
   try clear c1
   try clear c2
   try clear p2
   try clear c3
   try clear c3b0
   try clear c3b1
   try clear c3b2
   obtain ⟨x5_1, rfl, HA, HK1, ⟨m1, rfl⟩⟩ := hrel
   cases gk with
   | zero => exact absurd HA.out (by simp [gangsawref33_Same.l0])
   | succ k1 =>
    have H := HA.out
    clear HA
    simp only [gangsawref33_Same.l0] at H
    by_cases c4 : x5_1 < (l0.length : Int)
    ·rw [if_pos c4] at H
     have c4b0 : decide (x5_1 < (l0.length : Int)) = true := decide_eq_true c4
     clear c4
     by_cases c5 : 0 ≤ x5_1
     ·rw [if_pos c5] at H
      have c5b0 : decide (0 ≤ x5_1) = true := decide_eq_true c5
      clear c5
      by_cases c6 : x5_1 < (l1.length : Int)
      ·rw [if_pos c6] at H
       have c6b0 : decide (x5_1 < (l1.length : Int)) = true := decide_eq_true c6
       clear c6
       by_cases c7 : (rdOf ByteArray.empty l0 x5_1).toList = (rdOf ByteArray.empty l1 x5_1).toList
       ·rw [if_pos c7] at H
        have c7b0 : ((rdOf ByteArray.empty l0 x5_1).toList == (rdOf ByteArray.empty l1 x5_1).toList) = true := beq_iff_eq.mpr c7
        have c7b1 : ((rdOf ByteArray.empty l0 x5_1).toList != (rdOf ByteArray.empty l1 x5_1).toList) = false := bne_eq_false_iff_eq.mpr c7
        clear c7
        have H' := Aside0.mk H
        clear H
        have p360 : 0 ≤ (x5_1 : Int) := of_decide_eq_true (by first | (with_reducible assumption) | assumption)
        have q360 : x5_1 < (l0.length : Int) := of_decide_eq_true (by first | (with_reducible assumption) | assumption)
        obtain ⟨ad360, e360, hx360_0⟩ := Kd.at_string HR0.out x5_1 p360 q360
        cases e360
        replace p360 := eq_true p360
        replace q360 := eq_true q360
        have p361 : 0 ≤ (x5_1 : Int) := of_decide_eq_true (by first | (with_reducible assumption) | assumption)
        have q361 : x5_1 < (l1.length : Int) := of_decide_eq_true (by first | (with_reducible assumption) | assumption)
        obtain ⟨ad361, e361, hx361_0⟩ := Kd.at_string HR1.out x5_1 p361 q361
        cases e361
        replace p361 := eq_true p361
        replace q361 := eq_true q361
        go_wp2
        repeat (go_quiet (fail); try go_wp2)
        go_roundg k1
        case measure => have := HK1.out; omega
        case rel => exact ⟨(wrap64 (x5_1 + 1)), (by first | rfl | (simp; done) | (simp [*]; done)), H', ⟨by have := HK1.out; omega⟩, by repeat (first | exact Drawn0.refl _ | apply Drawn0.step)⟩
       ·rw [if_neg c7] at H
        have c7b0 : ((rdOf ByteArray.empty l0 x5_1).toList == (rdOf ByteArray.empty l1 x5_1).toList) = false := beq_eq_false_iff_ne.mpr c7
        have c7b1 : ((rdOf ByteArray.empty l0 x5_1).toList != (rdOf ByteArray.empty l1 x5_1).toList) = true := bne_iff_ne.mpr c7
        obtain rfl := Option.some.inj H
        simp only [Option.some.injEq, Prod.mk.injEq] at H
        obtain ⟨rfl⟩ := H
        have p360 : 0 ≤ (x5_1 : Int) := of_decide_eq_true (by first | (with_reducible assumption) | assumption)
        have q360 : x5_1 < (l0.length : Int) := of_decide_eq_true (by first | (with_reducible assumption) | assumption)
        obtain ⟨ad360, e360, hx360_0⟩ := Kd.at_string HR0.out x5_1 p360 q360
        cases e360
        replace p360 := eq_true p360
        replace q360 := eq_true q360
        have p361 : 0 ≤ (x5_1 : Int) := of_decide_eq_true (by first | (with_reducible assumption) | assumption)
        have q361 : x5_1 < (l1.length : Int) := of_decide_eq_true (by first | (with_reducible assumption) | assumption)
        obtain ⟨ad361, e361, hx361_0⟩ := Kd.at_string HR1.out x5_1 p361 q361
        cases e361
        replace p361 := eq_true p361
        replace q361 := eq_true q361
        go_wp2
        repeat (go_quiet (fail); try go_wp2)
        go_ret
        exact ⟨by first | rfl | (simp; done) | (simp [*]; done), by repeat (first | exact Drawn0.refl _ | apply Drawn0.step)⟩
      ·rw [if_neg c6] at H
       exact absurd H (by simp)
     ·rw [if_neg c5] at H
      exact absurd H (by simp)
    ·rw [if_neg c4] at H
     have c4b0 : decide (x5_1 < (l0.length : Int)) = false := decide_eq_false c4
     clear c4
     obtain rfl := Option.some.inj H
     simp only [Option.some.injEq, Prod.mk.injEq] at H
     obtain ⟨rfl⟩ := H
     go_wp2
     go_ret
     exact ⟨by first | rfl | (simp; done) | (simp [*]; done), by repeat (first | exact Drawn0.refl _ | apply Drawn0.step)⟩
 ·rw [if_neg c3] at H
  have c3b0 : ((l0.length : Int) == (l1.length : Int)) = false := beq_eq_false_iff_ne.mpr c3
  have c3b1 : ((l0.length : Int) != (l1.length : Int)) = true := bne_iff_ne.mpr c3
  have c3b2 : (l0.length == l1.length) = false := by first | simpa using c3 | (simp at c3 ⊢; omega)
  obtain rfl := Option.some.inj H
  simp only [Option.some.injEq, Prod.mk.injEq] at H
  obtain ⟨rfl⟩ := H
  go_enter Try.func25, Try.ntmps25
  go_wp2
  go_ret
  exact ⟨by first | rfl | (simp; done) | (simp [*]; done), by repeat (first | exact Drawn0.refl _ | apply Drawn0.step)⟩

end Go.Proofs.Ythkpgjjakdbbfaa.P
