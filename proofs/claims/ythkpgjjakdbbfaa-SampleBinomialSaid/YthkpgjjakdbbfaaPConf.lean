/-
  The confidence, of the program and of the reference: a binomial sum over a power, in lowest terms.
-/
import Derived.Test.YthkpgjjakdbbfaaPWide
import Derived.Test.YthkpgjjakdbbfaaPx28
set_option linter.unusedVariables false
set_option linter.unusedSimpArgs false
namespace Go.Proofs.Ythkpgjjakdbbfaa.PConf
open Go.RowKit Go.Proofs.YthkpgjjakdbbfaaW.PrintWords Go.Proofs.YthkpgjjakdbbfaaW.PrintMore Go.Proofs.Ythkpgjjakdbbfaa.P Go.Proofs.Ythkpgjjakdbbfaa.Rnd Go.Proofs.Ythkpgjjakdbbfaa.Gen Go.Proofs.Ythkpgjjakdbbfaa.Binom Go.Proofs.Ythkpgjjakdbbfaa.Bits Go.Proofs.Ythkpgjjakdbbfaa.PFrac Go.Proofs.Ythkpgjjakdbbfaa.PWide

def tailV (a b n k : Nat) : Nat := psum (rowF a b n) k (n + 1)
def confV (a b n k : Nat) : Int × Int × Int := if 1000000000000000000 ≤ (a + b) ^ n then (0, 0, 6) else newV (tailV a b n k) ((a + b) ^ n)
theorem w_add (P R Q : Nat) (h : P + R = Q) (hl : Q ≤ 999999999999999999) : wrap64 ((P : Int) + (R : Int)) = (Q : Int) := by
  rw [← Int.natCast_add, h]; exact w64_nat _ (by omega)
theorem w_mul (P R Q : Nat) (h : P * R = Q) (hl : Q ≤ 999999999999999999) : wrap64 ((P : Int) * (R : Int)) = (Q : Int) := by
  rw [← Int.natCast_mul, h]; exact w64_nat _ (by omega)
theorem le60 {x y : Nat} (h : x ≤ y * 60) (h2 : y * 60 < 9223372036854775808) : x ≤ 9223372036854775807 := by omega
theorem le1 {y : Nat} (h2 : y * 60 < 9223372036854775808) : y ≤ 9223372036854775807 := by omega
theorem le_pred {W : Nat} (h : W < 1000000000000000000) : W ≤ 999999999999999999 := by omega
theorem pow_a (a b n i : Nat) (hi : i ≤ n) (hab : 0 < a + b) : a ^ i ≤ (a + b) ^ n := Nat.le_trans (Nat.pow_le_pow_left (by omega) i) (Nat.pow_le_pow_right hab hi)
theorem pow_b (a b n i : Nat) (hi : i ≤ n) (hab : 0 < a + b) : b ^ i ≤ (a + b) ^ n := Nat.le_trans (Nat.pow_le_pow_left (by omega) i) (Nat.pow_le_pow_right hab hi)
theorem conf_loop (a b n k : Nat) (hn : n ≤ 59) (hk : k ≤ n) (hab : 0 < a + b) (hw : (a + b) ^ n < 1000000000000000000) (hd : a + b < 1000000000000000000) :
    Evt (fun f => sample_confidence.l0 f (n : Int) (k : Int) (((a + b) ^ n : Nat) : Int) 0 1 0 (a : Int) ((a + b : Nat) : Int)) (newV (tailV a b n k) ((a + b) ^ n)) := by
  have hwp : 0 < (a + b) ^ n := Nat.pow_pos hab
  have hW := le_pred hw
  have key : ∀ i : Nat, i ≤ n + 1 → Evt (fun f => sample_confidence.l0 f (n : Int) (k : Int) (((a + b) ^ n : Nat) : Int) ((psum (rowF a b n) k i : Nat) : Int) ((ch n (i - 1) : Nat) : Int) (i : Int) (a : Int) ((a + b : Nat) : Int)) (newV (tailV a b n k) ((a + b) ^ n)) := by
    refine down ?_ ?_
    · refine Evt.succ (g := fun f => (fraction_New.f f ((psum (rowF a b n) k (n + 1) : Nat) : Int) (((a + b) ^ n : Nat) : Int)).bind fun b => some (b.1, b.2.1, b.2.2)) ?_ (fun f => ?_)
      · exact Evt.bind (new_ev _ _ (tail_le a b n k (n + 1) (Nat.le_refl _)) hwp hw) (Evt.pure _)
      · simp only [sample_confidence.l0]
        rw [if_neg (by omega)]
    · intro i hi ih
      have hc := small_ch n (i - 1) hn
      have hc2 := small_ch n i hn
      have hj : Evt (fun f => sample_confidence.j1 f (n : Int) (k : Int) (((a + b) ^ n : Nat) : Int) ((psum (rowF a b n) k i : Nat) : Int) ((ch n i : Nat) : Int) (i : Int) (a : Int) ((a + b : Nat) : Int)) (newV (tailV a b n k) ((a + b) ^ n)) := by
        have hpa := pow_a a b n i (by omega) hab
        have hpb := pow_b a b n (n - i) (by omega) hab
        have hsub : wrap64 (((a + b : Nat) : Int) - (a : Int)) = (b : Int) := by rw [wrap_mid _ (by omega) (by omega)]; omega
        have hni : wrap64 ((n : Int) - (i : Int)) = ((n - i : Nat) : Int) := by rw [wrap_mid _ (by omega) (by omega)]; omega
        have hrow := row_eq a b n i (by omega)
        have hrle := row_le a b n i
        have hpl := tail_le a b n k (i + 1) (by omega)
        refine Evt.shift ?_
        simp only [sample_confidence.j1, hsub, hni]
        refine Evt.bind (pow_ev a i (by omega) (by omega)) ?_
        refine Evt.bind (pow_ev b (n - i) (by omega) (by omega)) ?_
        rw [Nat.min_eq_left (Nat.le_trans hpa (by omega)), Nat.min_eq_left (Nat.le_trans hpb (by omega)), wrap_up i 1000 (by omega) (by omega)]
        rw [show i + 1 - 1 = i by omega] at ih
        have hp1 : psum (rowF a b n) k (i + 1) = psum (rowF a b n) k i + if k ≤ i then rowF a b n i else 0 := rfl
        by_cases c1 : k ≤ i
        · rw [if_pos c1] at hp1
          by_cases c2 : 0 < a ^ i
          · by_cases c3 : 0 < b ^ (n - i)
            · have hm1 : ch n i * a ^ i ≤ rowF a b n i := by
                rw [hrow]; exact Nat.le_mul_of_pos_right _ c3
              have e1 : wrap64 (((ch n i : Nat) : Int) * ((a ^ i : Nat) : Int)) = ((ch n i * a ^ i : Nat) : Int) := w_mul _ _ _ rfl (Nat.le_trans hm1 (Nat.le_trans hrle hW))
              have e2 : wrap64 (((ch n i * a ^ i : Nat) : Int) * ((b ^ (n - i) : Nat) : Int)) = ((rowF a b n i : Nat) : Int) := w_mul _ _ _ hrow.symm (Nat.le_trans hrle hW)
              have e3 : wrap64 (((psum (rowF a b n) k i : Nat) : Int) + ((rowF a b n i : Nat) : Int)) = ((psum (rowF a b n) k (i + 1) : Nat) : Int) := w_add _ _ _ hp1.symm (Nat.le_trans hpl hW)
              refine Evt.of_eq ih (fun f => ?_)
              rw [if_pos (by omega), if_pos (by omega), if_pos (by omega), e1, e2, e3]
            · have h0 : rowF a b n i = 0 := by rw [hrow, show b ^ (n - i) = 0 by omega, Nat.mul_zero]
              rw [hp1, h0, Nat.add_zero] at ih
              refine Evt.of_eq ih (fun f => ?_)
              rw [if_pos (by omega), if_pos (by omega), if_neg (by omega)]
          · have h0 : rowF a b n i = 0 := by rw [hrow, show a ^ i = 0 by omega, Nat.mul_zero, Nat.zero_mul]
            rw [hp1, h0, Nat.add_zero] at ih
            refine Evt.of_eq ih (fun f => ?_)
            rw [if_pos (by omega), if_neg (by omega)]
        · rw [hp1, if_neg c1, Nat.add_zero] at ih
          refine Evt.of_eq ih (fun f => ?_)
          rw [if_neg (by omega)]
      refine Evt.succ hj (fun f => ?_)
      simp only [sample_confidence.l0]
      rw [if_pos (by omega)]
      by_cases c0 : i = 0
      · subst c0
        rw [if_neg (by omega), ch_zero]
      · obtain ⟨j, rfl⟩ : ∃ j, i = j + 1 := ⟨i - 1, by omega⟩
        rw [if_pos (by omega), if_neg (by omega)]
        have hcj := small_ch n j hn
        have hle : ch n j * (n - j) ≤ ch n j * 60 := Nat.mul_le_mul_left _ (by omega)
        have e1 : wrap64 ((wrap64 ((n : Int) - ((j + 1 : Nat) : Int))) + 1) = ((n - j : Nat) : Int) := by
          rw [wrap_mid ((n : Int) - ((j + 1 : Nat) : Int)) (by omega) (by omega), wrap_mid _ (by omega) (by omega)]; omega
        have e2 : wrap64 (((ch n (j + 1 - 1) : Nat) : Int) * ((n - j : Nat) : Int)) = ((ch n j * (n - j) : Nat) : Int) := by
          rw [← Int.natCast_mul, show j + 1 - 1 = j by omega]; exact w64_nat _ (le60 hle hcj)
        have e3 : wrap64 (Int.tdiv ((ch n j * (n - j) : Nat) : Int) ((j + 1 : Nat) : Int)) = ((ch n (j + 1) : Nat) : Int) := by
          rw [Int.tdiv_eq_ediv_of_nonneg (Int.natCast_nonneg _), ← Int.natCast_ediv, ch_div n j (by omega)]
          exact w64_nat _ (le1 hc2)
        rw [e1, e2, e3]
  have h := key 0 (by omega)
  rw [ch_zero] at h
  exact h
theorem confidence_ev (a b n k : Nat) (hn : n ≤ 59) (hk : k ≤ n) (hab : 0 < a + b) (hd : a + b < 1000000000000000000) :
    Evt (fun f => sample_confidence.f f (n : Int) (k : Int) (a : Int) ((a + b : Nat) : Int)) (confV a b n k) := by
  unfold sample_confidence.f confV
  refine Evt.bind (pow_ev (a + b) n (by omega) (by omega)) ?_
  by_cases c : 1000000000000000000 ≤ (a + b) ^ n
  · rw [if_pos c]
    exact Evt.const (fun f => by rw [if_pos (by rw [Nat.min_eq_right c]; omega)])
  · rw [if_neg c]
    refine Evt.of_eq (conf_loop a b n k hn hk hab (by omega) hd) (fun f => ?_)
    rw [Nat.min_eq_left (by omega), if_neg (by omega)]
theorem sconfidence_ev (n d : Int) (m k : Int) : Evt (fun f => sample_Confidence.f f m k n d) (if unitB n d = true ∧ 1 ≤ m ∧ m ≤ 59 ∧ 0 ≤ k ∧ k ≤ m then confV n.toNat (d - n).toNat m.toNat k.toNat else (0, 0, 1)) := by
  unfold sample_Confidence.f
  refine Evt.bind (chance_ev n d) ?_
  cases hu : unitB n d with
  | false =>
    rw [if_neg (by simp)]
    exact Evt.const (fun f => by simp)
  | true =>
    simp only [if_true]
    by_cases h1 : m < 1
    · rw [if_neg (by omega)]; exact Evt.const (fun f => by rw [if_pos h1])
    by_cases h2 : m > 59
    · rw [if_neg (by omega)]; exact Evt.const (fun f => by rw [if_neg h1, if_pos h2])
    by_cases h3 : k < 0
    · rw [if_neg (by omega)]; exact Evt.const (fun f => by rw [if_neg h1, if_neg h2, if_pos h3])
    by_cases h4 : k > m
    · rw [if_neg (by omega)]; exact Evt.const (fun f => by rw [if_neg h1, if_neg h2, if_neg h3, if_pos h4])
    rw [if_pos ⟨trivial, by omega, by omega, by omega, by omega⟩]
    simp only [if_neg h1, if_neg h2, if_neg h3, if_neg h4]
    obtain ⟨f1, f2, f3, f4, f5⟩ := unit_facts hu
    obtain ⟨a, rfl⟩ := Int.eq_ofNat_of_zero_le f3
    obtain ⟨b, hb⟩ := Int.eq_ofNat_of_zero_le (show 0 ≤ d - (a : Int) by omega)
    obtain rfl : d = ((a + b : Nat) : Int) := by omega
    obtain ⟨m, rfl⟩ := Int.eq_ofNat_of_zero_le (show 0 ≤ m by omega)
    obtain ⟨k, rfl⟩ := Int.eq_ofNat_of_zero_le (show 0 ≤ k by omega)
    rw [show (((a + b : Nat) : Int) - (a : Int)).toNat = b by omega]
    simp only [Int.toNat_natCast]
    exact Evt.bind (confidence_ev a b m k (by omega) (by omega) (by omega) (by omega)) (Evt.pure _)
end Go.Proofs.Ythkpgjjakdbbfaa.PConf
