/-
  The confidence, of the program and of the reference: a binomial sum over a power, in lowest terms.
-/
import Derived.Test.YthkpgjjakdbbfaaPWide
import Derived.Test.YthkpgjjakdbbfaaPx28
set_option linter.unusedVariables false
set_option linter.unusedSimpArgs false
namespace Go.Proofs.Ythkpgjjakdbbfaa.PConf
open Go.RowKit Go.Proofs.YthkpgjjakdbbfaaW.PrintWords Go.Proofs.YthkpgjjakdbbfaaW.PrintMore Go.Proofs.Ythkpgjjakdbbfaa.P Go.Proofs.Ythkpgjjakdbbfaa.Rnd Go.Proofs.Ythkpgjjakdbbfaa.Gen Go.Proofs.Ythkpgjjakdbbfaa.Binom Go.Proofs.Ythkpgjjakdbbfaa.Bits Go.Proofs.Ythkpgjjakdbbfaa.PFrac Go.Proofs.Ythkpgjjakdbbfaa.PWide

def tailV (a b n k : Nat) : Nat := psum (rowF a b n) k (n + 1)
def confV (a b n k : Nat) : Int × Int × Int := if 1000000000000000000 ≤ (a + b) ^ n then (0, 0, 6) else newV (tailV a b n k) ((a + b) ^ n)
theorem w_add (P R Q : Nat) (h : P + R = Q) (hl : Q ≤ 999999999999999999) : wrap64 ((P : Int) + (R : Int)) = (Q : Int) := by
  rw [← Int.natCast_add, h]; exact w64_nat _ (by omega)
theorem w_mul (P R Q : Nat) (h : P * R = Q) (hl : Q ≤ 999999999999999999) : wrap64 ((P : Int) * (R : Int)) = (Q : Int) := by
  rw [← Int.natCast_mul, h]; exact w64_nat _ (by omega)
theorem le60 {x y : Nat} (h : x ≤ y * 60) (h2 : y * 60 < 9223372036854775808) : x ≤ 9223372036854775807 := by omega
theorem le1 {y : Nat} (h2 : y * 60 < 9223372036854775808) : y ≤ 9223372036854775807 := by omega
theorem le_pred {W : Nat} (h : W < 1000000000000000000) : W ≤ 999999999999999999 := by omega
theorem pow_a (a b n i : Nat) (hi : i ≤ n) (hab : 0 < a + b) : a ^ i ≤ (a + b) ^ n := Nat.le_trans (Nat.pow_le_pow_left (by omega) i) (Nat.pow_le_pow_right hab hi)
theorem pow_b (a b n i : Nat) (hi : i ≤ n) (hab : 0 < a + b) : b ^ i ≤ (a + b) ^ n := Nat.le_trans (Nat.pow_le_pow_left (by omega) i) (Nat.pow_le_pow_right hab hi)
theorem conf_loop (a b n k : Nat) (hn : n ≤ 59) (hk : k ≤ n) (hab : 0 < a + b) (hw : (a + b) ^ n < 1000000000000000000) (hd : a + b < 1000000000000000000) :
    Evt (fun f => sample_confidence.l0 f (n : Int) (k : Int) (((a + b) ^ n : Nat) : Int) 0 1 0 (a : Int) ((a + b : Nat) : Int)) (newV (tailV a b n k) ((a + b) ^ n)) := by
  have hwp : 0 < (a + b) ^ n := Nat.pow_pos hab
  have hW := le_pred hw
  have key : ∀ i : Nat, i ≤ n + 1 → Evt (fun f => sample_confidence.l0 f (n : Int) (k : Int) (((a + b) ^ n : Nat) : Int) ((psum (rowF a b n) k i : Nat) : Int) ((ch n (i - 1) : Nat) : Int) (i : Int) (a : Int) ((a + b : Nat) : Int)) (newV (tailV a b n k) ((a + b) ^ n)) := by
    refine down ?_ ?_
    · refine Evt.succ (g := fun f => (fraction_New.f f ((psum (rowF a b n) k (n + 1) : Nat) : Int) (((a + b) ^ n : Nat) : Int)).bind fun b => some (b.1, b.2.1, b.2.2)) ?_ (fun f => ?_)
      · exact Evt.bind (new_ev _ _ (tail_le a b n k (n + 1) (Nat.le_refl _)) hwp hw) (Evt.pure _)
      · simp only [sample_confidence.l0]
        rw [if_neg (by omega)]
    · intro i hi ih
      have hc := small_ch n (i - 1) hn
      have hc2 := small_ch n i hn
      have hj : Evt (fun f => sample_confidence.j1 f (n : Int) (k : Int) (((a + b) ^ n : Nat) : Int) ((psum (rowF a b n) k i : Nat) : Int) ((ch n i : Nat) : Int) (i : Int) (a : Int) ((a + b : Nat) : Int)) (newV (tailV a b n k) ((a + b) ^ n)) := by
        have hpa := pow_a a b n i (by omega) hab
        have hpb := pow_b a b n (n - i) (by omega) hab
        have hsub : wrap64 (((a + b : Nat) : Int) - (a : Int)) = (b : Int) := by rw [wrap_mid _ (by omega) (by omega)]; omega
        have hni : wrap64 ((n : Int) - (i : Int)) = ((n - i : Nat) : Int) := by rw [wrap_mid _ (by omega) (by omega)]; omega
        have hrow := row_eq a b n i (by omega)
        have hrle := row_le a b n i
        have hpl := tail_le a b n k (i + 1) (by omega)
        refine Evt.shift ?_
        simp only [sample_confidence.j1, hsub, hni]
        refine Evt.bind (pow_ev a i (by omega) (by omega)) ?_
        refine Evt.bind (pow_ev b (n - i) (by omega) (by omega)) ?_
        rw [Nat.min_eq_left (Nat.le_trans hpa (by omega)), Nat.min_eq_left (Nat.le_trans hpb (by omega)), wrap_up i 1000 (by omega) (by omega)]
        rw [show i + 1 - 1 = i by omega] at ih
        have hp1 : psum (rowF a b n) k (i + 1) = psum (rowF a b n) k i + if k ≤ i then rowF a b n i else 0 := rfl
        by_cases c1 : k ≤ i
        · rw [if_pos c1] at hp1
          by_cases c2 : 0 < a ^ i
          · by_cases c3 : 0 < b ^ (n - i)
            · have hm1 : ch n i * a ^ i ≤ rowF a b n i := by
                rw [hrow]; exact Nat.le_mul_of_pos_right _ c3
              have e1 : wrap64 (((ch n i : Nat) : Int) * ((a ^ i : Nat) : Int)) = ((ch n i * a ^ i : Nat) : Int) := w_mul _ _ _ rfl (Nat.le_trans hm1 (Nat.le_trans hrle hW))
              have e2 : wrap64 (((ch n i * a ^ i : Nat) : Int) * ((b ^ (n - i) : Nat) : Int)) = ((rowF a b n i : Nat) : Int) := w_mul _ _ _ hrow.symm (Nat.le_trans hrle hW)
              have e3 : wrap64 (((psum (rowF a b n) k i : Nat) : Int) + ((rowF a b n i : Nat) : Int)) = ((psum (rowF a b n) k (i + 1) : Nat) : Int) := w_add _ _ _ hp1.symm (Nat.le_trans hpl hW)
              refine Evt.of_eq ih (fun f => ?_)
              rw [if_pos (by omega), if_pos (by omega), if_pos (by omega), e1, e2, e3]
            · have h0 : rowF a b n i = 0 := by rw [hrow, show b ^ (n - i) = 0 by omega, Nat.mul_zero]
              rw [hp1, h0, Nat.add_zero] at ih
              refine Evt.of_eq ih (fun f => ?_)
              rw [if_pos (by omega), if_pos (by omega), if_neg (by omega)]
          · have h0 : rowF a b n i = 0 := by rw [hrow, show a ^ i = 0 by omega, Nat.mul_zero, Nat.zero_mul]
            rw [hp1, h0, Nat.add_zero] at ih
            refine Evt.of_eq ih (fun f => ?_)
            rw [if_pos (by omega), if_neg (by omega)]
        · rw [hp1, if_neg c1, Nat.add_zero] at ih
          refine Evt.of_eq ih (fun f => ?_)
          rw [if_neg (by omega)]
      refine Evt.succ hj (fun f => ?_)
      simp only [sample_confidence.l0]
      rw [if_pos (by omega)]
      by_cases c0 : i = 0
      · subst c0
        rw [if_neg (by omega), ch_zero]
      · obtain ⟨j, rfl⟩ : ∃ j, i = j + 1 := ⟨i - 1, by omega⟩
        rw [if_pos (by omega), if_neg (by omega)]
        have hcj := small_ch n j hn
        have hle : ch n j * (n - j) ≤ ch n j * 60 := Nat.mul_le_mul_left _ (by omega)
        have e1 : wrap64 ((wrap64 ((n : Int) - ((j + 1 : Nat) : Int))) + 1) = ((n - j : Nat) : Int) := by
          rw [wrap_mid ((n : Int) - ((j + 1 : Nat) : Int)) (by omega) (by omega), wrap_mid _ (by omega) (by omega)]; omega
        have e2 : wrap64 (((ch n (j + 1 - 1) : Nat) : Int) * ((n - j : Nat) : Int)) = ((ch n j * (n - j) : Nat) : Int) := by
          rw [← Int.natCast_mul, show j + 1 - 1 = j by omega]; exact w64_nat _ (le60 hle hcj)
        have e3 : wrap64 (Int.tdiv ((ch n j * (n - j) : Nat) : Int) ((j + 1 : Nat) : Int)) = ((ch n (j + 1) : Nat) : Int) := by
          rw [Int.tdiv_eq_ediv_of_nonneg (Int.natCast_nonneg _), ← Int.natCast_ediv, ch_div n j (by omega)]
          exact w64_nat _ (le1 hc2)
        rw [e1, e2, e3]
  have h := key 0 (by omega)
  rw [ch_zero] at h
  exact h
theorem confidence_ev (a b n k : Nat) (hn : n ≤ 59) (hk : k ≤ n) (hab : 0 < a + b) (hd : a + b < 1000000000000000000) :
    Evt (fun f => sample_confidence.f f (n : Int) (k : Int) (a : Int) ((a + b : Nat) : Int)) (confV a b n k) := by
  unfold sample_confidence.f confV
  refine Evt.bind (pow_ev (a + b) n (by omega) (by omega)) ?_
  by_cases c : 1000000000000000000 ≤ (a + b) ^ n
  · rw [if_pos c]
    exact Evt.const (fun f => by rw [if_pos (by rw [Nat.min_eq_right c]; omega)])
  · rw [if_neg c]
    refine Evt.of_eq (conf_loop a b n k hn hk hab (by omega) hd) (fun f => ?_)
    rw [Nat.min_eq_left (by omega), if_neg (by omega)]
theorem rvalid_ev (n d : Int) : Evt (fun k => gangsawref04_Valid.f k n d) (validB n d) := by
  unfold gangsawref04_Valid.f validB
  by_cases h1 : d ≥ 1
  · by_cases h2 : d < 1000000000000000000
    · by_cases h3 : n > -1000000000000000000
      · by_cases h4 : n < 1000000000000000000
        · have e1 : IntKind.u64.wrap d = ((d.natAbs : Nat) : Int) := by rw [u64_mod]; omega
          refine Evt.of_eq (g := fun k => (gangsawref04_gcd.f k (n.natAbs : Int) (d.natAbs : Int)).bind fun t => some (t == 1)) ?_ (fun k => by rw [if_pos h1, if_pos h2, if_pos h3, if_pos h4, rsize_f n (by omega) (by omega), e1]; rfl)
          refine Evt.bind (gcd_any (F := gangsawref04_gcd.l0) (fun k x y => by simp only [gangsawref04_gcd.l0]) d.natAbs n.natAbs) ?_
          refine Evt.const (fun k => ?_)
          rw [decide_eq_true (show (1 : Int) ≤ d from h1), decide_eq_true h2, decide_eq_true (show -1000000000000000000 < n from h3), decide_eq_true h4]
          congr 1
          simp only [Bool.true_and]
          rw [Bool.eq_iff_iff, beq_iff_eq, beq_iff_eq]
          omega
        · exact Evt.const (fun k => by rw [if_pos h1, if_pos h2, if_pos h3, if_neg h4, decide_eq_false h4]; simp)
      · exact Evt.const (fun k => by rw [if_pos h1, if_pos h2, if_neg h3, decide_eq_false (show ¬ -1000000000000000000 < n from h3)]; simp)
    · exact Evt.const (fun k => by rw [if_pos h1, if_neg h2, decide_eq_false h2]; simp)
  · exact Evt.const (fun k => by rw [if_neg h1, decide_eq_false (show ¬ (1 : Int) ≤ d from h1)]; simp)
theorem unit_ev (n d : Int) : Evt (fun k => gangsawref33_unit.f k n d) (unitB n d) := by
  unfold gangsawref33_unit.f unitB
  refine Evt.bind (rvalid_ev n d) ?_
  cases validB n d with
  | false => exact Evt.const (fun k => by simp)
  | true =>
    simp only [if_true, Bool.true_and]
    by_cases h : n ≥ 0
    · exact Evt.const (fun k => by rw [if_pos h, decide_eq_true (show 0 ≤ n from h), Bool.true_and])
    · exact Evt.const (fun k => by rw [if_neg h, decide_eq_false (show ¬ 0 ≤ n from h), Bool.false_and])
theorem rpow_ev (a n : Nat) (ha0 : 0 < a) (ha : a < 1000000000000000000) (hn : n ≤ 1000) : Evt (fun k => gangsawref33_power.f k (a : Int) (n : Int)) (if a ^ n < 1000000000000000000 then ((a ^ n : Nat) : Int) else -1) := by
  unfold gangsawref33_power.f
  have key : ∀ i, i ≤ n → ∀ x : Nat, 0 < x → x < 1000000000000000000 → Evt (fun k => gangsawref33_power.l0 k (a : Int) (n : Int) (x : Int) (i : Nat)) (if x * a ^ (n - i) < 1000000000000000000 then ((x * a ^ (n - i) : Nat) : Int) else -1) := by
    refine down ?_ ?_
    · intro x hx0 hx
      refine Evt.succ (g := fun _ => some (x : Int)) ?_ (fun k => by simp only [gangsawref33_power.l0, Int.lt_irrefl, if_false])
      rw [Nat.sub_self, Nat.pow_zero, Nat.mul_one, if_pos hx]
      exact Evt.pure _
    · intro i hi ih x hx0 hx
      have e : n - i = (n - (i + 1)) + 1 := by omega
      have hdiv : wrap64 (Int.tdiv (999999999999999999 : Int) (a : Int)) = ((999999999999999999 / a : Nat) : Int) := by
        rw [Int.tdiv_eq_ediv_of_nonneg (by omega)]
        have : (999999999999999999 : Int) / (a : Int) = ((999999999999999999 / a : Nat) : Int) := by rw [Int.natCast_ediv]; rfl
        rw [this]
        have h1 : 999999999999999999 / a ≤ 999999999999999999 := Nat.div_le_self _ _
        exact w64_nat _ (Nat.le_trans h1 (by omega))
      by_cases c : 999999999999999999 / a < x
      · have hbig : 999999999999999999 < x * a := (Nat.div_lt_iff_lt_mul ha0).1 c
        refine Evt.succ (g := fun _ => some (-1 : Int)) ?_ (fun k => ?_)
        · have hge : x * a ≤ x * a ^ (n - i) := by
            rw [e, Nat.pow_succ]
            have : 1 ≤ a ^ (n - (i + 1)) := Nat.one_le_pow _ _ ha0
            calc x * a = x * (1 * a) := by rw [Nat.one_mul]
              _ ≤ x * (a ^ (n - (i + 1)) * a) := Nat.mul_le_mul_left _ (Nat.mul_le_mul_right _ this)
          rw [if_neg (by omega)]
          exact Evt.pure _
        · simp only [gangsawref33_power.l0]
          rw [if_pos (by omega), if_neg (by omega), hdiv, if_pos (by omega)]
      · have hle : x * a ≤ 999999999999999999 := by
          have h1 : x ≤ 999999999999999999 / a := by omega
          exact (Nat.le_div_iff_mul_le ha0).1 h1
        have hm : wrap64 ((x : Int) * (a : Int)) = ((x * a : Nat) : Int) := by
          rw [← Int.natCast_mul]; exact w64_nat _ (Nat.le_trans hle (by omega))
        refine Evt.succ (g := fun k => gangsawref33_power.l0 k (a : Int) (n : Int) ((x * a : Nat) : Int) ((i + 1 : Nat) : Int)) ?_ (fun k => ?_)
        · have h := ih (x * a) (Nat.mul_pos hx0 ha0) (by omega)
          have e2 : x * a * a ^ (n - (i + 1)) = x * a ^ (n - i) := by
            rw [e, Nat.pow_succ, Nat.mul_assoc, Nat.mul_comm a]
          rw [e2] at h
          exact h
        · simp only [gangsawref33_power.l0]
          rw [if_pos (by omega), if_neg (by omega), hdiv, if_neg (by omega), hm, wrap_up i n hi (by omega)]
  have := key 0 (by omega) 1 (by omega) (by omega)
  simpa using this
def rowL (a b i : Nat) : List Int := (List.range (i + 1)).map fun m => ((rowF a b i m : Nat) : Int)
/-- The next row, when m of this one's numbers have been carried over. -/
def nextL (a b i m : Nat) : List Int := (List.range (i + 2)).map fun j => if j < m then ((rowF a b (i + 1) j : Nat) : Int) else if j = m ∧ 0 < m then ((rowF a b i (m - 1) * a : Nat) : Int) else 0
theorem rowL_len (a b i : Nat) : (rowL a b i).length = i + 1 := by unfold rowL; simp
theorem nextL_len (a b i m : Nat) : (nextL a b i m).length = i + 2 := by unfold nextL; simp
theorem rowL_at (a b i m : Nat) (h : m < i + 1) : rd (rowL a b i) (m : Int) = ((rowF a b i m : Nat) : Int) := by
  rw [rdI_at _ m (by rw [rowL_len]; exact h)]
  unfold rowL
  simp
theorem nextL_get (a b i m j : Nat) (h : j < (nextL a b i m).length) : (nextL a b i m)[j] = if j < m then ((rowF a b (i + 1) j : Nat) : Int) else if j = m ∧ 0 < m then ((rowF a b i (m - 1) * a : Nat) : Int) else 0 := by
  simp only [nextL, List.getElem_map, List.getElem_range]
theorem nextL_zero (a b i : Nat) : nextL a b i 0 = List.replicate (i + 2) 0 := by
  unfold nextL
  apply List.ext_getElem
  · simp
  · intro j h1 h2
    simp
theorem nextL_full (a b i : Nat) : nextL a b i (i + 1) = rowL a b (i + 1) := by
  unfold nextL rowL
  apply List.ext_getElem
  · simp
  · intro j h1 h2
    have hj : j < i + 2 := by simpa using h1
    simp only [List.getElem_map, List.getElem_range]
    by_cases c : j < i + 1
    · rw [if_pos c]
    · obtain rfl : j = i + 1 := by omega
      rw [if_neg (by omega), if_pos ⟨rfl, by omega⟩]
      simp only [rowF, row_out a b i (i + 1) (by omega), Nat.zero_mul, Nat.zero_add]
      rfl
theorem nextL_at (a b i m : Nat) (h : m < i + 2) : rd (nextL a b i m) (m : Int) = if 0 < m then ((rowF a b i (m - 1) * a : Nat) : Int) else 0 := by
  rw [rdI_at _ m (by rw [nextL_len]; exact h), nextL_get, if_neg (by omega)]
  by_cases c : 0 < m
  · rw [if_pos ⟨rfl, c⟩, if_pos c]
  · rw [if_neg (fun h => c h.2), if_neg c]
theorem nextL_step (a b i m : Nat) (h : m < i + 1) : ((nextL a b i m).set m ((rowF a b (i + 1) m : Nat) : Int)).set (m + 1) ((rowF a b i m * a : Nat) : Int) = nextL a b i (m + 1) := by
  apply List.ext_getElem
  · simp [nextL_len]
  · intro j h1 h2
    have hj : j < i + 2 := by simpa [nextL_len] using h1
    rw [List.getElem_set, List.getElem_set, nextL_get, nextL_get]
    by_cases c1 : m + 1 = j
    · subst c1
      rw [if_pos rfl, if_neg (by omega), if_pos ⟨rfl, by omega⟩, show m + 1 - 1 = m by omega]
    · rw [if_neg c1]
      by_cases c2 : m = j
      · subst c2
        rw [if_pos rfl, if_pos (by omega)]
      · rw [if_neg c2]
        by_cases c3 : j < m
        · rw [if_pos c3, if_pos (by omega)]
        · rw [if_neg c3, if_neg (by omega), if_neg (by omega), if_neg (by omega)]
theorem row_succ (a b i m : Nat) : rowF a b (i + 1) m = (if 0 < m then rowF a b i (m - 1) * a else 0) + rowF a b i m * b := by
  cases m with
  | zero => simp [rowF]
  | succ m => simp [rowF, Nat.add_comm]
theorem rconf_sum (a b n k : Nat) (hn : n ≤ 59) (hk : k ≤ n) (hab : 0 < a + b) (hw : (a + b) ^ n < 1000000000000000000) :
    ∀ i : Nat, i ≤ n + 1 → k ≤ i → Evt (fun f => gangsawref33_Confidence.l2 f (n : Int) (((a + b) ^ n : Nat) : Int) (rowL a b n) ((psum (rowF a b n) k i : Nat) : Int) (i : Int)) (newV (tailV a b n k) ((a + b) ^ n)) := by
  have hwp : 0 < (a + b) ^ n := Nat.pow_pos hab
  have hW := le_pred hw
  refine down ?_ ?_
  · intro _
    refine Evt.succ (g := fun f => (gangsawref04_New.f f ((psum (rowF a b n) k (n + 1) : Nat) : Int) (((a + b) ^ n : Nat) : Int)).bind fun b => some (b.1, b.2.1, b.2.2)) ?_ (fun f => ?_)
    · exact Evt.bind (rnew_ev _ _ (tail_le a b n k (n + 1) (Nat.le_refl _)) hwp hw) (Evt.pure _)
    · simp only [gangsawref33_Confidence.l2]
      rw [if_neg (by omega)]
  · intro i hi ih hki
    have ih := ih (by omega)
    have hpl := tail_le a b n k (i + 1) (by omega)
    have hp1 : psum (rowF a b n) k i + rowF a b n i = psum (rowF a b n) k (i + 1) := by
      show _ = psum (rowF a b n) k i + (if k ≤ i then rowF a b n i else 0)
      rw [if_pos hki]
    refine Evt.succ ih (fun f => ?_)
    simp only [gangsawref33_Confidence.l2, rowL_len, rowL_at a b n i hi]
    rw [if_pos (by omega), if_pos (by omega), if_pos (by omega), w_add _ _ _ hp1 (Nat.le_trans hpl hW), wrap_up i 1000 (by omega) (by omega)]
theorem rconf_vals (a b n i m : Nat) (hin : i < n) (hm : m < i + 1) (hab : 0 < a + b) (hW : (a + b) ^ n ≤ 999999999999999999) :
    wrap64 (rd (nextL a b i m) (m : Int) + wrap64 (((rowF a b i m : Nat) : Int) * (b : Int))) = ((rowF a b (i + 1) m : Nat) : Int)
    ∧ rd ((nextL a b i m).set m ((rowF a b (i + 1) m : Nat) : Int)) ((m + 1 : Nat) : Int) = 0
    ∧ wrap64 (0 + wrap64 (((rowF a b i m : Nat) : Int) * (a : Int))) = ((rowF a b i m * a : Nat) : Int) := by
  have hle : (a + b) ^ (i + 1) ≤ (a + b) ^ n := Nat.pow_le_pow_right hab (by omega)
  have hW1 : (a + b) ^ (i + 1) ≤ 999999999999999999 := Nat.le_trans hle hW
  have hr1 := Nat.le_trans (row_le a b (i + 1) m) hW1
  have hr2 := Nat.le_trans (row_le a b (i + 1) (m + 1)) hW1
  clear hle hW hW1
  have hs1 := row_succ a b i m
  have hs2 := row_succ a b i (m + 1)
  rw [if_pos (by omega), show m + 1 - 1 = m by omega] at hs2
  have hb1 : rowF a b i m * b ≤ 999999999999999999 := Nat.le_trans (Nat.le_trans (Nat.le_add_left _ _) (Nat.le_of_eq hs1.symm)) hr1
  have hb2 : rowF a b i m * a ≤ 999999999999999999 := Nat.le_trans (Nat.le_trans (Nat.le_add_right _ _) (Nat.le_of_eq hs2.symm)) hr2
  have hat : rd (nextL a b i m) (m : Int) = ((if 0 < m then rowF a b i (m - 1) * a else 0 : Nat) : Int) := by
    rw [nextL_at a b i m (by omega)]
    by_cases c : 0 < m
    · rw [if_pos c, if_pos c]
    · rw [if_neg c, if_neg c]; rfl
  have hlen1 : ((nextL a b i m).set m ((rowF a b (i + 1) m : Nat) : Int)).length = i + 2 := by rw [List.length_set, nextL_len]
  refine ⟨?_, ?_, ?_⟩
  · rw [hat, w_mul _ _ _ rfl hb1]
    exact w_add _ _ _ hs1.symm hr1
  · rw [rdI_at _ (m + 1) (by rw [hlen1]; omega), List.getElem_set, if_neg (by omega), nextL_get, if_neg (by omega), if_neg (by omega)]
  · rw [w_mul _ _ _ rfl hb2, Int.zero_add, w64_nat _ (Nat.le_trans hb2 (by decide))]
theorem rconf_loop (a b n k : Nat) (hn : n ≤ 59) (hk : k ≤ n) (hab : 0 < a + b) (hw : (a + b) ^ n < 1000000000000000000) (hd : a + b < 1000000000000000000) :
    Evt (fun f => gangsawref33_Confidence.l0 f (n : Int) (k : Int) (((a + b) ^ n : Nat) : Int) [1] 0 (a : Int) ((a + b : Nat) : Int)) (newV (tailV a b n k) ((a + b) ^ n)) := by
  have hW := le_pred hw
  have hsum := rconf_sum a b n k hn hk hab hw
  clear hw
  generalize hV : newV (tailV a b n k) ((a + b) ^ n) = V at *
  have hsub : wrap64 (((a + b : Nat) : Int) - (a : Int)) = (b : Int) := by rw [wrap_mid _ (by omega) (by omega)]; omega
  have hvals := fun i m h1 h2 => rconf_vals a b n i m h1 h2 hab hW
  generalize (((a + b) ^ n : Nat) : Int) = WI at *
  clear hW hd
  generalize ((a + b : Nat) : Int) = D at *
  have key : ∀ i : Nat, i ≤ n → Evt (fun f => gangsawref33_Confidence.l0 f (n : Int) (k : Int) WI (rowL a b i) (i : Int) (a : Int) D) V := by
    refine down ?_ ?_
    · refine Evt.succ (g := fun f => gangsawref33_Confidence.l2 f (n : Int) WI (rowL a b n) 0 (k : Int)) ?_ (fun f => by simp only [gangsawref33_Confidence.l0, Int.lt_irrefl, if_false])
      have h := hsum k (by omega) (Nat.le_refl _)
      rw [psum_start _ _ _ (Nat.le_refl _)] at h
      exact h
    · intro i hi ih
      have hinner : ∀ m : Nat, m ≤ i + 1 → Evt (fun f => gangsawref33_Confidence.l1 f (n : Int) (k : Int) WI (rowL a b i) (i : Int) (nextL a b i m) (m : Int) (a : Int) D) V := by
        refine down ?_ ?_
        · rw [nextL_full]
          refine Evt.succ ih (fun f => ?_)
          simp only [gangsawref33_Confidence.l1, rowL_len]
          rw [if_neg (by omega), wrap_up i 1000 (by omega) (by omega)]
        · intro m hm ih2
          obtain ⟨hv1, hz, hv2⟩ := hvals i m hi hm
          have hlen1 : ((nextL a b i m).set m ((rowF a b (i + 1) m : Nat) : Int)).length = i + 2 := by rw [List.length_set, nextL_len]
          have hst := nextL_step a b i m hm
          have hrow := rowL_at a b i m hm
          have hl1 := rowL_len a b i
          have hl2 := nextL_len a b i m
          generalize nextL a b i m = L1 at *
          generalize nextL a b i (m + 1) = L2 at *
          generalize ((rowF a b (i + 1) m : Nat) : Int) = R1 at *
          generalize ((rowF a b i m * a : Nat) : Int) = R2 at *
          generalize ((rowF a b i m : Nat) : Int) = R3 at *
          generalize rowL a b i = RL at *
          refine Evt.succ ih2 (fun f => ?_)
          rw [gangsawref33_Confidence.l1]
          rw [if_pos (by omega), if_pos (by omega), if_pos (by omega), hrow, hsub, hv1, Int.toNat_natCast, Option.bind_some, wrap_up m 1000 (by omega) (by omega), if_pos (by omega), if_pos (by omega), hz, hv2, Int.toNat_natCast, hst]
      have h0 := hinner 0 (by omega)
      rw [nextL_zero] at h0
      have hl1 := rowL_len a b i
      refine Evt.succ h0 (fun f => ?_)
      simp only [gangsawref33_Confidence.l0]
      rw [if_pos (by omega), hl1, show ((i + 1 : Nat) : Int) + 1 = ((i + 2 : Nat) : Int) by omega, w64_nat _ (by omega), if_pos (by omega), if_pos (by rw [Int.toNat_natCast]; omega), Int.toNat_natCast]
      rfl
  have h := key 0 (by omega)
  exact h
theorem rconfidence_ev (n d : Int) (m k : Int) : Evt (fun f => gangsawref33_Confidence.f f m k n d) (if unitB n d = true ∧ 1 ≤ m ∧ m ≤ 59 ∧ 0 ≤ k ∧ k ≤ m then confV n.toNat (d - n).toNat m.toNat k.toNat else (0, 0, 1)) := by
  have hbad : Evt (fun f => gangsawref33_Confidence.j0 f m k true n d) (0, 0, 1) := Evt.succ (g := fun _ => some (0, 0, 1)) (Evt.pure _) (fun f => by simp only [gangsawref33_Confidence.j0, if_true])
  unfold gangsawref33_Confidence.f
  refine Evt.bind (unit_ev n d) ?_
  cases hu : unitB n d with
  | false =>
    rw [if_neg (by simp)]
    exact Evt.of_eq hbad (fun f => by simp)
  | true =>
    simp only [if_true]
    by_cases h1 : m < 1
    · rw [if_neg (by omega)]; exact Evt.of_eq hbad (fun f => by rw [if_pos h1])
    by_cases h2 : m > 59
    · rw [if_neg (by omega)]; exact Evt.of_eq hbad (fun f => by rw [if_neg h1, if_pos h2])
    by_cases h3 : k < 0
    · rw [if_neg (by omega)]; exact Evt.of_eq hbad (fun f => by rw [if_neg h1, if_neg h2, if_pos h3])
    by_cases h4 : k > m
    · rw [if_neg (by omega)]; exact Evt.of_eq hbad (fun f => by rw [if_neg h1, if_neg h2, if_neg h3, decide_eq_true h4])
    rw [if_pos ⟨trivial, by omega, by omega, by omega, by omega⟩]
    refine Evt.of_eq (g := fun f => gangsawref33_Confidence.j0 f m k false n d) ?_ (fun f => by rw [if_neg h1, if_neg h2, if_neg h3, decide_eq_false h4])
    obtain ⟨f1, f2, f3, f4, f5⟩ := unit_facts hu
    obtain ⟨a, rfl⟩ := Int.eq_ofNat_of_zero_le f3
    obtain ⟨b, hb⟩ := Int.eq_ofNat_of_zero_le (show 0 ≤ d - (a : Int) by omega)
    obtain rfl : d = ((a + b : Nat) : Int) := by omega
    obtain ⟨m, rfl⟩ := Int.eq_ofNat_of_zero_le (show 0 ≤ m by omega)
    obtain ⟨k, rfl⟩ := Int.eq_ofNat_of_zero_le (show 0 ≤ k by omega)
    rw [show (((a + b : Nat) : Int) - (a : Int)).toNat = b by omega]
    simp only [Int.toNat_natCast]
    refine Evt.succ (g := fun f => (gangsawref33_power.f f ((a + b : Nat) : Int) (m : Int)).bind fun t => if t < 0 then some (0, 0, 6) else gangsawref33_Confidence.l0 f (m : Int) (k : Int) t [1] 0 (a : Int) ((a + b : Nat) : Int)) ?_ (fun f => by simp only [gangsawref33_Confidence.j0, Bool.false_eq_true, if_false])
    refine Evt.bind (rpow_ev (a + b) m (by omega) (by omega) (by omega)) ?_
    unfold confV
    by_cases c : (a + b) ^ m < 1000000000000000000
    · rw [if_pos c, if_neg (by omega)]
      refine Evt.of_eq (rconf_loop a b m k (by omega) (by omega) (by omega) c (by omega)) (fun f => by rw [if_neg (by omega)])
    · rw [if_neg c, if_pos (by omega)]
      exact Evt.const (fun f => by rw [if_pos (by omega)])
theorem sconfidence_ev (n d : Int) (m k : Int) : Evt (fun f => sample_Confidence.f f m k n d) (if unitB n d = true ∧ 1 ≤ m ∧ m ≤ 59 ∧ 0 ≤ k ∧ k ≤ m then confV n.toNat (d - n).toNat m.toNat k.toNat else (0, 0, 1)) := by
  unfold sample_Confidence.f
  refine Evt.bind (chance_ev n d) ?_
  cases hu : unitB n d with
  | false =>
    rw [if_neg (by simp)]
    exact Evt.const (fun f => by simp)
  | true =>
    simp only [if_true]
    by_cases h1 : m < 1
    · rw [if_neg (by omega)]; exact Evt.const (fun f => by rw [if_pos h1])
    by_cases h2 : m > 59
    · rw [if_neg (by omega)]; exact Evt.const (fun f => by rw [if_neg h1, if_pos h2])
    by_cases h3 : k < 0
    · rw [if_neg (by omega)]; exact Evt.const (fun f => by rw [if_neg h1, if_neg h2, if_pos h3])
    by_cases h4 : k > m
    · rw [if_neg (by omega)]; exact Evt.const (fun f => by rw [if_neg h1, if_neg h2, if_neg h3, if_pos h4])
    rw [if_pos ⟨trivial, by omega, by omega, by omega, by omega⟩]
    simp only [if_neg h1, if_neg h2, if_neg h3, if_neg h4]
    obtain ⟨f1, f2, f3, f4, f5⟩ := unit_facts hu
    obtain ⟨a, rfl⟩ := Int.eq_ofNat_of_zero_le f3
    obtain ⟨b, hb⟩ := Int.eq_ofNat_of_zero_le (show 0 ≤ d - (a : Int) by omega)
    obtain rfl : d = ((a + b : Nat) : Int) := by omega
    obtain ⟨m, rfl⟩ := Int.eq_ofNat_of_zero_le (show 0 ≤ m by omega)
    obtain ⟨k, rfl⟩ := Int.eq_ofNat_of_zero_le (show 0 ≤ k by omega)
    rw [show (((a + b : Nat) : Int) - (a : Int)).toNat = b by omega]
    simp only [Int.toNat_natCast]
    exact Evt.bind (confidence_ev a b m k (by omega) (by omega) (by omega) (by omega)) (Evt.pure _)
end Go.Proofs.Ythkpgjjakdbbfaa.PConf
