/-
  Binomial sums, in plain numbers: Pascal's rows with weights.
-/
import Derived.IntWalk
set_option linter.unusedVariables false
set_option linter.unusedSimpArgs false
namespace Go.Proofs.Ythkpgjjakdbbfaa.Binom
/-- The weights of n trials: at m, how many ways have m successes, times a to the m and b to the rest. -/
def rowF (a b : Nat) : Nat → Nat → Nat
  | 0, m => if m = 0 then 1 else 0
  | n + 1, 0 => rowF a b n 0 * b
  | n + 1, m + 1 => rowF a b n (m + 1) * b + rowF a b n m * a
def ch : Nat → Nat → Nat
  | _, 0 => 1
  | 0, _ + 1 => 0
  | n + 1, m + 1 => ch n m + ch n (m + 1)
/-- The sum of f below i, from k on. -/
def psum (f : Nat → Nat) (k : Nat) : Nat → Nat
  | 0 => 0
  | i + 1 => psum f k i + if k ≤ i then f i else 0
theorem ch_zero : ∀ n, ch n 0 = 1 := by intro n; cases n <;> rfl
theorem ch_out : ∀ n m, n < m → ch n m = 0 := by
  intro n
  induction n with
  | zero => intro m h; obtain ⟨m, rfl⟩ : ∃ j, m = j + 1 := ⟨m - 1, by omega⟩; rfl
  | succ n ih =>
    intro m h
    obtain ⟨m, rfl⟩ : ∃ j, m = j + 1 := ⟨m - 1, by omega⟩
    simp only [ch, ih m (by omega), ih (m + 1) (by omega)]
theorem ch_rec : ∀ n m, (m + 1) * ch n (m + 1) + m * ch n m = n * ch n m := by
  intro n
  induction n with
  | zero =>
    intro m
    cases m with
    | zero => rfl
    | succ m => simp [ch]
  | succ n ih =>
    intro m
    cases m with
    | zero =>
      have h := ih 0
      simp only [ch, ch_zero] at *
      omega
    | succ m =>
      have h1 := ih m
      have h2 := ih (m + 1)
      simp only [ch]
      generalize ch n m = A at *
      generalize ch n (m + 1) = B at *
      generalize ch n (m + 1 + 1) = C at *
      simp only [Nat.add_mul, Nat.mul_add, Nat.one_mul] at *
      omega
theorem ch_div (n i : Nat) (h : i < n) : ch n i * (n - i) / (i + 1) = ch n (i + 1) := by
  have h1 := ch_rec n i
  have e : ch n i * (n - i) = (i + 1) * ch n (i + 1) := by
    obtain ⟨d, rfl⟩ : ∃ d, n = i + d := ⟨n - i, by omega⟩
    rw [Nat.add_sub_cancel_left, Nat.mul_comm]
    rw [Nat.add_mul i d] at h1
    omega
  rw [e, Nat.mul_div_cancel_left _ (by omega)]
theorem row_out (a b : Nat) : ∀ n m, n < m → rowF a b n m = 0 := by
  intro n
  induction n with
  | zero => intro m h; simp only [rowF]; rw [if_neg (by omega)]
  | succ n ih =>
    intro m h
    obtain ⟨m, rfl⟩ : ∃ j, m = j + 1 := ⟨m - 1, by omega⟩
    simp only [rowF, ih m (by omega), ih (m + 1) (by omega), Nat.zero_mul]
theorem row_eq (a b : Nat) : ∀ n m, m ≤ n → rowF a b n m = ch n m * a ^ m * b ^ (n - m) := by
  intro n
  induction n with
  | zero =>
    intro m h
    obtain rfl : m = 0 := by omega
    rfl
  | succ n ih =>
    intro m h
    cases m with
    | zero =>
      simp only [rowF, ih 0 (by omega), ch_zero, Nat.pow_zero, Nat.mul_one, Nat.one_mul, Nat.sub_zero]
      rw [Nat.pow_succ]
    | succ m =>
      simp only [rowF]
      by_cases e : m = n
      · subst e
        rw [row_out a b m (m + 1) (by omega), ih m (by omega)]
        simp only [ch, ch_out m (m + 1) (by omega), Nat.sub_self, Nat.pow_zero, Nat.mul_one, Nat.zero_mul, Nat.zero_add, Nat.add_zero]
        rw [Nat.pow_succ, Nat.mul_assoc]
      · rw [ih (m + 1) (by omega), ih m (by omega)]
        simp only [ch]
        have e1 : n - m = (n - (m + 1)) + 1 := by omega
        have e2 : n + 1 - (m + 1) = (n - (m + 1)) + 1 := by omega
        rw [e1, e2, Nat.pow_succ b, Nat.pow_succ a]
        generalize ch n m = A
        generalize ch n (m + 1) = B
        generalize a ^ m = X
        generalize b ^ (n - (m + 1)) = Y
        grind
theorem psum_row (a b n : Nat) : ∀ N, psum (rowF a b (n + 1)) 0 (N + 1) = b * psum (rowF a b n) 0 (N + 1) + a * psum (rowF a b n) 0 N := by
  intro N
  induction N with
  | zero => simp [psum, rowF, Nat.mul_comm]
  | succ N ih =>
    have e : psum (rowF a b (n + 1)) 0 (N + 1 + 1) = psum (rowF a b (n + 1)) 0 (N + 1) + rowF a b (n + 1) (N + 1) := by simp [psum]
    have e2 : psum (rowF a b n) 0 (N + 1 + 1) = psum (rowF a b n) 0 (N + 1) + rowF a b n (N + 1) := by simp [psum]
    have e3 : psum (rowF a b n) 0 (N + 1) = psum (rowF a b n) 0 N + rowF a b n N := by simp [psum]
    rw [e, ih, e2]
    simp only [rowF]
    generalize psum (rowF a b n) 0 N = P at *
    rw [e3]
    generalize rowF a b n (N + 1) = X
    generalize rowF a b n N = Y
    grind
theorem total (a b : Nat) : ∀ n, psum (rowF a b n) 0 (n + 1) = (a + b) ^ n := by
  intro n
  induction n with
  | zero => rfl
  | succ n ih =>
    rw [psum_row]
    have e : psum (rowF a b n) 0 (n + 1 + 1) = psum (rowF a b n) 0 (n + 1) := by
      show psum (rowF a b n) 0 (n + 1) + (if 0 ≤ n + 1 then rowF a b n (n + 1) else 0) = _
      rw [row_out a b n (n + 1) (by omega)]; simp
    rw [e, ih, Nat.pow_succ]
    grind
theorem psum_le (f : Nat → Nat) (k : Nat) : ∀ i, psum f k i ≤ psum f 0 i := by
  intro i
  induction i with
  | zero => exact Nat.le_refl _
  | succ i ih =>
    simp only [psum, Nat.zero_le, if_true]
    split <;> omega
theorem psum_mono (f : Nat → Nat) (k : Nat) : ∀ i d, psum f k i ≤ psum f k (i + d) := by
  intro i d
  induction d with
  | zero => exact Nat.le_refl _
  | succ d ih => rw [← Nat.add_assoc]; simp only [psum]; omega
theorem row_le (a b n m : Nat) : rowF a b n m ≤ (a + b) ^ n := by
  by_cases h : m ≤ n
  · rw [← total a b n]
    have h1 := psum_mono (rowF a b n) 0 (m + 1) (n - m)
    rw [show m + 1 + (n - m) = n + 1 by omega] at h1
    have h2 : psum (rowF a b n) 0 (m + 1) = psum (rowF a b n) 0 m + rowF a b n m := by simp [psum]
    omega
  · rw [row_out a b n m (by omega)]; exact Nat.zero_le _
theorem tail_le (a b n k i : Nat) (h : i ≤ n + 1) : psum (rowF a b n) k i ≤ (a + b) ^ n := by
  rw [← total a b n]
  have h1 := psum_le (rowF a b n) k i
  have h2 := psum_mono (rowF a b n) 0 i (n + 1 - i)
  rw [show i + (n + 1 - i) = n + 1 by omega] at h2
  omega
theorem psum_start (f : Nat → Nat) (k : Nat) : ∀ i, i ≤ k → psum f k i = 0 := by
  intro i
  induction i with
  | zero => intro _; rfl
  | succ i ih => intro h; simp only [psum]; rw [ih (by omega), if_neg (by omega)]
def nextC : List Nat → Nat → List Nat
  | [], p => [p]
  | x :: l, p => (p + x) :: nextC l x
def rowsC : Nat → List Nat
  | 0 => [1]
  | n + 1 => nextC (rowsC n) 0
theorem nextC_get : ∀ (l : List Nat) (p i : Nat), (nextC l p).getD i 0 = (if i = 0 then p else l.getD (i - 1) 0) + l.getD i 0 := by
  intro l
  induction l with
  | nil => intro p i; cases i <;> simp [nextC]
  | cons x l ih =>
    intro p i
    cases i with
    | zero => simp [nextC]
    | succ i =>
      simp only [nextC, List.getD_cons_succ, ih]
      cases i with
      | zero => simp
      | succ i => simp
theorem rowsC_get : ∀ n i, (rowsC n).getD i 0 = ch n i := by
  intro n
  induction n with
  | zero => intro i; cases i <;> simp [rowsC, ch]
  | succ n ih =>
    intro i
    simp only [rowsC, nextC_get, ih]
    cases i with
    | zero => simp [ch, ch_zero]
    | succ i => simp [ch]
def smallC : Bool := (List.range 60).all fun n => (rowsC n).all fun c => decide (c * 60 < 9223372036854775808)
theorem small_ch (n i : Nat) (h : n ≤ 59) : ch n i * 60 < 9223372036854775808 := by
  have hs : smallC = true := by decide +kernel
  unfold smallC at hs
  rw [List.all_eq_true] at hs
  have h1 := hs n (List.mem_range.2 (by omega))
  rw [List.all_eq_true] at h1
  rw [← rowsC_get]
  by_cases hi : i < (rowsC n).length
  · have h2 := h1 (rowsC n)[i] (List.getElem_mem _)
    rw [decide_eq_true_eq] at h2
    simpa [hi] using h2
  · rw [List.getD_eq_getElem?_getD, List.getElem?_eq_none (by omega)]; simp
end Go.Proofs.Ythkpgjjakdbbfaa.Binom
