/-
  Greatest common divisors, products of 128 bits, and fractions from 0 to 1, in plain numbers.
-/
import Derived.Test.YthkpgjjakdbbfaaEvt
import Derived.Test.YthkpgjjakdbbfaaGen
import Derived.Test.YthkpgjjakdbbfaaBinom
import Derived.Test.YthkpgjjakdbbfaaKs
import Derived.Test.YthkpgjjakdbbfaaPx6
import Derived.Test.YthkpgjjakdbbfaaPx7
import Derived.Test.YthkpgjjakdbbfaaPx10
set_option linter.unusedVariables false
set_option linter.unusedSimpArgs false
namespace Go.Proofs.Ythkpgjjakdbbfaa.PFrac
open Go.RowKit Go.Proofs.YthkpgjjakdbbfaaW.PrintWords Go.Proofs.YthkpgjjakdbbfaaW.PrintMore Go.Proofs.Ythkpgjjakdbbfaa.P Go.Proofs.Ythkpgjjakdbbfaa.Rnd Go.Proofs.Ythkpgjjakdbbfaa.Gen Go.Proofs.Ythkpgjjakdbbfaa.Binom

theorem u64_mod (x : Int) : IntKind.u64.wrap x = x % 18446744073709551616 := rfl
theorem u64_id (x : Int) (h0 : 0 ≤ x) (h1 : x < 18446744073709551616) : IntKind.u64.wrap x = x := by rw [u64_mod]; omega
theorem u64_in (n : Int) (h₀ : 0 ≤ n) (h₁ : n < 2 ^ 64) : IntKind.u64.wrap n = n := u64_id n h₀ (by omega)
theorem u64_nat (n : Nat) (h : n < 18446744073709551616) : IntKind.u64.wrap (n : Int) = (n : Int) := u64_id _ (by omega) (by omega)
theorem w64_nat (n : Nat) (h : n ≤ 9223372036854775807) : wrap64 (n : Int) = (n : Int) := wrap_mid _ (by omega) (by omega)
theorem and_lo (x : Int) (h0 : 0 ≤ x) (h1 : x < 18446744073709551616) : Go.bits .and .u64 x 4294967295 = x % 4294967296 := by
  have := bits_mask .u64 64 (by decide) u64_in 32 (by decide) x h0 (by omega)
  exact this
theorem size_f (a : Int) (h0 : -9223372036854775808 ≤ a) (h1 : a ≤ 9223372036854775807) : fraction_size.f a = some (a.natAbs : Int) := by
  unfold fraction_size.f
  simp only [u64_mod]
  by_cases c : a < 0
  · rw [if_pos c]; congr 1; omega
  · rw [if_neg c]; congr 1; omega
theorem gcd_any {F : Nat → Int → Int → Option Int} (hF : ∀ k (a b : Int), F (k + 1) a b = if b = 0 then some a else F k b (Int.tmod a b)) : ∀ b a : Nat, Evt (fun k => F k (a : Int) (b : Int)) ((Nat.gcd a b : Nat) : Int) := by
  intro b
  induction b using Nat.strongRecOn with
  | ind b ih =>
    intro a
    by_cases c : b = 0
    · subst c
      exact Evt.succ (g := fun _ => some (a : Int)) (by rw [Nat.gcd_zero_right]; exact Evt.pure _) (fun k => by rw [hF, if_pos (by rfl)])
    · refine Evt.succ (g := fun k => F k (b : Int) ((a % b : Nat) : Int)) ?_ (fun k => ?_)
      · have h := ih (a % b) (Nat.mod_lt _ (by omega)) b
        rw [Nat.gcd_comm b (a % b), ← Nat.gcd_rec, Nat.gcd_comm] at h
        exact h
      · rw [hF, if_neg (by omega), Int.tmod_eq_emod_of_nonneg (by omega), Int.natCast_emod]
theorem gcd_ev (a b : Nat) : Evt (fun k => fraction_gcd.f k (a : Int) (b : Int)) ((Nat.gcd a b : Nat) : Int) :=
  gcd_any (F := fraction_gcd.l0) (fun k x y => by simp only [fraction_gcd.l0]) b a
def validB (n d : Int) : Bool := decide (1 ≤ d) && decide (d < 1000000000000000000) && decide (-1000000000000000000 < n) && decide (n < 1000000000000000000) && (Nat.gcd n.natAbs d.natAbs == 1)
theorem valid_ev (n d : Int) : Evt (fun k => fraction_Valid.f k n d) (validB n d) := by
  unfold fraction_Valid.f validB
  by_cases h1 : d ≥ 1
  · by_cases h2 : d < 1000000000000000000
    · by_cases h3 : n > -1000000000000000000
      · by_cases h4 : n < 1000000000000000000
        · have e1 : IntKind.u64.wrap d = ((d.natAbs : Nat) : Int) := by rw [u64_mod]; omega
          refine Evt.of_eq (g := fun k => (fraction_gcd.f k (n.natAbs : Int) (d.natAbs : Int)).bind fun t => some (t == 1)) ?_ (fun k => by rw [if_pos h1, if_pos h2, if_pos h3, if_pos h4, size_f n (by omega) (by omega), e1]; rfl)
          refine Evt.bind (gcd_ev n.natAbs d.natAbs) ?_
          refine Evt.const (fun k => ?_)
          rw [decide_eq_true (show (1 : Int) ≤ d from h1), decide_eq_true h2, decide_eq_true (show -1000000000000000000 < n from h3), decide_eq_true h4]
          congr 1
          simp only [Bool.true_and]
          rw [Bool.eq_iff_iff, beq_iff_eq, beq_iff_eq]
          omega
        · exact Evt.const (fun k => by rw [if_pos h1, if_pos h2, if_pos h3, if_neg h4, decide_eq_false h4]; simp)
      · exact Evt.const (fun k => by rw [if_pos h1, if_pos h2, if_neg h3, decide_eq_false (show ¬ -1000000000000000000 < n from h3)]; simp)
    · exact Evt.const (fun k => by rw [if_pos h1, if_neg h2, decide_eq_false h2]; simp)
  · exact Evt.const (fun k => by rw [if_neg h1, decide_eq_false (show ¬ (1 : Int) ≤ d from h1)]; simp)
def unitB (n d : Int) : Bool := validB n d && decide (0 ≤ n) && decide (n ≤ d)
theorem chance_ev (n d : Int) : Evt (fun k => sample_chance.f k n d) (unitB n d) := by
  unfold sample_chance.f unitB
  refine Evt.bind (valid_ev n d) ?_
  cases validB n d with
  | false => exact Evt.const (fun k => by simp)
  | true =>
    simp only [if_true, Bool.true_and]
    by_cases h : n ≥ 0
    · exact Evt.const (fun k => by rw [if_pos h, decide_eq_true (show 0 ≤ n from h), Bool.true_and])
    · exact Evt.const (fun k => by rw [if_neg h, decide_eq_false (show ¬ 0 ≤ n from h), Bool.false_and])
theorem unit_facts {n d : Int} (h : unitB n d = true) : 1 ≤ d ∧ d < 1000000000000000000 ∧ 0 ≤ n ∧ n ≤ d ∧ Nat.gcd n.toNat d.toNat = 1 := by
  unfold unitB validB at h
  simp at h
  obtain ⟨⟨⟨⟨⟨⟨h1, h2⟩, h3⟩, h4⟩, h5⟩, h6⟩, h7⟩ := h
  refine ⟨h1, h2, h6, h7, ?_⟩
  rw [show n.toNat = n.natAbs by omega, show d.toNat = d.natAbs by omega]
  exact h5
/-- A fraction in lowest terms. -/
def newV (s w : Nat) : Int × Int × Int := (((s / Nat.gcd s w : Nat) : Int), ((w / Nat.gcd s w : Nat) : Int), 0)
theorem new_ev (s w : Nat) (hs : s ≤ w) (hw : 0 < w) (hb : w < 1000000000000000000) : Evt (fun k => fraction_New.f k (s : Int) (w : Int)) (newV s w) := by
  unfold fraction_New.f
  refine Evt.of_eq (g := fun k => (fraction_gcd.f k (s : Int) (w : Int)).bind fun t => if t = 0 then none else ((fraction_makeFrac.f k false (IntKind.u64.wrap (Int.tdiv s t)) (IntKind.u64.wrap (Int.tdiv w t))).bind fun b => some (b.1, b.2.1, b.2.2))) ?_ (fun k => ?_)
  · refine Evt.bind (gcd_ev s w) ?_
    have hg : 0 < Nat.gcd s w := Nat.gcd_pos_of_pos_right _ hw
    have d1 : s / Nat.gcd s w ≤ s := Nat.div_le_self _ _
    have d2 : w / Nat.gcd s w ≤ w := Nat.div_le_self _ _
    have e1 : IntKind.u64.wrap (Int.tdiv (s : Int) ((Nat.gcd s w : Nat) : Int)) = ((s / Nat.gcd s w : Nat) : Int) := by
      rw [Int.tdiv_eq_ediv_of_nonneg (by omega), ← Int.natCast_ediv, u64_nat _ (Nat.lt_of_le_of_lt d1 (by omega))]
    have e2 : IntKind.u64.wrap (Int.tdiv (w : Int) ((Nat.gcd s w : Nat) : Int)) = ((w / Nat.gcd s w : Nat) : Int) := by
      rw [Int.tdiv_eq_ediv_of_nonneg (by omega), ← Int.natCast_ediv, u64_nat _ (Nat.lt_of_le_of_lt d2 (by omega))]
    have b1 : s / Nat.gcd s w < 1000000000000000000 := by omega
    have b2 : w / Nat.gcd s w < 1000000000000000000 := by omega
    have hmk : Evt (fun k => fraction_makeFrac.f k false ((s / Nat.gcd s w : Nat) : Int) ((w / Nat.gcd s w : Nat) : Int)) (newV s w) := by
      unfold fraction_makeFrac.f
      refine Evt.of_eq (g := fun k => fraction_makeFrac.j0 k false ((s / Nat.gcd s w : Nat) : Int) ((w / Nat.gcd s w : Nat) : Int) false) ?_ (fun k => by
        generalize s / Nat.gcd s w = p at *
        generalize w / Nat.gcd s w = q at *
        rw [if_neg (by omega), decide_eq_false (by omega)])
      refine Evt.succ (g := fun _ => some (newV s w)) (Evt.pure _) (fun k => ?_)
      simp only [fraction_makeFrac.j0, Bool.false_eq_true, if_false]
      rw [w64_nat _ (by omega), w64_nat _ (by omega)]
      rfl
    refine Evt.of_eq (g := fun k => (fraction_makeFrac.f k false ((s / Nat.gcd s w : Nat) : Int) ((w / Nat.gcd s w : Nat) : Int)).bind fun b => some (b.1, b.2.1, b.2.2)) (Evt.bind hmk (Evt.pure _)) (fun k => ?_)
    rw [if_neg (by omega), e1, e2]
  · rw [if_neg (by omega), size_f _ (by omega) (by omega), size_f _ (by omega) (by omega), show decide ((s : Int) < 0) = false from decide_eq_false (by omega), show decide ((w : Int) < 0) = false from decide_eq_false (by omega)]
    rfl
theorem mn_eq (x y : Int) : mn x y = if y < x then y else x := rfl
theorem pow_ev (a n : Nat) (ha : a < 1000000000000000000) (hn : n ≤ 1000) : Evt (fun k => sample_power.f k (a : Int) (n : Int)) ((min (a ^ n) 1000000000000000000 : Nat) : Int) := by
  unfold sample_power.f
  have key : ∀ i, i ≤ n → ∀ x : Nat, x ≤ 1000000000000000000 → Evt (fun k => sample_power.l0 k (a : Int) (x : Int) (n : Int) (i : Nat)) ((min (x * a ^ (n - i)) 1000000000000000000 : Nat) : Int) := by
    refine down ?_ ?_
    · intro x hx
      refine Evt.succ (g := fun _ => some (x : Int)) ?_ (fun k => by simp only [sample_power.l0, Int.lt_irrefl, if_false])
      rw [Nat.sub_self, Nat.pow_zero, Nat.mul_one, Nat.min_eq_left hx]
      exact Evt.pure _
    · intro i hi ih x hx
      have e : n - i = (n - (i + 1)) + 1 := by omega
      by_cases h0 : a = 0
      · subst h0
        refine Evt.succ (g := fun k => sample_power.l0 k ((0 : Nat) : Int) ((0 : Nat) : Int) (n : Int) ((i + 1 : Nat) : Int)) ?_ (fun k => ?_)
        · have := ih 0 (by omega)
          rw [e, Nat.pow_succ]
          simpa using this
        · simp only [sample_power.l0]
          rw [if_pos (by omega), if_neg (by omega), wrap_up i n hi (by omega), show wrap64 ((x : Int) * ((0 : Nat) : Int)) = 0 by simp [wrap64], mn_eq, if_neg (by omega)]
          rfl
      · have hdiv : wrap64 (Int.tdiv (1000000000000000000 : Int) (a : Int)) = ((1000000000000000000 / a : Nat) : Int) := by
          rw [Int.tdiv_eq_ediv_of_nonneg (by omega)]
          have : (1000000000000000000 : Int) / (a : Int) = ((1000000000000000000 / a : Nat) : Int) := by rw [Int.natCast_ediv]; rfl
          rw [this]
          have h1 : 1000000000000000000 / a ≤ 1000000000000000000 := Nat.div_le_self _ _
          exact w64_nat _ (Nat.le_trans h1 (by omega))
        by_cases c : 1000000000000000000 / a < x
        · have hbig : 1000000000000000000 < x * a := by
            have := (Nat.div_lt_iff_lt_mul (by omega : 0 < a)).1 c
            exact this
          refine Evt.succ (g := fun _ => some (1000000000000000000 : Int)) ?_ (fun k => ?_)
          · have hge : x * a ≤ x * a ^ (n - i) := by
              rw [e, Nat.pow_succ]
              have : 1 ≤ a ^ (n - (i + 1)) := Nat.one_le_pow _ _ (by omega)
              calc x * a = x * (1 * a) := by rw [Nat.one_mul]
                _ ≤ x * (a ^ (n - (i + 1)) * a) := Nat.mul_le_mul_left _ (Nat.mul_le_mul_right _ this)
            rw [Nat.min_eq_right (by omega)]
            exact Evt.pure _
          · simp only [sample_power.l0]
            rw [if_pos (by omega), if_pos (by omega), if_neg (by omega), hdiv, if_pos (by omega)]
        · have hle : x * a ≤ 1000000000000000000 := by
            have h1 : x ≤ 1000000000000000000 / a := by omega
            exact (Nat.le_div_iff_mul_le (by omega)).1 h1
          have hm : wrap64 ((x : Int) * (a : Int)) = ((x * a : Nat) : Int) := by
            rw [← Int.natCast_mul]; exact w64_nat _ (Nat.le_trans hle (by omega))
          refine Evt.succ (g := fun k => sample_power.l0 k (a : Int) ((x * a : Nat) : Int) (n : Int) ((i + 1 : Nat) : Int)) ?_ (fun k => ?_)
          · have h := ih (x * a) hle
            have e2 : x * a * a ^ (n - (i + 1)) = x * a ^ (n - i) := by
              rw [e, Nat.pow_succ, Nat.mul_assoc, Nat.mul_comm a]
            rw [e2] at h
            exact h
          · simp only [sample_power.l0]
            rw [if_pos (by omega), if_pos (by omega), if_neg (by omega), hdiv, if_neg (by omega), hm, wrap_up i n hi (by omega), mn_eq, if_neg (by omega)]
  have := key 0 (by omega) 1 (by omega)
  simpa using this
end Go.Proofs.Ythkpgjjakdbbfaa.PFrac
