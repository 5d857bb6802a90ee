/-
  Comparing fractions, and the least number of samples, of the program and of the reference.
-/
import Derived.Test.YthkpgjjakdbbfaaPConf
import Derived.Test.YthkpgjjakdbbfaaPx11
import Derived.Test.YthkpgjjakdbbfaaPx31
set_option linter.unusedVariables false
set_option linter.unusedSimpArgs false
namespace Go.Proofs.Ythkpgjjakdbbfaa.PLeast
open Go.RowKit Go.Proofs.YthkpgjjakdbbfaaW.PrintWords Go.Proofs.YthkpgjjakdbbfaaW.PrintMore Go.Proofs.Ythkpgjjakdbbfaa.P Go.Proofs.Ythkpgjjakdbbfaa.Rnd Go.Proofs.Ythkpgjjakdbbfaa.Gen Go.Proofs.Ythkpgjjakdbbfaa.Binom Go.Proofs.Ythkpgjjakdbbfaa.Bits Go.Proofs.Ythkpgjjakdbbfaa.PFrac Go.Proofs.Ythkpgjjakdbbfaa.PWide Go.Proofs.Ythkpgjjakdbbfaa.PConf
def cmpV (x y : Int) : Int := if x < y then -1 else if y < x then 1 else 0
theorem cmp64_f (x y : Int) : cmp_Compare_int64.f x y = some (cmpV x y) := by
  unfold cmp_Compare_int64.f cmp_isNaN_int64.f cmpV
  simp only [bne_self_eq_false, Option.bind_some, Bool.false_eq_true, if_false, gt_iff_lt]
  by_cases h1 : x < y
  · rw [if_pos h1, if_pos h1]
  · by_cases h2 : y < x
    · rw [if_neg h1, if_neg h1, if_pos h2, if_pos h2]
    · rw [if_neg h1, if_neg h1, if_neg h2, if_neg h2]
theorem cmpu_f (x y : Int) : cmp_Compare_uint64.f x y = some (cmpV x y) := by
  unfold cmp_Compare_uint64.f cmp_isNaN_uint64.f cmpV
  simp only [bne_self_eq_false, Option.bind_some, Bool.false_eq_true, if_false, gt_iff_lt]
  by_cases h1 : x < y
  · rw [if_pos h1, if_pos h1]
  · by_cases h2 : y < x
    · rw [if_neg h1, if_neg h1, if_pos h2, if_pos h2]
    · rw [if_neg h1, if_neg h1, if_neg h2, if_neg h2]
theorem cmpi_f (x y : Int) : cmp_Compare_int.f x y = some (cmpV x y) := by
  unfold cmp_Compare_int.f cmp_isNaN_int.f cmpV
  simp only [bne_self_eq_false, Option.bind_some, Bool.false_eq_true, if_false, gt_iff_lt]
  by_cases h1 : x < y
  · rw [if_pos h1, if_pos h1]
  · by_cases h2 : y < x
    · rw [if_neg h1, if_neg h1, if_pos h2, if_pos h2]
    · rw [if_neg h1, if_neg h1, if_neg h2, if_neg h2]
theorem w01 : wrap64 (0 + 1) = 1 := by simp [wrap64]
theorem w12 : wrap64 (1 + 1) = 2 := by simp [wrap64]
theorem or_ev (x y : Int) : Evt (fun k => cmp_Or_int.f k [x, y]) (if x = 0 then y else x) := by
  unfold cmp_Or_int.f
  refine Evt.shift (Evt.shift (Evt.shift (Evt.const (fun k => ?_))))
  rw [cmp_Or_int.l0, if_pos (by simp), if_pos (by simp), if_pos (by simp), show rd [x, y] 0 = x from rfl]
  by_cases h : x = 0
  · rw [if_pos h, if_pos h, w01, cmp_Or_int.l0, if_pos (by simp), if_pos (by simp), if_pos (by simp), show rd [x, y] 1 = y from rfl]
    by_cases h2 : y = 0
    · rw [if_pos h2, w12, cmp_Or_int.l0, if_neg (by simp), h2]
    · rw [if_neg h2]
  · rw [if_neg h, if_neg h]
theorem compare_ev (m n : Nat) (s t : Bool) : Evt (fun k => fraction_compare.f k s (hiW m) (loW m) t (hiW n) (loW n)) (cmpV (m : Int) (n : Int)) := by
  unfold fraction_compare.f
  simp only [cmpu_f, Option.bind_some]
  refine Evt.bind (or_ev _ _) ?_
  refine Evt.const (fun k => ?_)
  congr 1
  unfold cmpV hiW loW
  by_cases h1 : ((m / 18446744073709551616 : Nat) : Int) < ((n / 18446744073709551616 : Nat) : Int)
  · rw [if_pos h1, if_neg (by omega), if_pos (by omega)]
  · by_cases h2 : ((n / 18446744073709551616 : Nat) : Int) < ((m / 18446744073709551616 : Nat) : Int)
    · rw [if_neg h1, if_pos h2, if_neg (by omega), if_neg (by omega), if_pos (by omega)]
    · rw [if_neg h1, if_neg h2, if_pos rfl]
      by_cases h3 : ((m % 18446744073709551616 : Nat) : Int) < ((n % 18446744073709551616 : Nat) : Int)
      · rw [if_pos h3, if_pos (by omega)]
      · by_cases h4 : ((n % 18446744073709551616 : Nat) : Int) < ((m % 18446744073709551616 : Nat) : Int)
        · rw [if_neg h3, if_pos h4, if_neg (by omega), if_pos (by omega)]
        · rw [if_neg h3, if_neg h4, if_neg (by omega), if_neg (by omega)]
theorem valid2_ev (n1 d1 n2 d2 : Int) (h1 : validB n1 d1 = true) (h2 : validB n2 d2 = true) : Evt (fun k => fraction_valid.f k [(⟨n1, d1⟩ : S33), (⟨n2, d2⟩ : S33)]) true := by
  unfold fraction_valid.f
  have hv1 := valid_ev n1 d1
  have hv2 := valid_ev n2 d2
  rw [h1] at hv1
  rw [h2] at hv2
  have t2 : Evt (fun k => fraction_valid.l0 k [(⟨n1, d1⟩ : S33), (⟨n2, d2⟩ : S33)] (([(⟨n1, d1⟩ : S33), (⟨n2, d2⟩ : S33)].length : Nat) : Int) 2) true := Evt.shift (Evt.const (fun k => by rw [fraction_valid.l0, if_neg (by simp)]))
  have t1 : Evt (fun k => fraction_valid.l0 k [(⟨n1, d1⟩ : S33), (⟨n2, d2⟩ : S33)] (([(⟨n1, d1⟩ : S33), (⟨n2, d2⟩ : S33)].length : Nat) : Int) 1) true := by
    refine Evt.succ (g := fun k => (fraction_Valid.f k n2 d2).bind fun t => if t = true then fraction_valid.l0 k [(⟨n1, d1⟩ : S33), (⟨n2, d2⟩ : S33)] (([(⟨n1, d1⟩ : S33), (⟨n2, d2⟩ : S33)].length : Nat) : Int) 2 else some false) ?_ (fun k => by rw [fraction_valid.l0, if_pos (by simp), if_pos (by simp), if_pos (by simp), w12]; rfl)
    refine Evt.bind hv2 ?_
    simp only [if_true]
    exact t2
  refine Evt.succ (g := fun k => (fraction_Valid.f k n1 d1).bind fun t => if t = true then fraction_valid.l0 k [(⟨n1, d1⟩ : S33), (⟨n2, d2⟩ : S33)] (([(⟨n1, d1⟩ : S33), (⟨n2, d2⟩ : S33)].length : Nat) : Int) 1 else some false) ?_ (fun k => by rw [fraction_valid.l0, if_pos (by simp), if_pos (by simp), if_pos (by simp), w01]; rfl)
  refine Evt.bind hv1 ?_
  simp only [if_true]
  exact t1
theorem sgn_zero : cmpV ((0 : Nat) : Int) 0 = 0 := rfl
theorem sgn_pos (n : Nat) (h : 0 < n) : cmpV (n : Int) 0 = 1 := by unfold cmpV; rw [if_neg (by omega), if_pos (by omega)]
theorem fcmp_ev (n1 d1 n2 d2 : Nat) (h1 : validB n1 d1 = true) (h2 : validB n2 d2 = true) : Evt (fun k => fraction_Cmp.f k (n1 : Int) (d1 : Int) (n2 : Int) (d2 : Int)) (cmpV ((n1 * d2 : Nat) : Int) ((n2 * d1 : Nat) : Int)) := by
  have f1 : 1 ≤ (d1 : Int) ∧ (d1 : Int) < 1000000000000000000 ∧ (n1 : Int) < 1000000000000000000 := by unfold validB at h1; simp at h1; omega
  have f2 : 1 ≤ (d2 : Int) ∧ (d2 : Int) < 1000000000000000000 ∧ (n2 : Int) < 1000000000000000000 := by unfold validB at h2; simp at h2; omega
  unfold fraction_Cmp.f
  refine Evt.bind (valid2_ev _ _ _ _ h1 h2) ?_
  simp only [if_true, ftimes_f n1 d2 (by omega) (by omega), ftimes_f n2 d1 (by omega) (by omega), Option.bind_some, fraction_sign.f, cmp64_f]
  refine Evt.shift ?_
  simp only [fraction_Cmp.j0]
  by_cases c : cmpV (n1 : Int) 0 = cmpV (n2 : Int) 0
  · have hneg : ¬ cmpV (n1 : Int) 0 < 0 := by
      by_cases z : n1 = 0
      · subst z; rw [sgn_zero]; omega
      · rw [sgn_pos n1 (by omega)]; omega
    simp only [if_pos c, if_neg hneg]
    exact Evt.bind (compare_ev _ _ _ _) (Evt.pure _)
  · simp only [if_neg c, cmpi_f, Option.bind_some]
    refine Evt.const (fun k => ?_)
    congr 1
    by_cases a1 : n1 = 0
    · subst a1
      by_cases a2 : n2 = 0
      · subst a2; exact absurd rfl c
      · have p1 : 0 < n2 * d1 := Nat.mul_pos (by omega) (by omega)
        rw [sgn_zero, sgn_pos n2 (by omega), Nat.zero_mul]
        unfold cmpV
        rw [if_pos (by omega), if_pos (by omega)]
    · by_cases a2 : n2 = 0
      · subst a2
        have p1 : 0 < n1 * d2 := Nat.mul_pos (by omega) (by omega)
        rw [sgn_zero, sgn_pos n1 (by omega), Nat.zero_mul]
        unfold cmpV
        rw [if_neg (by omega), if_pos (by omega), if_neg (by omega), if_pos (by omega)]
      · exact absurd (by rw [sgn_pos n1 (by omega), sgn_pos n2 (by omega)]) c
theorem conf_valid (a b n k : Nat) (hab : 0 < a + b) : (confV a b n k = (0, 0, 6)) ∨ ∃ x y : Nat, confV a b n k = ((x : Int), (y : Int), 0) ∧ validB x y = true := by
  unfold confV
  by_cases c : 1000000000000000000 ≤ (a + b) ^ n
  · rw [if_pos c]; exact .inl rfl
  · rw [if_neg c]
    right
    have hwp : 0 < (a + b) ^ n := Nat.pow_pos hab
    have hle : tailV a b n k ≤ (a + b) ^ n := tail_le a b n k (n + 1) (Nat.le_refl _)
    generalize (a + b) ^ n = W at *
    generalize tailV a b n k = S at *
    refine ⟨S / Nat.gcd S W, W / Nat.gcd S W, rfl, ?_⟩
    have hg : 0 < Nat.gcd S W := Nat.gcd_pos_of_pos_right _ hwp
    obtain ⟨p, hp⟩ := Nat.gcd_dvd_left S W
    obtain ⟨q, hq⟩ := Nat.gcd_dvd_right S W
    have hcop : Nat.gcd (S / Nat.gcd S W) (W / Nat.gcd S W) = 1 := by
      have e1 : S / Nat.gcd S W = p := by rw [Nat.div_eq_of_eq_mul_right hg hp]
      have e2 : W / Nat.gcd S W = q := by rw [Nat.div_eq_of_eq_mul_right hg hq]
      rw [e1, e2]
      have h := Nat.gcd_mul_left (Nat.gcd S W) p q
      rw [← hp, ← hq] at h
      have h2 : Nat.gcd S W * 1 = Nat.gcd S W * Nat.gcd p q := by rw [Nat.mul_one]; exact h
      exact (Nat.eq_of_mul_eq_mul_left hg h2).symm
    have d1 : S / Nat.gcd S W ≤ S := Nat.div_le_self _ _
    have d2 : W / Nat.gcd S W ≤ W := Nat.div_le_self _ _
    have d3 : 0 < W / Nat.gcd S W := Nat.div_pos (Nat.gcd_le_right _ hwp) hg
    unfold validB
    simp only [Int.natAbs_natCast, hcop]
    generalize S / Nat.gcd S W = P at *
    generalize W / Nat.gcd S W = Q at *
    rw [decide_eq_true (by omega), decide_eq_true (by omega), decide_eq_true (by omega), decide_eq_true (by omega)]
    rfl
end Go.Proofs.Ythkpgjjakdbbfaa.PLeast
