/-
  Comparing fractions, and the least number of samples, of the program and of the reference.
-/
import Derived.Test.YthkpgjjakdbbfaaPConf
import Derived.Test.YthkpgjjakdbbfaaPx11
import Derived.Test.YthkpgjjakdbbfaaPx31
set_option linter.unusedVariables false
set_option linter.unusedSimpArgs false
namespace Go.Proofs.Ythkpgjjakdbbfaa.PLeast
open Go.RowKit Go.Proofs.YthkpgjjakdbbfaaW.PrintWords Go.Proofs.YthkpgjjakdbbfaaW.PrintMore Go.Proofs.Ythkpgjjakdbbfaa.P Go.Proofs.Ythkpgjjakdbbfaa.Rnd Go.Proofs.Ythkpgjjakdbbfaa.Gen Go.Proofs.Ythkpgjjakdbbfaa.Binom Go.Proofs.Ythkpgjjakdbbfaa.Bits Go.Proofs.Ythkpgjjakdbbfaa.PFrac Go.Proofs.Ythkpgjjakdbbfaa.PWide Go.Proofs.Ythkpgjjakdbbfaa.PConf
def cmpV (x y : Int) : Int := if x < y then -1 else if y < x then 1 else 0
theorem cmp64_f (x y : Int) : cmp_Compare_int64.f x y = some (cmpV x y) := by
  unfold cmp_Compare_int64.f cmp_isNaN_int64.f cmpV
  simp only [bne_self_eq_false, Option.bind_some, Bool.false_eq_true, if_false, gt_iff_lt]
  by_cases h1 : x < y
  · rw [if_pos h1, if_pos h1]
  · by_cases h2 : y < x
    · rw [if_neg h1, if_neg h1, if_pos h2, if_pos h2]
    · rw [if_neg h1, if_neg h1, if_neg h2, if_neg h2]
theorem cmpu_f (x y : Int) : cmp_Compare_uint64.f x y = some (cmpV x y) := by
  unfold cmp_Compare_uint64.f cmp_isNaN_uint64.f cmpV
  simp only [bne_self_eq_false, Option.bind_some, Bool.false_eq_true, if_false, gt_iff_lt]
  by_cases h1 : x < y
  · rw [if_pos h1, if_pos h1]
  · by_cases h2 : y < x
    · rw [if_neg h1, if_neg h1, if_pos h2, if_pos h2]
    · rw [if_neg h1, if_neg h1, if_neg h2, if_neg h2]
theorem cmpi_f (x y : Int) : cmp_Compare_int.f x y = some (cmpV x y) := by
  unfold cmp_Compare_int.f cmp_isNaN_int.f cmpV
  simp only [bne_self_eq_false, Option.bind_some, Bool.false_eq_true, if_false, gt_iff_lt]
  by_cases h1 : x < y
  · rw [if_pos h1, if_pos h1]
  · by_cases h2 : y < x
    · rw [if_neg h1, if_neg h1, if_pos h2, if_pos h2]
    · rw [if_neg h1, if_neg h1, if_neg h2, if_neg h2]
theorem w01 : wrap64 (0 + 1) = 1 := by simp [wrap64]
theorem w12 : wrap64 (1 + 1) = 2 := by simp [wrap64]
theorem or_ev (x y : Int) : Evt (fun k => cmp_Or_int.f k [x, y]) (if x = 0 then y else x) := by
  unfold cmp_Or_int.f
  refine Evt.shift (Evt.shift (Evt.shift (Evt.const (fun k => ?_))))
  rw [cmp_Or_int.l0, if_pos (by simp), if_pos (by simp), if_pos (by simp), show rd [x, y] 0 = x from rfl]
  by_cases h : x = 0
  · rw [if_pos h, if_pos h, w01, cmp_Or_int.l0, if_pos (by simp), if_pos (by simp), if_pos (by simp), show rd [x, y] 1 = y from rfl]
    by_cases h2 : y = 0
    · rw [if_pos h2, w12, cmp_Or_int.l0, if_neg (by simp), h2]
    · rw [if_neg h2]
  · rw [if_neg h, if_neg h]
theorem compare_ev (m n : Nat) (s t : Bool) : Evt (fun k => fraction_compare.f k s (hiW m) (loW m) t (hiW n) (loW n)) (cmpV (m : Int) (n : Int)) := by
  unfold fraction_compare.f
  simp only [cmpu_f, Option.bind_some]
  refine Evt.bind (or_ev _ _) ?_
  refine Evt.const (fun k => ?_)
  congr 1
  unfold cmpV hiW loW
  by_cases h1 : ((m / 18446744073709551616 : Nat) : Int) < ((n / 18446744073709551616 : Nat) : Int)
  · rw [if_pos h1, if_neg (by omega), if_pos (by omega)]
  · by_cases h2 : ((n / 18446744073709551616 : Nat) : Int) < ((m / 18446744073709551616 : Nat) : Int)
    · rw [if_neg h1, if_pos h2, if_neg (by omega), if_neg (by omega), if_pos (by omega)]
    · rw [if_neg h1, if_neg h2, if_pos rfl]
      by_cases h3 : ((m % 18446744073709551616 : Nat) : Int) < ((n % 18446744073709551616 : Nat) : Int)
      · rw [if_pos h3, if_pos (by omega)]
      · by_cases h4 : ((n % 18446744073709551616 : Nat) : Int) < ((m % 18446744073709551616 : Nat) : Int)
        · rw [if_neg h3, if_pos h4, if_neg (by omega), if_pos (by omega)]
        · rw [if_neg h3, if_neg h4, if_neg (by omega), if_neg (by omega)]
theorem valid2_ev (n1 d1 n2 d2 : Int) (h1 : validB n1 d1 = true) (h2 : validB n2 d2 = true) : Evt (fun k => fraction_valid.f k [(⟨n1, d1⟩ : S33), (⟨n2, d2⟩ : S33)]) true := by
  unfold fraction_valid.f
  have hv1 := valid_ev n1 d1
  have hv2 := valid_ev n2 d2
  rw [h1] at hv1
  rw [h2] at hv2
  have t2 : Evt (fun k => fraction_valid.l0 k [(⟨n1, d1⟩ : S33), (⟨n2, d2⟩ : S33)] (([(⟨n1, d1⟩ : S33), (⟨n2, d2⟩ : S33)].length : Nat) : Int) 2) true := Evt.shift (Evt.const (fun k => by rw [fraction_valid.l0, if_neg (by simp)]))
  have t1 : Evt (fun k => fraction_valid.l0 k [(⟨n1, d1⟩ : S33), (⟨n2, d2⟩ : S33)] (([(⟨n1, d1⟩ : S33), (⟨n2, d2⟩ : S33)].length : Nat) : Int) 1) true := by
    refine Evt.succ (g := fun k => (fraction_Valid.f k n2 d2).bind fun t => if t = true then fraction_valid.l0 k [(⟨n1, d1⟩ : S33), (⟨n2, d2⟩ : S33)] (([(⟨n1, d1⟩ : S33), (⟨n2, d2⟩ : S33)].length : Nat) : Int) 2 else some false) ?_ (fun k => by rw [fraction_valid.l0, if_pos (by simp), if_pos (by simp), if_pos (by simp), w12]; rfl)
    refine Evt.bind hv2 ?_
    simp only [if_true]
    exact t2
  refine Evt.succ (g := fun k => (fraction_Valid.f k n1 d1).bind fun t => if t = true then fraction_valid.l0 k [(⟨n1, d1⟩ : S33), (⟨n2, d2⟩ : S33)] (([(⟨n1, d1⟩ : S33), (⟨n2, d2⟩ : S33)].length : Nat) : Int) 1 else some false) ?_ (fun k => by rw [fraction_valid.l0, if_pos (by simp), if_pos (by simp), if_pos (by simp), w01]; rfl)
  refine Evt.bind hv1 ?_
  simp only [if_true]
  exact t1
theorem sgn_zero : cmpV ((0 : Nat) : Int) 0 = 0 := rfl
theorem sgn_pos (n : Nat) (h : 0 < n) : cmpV (n : Int) 0 = 1 := by unfold cmpV; rw [if_neg (by omega), if_pos (by omega)]
theorem fcmp_ev (n1 d1 n2 d2 : Nat) (h1 : validB n1 d1 = true) (h2 : validB n2 d2 = true) : Evt (fun k => fraction_Cmp.f k (n1 : Int) (d1 : Int) (n2 : Int) (d2 : Int)) (cmpV ((n1 * d2 : Nat) : Int) ((n2 * d1 : Nat) : Int)) := by
  have f1 : 1 ≤ (d1 : Int) ∧ (d1 : Int) < 1000000000000000000 ∧ (n1 : Int) < 1000000000000000000 := by unfold validB at h1; simp at h1; omega
  have f2 : 1 ≤ (d2 : Int) ∧ (d2 : Int) < 1000000000000000000 ∧ (n2 : Int) < 1000000000000000000 := by unfold validB at h2; simp at h2; omega
  unfold fraction_Cmp.f
  refine Evt.bind (valid2_ev _ _ _ _ h1 h2) ?_
  simp only [if_true, ftimes_f n1 d2 (by omega) (by omega), ftimes_f n2 d1 (by omega) (by omega), Option.bind_some, fraction_sign.f, cmp64_f]
  refine Evt.shift ?_
  simp only [fraction_Cmp.j0]
  by_cases c : cmpV (n1 : Int) 0 = cmpV (n2 : Int) 0
  · have hneg : ¬ cmpV (n1 : Int) 0 < 0 := by
      by_cases z : n1 = 0
      · subst z; rw [sgn_zero]; omega
      · rw [sgn_pos n1 (by omega)]; omega
    simp only [if_pos c, if_neg hneg]
    exact Evt.bind (compare_ev _ _ _ _) (Evt.pure _)
  · simp only [if_neg c, cmpi_f, Option.bind_some]
    refine Evt.const (fun k => ?_)
    congr 1
    by_cases a1 : n1 = 0
    · subst a1
      by_cases a2 : n2 = 0
      · subst a2; exact absurd rfl c
      · have p1 : 0 < n2 * d1 := Nat.mul_pos (by omega) (by omega)
        rw [sgn_zero, sgn_pos n2 (by omega), Nat.zero_mul]
        unfold cmpV
        rw [if_pos (by omega), if_pos (by omega)]
    · by_cases a2 : n2 = 0
      · subst a2
        have p1 : 0 < n1 * d2 := Nat.mul_pos (by omega) (by omega)
        rw [sgn_zero, sgn_pos n1 (by omega), Nat.zero_mul]
        unfold cmpV
        rw [if_neg (by omega), if_pos (by omega), if_neg (by omega), if_pos (by omega)]
      · exact absurd (by rw [sgn_pos n1 (by omega), sgn_pos n2 (by omega)]) c
theorem rcmp_f (n1 d1 n2 d2 : Nat) (a1 : n1 ≤ 1000000000000000000) (a2 : d1 ≤ 1000000000000000000) (a3 : n2 ≤ 1000000000000000000) (a4 : d2 ≤ 1000000000000000000) : gangsawref04_Cmp.f (n1 : Int) (d1 : Int) (n2 : Int) (d2 : Int) = some (cmpV ((n1 * d2 : Nat) : Int) ((n2 * d1 : Nat) : Int)) := by
  have b1 : n1 * d2 ≤ 1000000000000000000 * 1000000000000000000 := Nat.mul_le_mul a1 a4
  have b2 : n2 * d1 ≤ 1000000000000000000 * 1000000000000000000 := Nat.mul_le_mul a3 a2
  unfold gangsawref04_Cmp.f
  rw [rtimes_f n1 d2 (by omega) (by omega), Option.bind_some, rtimes_f n2 d1 (by omega) (by omega), Option.bind_some]
  unfold gangsawref04_minus.f
  rw [Option.bind_some]
  generalize n1 * d2 = X at *
  generalize n2 * d1 = Y at *
  have hz : ∀ (m : Nat) (s : Bool), m < 340282366920938463463374607431768211456 → gangsawref04_wide_zero.f (hiW m) (loW m) s = some (m == 0) := by
    intro m s hm
    unfold gangsawref04_wide_zero.f hiW loW
    by_cases c : ((m / 18446744073709551616 : Nat) : Int) = 0
    · rw [if_pos c]
      congr 1
      rw [Bool.eq_iff_iff, beq_iff_eq, beq_iff_eq]
      omega
    · rw [if_neg c]
      congr 1
      symm
      rw [beq_eq_false_iff_ne]
      omega
  unfold cmpV
  by_cases c : Y ≤ X
  · rw [minus_f X Y false (by omega) c, Option.bind_some, hz _ _ (by omega), Option.bind_some]
    by_cases e : X = Y
    · rw [if_pos (by rw [beq_iff_eq]; omega), if_neg (by omega), if_neg (by omega)]
    · rw [if_neg (by rw [beq_iff_eq]; omega), if_neg (by simp), if_neg (by omega), if_pos (by omega)]
  · rw [minus2_f X Y false (by omega) (by omega), Option.bind_some, hz _ _ (by omega), Option.bind_some, if_neg (by rw [beq_iff_eq]; omega), if_pos (by rfl), if_pos (by omega)]
theorem conf_valid (a b n k : Nat) (hab : 0 < a + b) : (confV a b n k = (0, 0, 6)) ∨ ∃ x y : Nat, confV a b n k = ((x : Int), (y : Int), 0) ∧ validB x y = true := by
  unfold confV
  by_cases c : 1000000000000000000 ≤ (a + b) ^ n
  · rw [if_pos c]; exact .inl rfl
  · rw [if_neg c]
    right
    have hwp : 0 < (a + b) ^ n := Nat.pow_pos hab
    have hle : tailV a b n k ≤ (a + b) ^ n := tail_le a b n k (n + 1) (Nat.le_refl _)
    generalize (a + b) ^ n = W at *
    generalize tailV a b n k = S at *
    refine ⟨S / Nat.gcd S W, W / Nat.gcd S W, rfl, ?_⟩
    have hg : 0 < Nat.gcd S W := Nat.gcd_pos_of_pos_right _ hwp
    obtain ⟨p, hp⟩ := Nat.gcd_dvd_left S W
    obtain ⟨q, hq⟩ := Nat.gcd_dvd_right S W
    have hcop : Nat.gcd (S / Nat.gcd S W) (W / Nat.gcd S W) = 1 := by
      have e1 : S / Nat.gcd S W = p := by rw [Nat.div_eq_of_eq_mul_right hg hp]
      have e2 : W / Nat.gcd S W = q := by rw [Nat.div_eq_of_eq_mul_right hg hq]
      rw [e1, e2]
      have h := Nat.gcd_mul_left (Nat.gcd S W) p q
      rw [← hp, ← hq] at h
      have h2 : Nat.gcd S W * 1 = Nat.gcd S W * Nat.gcd p q := by rw [Nat.mul_one]; exact h
      exact (Nat.eq_of_mul_eq_mul_left hg h2).symm
    have d1 : S / Nat.gcd S W ≤ S := Nat.div_le_self _ _
    have d2 : W / Nat.gcd S W ≤ W := Nat.div_le_self _ _
    have d3 : 0 < W / Nat.gcd S W := Nat.div_pos (Nat.gcd_le_right _ hwp) hg
    unfold validB
    simp only [Int.natAbs_natCast, hcop]
    generalize S / Nat.gcd S W = P at *
    generalize W / Nat.gcd S W = Q at *
    rw [decide_eq_true (by omega), decide_eq_true (by omega), decide_eq_true (by omega), decide_eq_true (by omega)]
    rfl
/-- The least number of samples, from m on (d more can be tried). -/
def leastV (a b k wn wd : Nat) (m : Nat) : Nat → Int × Int
  | 0 => (0, 9)
  | d + 1 => if (confV a b m k).2.2 = 0 then (if 0 ≤ cmpV ((confV a b m k).1 * (wd : Int)) ((wn : Int) * (confV a b m k).2.1) then ((m : Int), 0) else leastV a b k wn wd (m + 1) d) else (0, 9)
theorem sleast_loop (a b k wn wd : Nat) (hab : 0 < a + b) (hd : a + b < 1000000000000000000) (hw : validB wn wd = true) : ∀ d m : Nat, m + d = 60 → k ≤ m → Evt (fun f => sample_Least.l0 f (k : Int) (m : Int) (a : Int) ((a + b : Nat) : Int) (wn : Int) (wd : Int)) (leastV a b k wn wd m d) := by
  intro d
  induction d with
  | zero =>
    intro m hm hk
    refine Evt.shift ?_
    refine Evt.const (fun f => ?_)
    rw [sample_Least.l0, if_neg (by omega)]
    rfl
  | succ d ih =>
    intro m hm hk
    have ih := ih (m + 1) (by omega) (by omega)
    refine Evt.shift ?_
    refine Evt.of_eq (g := fun f => (sample_confidence.f f (m : Int) (k : Int) (a : Int) ((a + b : Nat) : Int)).bind fun bt => if bt.2.2 = 0 then ((fraction_Cmp.f f bt.1 bt.2.1 (wn : Int) (wd : Int)).bind fun t => if t ≥ 0 then some ((m : Int), 0) else sample_Least.l0 f (k : Int) ((m + 1 : Nat) : Int) (a : Int) ((a + b : Nat) : Int) (wn : Int) (wd : Int)) else some (0, 9)) ?_ (fun f => by rw [sample_Least.l0, if_pos (by omega), wrap_up m 1000 (by omega) (by omega)])
    refine Evt.bind (confidence_ev a b m k (by omega) (by omega) hab hd) ?_
    rcases conf_valid a b m k hab with h | ⟨x, y, h, hv⟩
    · simp only [leastV, h]
      exact Evt.const (fun f => by simp)
    · simp only [leastV, h, if_true]
      refine Evt.bind (fcmp_ev x y wn wd hv hw) ?_
      rw [Int.natCast_mul, Int.natCast_mul]
      by_cases c : 0 ≤ cmpV ((x : Int) * (wd : Int)) ((wn : Int) * (y : Int))
      · rw [if_pos c]; exact Evt.const (fun f => by rw [if_pos c])
      · rw [if_neg c]; exact Evt.of_eq ih (fun f => by rw [if_neg c])
theorem rleast_loop (a b k wn wd : Nat) (hu : unitB (a : Int) ((a + b : Nat) : Int) = true) (hk1 : 1 ≤ k) (hw : validB wn wd = true) : ∀ d m : Nat, m + d = 60 → k ≤ m → Evt (fun f => gangsawref33_Least.l0 f (k : Int) (m : Int) (a : Int) ((a + b : Nat) : Int) (wn : Int) (wd : Int)) (leastV a b k wn wd m d) := by
  obtain ⟨u1, u2, u3, u4, u5⟩ := unit_facts hu
  have f2 : (wd : Int) < 1000000000000000000 ∧ (wn : Int) < 1000000000000000000 := by unfold validB at hw; simp at hw; omega
  intro d
  induction d with
  | zero =>
    intro m hm hk
    refine Evt.shift ?_
    refine Evt.const (fun f => ?_)
    rw [gangsawref33_Least.l0, if_neg (by omega)]
    rfl
  | succ d ih =>
    intro m hm hk
    have ih := ih (m + 1) (by omega) (by omega)
    refine Evt.shift ?_
    refine Evt.of_eq (g := fun f => (gangsawref33_Confidence.f f (m : Int) (k : Int) (a : Int) ((a + b : Nat) : Int)).bind fun bt => if bt.2.2 = 0 then ((gangsawref04_Cmp.f bt.1 bt.2.1 (wn : Int) (wd : Int)).bind fun t => if t ≥ 0 then some ((m : Int), 0) else gangsawref33_Least.l0 f (k : Int) ((m + 1 : Nat) : Int) (a : Int) ((a + b : Nat) : Int) (wn : Int) (wd : Int)) else some (0, 9)) ?_ (fun f => by rw [gangsawref33_Least.l0, if_pos (by omega), wrap_up m 1000 (by omega) (by omega)])
    have hc := rconfidence_ev (a : Int) ((a + b : Nat) : Int) (m : Int) (k : Int)
    rw [if_pos ⟨hu, by omega, by omega, by omega, by omega⟩, show (((a + b : Nat) : Int) - (a : Int)).toNat = b by omega] at hc
    simp only [Int.toNat_natCast] at hc
    refine Evt.bind hc ?_
    rcases conf_valid a b m k (by omega) with h | ⟨x, y, h, hv⟩
    · simp only [leastV, h]
      exact Evt.const (fun f => by simp)
    · have f3 : (y : Int) < 1000000000000000000 ∧ (x : Int) < 1000000000000000000 := by unfold validB at hv; simp at hv; omega
      simp only [leastV, h, if_true, rcmp_f x y wn wd (by omega) (by omega) (by omega) (by omega), Option.bind_some]
      rw [Int.natCast_mul, Int.natCast_mul]
      by_cases c : 0 ≤ cmpV ((x : Int) * (wd : Int)) ((wn : Int) * (y : Int))
      · rw [if_pos c]; exact Evt.const (fun f => by rw [if_pos c])
      · rw [if_neg c]; exact Evt.of_eq ih (fun f => by rw [if_neg c])
theorem unit_valid {n d : Int} (h : unitB n d = true) : validB n d = true := by unfold unitB at h; simp at h; exact h.1.1
theorem least_ev (k n d wn wd : Int) : ∃ v, Evt (fun f => sample_Least.f f k n d wn wd) v ∧ Evt (fun f => gangsawref33_Least.f f k n d wn wd) v := by
  have hbad1 : Evt (fun f => sample_Least.j0 f k true n d wn wd) (0, 1) := Evt.shift (Evt.const (fun f => by rw [sample_Least.j0, if_pos rfl]))
  have hbad2 : Evt (fun f => gangsawref33_Least.j0 f k true n d wn wd) (0, 1) := Evt.shift (Evt.const (fun f => by rw [gangsawref33_Least.j0, if_pos rfl]))
  by_cases hu : unitB n d = true
  · by_cases hw : unitB wn wd = true
    · have c1 := chance_ev n d
      have c2 := chance_ev wn wd
      have c3 := unit_ev n d
      have c4 := unit_ev wn wd
      rw [hu] at c1 c3
      rw [hw] at c2 c4
      by_cases hk : 1 ≤ k ∧ k ≤ 59
      · obtain ⟨f1, f2, f3, f4, f5⟩ := unit_facts hu
        obtain ⟨g1, g2, g3, g4, g5⟩ := unit_facts hw
        obtain ⟨a, rfl⟩ := Int.eq_ofNat_of_zero_le f3
        obtain ⟨b, hb⟩ := Int.eq_ofNat_of_zero_le (show 0 ≤ d - (a : Int) by omega)
        obtain rfl : d = ((a + b : Nat) : Int) := by omega
        obtain ⟨k, rfl⟩ := Int.eq_ofNat_of_zero_le (show 0 ≤ k by omega)
        obtain ⟨wn, rfl⟩ := Int.eq_ofNat_of_zero_le g3
        obtain ⟨wd, rfl⟩ := Int.eq_ofNat_of_zero_le (show 0 ≤ wd by omega)
        refine ⟨leastV a b k wn wd k (60 - k), ?_, ?_⟩
        · unfold sample_Least.f
          refine Evt.bind c1 ?_
          simp only [if_true]
          refine Evt.bind c2 ?_
          refine Evt.of_eq (g := fun f => sample_Least.j0 f (k : Int) false (a : Int) ((a + b : Nat) : Int) (wn : Int) (wd : Int)) ?_ (fun f => by rw [if_pos rfl, if_neg (by omega), decide_eq_false (by omega)])
          refine Evt.succ (sleast_loop a b k wn wd (by omega) (by omega) (unit_valid hw) (60 - k) k (by omega) (Nat.le_refl _)) (fun f => by rw [sample_Least.j0, if_neg (by simp)])
        · unfold gangsawref33_Least.f
          refine Evt.bind c3 ?_
          simp only [if_true]
          refine Evt.bind c4 ?_
          refine Evt.of_eq (g := fun f => gangsawref33_Least.j0 f (k : Int) false (a : Int) ((a + b : Nat) : Int) (wn : Int) (wd : Int)) ?_ (fun f => by rw [if_pos rfl, if_neg (by omega), decide_eq_false (by omega)])
          refine Evt.succ (rleast_loop a b k wn wd hu (by omega) (unit_valid hw) (60 - k) k (by omega) (Nat.le_refl _)) (fun f => by rw [gangsawref33_Least.j0, if_neg (by simp)])
      · refine ⟨(0, 1), ?_, ?_⟩
        · unfold sample_Least.f
          refine Evt.bind c1 ?_
          simp only [if_true]
          refine Evt.bind c2 ?_
          by_cases h1 : k < 1
          · exact Evt.of_eq hbad1 (fun f => by rw [if_pos rfl, if_pos h1])
          · exact Evt.of_eq hbad1 (fun f => by rw [if_pos rfl, if_neg h1, decide_eq_true (by omega)])
        · unfold gangsawref33_Least.f
          refine Evt.bind c3 ?_
          simp only [if_true]
          refine Evt.bind c4 ?_
          by_cases h1 : k < 1
          · exact Evt.of_eq hbad2 (fun f => by rw [if_pos rfl, if_pos h1])
          · exact Evt.of_eq hbad2 (fun f => by rw [if_pos rfl, if_neg h1, decide_eq_true (by omega)])
    · have hw : unitB wn wd = false := by simpa using hw
      have c1 := chance_ev n d
      have c2 := chance_ev wn wd
      have c3 := unit_ev n d
      have c4 := unit_ev wn wd
      rw [hu] at c1 c3
      rw [hw] at c2 c4
      refine ⟨(0, 1), ?_, ?_⟩
      · unfold sample_Least.f
        refine Evt.bind c1 ?_
        simp only [if_true]
        refine Evt.bind c2 ?_
        exact Evt.of_eq hbad1 (fun f => by simp)
      · unfold gangsawref33_Least.f
        refine Evt.bind c3 ?_
        simp only [if_true]
        refine Evt.bind c4 ?_
        exact Evt.of_eq hbad2 (fun f => by simp)
  · have hu : unitB n d = false := by simpa using hu
    have c1 := chance_ev n d
    have c3 := unit_ev n d
    rw [hu] at c1 c3
    refine ⟨(0, 1), ?_, ?_⟩
    · unfold sample_Least.f
      refine Evt.bind c1 ?_
      exact Evt.of_eq hbad1 (fun f => by simp)
    · unfold gangsawref33_Least.f
      refine Evt.bind c3 ?_
      exact Evt.of_eq hbad2 (fun f => by simp)
end Go.Proofs.Ythkpgjjakdbbfaa.PLeast
