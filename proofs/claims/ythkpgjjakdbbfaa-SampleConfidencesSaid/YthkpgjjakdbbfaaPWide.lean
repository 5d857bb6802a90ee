/-
  The reference's numbers of 128 bits, and its fractions, in plain numbers.
-/
import Derived.Test.YthkpgjjakdbbfaaPFrac
import Derived.Test.YthkpgjjakdbbfaaBits
import Derived.Test.YthkpgjjakdbbfaaPx27
import Derived.Test.YthkpgjjakdbbfaaPx30
set_option linter.unusedVariables false
set_option linter.unusedSimpArgs false
namespace Go.Proofs.Ythkpgjjakdbbfaa.PWide
open Go.RowKit Go.Proofs.YthkpgjjakdbbfaaW.PrintWords Go.Proofs.YthkpgjjakdbbfaaW.PrintMore Go.Proofs.Ythkpgjjakdbbfaa.P Go.Proofs.Ythkpgjjakdbbfaa.Rnd Go.Proofs.Ythkpgjjakdbbfaa.Gen Go.Proofs.Ythkpgjjakdbbfaa.Binom Go.Proofs.Ythkpgjjakdbbfaa.Bits Go.Proofs.Ythkpgjjakdbbfaa.PFrac

def hiW (n : Nat) : Int := ((n / 18446744073709551616 : Nat) : Int)
def loW (n : Nat) : Int := ((n % 18446744073709551616 : Nat) : Int)
theorem rsize_f (a : Int) (h0 : -9223372036854775808 ≤ a) (h1 : a ≤ 9223372036854775807) : gangsawref04_size.f a = some (a.natAbs : Int) := by
  unfold gangsawref04_size.f
  simp only [u64_mod]
  by_cases c : a < 0
  · rw [if_pos c]; congr 1; omega
  · rw [if_neg c]; congr 1; omega
theorem mul_parts (x1 x0 y1 y0 : Nat) (hx1 : x1 < 4294967296) (hx0 : x0 < 4294967296) (hy1 : y1 < 4294967296) (hy0 : y0 < 4294967296) :
    x1 * y1 ≤ 18446744065119617025 ∧ x1 * y0 ≤ 18446744065119617025 ∧ x0 * y1 ≤ 18446744065119617025 ∧ x0 * y0 ≤ 18446744065119617025 :=
  ⟨Nat.mul_le_mul (by omega : x1 ≤ 4294967295) (by omega : y1 ≤ 4294967295), Nat.mul_le_mul (by omega : x1 ≤ 4294967295) (by omega : y0 ≤ 4294967295), Nat.mul_le_mul (by omega : x0 ≤ 4294967295) (by omega : y1 ≤ 4294967295), Nat.mul_le_mul (by omega : x0 ≤ 4294967295) (by omega : y0 ≤ 4294967295)⟩
theorem split32 (x1 x0 : Nat) (h : x0 < 4294967296) : ((x1 * 4294967296 + x0 : Nat) : Int) / 4294967296 = (x1 : Int) ∧ ((x1 * 4294967296 + x0 : Nat) : Int) % 4294967296 = (x0 : Int) := by omega
theorem mul64_f (a b : Nat) (ha : a < 18446744073709551616) (hb : b < 18446744073709551616) : bits_Mul64.f (a : Int) (b : Int) = some (hiW (a * b), loW (a * b)) := by
  unfold bits_Mul64.f hiW loW
  rw [and_lo _ (by omega) (by omega), and_lo _ (by omega) (by omega)]
  obtain ⟨x1, x0, rfl, hx1, hx0⟩ : ∃ x1 x0 : Nat, a = x1 * 4294967296 + x0 ∧ x1 < 4294967296 ∧ x0 < 4294967296 := ⟨a / 4294967296, a % 4294967296, by omega, by omega, by omega⟩
  obtain ⟨y1, y0, rfl, hy1, hy0⟩ : ∃ y1 y0 : Nat, b = y1 * 4294967296 + y0 ∧ y1 < 4294967296 ∧ y0 < 4294967296 := ⟨b / 4294967296, b % 4294967296, by omega, by omega, by omega⟩
  obtain ⟨e1, e2⟩ := split32 x1 x0 hx0
  obtain ⟨e3, e4⟩ := split32 y1 y0 hy0
  rw [e1, e2, e3, e4]
  obtain ⟨hp, hq, hr, hs⟩ := mul_parts x1 x0 y1 y0 hx1 hx0 hy1 hy0
  have em : (x1 * 4294967296 + x0) * (y1 * 4294967296 + y0) = x1 * y1 * 18446744073709551616 + (x1 * y0 + x0 * y1) * 4294967296 + x0 * y0 := by grind
  have ei : ((x1 * 4294967296 + x0 : Nat) : Int) * ((y1 * 4294967296 + y0 : Nat) : Int) = (((x1 * 4294967296 + x0) * (y1 * 4294967296 + y0) : Nat) : Int) := by rw [Int.natCast_mul]
  rw [ei, em]
  have f1 : (x1 : Int) * (y1 : Int) = ((x1 * y1 : Nat) : Int) := by rw [Int.natCast_mul]
  have f2 : (x1 : Int) * (y0 : Int) = ((x1 * y0 : Nat) : Int) := by rw [Int.natCast_mul]
  have f3 : (x0 : Int) * (y1 : Int) = ((x0 * y1 : Nat) : Int) := by rw [Int.natCast_mul]
  have f4 : (x0 : Int) * (y0 : Int) = ((x0 * y0 : Nat) : Int) := by rw [Int.natCast_mul]
  rw [f1, f2, f3, f4]
  generalize x1 * y1 = p at *
  generalize x1 * y0 = q at *
  generalize x0 * y1 = r at *
  generalize x0 * y0 = s at *
  clear em ei f1 f2 f3 f4 e1 e2 e3 e4
  have g1 : IntKind.u64.wrap (s : Int) = (s : Int) := u64_nat _ (by omega)
  have g2 : IntKind.u64.wrap (q : Int) = (q : Int) := u64_nat _ (by omega)
  have g3 : IntKind.u64.wrap (p : Int) = (p : Int) := u64_nat _ (by omega)
  have g4 : IntKind.u64.wrap (r : Int) = (r : Int) := u64_nat _ (by omega)
  rw [g1, g2, g3, g4]
  have g5 : IntKind.u64.wrap ((q : Int) + (s : Int) / 4294967296) = ((q + s / 4294967296 : Nat) : Int) := by rw [u64_mod]; omega
  rw [g5]
  have g6 : Go.bits .and .u64 ((q + s / 4294967296 : Nat) : Int) 4294967295 = (((q + s / 4294967296) % 4294967296 : Nat) : Int) := by rw [and_lo _ (by omega) (by omega)]; omega
  rw [g6]
  simp only [u64_mod]
  refine congrArg some (Prod.ext ?_ ?_)
  · show _ = (_ : Int)
    omega
  · show _ = (_ : Int)
    omega
theorem rtimes_f (a b : Nat) (ha : a ≤ 9223372036854775807) (hb : b ≤ 9223372036854775807) : gangsawref04_times.f (a : Int) (b : Int) = some (hiW (a * b), loW (a * b), false) := by
  unfold gangsawref04_times.f
  rw [rsize_f _ (by omega) (by omega), Option.bind_some, rsize_f _ (by omega) (by omega), Option.bind_some, Int.natAbs_natCast, Int.natAbs_natCast, mul64_f a b (by omega) (by omega), Option.bind_some, decide_eq_false (by omega), decide_eq_false (by omega)]
  rfl
theorem above_f (m n : Nat) (s t : Bool) : gangsawref04_above.f (hiW m) (loW m) s (hiW n) (loW n) t = some (decide (n < m)) := by
  unfold gangsawref04_above.f hiW loW
  by_cases c : ((m / 18446744073709551616 : Nat) : Int) > ((n / 18446744073709551616 : Nat) : Int)
  · rw [if_pos c, decide_eq_true (by omega)]
  · rw [if_neg c]
    by_cases c2 : ((m / 18446744073709551616 : Nat) : Int) = ((n / 18446744073709551616 : Nat) : Int)
    · rw [if_pos c2]
      congr 1
      rw [decide_eq_decide]
      omega
    · rw [if_neg c2, decide_eq_false (by omega)]
theorem minus_f (r y : Nat) (s : Bool) (hr : r < 340282366920938463463374607431768211456) (h : y ≤ r) : gangsawref04_plus.f (hiW r) (loW r) s (hiW y) (loW y) (!s) = some (hiW (r - y), loW (r - y), s) := by
  unfold gangsawref04_plus.f
  rw [if_neg (by cases s <;> simp), above_f, Option.bind_some, decide_eq_false (by omega), if_neg (by simp)]
  unfold bits_Sub64.f hiW loW
  rw [if_pos (by omega), if_pos (by omega), if_pos (by omega), if_pos (by omega), if_pos (by omega), Option.bind_some]
  simp only [Int.add_zero, Int.sub_zero]
  by_cases c : ((r % 18446744073709551616 : Nat) : Int) < ((y % 18446744073709551616 : Nat) : Int)
  · rw [if_pos c, if_pos (by omega), if_pos (by omega), if_pos (by omega), if_pos (by omega), if_pos (by omega), Option.bind_some]
    refine congrArg some (Prod.ext ?_ (Prod.ext ?_ rfl))
    · show _ = (_ : Int); simp only; omega
    · show _ = (_ : Int); simp only; omega
  · rw [if_neg c, if_pos (by omega), if_pos (by omega), if_pos (by omega), if_pos (by omega), if_pos (by omega), Option.bind_some]
    refine congrArg some (Prod.ext ?_ (Prod.ext ?_ rfl))
    · show _ = (_ : Int); simp only; omega
    · show _ = (_ : Int); simp only; omega
theorem and_one (x : Int) (h0 : 0 ≤ x) (h1 : x < 18446744073709551616) : Go.bits .and .u64 x 1 = x % 2 := by
  have := bits_mask .u64 64 (by decide) u64_in 1 (by decide) x h0 (by omega)
  exact this
theorem and_one_nat (n : Nat) (h : n < 18446744073709551616) : Go.bits .and .u64 (n : Int) 1 = ((n % 2 : Nat) : Int) := by rw [and_one _ (by omega) (by omega)]; omega
theorem or_bit (x y : Int) (hx0 : 0 ≤ x) (hx : x % 2 = 0) (hx1 : x < 18446744073709551616) (hy0 : 0 ≤ y) (hy : y < 2) : Go.bits .or .u64 x y = x + y :=
  bits_join .u64 64 (by decide) u64_in 1 x y hx0 hx (by omega) hy0 hy (by omega)
theorem bit_f (x i : Nat) (s : Bool) (hx : x < 340282366920938463463374607431768211456) (hi : i < 128) : gangsawref04_wide_bit.f (hiW x) (loW x) s (i : Int) = some ((x / 2 ^ i % 2 : Nat) : Int) := by
  unfold gangsawref04_wide_bit.f
  by_cases c : 64 ≤ i
  · obtain ⟨j, rfl⟩ : ∃ j, i = 64 + j := ⟨i - 64, by omega⟩
    rw [if_pos (by omega), wrap_mid _ (by omega) (by omega), show ((64 + j : Nat) : Int) - 64 = (j : Int) by omega, if_pos (by omega)]
    unfold shr hiW
    rw [show min ((j : Int).toNat) IntKind.u64.bits = j by show min j 64 = j; omega]
    have e : ((x / 18446744073709551616 : Nat) : Int) / 2 ^ j = ((x / 18446744073709551616 / 2 ^ j : Nat) : Int) := by rw [Int.natCast_ediv]; simp
    have hb : x / 18446744073709551616 / 2 ^ j < 18446744073709551616 := Nat.lt_of_le_of_lt (Nat.div_le_self _ _) (by omega)
    rw [e, and_one_nat _ hb, Nat.div_div_eq_div_mul, Nat.pow_add]
  · rw [if_neg (by omega), if_pos (by omega)]
    unfold shr loW
    rw [show min ((i : Int).toNat) IntKind.u64.bits = i by show min i 64 = i; omega]
    have e : ((x % 18446744073709551616 : Nat) : Int) / 2 ^ i = ((x % 18446744073709551616 / 2 ^ i : Nat) : Int) := by rw [Int.natCast_ediv]; simp
    have hb : x % 18446744073709551616 / 2 ^ i < 18446744073709551616 := Nat.lt_of_le_of_lt (Nat.div_le_self _ _) (by omega)
    rw [e, and_one_nat _ hb]
    have e2 : x % 18446744073709551616 / 2 ^ i % 2 = x / 2 ^ i % 2 := by
      have hp : (18446744073709551616 : Nat) = 2 ^ i * (2 * 2 ^ (63 - i)) := by
        rw [← Nat.pow_succ', ← Nat.pow_add, show i + (63 - i + 1) = 64 by omega]
      rw [hp, Nat.mod_mul_right_div_self, Nat.mod_mul_right_mod]
    rw [e2]
theorem dbl_hi (n : Nat) (h : n < 170141183460469231731687303715884105728) : Go.bits .or .u64 (IntKind.u64.wrap (hiW n * 2)) (loW n / 9223372036854775808) = hiW (2 * n) := by
  unfold hiW loW
  rw [u64_mod, or_bit _ _ (by omega) (by omega) (by omega) (by omega) (by omega)]
  omega
theorem dbl_lo (n b : Nat) (h : n < 170141183460469231731687303715884105728) (hb : b < 2) : Go.bits .or .u64 (IntKind.u64.wrap (loW n * 2)) (b : Int) = loW (2 * n + b) := by
  unfold loW
  rw [u64_mod, or_bit _ _ (by omega) (by omega) (by omega) (by omega) (by omega)]
  omega
theorem dbl_lo0 (n : Nat) (h : n < 170141183460469231731687303715884105728) : IntKind.u64.wrap (loW n * 2) = loW (2 * n) := by
  unfold loW
  rw [u64_mod]
  omega
theorem hi_bit (n b : Nat) (hb : b < 2) : hiW (2 * n + b) = hiW (2 * n) := by unfold hiW; omega
theorem div_step (x i : Nat) : x / 2 ^ i = 2 * (x / 2 ^ (i + 1)) + x / 2 ^ i % 2 := by
  rw [Nat.pow_succ, ← Nat.div_div_eq_div_mul]
  omega
theorem divide_ev (x y : Nat) (s t : Bool) (hx : x < 340282366920938463463374607431768211456) (hy0 : 0 < y) (hy : y < 170141183460469231731687303715884105728) :
    Evt (fun k => gangsawref04_divide.f k (hiW x) (loW x) s (hiW y) (loW y) t) (hiW (x / y), loW (x / y), false, hiW (x % y), loW (x % y), false) := by
  unfold gangsawref04_divide.f
  have key : ∀ i : Nat, i ≤ 128 → Evt (fun k => gangsawref04_divide.l0 k ((i : Int) - 1) (hiW x) (loW x) s (hiW y) (loW y) t (hiW (x / 2 ^ i / y)) (loW (x / 2 ^ i / y)) false (hiW (x / 2 ^ i % y)) (loW (x / 2 ^ i % y)) false) (hiW (x / y), loW (x / y), false, hiW (x % y), loW (x % y), false) := by
    intro i
    induction i with
    | zero =>
      intro _
      refine Evt.succ (g := fun _ => some _) (Evt.pure _) (fun k => ?_)
      simp only [gangsawref04_divide.l0]
      rw [if_neg (by omega), Nat.pow_zero, Nat.div_one]
    | succ i ih =>
      intro hi
      have ih := ih (by omega)
      have hst := div_step x i
      generalize hX : x / 2 ^ (i + 1) = X at *
      generalize hb : x / 2 ^ i % 2 = b at *
      have hb2 : b < 2 := by omega
      have hXlt : X < 170141183460469231731687303715884105728 := by
        rw [← hX]
        refine Nat.lt_of_le_of_lt (Nat.div_le_div_left (Nat.pow_le_pow_right (by omega : 0 < 2) (show 1 ≤ i + 1 by omega)) (by decide)) ?_
        omega
      have hq : X / y < 170141183460469231731687303715884105728 := Nat.lt_of_le_of_lt (Nat.div_le_self _ _) hXlt
      have hr : X % y < y := Nat.mod_lt _ hy0
      have hbit := bit_f x i s hx (by omega)
      rw [hb] at hbit
      have hdm := Nat.div_add_mod X y
      have hidx : ((i + 1 : Nat) : Int) - 1 = (i : Int) := by omega
      rw [hidx]
      rw [hst] at ih
      by_cases c : 2 * (X % y) + b < y
      · have hd : (2 * X + b) / y = 2 * (X / y) := by
          rw [Nat.div_eq_iff (by omega)]
          constructor
          · have : y * (X / y) * 2 = 2 * (y * (X / y)) := by omega
            have h2 : 2 * (X / y) * y = 2 * (y * (X / y)) := by rw [Nat.mul_assoc, Nat.mul_comm (X / y)]
            omega
          · have h2 : 2 * (X / y) * y = 2 * (y * (X / y)) := by rw [Nat.mul_assoc, Nat.mul_comm (X / y)]
            omega
        have hm : (2 * X + b) % y = 2 * (X % y) + b := by
          have h1 := Nat.div_add_mod (2 * X + b) y
          rw [hd] at h1
          have h2 : y * (2 * (X / y)) = 2 * (y * (X / y)) := by rw [Nat.mul_left_comm]
          omega
        rw [hd, hm] at ih
        refine Evt.succ ih (fun k => ?_)
        simp only [gangsawref04_divide.l0, hbit, Option.bind_some]
        rw [if_pos (by omega), dbl_hi _ (by omega), dbl_lo _ _ (by omega) hb2, ← hi_bit _ b hb2, above_f, Option.bind_some, decide_eq_true (by omega), if_pos rfl, wrap_mid _ (by omega) (by omega), dbl_hi _ hq, dbl_lo0 _ hq]
      · have hd : (2 * X + b) / y = 2 * (X / y) + 1 := by
          rw [Nat.div_eq_iff (by omega)]
          have h2 : (2 * (X / y) + 1) * y = 2 * (y * (X / y)) + y := by rw [Nat.add_mul, Nat.one_mul, Nat.mul_assoc, Nat.mul_comm (X / y)]
          constructor
          · omega
          · omega
        have hm : (2 * X + b) % y = 2 * (X % y) + b - y := by
          have h1 := Nat.div_add_mod (2 * X + b) y
          rw [hd] at h1
          have h2 : y * (2 * (X / y) + 1) = 2 * (y * (X / y)) + y := by rw [Nat.mul_add, Nat.mul_one, Nat.mul_left_comm]
          omega
        rw [hd, hm] at ih
        refine Evt.succ ih (fun k => ?_)
        simp only [gangsawref04_divide.l0, hbit, Option.bind_some]
        rw [if_pos (by omega), dbl_hi _ (by omega), dbl_lo _ _ (by omega) hb2, ← hi_bit _ b hb2, above_f, Option.bind_some, decide_eq_false (by omega), if_neg (by simp), show (true : Bool) = !false from rfl, minus_f _ _ _ (by omega) (by omega), Option.bind_some, wrap_mid _ (by omega) (by omega), dbl_hi _ hq, show (1 : Int) = ((1 : Nat) : Int) from rfl, dbl_lo _ 1 hq (by omega), hi_bit _ 1 (by omega)]
  have h := key 128 (by omega)
  have e0 : x / 2 ^ 128 = 0 := Nat.div_eq_of_lt hx
  rw [e0] at h
  simp only [Nat.zero_div, Nat.zero_mod] at h
  exact h
theorem common_ev : ∀ b a : Nat, a < 170141183460469231731687303715884105728 → b < 170141183460469231731687303715884105728 → ∀ s t : Bool, Evt (fun k => gangsawref04_common.f k (hiW a) (loW a) s (hiW b) (loW b) t) (hiW (Nat.gcd a b), loW (Nat.gcd a b), false) := by
  unfold gangsawref04_common.f
  intro b
  induction b using Nat.strongRecOn with
  | ind b ih =>
    intro a ha hb s t
    have hz : gangsawref04_wide_zero.f (hiW b) (loW b) t = some (b == 0) := by
      unfold gangsawref04_wide_zero.f hiW loW
      by_cases c : ((b / 18446744073709551616 : Nat) : Int) = 0
      · rw [if_pos c]
        congr 1
        rw [Bool.eq_iff_iff, beq_iff_eq, beq_iff_eq]
        omega
      · rw [if_neg c]
        congr 1
        symm
        rw [beq_eq_false_iff_ne]
        omega
    by_cases c : b = 0
    · subst c
      refine Evt.succ (g := fun _ => some _) (Evt.pure _) (fun k => ?_)
      simp only [gangsawref04_common.l0, hz, Option.bind_some]
      rw [if_pos (by rfl), Nat.gcd_zero_right]
    · have hm : a % b < b := Nat.mod_lt _ (by omega)
      refine Evt.succ (g := fun k => (gangsawref04_divide.f k (hiW a) (loW a) s (hiW b) (loW b) t).bind fun bt => gangsawref04_common.l0 k (hiW b) (loW b) t bt.2.2.2.1 bt.2.2.2.2.1 bt.2.2.2.2.2) ?_ (fun k => ?_)
      · refine Evt.bind (divide_ev a b s t (by omega) (by omega) hb) ?_
        have h := ih (a % b) hm b hb (by omega) t false
        rw [Nat.gcd_comm b (a % b), ← Nat.gcd_rec, Nat.gcd_comm] at h
        exact h
      · simp only [gangsawref04_common.l0, hz, Option.bind_some]
        rw [if_neg (by simp [c])]
theorem rnew_ev (s w : Nat) (hs : s ≤ w) (hw : 0 < w) (hb : w < 1000000000000000000) : Evt (fun k => gangsawref04_New.f k (s : Int) (w : Int)) (newV s w) := by
  unfold gangsawref04_New.f
  have o1 : gangsawref04_one.f (s : Int) = some (hiW s, loW s, false) := by
    unfold gangsawref04_one.f
    rw [show (1 : Int) = ((1 : Nat) : Int) from rfl, rtimes_f s 1 (by omega) (by omega), Nat.mul_one]; rfl
  have o2 : gangsawref04_one.f (w : Int) = some (hiW w, loW w, false) := by
    unfold gangsawref04_one.f
    rw [show (1 : Int) = ((1 : Nat) : Int) from rfl, rtimes_f w 1 (by omega) (by omega), Nat.mul_one]; rfl
  refine Evt.of_eq (g := fun k => gangsawref04_New.j0 k (hiW s) (loW s) false (hiW w) (loW w) false) ?_ (fun k => by rw [if_neg (by omega), o1, Option.bind_some, o2, Option.bind_some]; rfl)
  refine Evt.succ (g := fun k => (gangsawref04_lowest.f k (hiW s) (loW s) false (hiW w) (loW w) false).bind fun b => some (b.1, b.2.1, b.2.2)) ?_ (fun k => by simp only [gangsawref04_New.j0])
  refine Evt.bind (v := newV s w) ?_ (Evt.pure _)
  unfold gangsawref04_lowest.f
  refine Evt.bind (common_ev s w (by omega) (by omega) false false) ?_
  have hg : 0 < Nat.gcd w s := Nat.gcd_pos_of_pos_left _ hw
  have hgw : Nat.gcd w s ≤ w := Nat.gcd_le_left _ hw
  refine Evt.bind (divide_ev s (Nat.gcd w s) false false (by omega) hg (by omega)) ?_
  refine Evt.bind (divide_ev w (Nat.gcd w s) false false (by omega) hg (by omega)) ?_
  have d1 : s / Nat.gcd w s ≤ s := Nat.div_le_self _ _
  have d2 : w / Nat.gcd w s ≤ w := Nat.div_le_self _ _
  have e : newV s w = (((s / Nat.gcd w s : Nat) : Int), ((w / Nat.gcd w s : Nat) : Int), 0) := by unfold newV; rw [Nat.gcd_comm]
  rw [e]
  generalize s / Nat.gcd w s = p at *
  generalize w / Nat.gcd w s = q at *
  have hp : hiW p = 0 := by unfold hiW; omega
  have hq : hiW q = 0 := by unfold hiW; omega
  have lp : loW p = (p : Int) := by unfold loW; omega
  have lq : loW q = (q : Int) := by unfold loW; omega
  simp only [hp, hq, lp, lq]
  refine Evt.of_eq (g := fun k => gangsawref04_lowest.j0 k false (hiW s) (loW s) false 0 (p : Int) false 0 (q : Int) false) ?_ (fun k => by rw [if_neg (by omega), if_neg (by omega), if_neg (by omega), decide_eq_false (by omega)])
  refine Evt.succ (g := fun _ => some ((p : Int), (q : Int), 0)) (Evt.pure _) (fun k => ?_)
  simp only [gangsawref04_lowest.j0, Bool.false_eq_true, if_false]
  rw [w64_nat _ (by omega), w64_nat _ (by omega)]
end Go.Proofs.Ythkpgjjakdbbfaa.PWide
