/-
  The reference's numbers of 128 bits, and its fractions, in plain numbers.
-/
import Derived.Test.YthkpgjjakdbbfaaPFrac
import Derived.Test.YthkpgjjakdbbfaaBits
import Derived.Test.YthkpgjjakdbbfaaPx27
import Derived.Test.YthkpgjjakdbbfaaPx30
set_option linter.unusedVariables false
set_option linter.unusedSimpArgs false
namespace Go.Proofs.Ythkpgjjakdbbfaa.PWide
open Go.RowKit Go.Proofs.YthkpgjjakdbbfaaW.PrintWords Go.Proofs.YthkpgjjakdbbfaaW.PrintMore Go.Proofs.Ythkpgjjakdbbfaa.P Go.Proofs.Ythkpgjjakdbbfaa.Rnd Go.Proofs.Ythkpgjjakdbbfaa.Gen Go.Proofs.Ythkpgjjakdbbfaa.Binom Go.Proofs.Ythkpgjjakdbbfaa.Bits Go.Proofs.Ythkpgjjakdbbfaa.PFrac

def hiW (n : Nat) : Int := ((n / 18446744073709551616 : Nat) : Int)
def loW (n : Nat) : Int := ((n % 18446744073709551616 : Nat) : Int)
theorem mul_parts (x1 x0 y1 y0 : Nat) (hx1 : x1 < 4294967296) (hx0 : x0 < 4294967296) (hy1 : y1 < 4294967296) (hy0 : y0 < 4294967296) :
    x1 * y1 ≤ 18446744065119617025 ∧ x1 * y0 ≤ 18446744065119617025 ∧ x0 * y1 ≤ 18446744065119617025 ∧ x0 * y0 ≤ 18446744065119617025 :=
  ⟨Nat.mul_le_mul (by omega : x1 ≤ 4294967295) (by omega : y1 ≤ 4294967295), Nat.mul_le_mul (by omega : x1 ≤ 4294967295) (by omega : y0 ≤ 4294967295), Nat.mul_le_mul (by omega : x0 ≤ 4294967295) (by omega : y1 ≤ 4294967295), Nat.mul_le_mul (by omega : x0 ≤ 4294967295) (by omega : y0 ≤ 4294967295)⟩
theorem split32 (x1 x0 : Nat) (h : x0 < 4294967296) : ((x1 * 4294967296 + x0 : Nat) : Int) / 4294967296 = (x1 : Int) ∧ ((x1 * 4294967296 + x0 : Nat) : Int) % 4294967296 = (x0 : Int) := by omega
theorem mul64_f (a b : Nat) (ha : a < 18446744073709551616) (hb : b < 18446744073709551616) : bits_Mul64.f (a : Int) (b : Int) = some (hiW (a * b), loW (a * b)) := by
  unfold bits_Mul64.f hiW loW
  rw [and_lo _ (by omega) (by omega), and_lo _ (by omega) (by omega)]
  obtain ⟨x1, x0, rfl, hx1, hx0⟩ : ∃ x1 x0 : Nat, a = x1 * 4294967296 + x0 ∧ x1 < 4294967296 ∧ x0 < 4294967296 := ⟨a / 4294967296, a % 4294967296, by omega, by omega, by omega⟩
  obtain ⟨y1, y0, rfl, hy1, hy0⟩ : ∃ y1 y0 : Nat, b = y1 * 4294967296 + y0 ∧ y1 < 4294967296 ∧ y0 < 4294967296 := ⟨b / 4294967296, b % 4294967296, by omega, by omega, by omega⟩
  obtain ⟨e1, e2⟩ := split32 x1 x0 hx0
  obtain ⟨e3, e4⟩ := split32 y1 y0 hy0
  rw [e1, e2, e3, e4]
  obtain ⟨hp, hq, hr, hs⟩ := mul_parts x1 x0 y1 y0 hx1 hx0 hy1 hy0
  have em : (x1 * 4294967296 + x0) * (y1 * 4294967296 + y0) = x1 * y1 * 18446744073709551616 + (x1 * y0 + x0 * y1) * 4294967296 + x0 * y0 := by grind
  have ei : ((x1 * 4294967296 + x0 : Nat) : Int) * ((y1 * 4294967296 + y0 : Nat) : Int) = (((x1 * 4294967296 + x0) * (y1 * 4294967296 + y0) : Nat) : Int) := by rw [Int.natCast_mul]
  rw [ei, em]
  have f1 : (x1 : Int) * (y1 : Int) = ((x1 * y1 : Nat) : Int) := by rw [Int.natCast_mul]
  have f2 : (x1 : Int) * (y0 : Int) = ((x1 * y0 : Nat) : Int) := by rw [Int.natCast_mul]
  have f3 : (x0 : Int) * (y1 : Int) = ((x0 * y1 : Nat) : Int) := by rw [Int.natCast_mul]
  have f4 : (x0 : Int) * (y0 : Int) = ((x0 * y0 : Nat) : Int) := by rw [Int.natCast_mul]
  rw [f1, f2, f3, f4]
  generalize x1 * y1 = p at *
  generalize x1 * y0 = q at *
  generalize x0 * y1 = r at *
  generalize x0 * y0 = s at *
  clear em ei f1 f2 f3 f4 e1 e2 e3 e4
  have g1 : IntKind.u64.wrap (s : Int) = (s : Int) := u64_nat _ (by omega)
  have g2 : IntKind.u64.wrap (q : Int) = (q : Int) := u64_nat _ (by omega)
  have g3 : IntKind.u64.wrap (p : Int) = (p : Int) := u64_nat _ (by omega)
  have g4 : IntKind.u64.wrap (r : Int) = (r : Int) := u64_nat _ (by omega)
  rw [g1, g2, g3, g4]
  have g5 : IntKind.u64.wrap ((q : Int) + (s : Int) / 4294967296) = ((q + s / 4294967296 : Nat) : Int) := by rw [u64_mod]; omega
  rw [g5]
  have g6 : Go.bits .and .u64 ((q + s / 4294967296 : Nat) : Int) 4294967295 = (((q + s / 4294967296) % 4294967296 : Nat) : Int) := by rw [and_lo _ (by omega) (by omega)]; omega
  rw [g6]
  simp only [u64_mod]
  refine congrArg some (Prod.ext ?_ ?_)
  · show _ = (_ : Int)
    omega
  · show _ = (_ : Int)
    omega
theorem ftimes_f (a b : Nat) (ha : a ≤ 9223372036854775807) (hb : b ≤ 9223372036854775807) : fraction_product.f (a : Int) (b : Int) = some (false, hiW (a * b), loW (a * b)) := by
  unfold fraction_product.f
  rw [size_f _ (by omega) (by omega), Option.bind_some, size_f _ (by omega) (by omega), Option.bind_some, Int.natAbs_natCast, Int.natAbs_natCast, mul64_f a b (by omega) (by omega), Option.bind_some, decide_eq_false (by omega), decide_eq_false (by omega)]
  rfl
end Go.Proofs.Ythkpgjjakdbbfaa.PWide
