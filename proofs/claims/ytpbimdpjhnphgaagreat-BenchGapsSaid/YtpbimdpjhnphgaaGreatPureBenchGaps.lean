/-
  BenchGaps: the plain law.
-/
import Derived.Test.YtpbimdpjhnphgaaGreatKs
import Derived.Test.YtpbimdpjhnphgaaGreatSym
import Derived.IntWalk
import Derived.Test.YtpbimdpjhnphgaaGreatM1
set_option linter.unusedVariables false
set_option linter.unusedSimpArgs false
namespace Go.Proofs.YtpbimdpjhnphgaaGreat.Pure
open Go.RowKit Go.Proofs.YtpbimdpjhnphgaaGreatW.PrintWords Go.Proofs.YtpbimdpjhnphgaaGreatW.PrintLast Go.Proofs.YtpbimdpjhnphgaaGreat.P Go.Proofs.YtpbimdpjhnphgaaGreat.Open Go.Proofs.YtpbimdpjhnphgaaGreat.Ks Go.Proofs.YtpbimdpjhnphgaaGreat.Sym Go.Proofs.YtpbimdpjhnphgaaGreat.Awk
theorem ite_step {α : Type} {c : Prop} [Decidable c] {x y v : α} (h1 : c → x = v) (h2 : ¬ c → y = v) : ite c x y = v := by
  by_cases h : c
  · rw [if_pos h]; exact h1 h
  · rw [if_neg h]; exact h2 h
theorem mx_max (a b : Int) : mx a b = max a b := by
  unfold mx
  exact ite_step (fun _ => by omega) (fun _ => by omega)
theorem wrap_in (x : Int) (h0 : -9223372036854775808 ≤ x) (h1 : x ≤ 9223372036854775807) : wrap64 x = x := Go.IntWalk.wrap64_in x ⟨h0, h1⟩
def inR (x : Int) : Prop := -1000000 ≤ x ∧ x ≤ 1000000
theorem fits_f (a b c d e f : Int) : ∃ q, gangsawlaw17_fits.f a b c d e f = some q ∧ (q = true → inR a ∧ inR b ∧ inR c ∧ inR d ∧ inR e ∧ inR f) := by
  unfold gangsawlaw17_fits.f
  by_cases h : inR a ∧ inR b ∧ inR c ∧ inR d ∧ inR e ∧ inR f
  · refine ⟨true, ?_, fun _ => h⟩
    unfold inR at h
    repeat' (refine ite_step (fun _ => ?_) (fun _ => ?_))
    all_goals first | rfl | (exfalso; omega)
  · refine ⟨false, ?_, fun h2 => by simp at h2⟩
    unfold inR at h
    repeat' (refine ite_step (fun _ => ?_) (fun _ => ?_))
    all_goals first | rfl | (exfalso; omega)
theorem proper_f (a b c d e f : Int) : ∃ q, gangsawref13_Proper.f a b c d e f = some q ∧ (q = true → a < d ∧ b < e ∧ c < f) := by
  unfold gangsawref13_Proper.f
  by_cases h1 : a < d
  · by_cases h2 : b < e
    · by_cases h3 : c < f
      · exact ⟨true, by rw [if_pos h1, if_pos h2, if_pos h3], fun _ => ⟨h1, h2, h3⟩⟩
      · exact ⟨false, by rw [if_pos h1, if_pos h2, if_neg h3], fun h => by simp at h⟩
    · exact ⟨false, by rw [if_pos h1, if_neg h2], fun h => by simp at h⟩
  · exact ⟨false, by rw [if_neg h1], fun h => by simp at h⟩
def gapV (a b d e p q r s : Int) : Int := max (max (max (a - r) (p - d)) 0) (max (max (b - s) (q - e)) 0)
theorem gap_f (a b c d e f p q o r s t : Int) (h : inR a ∧ inR b ∧ inR d ∧ inR e) (h2 : inR p ∧ inR q ∧ inR r ∧ inR s) : bench_Gap.f a b c d e f p q o r s t = some (gapV a b d e p q r s) := by
  unfold bench_Gap.f gapV
  unfold inR at h h2
  simp only [mx_max]
  rw [wrap_in (a - r) (by omega) (by omega), wrap_in (p - d) (by omega) (by omega), wrap_in (b - s) (by omega) (by omega), wrap_in (q - e) (by omega) (by omega)]
theorem rgap_f (a b c d e f p q o r s t : Int) (h : inR a ∧ inR b ∧ inR d ∧ inR e) (h2 : inR p ∧ inR q ∧ inR r ∧ inR s) : gangsawref17_Gap.f a b c d e f p q o r s t = some (gapV a b d e p q r s) := by
  unfold gangsawref17_Gap.f gapV
  unfold inR at h h2
  simp only [mx_max]
  rw [wrap_in (a - r) (by omega) (by omega), wrap_in (p - d) (by omega) (by omega), wrap_in (b - s) (by omega) (by omega), wrap_in (q - e) (by omega) (by omega)]
  simp only [Option.some.injEq]
  omega
theorem gap_le (a b d e p q r s : Int) (h : inR a ∧ inR b ∧ inR d ∧ inR e) (h2 : inR p ∧ inR q ∧ inR r ∧ inR s) : 0 ≤ gapV a b d e p q r s ∧ gapV a b d e p q r s ≤ 2000000 := by
  unfold gapV
  unfold inR at h h2
  omega
theorem BenchGaps : ∀ (x0 : S25) (x1 : S25) (x2 : Int), G25 x0 → G25 x1 → (GInt .i64) x2 → gangsawlaw17_BenchGaps.f x0.f0.f0 x0.f0.f1 x0.f0.f2 x0.f1.f0 x0.f1.f1 x0.f1.f2 x1.f0.f0 x1.f0.f1 x1.f0.f2 x1.f1.f0 x1.f1.f1 x1.f1.f2 x2 = some true := by
  intro x y n _ _ _
  generalize x.f0.f0 = a
  generalize x.f0.f1 = b
  generalize x.f0.f2 = c
  generalize x.f1.f0 = d
  generalize x.f1.f1 = e
  generalize x.f1.f2 = f
  generalize y.f0.f0 = p
  generalize y.f0.f1 = q
  generalize y.f0.f2 = o
  generalize y.f1.f0 = r
  generalize y.f1.f1 = s
  generalize y.f1.f2 = t
  unfold gangsawlaw17_BenchGaps.f
  rw [show gangsawlaw17_awake.f = some true from rfl, Option.bind_some, if_pos rfl]
  obtain ⟨z1, e1, f1⟩ := fits_f a b c d e f
  rw [e1, Option.bind_some]
  refine ite_step (fun hz1 => ?_) (fun _ => rfl)
  obtain ⟨z2, e2, f2⟩ := fits_f p q o r s t
  rw [e2, Option.bind_some]
  refine ite_step (fun hz2 => ?_) (fun _ => rfl)
  refine ite_step (fun _ => rfl) (fun hn0 => ?_)
  refine ite_step (fun _ => rfl) (fun hn1 => ?_)
  have A := f1 hz1
  have B := f2 hz2
  have hA : inR a ∧ inR b ∧ inR d ∧ inR e := ⟨A.1, A.2.1, A.2.2.2.1, A.2.2.2.2.1⟩
  have hB : inR p ∧ inR q ∧ inR r ∧ inR s := ⟨B.1, B.2.1, B.2.2.2.1, B.2.2.2.2.1⟩
  rw [gap_f a b c d e f p q o r s t hA hB, rgap_f a b c d e f p q o r s t hA hB, gap_f p q o r s t a b c d e f hB hA, Option.bind_some, Option.bind_some, if_pos rfl, Option.bind_some]
  rw [if_pos (show gapV p q r s a b d e = gapV a b d e p q r s by unfold gapV; omega)]
  have hw1 : wrap64 (p + n) = p + n := by unfold inR at hB; exact wrap_in _ (by omega) (by omega)
  have hw2 : wrap64 (r + n) = r + n := by unfold inR at hB; exact wrap_in _ (by omega) (by omega)
  rw [hw1, hw2]
  obtain ⟨z3, e3, f3⟩ := fits_f (p + n) q o (r + n) s t
  rw [e3, Option.bind_some]
  refine ite_step (fun hz3 => ?_) (fun _ => rfl)
  obtain ⟨z4, e4, f4⟩ := proper_f a b c d e f
  rw [e4, Option.bind_some]
  refine ite_step (fun hz4 => ?_) (fun _ => rfl)
  obtain ⟨z5, e5, f5⟩ := proper_f p q o r s t
  rw [e5, Option.bind_some]
  refine ite_step (fun hz5 => ?_) (fun _ => rfl)
  have C := f3 hz3
  have hC : inR (p + n) ∧ inR q ∧ inR (r + n) ∧ inR s := ⟨C.1, C.2.1, C.2.2.2.1, C.2.2.2.2.1⟩
  rw [gap_f a b c d e f (p + n) q o (r + n) s t hA hC, Option.bind_some]
  have g1 := gap_le a b d e p q r s hA hB
  have g2 := gap_le a b d e (p + n) q (r + n) s hA hC
  have P1 := f4 hz4
  have P2 := f5 hz5
  rw [wrap_in (gapV a b d e p q r s + n) (by omega) (by omega), wrap_in (gapV a b d e (p + n) q (r + n) s + n) (by omega) (by omega)]
  have k1 : gapV a b d e (p + n) q (r + n) s ≤ gapV a b d e p q r s + n := by unfold gapV; omega
  have k2 : gapV a b d e p q r s ≤ gapV a b d e (p + n) q (r + n) s + n := by unfold gapV; omega
  rw [if_pos k1, if_pos k2]
end Go.Proofs.YtpbimdpjhnphgaaGreat.Pure
