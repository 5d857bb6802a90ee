/-
  SlabFits: the plain law.
-/
import Derived.Test.YtnaahepnabmibaaGreatDoorKs
import Derived.Test.YtnaahepnabmibaaGreatDoorEvt
import Derived.Test.YtnaahepnabmibaaGreatDoorPx2
set_option linter.unusedVariables false
set_option linter.unusedSimpArgs false
namespace Go.Proofs.YtnaahepnabmibaaGreatDoor.Pure
open Go.RowKit Go.Proofs.YtnaahepnabmibaaGreatDoorW.PrintWords Go.Proofs.YtnaahepnabmibaaGreatDoorW.PrintLast Go.Proofs.YtnaahepnabmibaaGreatDoor.P Go.Proofs.YtnaahepnabmibaaGreatDoor.Open Go.Proofs.YtnaahepnabmibaaGreatDoor.Ks Go.Proofs.YtnaahepnabmibaaGreatDoor.Rnd Go.Proofs.YtnaahepnabmibaaGreatDoor.Awk
def okS (x t k f : Int) : Prop := 0 ≤ x ∧ x ≤ 2 ∧ 1 ≤ t ∧ t ≤ 1000 ∧ 0 ≤ k ∧ k ≤ 1000 ∧ 1 ≤ f ∧ f ≤ 1000000
instance (x t k f : Int) : Decidable (okS x t k f) := by unfold okS; infer_instance
theorem check_f (x t k f : Int) : slab_Check.f x t k f = some (if okS x t k f then 0 else 6) := by
  unfold slab_Check.f
  by_cases h : okS x t k f
  · rw [if_pos h]
    unfold okS at h
    rw [if_neg (by omega), if_neg (by omega), if_neg (by omega), if_neg (by omega), if_neg (by omega), if_neg (by omega), if_neg (by omega), if_neg (by omega)]
  · rw [if_neg h]
    unfold okS at h
    by_cases h1 : x < 0
    · rw [if_pos h1]
    rw [if_neg h1]
    by_cases h2 : x > 2
    · rw [if_pos h2]
    rw [if_neg h2]
    by_cases h3 : t < 1
    · rw [if_pos h3]
    rw [if_neg h3]
    by_cases h4 : t > 1000
    · rw [if_pos h4]
    rw [if_neg h4]
    by_cases h5 : k < 0
    · rw [if_pos h5]
    rw [if_neg h5]
    by_cases h6 : k > 1000
    · rw [if_pos h6]
    rw [if_neg h6]
    by_cases h7 : f < 1
    · rw [if_pos h7]
    rw [if_neg h7, if_pos (by omega)]
def okC (x t k f l : Int) : Prop := okS x t k f ∧ 1 ≤ l ∧ l ≤ 2000000
instance (x t k f l : Int) : Decidable (okC x t k f l) := by unfold okC; infer_instance
theorem count_f (x t k f l : Int) : slab_Count.f x t k f l = some (if okC x t k f l then ((l + k) / (t + k), 0) else (0, 6)) := by
  unfold slab_Count.f
  rw [check_f, Option.bind_some]
  by_cases h : okS x t k f
  · rw [if_pos h, if_pos rfl]
    by_cases h1 : l < 1
    · rw [if_pos h1, if_neg (by unfold okC; omega)]
    rw [if_neg h1]
    by_cases h2 : l > 2000000
    · rw [if_pos h2, if_neg (by unfold okC; omega)]
    rw [if_neg h2, if_pos (show okC x t k f l from ⟨h, by omega, by omega⟩)]
    unfold okS at h
    rw [wrap_mid (t + k) (by omega) (by omega), wrap_mid (l + k) (by omega) (by omega), if_neg (by omega), Int.tdiv_eq_ediv_of_nonneg (by omega)]
    have h3 : 0 ≤ (l + k) / (t + k) := Int.ediv_nonneg (by omega) (by omega)
    have h4 : (l + k) / (t + k) ≤ l + k := Int.ediv_le_self _ (by omega)
    rw [wrap_mid _ (by omega) (by omega)]
  · rw [if_neg h, if_neg (by decide), if_neg (fun h2 => h h2.1)]
theorem SlabFits : ∀ (x0 : S47) (x1 : Int) (x2 : Int), G47 x0 → (GInt .i64) x1 → (GInt .i64) x2 → ∃ k, gangsawlaw30_SlabFits.f k x0.f0 x0.f1 x0.f2 x0.f3 x1 x2 = some true := by
  intro s l m hs hl hm
  refine Evt.exists_ (f := fun k => gangsawlaw30_SlabFits.f k s.f0 s.f1 s.f2 s.f3 l m) ?_
  generalize s.f0 = x
  generalize s.f1 = t
  generalize s.f2 = k0
  generalize s.f3 = f
  unfold gangsawlaw30_SlabFits.f
  refine Evt.bind0 (g := gangsawlaw30_awake.f) rfl ?_
  simp only [if_true]
  refine Evt.bind0 (count_f x t k0 f l) ?_
  by_cases h : okC x t k0 f l
  · simp only [if_pos h, if_true]
    obtain ⟨hS, hl1, hl2⟩ := h
    have hS' := hS
    unfold okS at hS'
    obtain ⟨n, hn⟩ : ∃ n, (l + k0) / (t + k0) = n := ⟨_, rfl⟩
    have hp : 0 < t + k0 := by omega
    have n0 : 0 ≤ n := by rw [← hn]; exact Int.ediv_nonneg (by omega) (by omega)
    have n1 : n * (t + k0) ≤ l + k0 := by rw [← hn]; exact Int.ediv_mul_le _ (by omega)
    have n2 : l + k0 < (n + 1) * (t + k0) := by rw [← hn]; exact Int.lt_ediv_add_one_mul_self _ hp
    have e1 : n * (t + k0) = n * t + n * k0 := Int.mul_add _ _ _
    have e2 : (n + 1) * (t + k0) = n * t + n * k0 + t + k0 := by rw [Int.add_mul, e1]; omega
    have e3 : (n - 1) * k0 = n * k0 - k0 := by rw [Int.sub_mul, Int.one_mul]
    have e4 : (n + 1) * t = n * t + t := by rw [Int.add_mul, Int.one_mul]
    have p1 : 0 ≤ n * t := Int.mul_nonneg n0 (by omega)
    have p2 : 0 ≤ n * k0 := Int.mul_nonneg n0 (by omega)
    have p3 : n ≤ n * t := by
      have := Int.mul_le_mul_of_nonneg_left (show 1 ≤ t by omega) n0
      omega
    have p4 : n ≠ 0 → k0 ≤ n * k0 := fun hne => by
      have := Int.mul_le_mul_of_nonneg_right (show 1 ≤ n by omega) (show 0 ≤ k0 by omega)
      omega
    have hnl : n ≤ l := by
      by_cases hz : n = 0
      · omega
      · have := p4 hz; omega
    rw [hn]
    have w1 : wrap64 (n * t) = n * t := wrap_mid _ (by omega) (by omega)
    have w2 : wrap64 (n - 1) = n - 1 := wrap_mid _ (by omega) (by omega)
    have w3 : wrap64 ((n - 1) * k0) = n * k0 - k0 := by rw [e3]; exact wrap_mid _ (by omega) (by omega)
    have w4 : wrap64 (n * t + (n * k0 - k0)) = n * t + (n * k0 - k0) := wrap_mid _ (by omega) (by omega)
    have w5 : wrap64 (n + 1) = n + 1 := wrap_mid _ (by omega) (by omega)
    have w6 : wrap64 ((n + 1) * t) = n * t + t := by rw [e4]; exact wrap_mid _ (by omega) (by omega)
    have w7 : wrap64 (n * k0) = n * k0 := wrap_mid _ (by omega) (by omega)
    have w8 : wrap64 (n * t + t + n * k0) = n * t + t + n * k0 := wrap_mid _ (by omega) (by omega)
    simp only [w1, w2, w3, w4, w5, w6, w7, w8]
    have hj : Evt (fun k => gangsawlaw30_SlabFits.j0 k l m n false x t k0 f) true := by
      refine Evt.succ (g := fun _ => some true) (Evt.pure _) (fun k => ?_)
      simp only [gangsawlaw30_SlabFits.j0, Bool.false_eq_true, if_false]
      by_cases m0 : m < 0
      · rw [if_pos m0]
      rw [if_neg m0]
      by_cases m1 : m > 1000000
      · rw [if_pos m1]
      rw [if_neg m1, wrap_mid (l + m) (by omega) (by omega), count_f, Option.bind_some]
      by_cases h2 : okC x t k0 f (l + m)
      · rw [if_pos h2]
        have : n ≤ (l + m + k0) / (t + k0) := by rw [← hn]; exact Int.ediv_le_ediv hp (by omega)
        rw [if_pos rfl, decide_eq_true (show (l + m + k0) / (t + k0) ≥ n from this)]
      · rw [if_neg h2, if_neg (by decide)]
    have hd : decide (n * t + t + n * k0 ≤ l) = false := decide_eq_false (by omega)
    rw [hd]
    simp only [if_neg (show ¬ n < 0 by omega), if_neg (show ¬ n > l by omega)]
    by_cases hz : n > 0
    · have := p4 (by omega)
      simp only [if_pos hz, if_neg (show ¬ n * t + (n * k0 - k0) > l by omega)]
      exact hj
    · simp only [if_neg hz]
      exact hj
  · simp only [if_neg h]
    exact Evt.const (fun k => by rw [if_neg (by decide)]; rfl)
end Go.Proofs.YtnaahepnabmibaaGreatDoor.Pure
