/-
  Median and Outliers in plain terms, of the program and of the reference.
-/
import Derived.Test.YthkpgjjakdbbfaaPSample
import Derived.Test.YthkpgjjakdbbfaaPx20
import Derived.Test.YthkpgjjakdbbfaaPx19
import Derived.Test.YthkpgjjakdbbfaaPx21
set_option linter.unusedVariables false
set_option linter.unusedSimpArgs false
namespace Go.Proofs.Ythkpgjjakdbbfaa.POutliers
open Go.RowKit Go.Proofs.YthkpgjjakdbbfaaW.PrintWords Go.Proofs.Ythkpgjjakdbbfaa.P Go.Proofs.Ythkpgjjakdbbfaa.Rnd Go.Proofs.Ythkpgjjakdbbfaa.Sort Go.Proofs.Ythkpgjjakdbbfaa.Gen Go.Proofs.Ythkpgjjakdbbfaa.PTest Go.Proofs.Ythkpgjjakdbbfaa.PSample
theorem same_refl (a : List ByteArray) (ha : a.length ≤ 1000000) : Evt (fun k => gangsawref33_Same.f k a a) true := by
  unfold gangsawref33_Same.f
  have key : ∀ i, i ≤ a.length → Evt (fun k => gangsawref33_Same.l0 k a a i) true := by
    refine down ?_ ?_
    · exact Evt.succ (g := fun _ => some true) (Evt.pure _) (fun k => by simp only [gangsawref33_Same.l0, Int.lt_irrefl, if_false])
    · intro i hi ih
      refine Evt.succ ih (fun k => ?_)
      simp only [gangsawref33_Same.l0, rdS_at a i hi]
      rw [if_pos (by omega), if_pos (by omega), if_pos (by omega), if_pos trivial, wrap_up i a.length hi (by omega)]
  exact Evt.of_eq (key 0 (by omega)) (fun k => by rw [if_pos rfl]; rfl)
def weakS (l : List T) (q r : Int) : List ByteArray := (l.filter fun t => decide (wrap64 (2 * t.f1) < wrap64 (wrap64 (2 * q) - wrap64 (3 * wrap64 (r - q))))).map (·.f0)
def outliersV (l : List T) : List ByteArray × Int := if checkV l = 0 then (if l.length < 4 then ([], 9) else (sortStr (weakS l (rd (sortInt (l.map (·.f1))) (((l.length + 3) / 4 - 1 : Nat) : Int)) (rd (sortInt (l.map (·.f1))) (((3 * l.length + 3) / 4 - 1 : Nat) : Int))), 0)) else ([], checkV l)
theorem weakS_len (l : List T) (q r : Int) : (weakS l q r).length ≤ l.length := by unfold weakS; rw [List.length_map]; exact List.length_filter_le _ _
theorem outliersV_len (l : List T) : (outliersV l).1.length ≤ 256 := by
  unfold outliersV
  split
  · rename_i c
    have := (checkV_zero c).1
    split
    · simp
    · have h := weakS_len l (rd (sortInt (l.map (·.f1))) (((l.length + 3) / 4 - 1 : Nat) : Int)) (rd (sortInt (l.map (·.f1))) (((3 * l.length + 3) / 4 - 1 : Nat) : Int))
      show (sortStr _).length ≤ 256
      rw [sortStr_len]; omega
  · simp
theorem ix_low (n : Nat) (h0 : 4 ≤ n) (h : n ≤ 1000) : wrap64 (wrap64 (Int.tdiv (wrap64 ((n : Int) + 3)) 4) - 1) = (((n + 3) / 4 - 1 : Nat) : Int) := by
  rw [wrap_mid ((n : Int) + 3) (by omega) (by omega), Int.tdiv_eq_ediv_of_nonneg (by omega), wrap_mid (((n : Int) + 3) / 4) (by omega) (by omega), wrap_mid _ (by omega) (by omega)]
  omega
theorem ix_high (n : Nat) (h0 : 4 ≤ n) (h : n ≤ 1000) : wrap64 (wrap64 (Int.tdiv (wrap64 (wrap64 (3 * (n : Int)) + 3)) 4) - 1) = (((3 * n + 3) / 4 - 1 : Nat) : Int) := by
  rw [wrap_mid (3 * (n : Int)) (by omega) (by omega), wrap_mid (3 * (n : Int) + 3) (by omega) (by omega), Int.tdiv_eq_ediv_of_nonneg (by omega), wrap_mid ((3 * (n : Int) + 3) / 4) (by omega) (by omega), wrap_mid _ (by omega) (by omega)]
  omega
theorem weak_take (l : List T) (q r : Int) (i : Nat) (hi : i < l.length) : weakS (l.take (i + 1)) q r = weakS (l.take i) q r ++ (if wrap64 (2 * l[i].f1) < wrap64 (wrap64 (2 * q) - wrap64 (3 * wrap64 (r - q))) then [l[i].f0] else []) := by
  unfold weakS
  rw [List.take_succ_eq_append_getElem hi, List.filter_append, List.map_append]
  by_cases c : wrap64 (2 * l[i].f1) < wrap64 (wrap64 (2 * q) - wrap64 (3 * wrap64 (r - q))) <;> simp [c]
theorem out_loop (l : List T) (hl : l.length ≤ 1000000) (q r : Int) : Evt (fun k => sample_Outliers.l0 k q r [] l (l.length : Int) 0) (sortStr (weakS l q r), 0) := by
  have key : ∀ i, i ≤ l.length → Evt (fun k => sample_Outliers.l0 k q r (weakS (l.take i) q r) l (l.length : Int) (i : Nat)) (sortStr (weakS l q r), 0) := by
    refine down ?_ ?_
    · refine Evt.succ (g := fun _ => some _) (Evt.pure _) (fun k => ?_)
      have := weakS_len l q r
      simp only [sample_Outliers.l0, Int.lt_irrefl, if_false, List.take_length, slices_Sort_string.f]
      rw [if_pos (by omega)]; rfl
    · intro i hi ih
      have hle := weakS_len (l.take i) q r
      rw [List.length_take] at hle
      rw [weak_take l q r i hi] at ih
      refine Evt.succ ih (fun k => ?_)
      simp only [sample_Outliers.l0, rdT_at l i hi]
      rw [if_pos (by omega), if_pos (by omega), if_pos (by omega), wrap_up i l.length hi (by omega)]
      by_cases c2 : wrap64 (2 * l[i].f1) < wrap64 (wrap64 (2 * q) - wrap64 (3 * wrap64 (r - q)))
      · rw [if_pos c2, if_pos c2, if_pos (by omega)]
      · rw [if_neg c2, if_neg c2, List.append_nil]
  exact key 0 (by omega)
theorem outliers_ev (l : List T) : Evt (fun k => sample_Outliers.f k l) (outliersV l) := by
  unfold sample_Outliers.f outliersV
  refine Evt.bind (check_ev l) ?_
  by_cases c : checkV l = 0
  · have hl := (checkV_zero c).1
    simp only [if_pos c]
    by_cases h0 : l.length < 4
    · simp only [if_pos h0]; exact Evt.const (fun k => by rw [if_pos (by omega)])
    · have h0' : ¬ (l.length : Int) < 4 := by omega
      simp only [if_neg h0, if_neg h0']
      have e1 := ix_low l.length (by omega) (by omega)
      have e2 := ix_high l.length (by omega) (by omega)
      have hlen : (sortInt (l.map (·.f1))).length = l.length := by rw [sortInt_len, List.length_map]
      refine Evt.bind (sorted_ev l (by omega) _ (·.f1) (fun t => rfl)) ?_
      refine Evt.of_eq (out_loop l (by omega) (rd (sortInt (l.map (·.f1))) (((l.length + 3) / 4 - 1 : Nat) : Int)) (rd (sortInt (l.map (·.f1))) (((3 * l.length + 3) / 4 - 1 : Nat) : Int))) (fun k => ?_)
      rw [e1, e2, if_pos (by omega), if_pos (by omega), if_pos (by omega), if_pos (by omega)]
  · simp only [if_neg c]; exact Evt.pure _
end Go.Proofs.Ythkpgjjakdbbfaa.POutliers
