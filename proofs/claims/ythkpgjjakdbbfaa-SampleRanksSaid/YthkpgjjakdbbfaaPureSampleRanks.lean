/-
  SampleRanks: the plain law.
-/
import Derived.Test.YthkpgjjakdbbfaaPSample
import Derived.Test.YthkpgjjakdbbfaaPx24
set_option linter.unusedVariables false
set_option linter.unusedSimpArgs false
namespace Go.Proofs.Ythkpgjjakdbbfaa.PRanks
open Go.RowKit Go.Proofs.YthkpgjjakdbbfaaW.PrintWords Go.Proofs.Ythkpgjjakdbbfaa.P Go.Proofs.Ythkpgjjakdbbfaa.Rnd Go.Proofs.Ythkpgjjakdbbfaa.Sort Go.Proofs.Ythkpgjjakdbbfaa.Gen Go.Proofs.Ythkpgjjakdbbfaa.PTest Go.Proofs.Ythkpgjjakdbbfaa.PSample
def cntI (l : List Int) (x : Int) : Nat := (l.filter fun y => decide (y < x)).length
theorem rankN_cnt (l : List T) (x : Int) : rankN l x = cntI (l.map (·.f1)) x := by
  unfold rankN cntI
  rw [List.filter_map, List.length_map]
  rfl
theorem cnt_sorted (l : List Int) (x : Int) : cntI (sortInt l) x = cntI l x := filter_perm_len _ (sortInt_perm l)
theorem cnt_split (a b : List Int) (x : Int) : cntI (a ++ b) x = cntI a x + cntI b x := by
  unfold cntI
  rw [List.filter_append, List.length_append]
theorem cnt_none (b : List Int) (x : Int) (h : ∀ y ∈ b, x ≤ y) : cntI b x = 0 := by
  unfold cntI
  rw [List.length_eq_zero_iff, List.filter_eq_nil_iff]
  intro y hy
  have := h y hy
  simp; omega
theorem cnt_all (b : List Int) (x : Int) (h : ∀ y ∈ b, y < x) : cntI b x = b.length := by
  unfold cntI
  rw [List.filter_eq_self.2 (fun y hy => decide_eq_true (h y hy))]
theorem sorted_get {s : List Int} (hs : s.Pairwise (· ≤ ·)) {i j : Nat} (h : i ≤ j) (hj : j < s.length) : s[i]'(by omega) ≤ s[j] := by
  by_cases e : i = j
  · subst e; exact Int.le_refl _
  · exact List.pairwise_iff_getElem.1 hs i j (by omega) hj (by omega)
theorem cnt_lo {s : List Int} (hs : s.Pairwise (· ≤ ·)) (i : Nat) (hi : i < s.length) : cntI s s[i] ≤ i := by
  have e : s = s.take i ++ s.drop i := (List.take_append_drop i s).symm
  have h1 : cntI s s[i] = cntI (s.take i) s[i] + cntI (s.drop i) s[i] := by rw [← cnt_split, ← e]
  have h2 : cntI (s.drop i) s[i] = 0 := cnt_none _ _ (fun y hy => by
    obtain ⟨j, hj, rfl⟩ := List.mem_iff_getElem.1 hy
    rw [List.getElem_drop]
    exact sorted_get hs (by omega) (by rw [List.length_drop] at hj; omega))
  have h3 : cntI (s.take i) s[i] ≤ (s.take i).length := List.length_filter_le _ _
  rw [List.length_take] at h3
  omega
theorem cnt_hi {s : List Int} (hs : s.Pairwise (· ≤ ·)) (i : Nat) (hi : i < s.length) : i + 1 ≤ cntI s (s[i] + 1) := by
  have e : s = s.take (i + 1) ++ s.drop (i + 1) := (List.take_append_drop (i + 1) s).symm
  have h1 : cntI s (s[i] + 1) = cntI (s.take (i + 1)) (s[i] + 1) + cntI (s.drop (i + 1)) (s[i] + 1) := by rw [← cnt_split, ← e]
  have h2 : cntI (s.take (i + 1)) (s[i] + 1) = (s.take (i + 1)).length := cnt_all _ _ (fun y hy => by
    obtain ⟨j, hj, rfl⟩ := List.mem_iff_getElem.1 hy
    rw [List.length_take] at hj
    rw [List.getElem_take]
    have := sorted_get hs (i := j) (j := i) (by omega) hi
    omega)
  rw [List.length_take] at h2
  omega
end Go.Proofs.Ythkpgjjakdbbfaa.PRanks
namespace Go.Proofs.Ythkpgjjakdbbfaa.Pure
open Go.RowKit Go.Proofs.YthkpgjjakdbbfaaW.PrintWords Go.Proofs.Ythkpgjjakdbbfaa.P Go.Proofs.Ythkpgjjakdbbfaa.Rnd Go.Proofs.Ythkpgjjakdbbfaa.Open Go.Proofs.Ythkpgjjakdbbfaa.Ks Go.Proofs.Ythkpgjjakdbbfaa.Sort Go.Proofs.Ythkpgjjakdbbfaa.Gen Go.Proofs.Ythkpgjjakdbbfaa.PTest Go.Proofs.Ythkpgjjakdbbfaa.PSample Go.Proofs.Ythkpgjjakdbbfaa.PRanks
theorem SampleRanks : ∀ (x0 : List (S51)) (x1 : Int), (GList G51) x0 → (GInt .i64) x1 → ∃ k, gangsawlaw33_SampleRanks.f k x0 x1 = some true := by
  intro l n hg hn
  refine Evt.exists_ (f := fun k => gangsawlaw33_SampleRanks.f k l n) ?_
  have hyes : Evt (fun k => gangsawlaw33_SampleRanks.j0 k l n true) true := Evt.succ (g := fun _ => some true) (Evt.pure _) (fun k => by simp only [gangsawlaw33_SampleRanks.j0, if_true])
  unfold gangsawlaw33_SampleRanks.f
  refine Evt.bind0 (g := gangsawlaw33_awake_N.f) rfl ?_
  simp only [if_true]
  obtain ⟨b, hb, hfew⟩ := few_ev l hg.1
  refine Evt.bind hb ?_
  cases b with
  | false => exact Evt.of_eq hyes (fun k => by simp)
  | true =>
    have hl := hfew rfl
    simp only [if_true]
    by_cases hk : n ≥ (l.length : Int)
    · rw [decide_eq_true hk]; exact hyes
    rw [decide_eq_false hk]
    have hmin := hn.1
    refine Evt.succ (g := fun k => (sample_Strength.f k l n).bind fun a => if a.2 = 0 then ((sample_Rank.f k l a.1).bind fun b => ((sample_Rank.f k l (wrap64 (a.1 + 1))).bind fun c => ((sample_Strength.f k l (wrap64 (n + 1))).bind fun d => ((sample_Absorption.f k l n).bind fun x => ((sample_Absorption.f k l (wrap64 (n + 1))).bind fun y => (if b.2 = 0 then (if c.2 = 0 then (if d.2 = 0 then (if x.2 = 0 then (if y.2 = 0 then (if b.1 < n then (if c.1 ≥ n then (if a.1 ≤ d.1 then (some (decide (x.1 ≥ y.1))) else (some false)) else (some false)) else (some false)) else (some false)) else (some false)) else (some false)) else (some false)) else (some false))))))) else some (a.1 == 0)) ?_ (fun k => by simp only [gangsawlaw33_SampleRanks.j0, Bool.false_eq_true, if_false])
    refine Evt.bind (strength_ev l n) ?_
    by_cases c : checkV l = 0
    · by_cases h1 : n < 1
      · simp only [strengthV, if_pos c, if_pos h1]
        exact Evt.pure _
      · obtain ⟨i, rfl⟩ : ∃ i : Nat, n = ((i + 1 : Nat) : Int) := ⟨(n - 1).toNat, by omega⟩
        have hlen : (sortInt (l.map (·.f1))).length = l.length := by rw [sortInt_len, List.length_map]
        have hlen2 : (sortInt (l.map (·.f2))).length = l.length := by rw [sortInt_len, List.length_map]
        have hs := sortInt_le (l.map (·.f1))
        have hs2 := sortInt_le (l.map (·.f2))
        have e1 : strengthV l ((i + 1 : Nat) : Int) = ((sortInt (l.map (·.f1)))[i]'(by omega), 0) := by
          unfold strengthV
          rw [if_pos c, if_neg (by omega), if_neg (by omega), show ((i + 1 : Nat) : Int) - 1 = (i : Nat) by omega, rdI_at (sortInt (l.map (·.f1))) i (by omega)]
        have e2 : strengthV l (wrap64 (((i + 1 : Nat) : Int) + 1)) = ((sortInt (l.map (·.f1)))[i + 1]'(by omega), 0) := by
          unfold strengthV
          rw [wrap_mid _ (by omega) (by omega), if_pos c, if_neg (by omega), if_neg (by omega), show ((i + 1 : Nat) : Int) + 1 - 1 = (i + 1 : Nat) by omega, rdI_at (sortInt (l.map (·.f1))) (i + 1) (by omega)]
        have e3 : absorptionV l ((i + 1 : Nat) : Int) = ((sortInt (l.map (·.f2)))[l.length - (i + 1)]'(by omega), 0) := by
          unfold absorptionV
          rw [if_pos c, if_neg (by omega), if_neg (by omega), show (l.length : Int) - ((i + 1 : Nat) : Int) = (l.length - (i + 1) : Nat) by omega, rdI_at (sortInt (l.map (·.f2))) (l.length - (i + 1)) (by omega)]
        have e4 : absorptionV l (wrap64 (((i + 1 : Nat) : Int) + 1)) = ((sortInt (l.map (·.f2)))[l.length - (i + 2)]'(by omega), 0) := by
          unfold absorptionV
          rw [wrap_mid _ (by omega) (by omega), if_pos c, if_neg (by omega), if_neg (by omega), show (l.length : Int) - (((i + 1 : Nat) : Int) + 1) = (l.length - (i + 2) : Nat) by omega, rdI_at (sortInt (l.map (·.f2))) (l.length - (i + 2)) (by omega)]
        have hmem : (sortInt (l.map (·.f1)))[i]'(by omega) ∈ l.map (·.f1) := (sortInt_perm _).mem_iff.1 (List.getElem_mem _)
        obtain ⟨t, ht, hte⟩ := List.mem_map.1 hmem
        have hr := checkV_range c t ht
        have hlo := cnt_lo hs i (by omega)
        have hhi := cnt_hi hs i (by omega)
        have hmono := sorted_get hs (i := i) (j := i + 1) (by omega) (by omega)
        have hmono2 := sorted_get hs2 (i := l.length - (i + 2)) (j := l.length - (i + 1)) (by omega) (by omega)
        rw [cnt_sorted, ← rankN_cnt] at hlo hhi
        simp only [e1, if_true]
        refine Evt.bind (rank_ev l _) ?_
        refine Evt.bind (rank_ev l _) ?_
        refine Evt.bind (strength_ev l _) ?_
        refine Evt.bind (absorption_ev l _) ?_
        refine Evt.bind (absorption_ev l _) ?_
        simp only [e2, e3, e4, rankV, if_pos c, if_true]
        rw [wrap_mid _ (by omega) (by omega)]
        refine Evt.const (fun k => ?_)
        rw [if_pos (by omega), if_pos (by omega), if_pos hmono, decide_eq_true hmono2]
    · simp only [strengthV, if_neg c]
      exact Evt.const (fun k => by simp)
end Go.Proofs.Ythkpgjjakdbbfaa.Pure
