/-
  SampleUnordered: the plain law.
-/
import Derived.Test.YthkpgjjakdbbfaaPOutliers
import Derived.Test.YthkpgjjakdbbfaaPx25
set_option linter.unusedVariables false
set_option linter.unusedSimpArgs false
namespace Go.Proofs.Ythkpgjjakdbbfaa.PUnordered
open Go.RowKit Go.Proofs.YthkpgjjakdbbfaaW.PrintWords Go.Proofs.Ythkpgjjakdbbfaa.P Go.Proofs.Ythkpgjjakdbbfaa.Rnd Go.Proofs.Ythkpgjjakdbbfaa.Sort Go.Proofs.Ythkpgjjakdbbfaa.Gen Go.Proofs.Ythkpgjjakdbbfaa.PTest Go.Proofs.Ythkpgjjakdbbfaa.PSample Go.Proofs.Ythkpgjjakdbbfaa.POutliers
theorem dup_iff (l : List T) : dupV l = false ↔ (l.map (·.f0)).Nodup := by
  unfold dupV
  rw [List.any_eq_false, List.nodup_iff_pairwise_ne, List.pairwise_map, List.pairwise_iff_getElem]
  constructor
  · intro h i j hi hj hij e
    refine h j (by simp; omega) ?_
    unfold dupAt
    rw [List.any_eq_true]
    refine ⟨l[i], ?_, by rw [getD_nat _ _ _ hj, e]; simp⟩
    rw [List.mem_take_iff_getElem]
    exact ⟨i, by omega, rfl⟩
  · intro h j hj hd
    have hj2 : j < l.length := by simp at hj; omega
    unfold dupAt at hd
    rw [List.any_eq_true] at hd
    obtain ⟨x, hx, e⟩ := hd
    rw [List.mem_take_iff_getElem] at hx
    obtain ⟨i, hi, rfl⟩ := hx
    rw [getD_nat _ _ _ hj2, beq_iff_eq] at e
    exact h i j (by omega) hj2 (by omega) e
theorem any_perm {α : Type} (p : α → Bool) {a b : List α} (h : a.Perm b) : a.any p = b.any p := by
  rw [Bool.eq_iff_iff, List.any_eq_true, List.any_eq_true]
  constructor
  · rintro ⟨x, hx, hp⟩; exact ⟨x, h.mem_iff.1 hx, hp⟩
  · rintro ⟨x, hx, hp⟩; exact ⟨x, h.mem_iff.2 hx, hp⟩
theorem dup_perm {a b : List T} (h : a.Perm b) : dupV a = dupV b := by
  have e : (dupV a = false) ↔ (dupV b = false) := by
    rw [dup_iff, dup_iff]
    exact (h.map _).nodup_iff
  cases x : dupV a <;> cases y : dupV b <;> simp_all
theorem check_perm {a b : List T} (h : a.Perm b) : checkV a = checkV b := by
  unfold checkV
  rw [h.length_eq, any_perm badN h, any_perm badR h, dup_perm h]
theorem strength_perm {a b : List T} (h : a.Perm b) (n : Int) : strengthV a n = strengthV b n := by
  unfold strengthV
  rw [check_perm h, h.length_eq, sortInt_of_perm (h.map _)]
theorem absorption_perm {a b : List T} (h : a.Perm b) (n : Int) : absorptionV a n = absorptionV b n := by
  unfold absorptionV
  rw [check_perm h, h.length_eq, sortInt_of_perm (h.map _)]
theorem outliers_perm {a b : List T} (h : a.Perm b) : outliersV a = outliersV b := by
  unfold outliersV weakS
  rw [check_perm h, h.length_eq, sortInt_of_perm (h.map (·.f1)), sortStr_of_perm ((h.filter _).map _)]
theorem turn_perm {α : Type} (l : List α) (i : Nat) : (l.drop i ++ l.take i).Perm l := (List.perm_append_comm).trans (by rw [List.take_append_drop])
end Go.Proofs.Ythkpgjjakdbbfaa.PUnordered
namespace Go.Proofs.Ythkpgjjakdbbfaa.Pure
open Go.RowKit Go.Proofs.YthkpgjjakdbbfaaW.PrintWords Go.Proofs.Ythkpgjjakdbbfaa.P Go.Proofs.Ythkpgjjakdbbfaa.Rnd Go.Proofs.Ythkpgjjakdbbfaa.Open Go.Proofs.Ythkpgjjakdbbfaa.Ks Go.Proofs.Ythkpgjjakdbbfaa.Sort Go.Proofs.Ythkpgjjakdbbfaa.Gen Go.Proofs.Ythkpgjjakdbbfaa.PTest Go.Proofs.Ythkpgjjakdbbfaa.PSample Go.Proofs.Ythkpgjjakdbbfaa.POutliers Go.Proofs.Ythkpgjjakdbbfaa.PUnordered
theorem SampleUnordered : ∀ (x0 : List (S51)) (x1 : Int) (x2 : Int), (GList G51) x0 → (GInt .i64) x1 → (GInt .i64) x2 → ∃ k, gangsawlaw33_SampleUnordered.f k x0 x1 x2 = some true := by
  intro l turn n hg _ _
  refine Evt.exists_ (f := fun k => gangsawlaw33_SampleUnordered.f k l turn n) ?_
  have hyes : Evt (fun k => gangsawlaw33_SampleUnordered.j0 k l turn n true) true := Evt.succ (g := fun _ => some true) (Evt.pure _) (fun k => by simp only [gangsawlaw33_SampleUnordered.j0, if_true])
  unfold gangsawlaw33_SampleUnordered.f
  refine Evt.bind0 (g := gangsawlaw33_awake_N.f) rfl ?_
  simp only [if_true]
  obtain ⟨b, hb, hfew⟩ := few_ev l hg.1
  refine Evt.bind hb ?_
  cases b with
  | false => exact Evt.of_eq hyes (fun k => by simp)
  | true =>
    have hl := hfew rfl
    simp only [if_true]
    by_cases h0 : l.length = 0
    · rw [show ((l.length : Int) == 0) = true by rw [h0]; rfl]; exact hyes
    rw [show ((l.length : Int) == 0) = false by rw [beq_eq_false_iff_ne]; omega]
    have e1 : IntKind.u64.wrap (l.length : Int) = (l.length : Int) := by
      show (l.length : Int) % 18446744073709551616 = _
      omega
    obtain ⟨i, hi, e2⟩ : ∃ i : Nat, i < l.length ∧ wrap64 (Int.tmod (IntKind.u64.wrap turn) (IntKind.u64.wrap (l.length : Int))) = (i : Int) := by
      rw [e1]
      have hu : 0 ≤ IntKind.u64.wrap turn := by
        show 0 ≤ turn % 18446744073709551616
        omega
      rw [Int.tmod_eq_emod_of_nonneg hu]
      have h1 := Int.emod_nonneg (IntKind.u64.wrap turn) (show (l.length : Int) ≠ 0 by omega)
      have h2 := Int.emod_lt_of_pos (IntKind.u64.wrap turn) (show (0 : Int) < l.length by omega)
      rw [wrap_mid _ (by omega) (by omega)]
      exact ⟨(IntKind.u64.wrap turn % (l.length : Int)).toNat, by omega, by omega⟩
    have hp := turn_perm l i
    refine Evt.succ (g := fun k => (sample_Strength.f k l n).bind fun a => ((sample_Strength.f k (l.drop i ++ l.take i) n).bind fun b => ((sample_Absorption.f k l n).bind fun c => ((sample_Absorption.f k (l.drop i ++ l.take i) n).bind fun d => ((sample_Outliers.f k l).bind fun x => ((sample_Outliers.f k (l.drop i ++ l.take i)).bind fun y => (if a.1 = b.1 then (if a.2 = b.2 then (if c.1 = d.1 then (if c.2 = d.2 then ((gangsawref33_Same.f k x.1 y.1).bind fun t => (if t = true then (some (x.2 == y.2)) else (some false))) else (some false)) else (some false)) else (some false)) else (some false)))))))) ?_ (fun k => ?_)
    · refine Evt.bind (strength_ev l n) ?_
      refine Evt.bind (strength_ev _ n) ?_
      refine Evt.bind (absorption_ev l n) ?_
      refine Evt.bind (absorption_ev _ n) ?_
      refine Evt.bind (outliers_ev l) ?_
      refine Evt.bind (outliers_ev _) ?_
      rw [strength_perm hp, absorption_perm hp, outliers_perm hp]
      simp only [if_true]
      refine Evt.bind (same_refl _ (by have := outliersV_len l; omega)) ?_
      exact Evt.const (fun k => by simp)
    · simp only [gangsawlaw33_SampleUnordered.j0, Bool.false_eq_true, if_false, e2, Option.bind_some, Int.toNat_natCast, List.nil_append, List.length_nil, List.length_append, List.length_drop, List.length_take]
      rw [if_neg (by rw [e1]; omega), if_pos (by omega), if_pos (by omega), if_pos (by omega), if_pos (by omega)]
end Go.Proofs.Ythkpgjjakdbbfaa.Pure
