/-
  Order statistics of lots: what counts say of sorted numbers; the order of tests.
-/
import Derived.Test.YtankffbfocaibaaDoorPMargin
set_option linter.unusedVariables false
set_option linter.unusedSimpArgs false
namespace Go.Proofs.YtankffbfocaibaaDoor.PLot
open Go.RowKit Go.Proofs.YtankffbfocaibaaDoorW.PrintWords Go.Proofs.YtankffbfocaibaaDoor.P Go.Proofs.YtankffbfocaibaaDoor.Rnd Go.Proofs.YtankffbfocaibaaDoor.Sort Go.Proofs.YtankffbfocaibaaDoor.Gen Go.Proofs.YtankffbfocaibaaDoor.PTest Go.Proofs.YtankffbfocaibaaDoor.PGrade Go.Proofs.YtankffbfocaibaaDoor.PMargin
def cntI (l : List Int) (x : Int) : Nat := (l.filter fun y => decide (y < x)).length
theorem cnt_sorted (l : List Int) (x : Int) : cntI (sortInt l) x = cntI l x := filter_perm_len _ (sortInt_perm l)
theorem cnt_split (a b : List Int) (x : Int) : cntI (a ++ b) x = cntI a x + cntI b x := by
  unfold cntI
  rw [List.filter_append, List.length_append]
theorem cnt_none (b : List Int) (x : Int) (h : ∀ y ∈ b, x ≤ y) : cntI b x = 0 := by
  unfold cntI
  rw [List.length_eq_zero_iff, List.filter_eq_nil_iff]
  intro y hy
  have := h y hy
  simp; omega
theorem cnt_all (b : List Int) (x : Int) (h : ∀ y ∈ b, y < x) : cntI b x = b.length := by
  unfold cntI
  rw [List.filter_eq_self.2 (fun y hy => decide_eq_true (h y hy))]
theorem sorted_get {s : List Int} (hs : s.Pairwise (· ≤ ·)) {i j : Nat} (h : i ≤ j) (hj : j < s.length) : s[i]'(by omega) ≤ s[j] := by
  by_cases e : i = j
  · subst e; exact Int.le_refl _
  · exact List.pairwise_iff_getElem.1 hs i j (by omega) hj (by omega)
theorem cnt_lo {s : List Int} (hs : s.Pairwise (· ≤ ·)) (i : Nat) (hi : i < s.length) : cntI s s[i] ≤ i := by
  have e : s = s.take i ++ s.drop i := (List.take_append_drop i s).symm
  have h1 : cntI s s[i] = cntI (s.take i) s[i] + cntI (s.drop i) s[i] := by rw [← cnt_split, ← e]
  have h2 : cntI (s.drop i) s[i] = 0 := cnt_none _ _ (fun y hy => by
    obtain ⟨j, hj, rfl⟩ := List.mem_iff_getElem.1 hy
    rw [List.getElem_drop]
    exact sorted_get hs (by omega) (by rw [List.length_drop] at hj; omega))
  have h3 : cntI (s.take i) s[i] ≤ (s.take i).length := List.length_filter_le _ _
  rw [List.length_take] at h3
  omega
theorem cnt_hi {s : List Int} (hs : s.Pairwise (· ≤ ·)) (i : Nat) (hi : i < s.length) : i + 1 ≤ cntI s (s[i] + 1) := by
  have e : s = s.take (i + 1) ++ s.drop (i + 1) := (List.take_append_drop (i + 1) s).symm
  have h1 : cntI s (s[i] + 1) = cntI (s.take (i + 1)) (s[i] + 1) + cntI (s.drop (i + 1)) (s[i] + 1) := by rw [← cnt_split, ← e]
  have h2 : cntI (s.take (i + 1)) (s[i] + 1) = (s.take (i + 1)).length := cnt_all _ _ (fun y hy => by
    obtain ⟨j, hj, rfl⟩ := List.mem_iff_getElem.1 hy
    rw [List.length_take] at hj
    rw [List.getElem_take]
    have := sorted_get hs (i := j) (j := i) (by omega) hi
    omega)
  rw [List.length_take] at h2
  omega
theorem dup_iff (l : List T) : dupV l = false ↔ (l.map (·.f0)).Nodup := by
  unfold dupV
  rw [List.any_eq_false, List.nodup_iff_pairwise_ne, List.pairwise_map, List.pairwise_iff_getElem]
  constructor
  · intro h i j hi hj hij e
    refine h j (by simp; omega) ?_
    unfold dupAt
    rw [List.any_eq_true]
    refine ⟨l[i], ?_, by rw [getD_nat _ _ _ hj, e]; simp⟩
    rw [List.mem_take_iff_getElem]
    exact ⟨i, by omega, rfl⟩
  · intro h j hj hd
    have hj2 : j < l.length := by simp at hj; omega
    unfold dupAt at hd
    rw [List.any_eq_true] at hd
    obtain ⟨x, hx, e⟩ := hd
    rw [List.mem_take_iff_getElem] at hx
    obtain ⟨i, hi, rfl⟩ := hx
    rw [getD_nat _ _ _ hj2, beq_iff_eq] at e
    exact h i j (by omega) hj2 (by omega) e
theorem any_perm {α : Type} (p : α → Bool) {a b : List α} (h : a.Perm b) : a.any p = b.any p := by
  rw [Bool.eq_iff_iff, List.any_eq_true, List.any_eq_true]
  constructor
  · rintro ⟨x, hx, hp⟩; exact ⟨x, h.mem_iff.1 hx, hp⟩
  · rintro ⟨x, hx, hp⟩; exact ⟨x, h.mem_iff.2 hx, hp⟩
theorem dup_perm {a b : List T} (h : a.Perm b) : dupV a = dupV b := by
  have e : (dupV a = false) ↔ (dupV b = false) := by
    rw [dup_iff, dup_iff]
    exact (h.map _).nodup_iff
  cases x : dupV a <;> cases y : dupV b <;> simp_all
theorem check_perm {a b : List T} (h : a.Perm b) : checkV a = checkV b := by
  unfold checkV
  rw [h.length_eq, any_perm badN h, any_perm badR h, dup_perm h]
theorem turn_perm {α : Type} (l : List α) (i : Nat) : (l.drop i ++ l.take i).Perm l := (List.perm_append_comm).trans (by rw [List.take_append_drop])
theorem cnt_mono (l : List Int) {x y : Int} (h : x ≤ y) : cntI l x ≤ cntI l y := by
  unfold cntI
  induction l with
  | nil => simp
  | cons a l ih =>
    rw [List.filter_cons, List.filter_cons]
    by_cases c1 : a < x
    · rw [if_pos (decide_eq_true c1), if_pos (decide_eq_true (show a < y by omega)), List.length_cons, List.length_cons]; omega
    · rw [if_neg (by simpa using c1)]
      by_cases c2 : a < y
      · rw [if_pos (decide_eq_true c2), List.length_cons]; omega
      · rw [if_neg (by simpa using c2)]; exact ih
theorem weak_cnt (l : List T) (s : Int) : weakN l s = cntI (l.map (·.f1)) s := by
  unfold weakN cntI
  rw [List.filter_map, List.length_map]
  rfl
theorem wet_cnt (l : List T) (a : Int) : wetN l a + cntI (l.map (·.f2)) (a + 1) = l.length := by
  unfold wetN cntI
  induction l with
  | nil => rfl
  | cons t l ih =>
    rw [List.map_cons, List.filter_cons, List.filter_cons]
    by_cases c : t.f2 > a
    · rw [if_pos (decide_eq_true c), if_neg (by simp; omega), List.length_cons, List.length_cons]; omega
    · rw [if_neg (by simpa using c), if_pos (decide_eq_true (by omega)), List.length_cons, List.length_cons]; omega
theorem low_at (g : Gr) (l : List T) (h1 : 1 ≤ g.f1) (h2 : g.f1 ≤ (l.length : Int)) : ∃ i, ∃ hi : i < (sortInt (l.map (·.f1))).length, (i : Int) = g.f1 - 1 ∧ lowS g l = (sortInt (l.map (·.f1)))[i] := by
  have hlen : (sortInt (l.map (·.f1))).length = l.length := by rw [sortInt_len, List.length_map]
  refine ⟨(g.f1 - 1).toNat, by omega, by omega, rd_nat _ _ _ (by omega) (by omega)⟩
theorem high_at (g : Gr) (l : List T) (h1 : 1 ≤ g.f1) (h2 : g.f1 ≤ (l.length : Int)) : ∃ i, ∃ hi : i < (sortInt (l.map (·.f2))).length, (i : Int) = (l.length : Int) - g.f1 ∧ highA g l = (sortInt (l.map (·.f2)))[i] := by
  have hlen : (sortInt (l.map (·.f2))).length = l.length := by rw [sortInt_len, List.length_map]
  refine ⟨((l.length : Int) - g.f1).toNat, by omega, by omega, rd_nat _ _ _ (by omega) (by omega)⟩
theorem low_iff {g : Gr} {l : List T} (h1 : 1 ≤ g.f1) (h2 : g.f1 ≤ (l.length : Int)) (s : Int) : ((weakN l s : Int) < g.f1) ↔ s ≤ lowS g l := by
  obtain ⟨i, hi, e1, e2⟩ := low_at g l h1 h2
  have hs := sortInt_le (l.map (·.f1))
  have a1 := cnt_lo hs i hi
  have a2 := cnt_hi hs i hi
  rw [cnt_sorted] at a1 a2
  rw [weak_cnt, e2]
  constructor
  · intro h
    refine Int.not_lt.1 (fun c => ?_)
    have := cnt_mono (l.map (·.f1)) (show (sortInt (l.map (·.f1)))[i] + 1 ≤ s by omega)
    omega
  · intro h
    have := cnt_mono (l.map (·.f1)) h
    omega
theorem high_iff {g : Gr} {l : List T} (h1 : 1 ≤ g.f1) (h2 : g.f1 ≤ (l.length : Int)) (a : Int) : ((wetN l a : Int) < g.f1) ↔ highA g l ≤ a := by
  obtain ⟨i, hi, e1, e2⟩ := high_at g l h1 h2
  have hs := sortInt_le (l.map (·.f2))
  have a1 := cnt_lo hs i hi
  have a2 := cnt_hi hs i hi
  rw [cnt_sorted] at a1 a2
  have a3 := wet_cnt l a
  rw [e2]
  constructor
  · intro h
    refine Int.not_lt.1 (fun c => ?_)
    have := cnt_mono (l.map (·.f2)) (show a + 1 ≤ (sortInt (l.map (·.f2)))[i] by omega)
    omega
  · intro h
    have := cnt_mono (l.map (·.f2)) (show (sortInt (l.map (·.f2)))[i] + 1 ≤ a + 1 by omega)
    omega
theorem met_iff {g : Gr} {l : List T} (h1 : 1 ≤ g.f1) : metV g l = true ↔ g.f1 ≤ (l.length : Int) ∧ g.f2 ≤ lowS g l ∧ highA g l ≤ g.f3 := by
  unfold metV
  rw [Bool.and_eq_true, Bool.and_eq_true, decide_eq_true_eq, decide_eq_true_eq, decide_eq_true_eq]
  constructor
  · rintro ⟨a, b, c⟩
    exact ⟨a, (low_iff h1 a _).1 b, (high_iff h1 a _).1 c⟩
  · rintro ⟨a, b, c⟩
    exact ⟨a, (low_iff h1 a _).2 b, (high_iff h1 a _).2 c⟩
theorem both_perm (g : Gr) {a b : List T} (h : a.Perm b) : bothV g a = bothV g b := by unfold bothV; rw [check_perm h]
theorem met_perm (g : Gr) {a b : List T} (h : a.Perm b) : metV g a = metV g b := by
  unfold metV weakN wetN
  rw [h.length_eq, filter_perm_len _ h, filter_perm_len _ h]
theorem meets_perm (g : Gr) {a b : List T} (h : a.Perm b) : meetsV g a = meetsV g b := by unfold meetsV; rw [both_perm g h, met_perm g h]
theorem margin_perm (g : Gr) {a b : List T} (h : a.Perm b) : marginV g a = marginV g b := by
  unfold marginV lowS highA
  rw [both_perm g h, h.length_eq, sortInt_of_perm (h.map (·.f1)), sortInt_of_perm (h.map (·.f2))]
end Go.Proofs.YtankffbfocaibaaDoor.PLot
