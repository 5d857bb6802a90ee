/-
  Plain lemmas on lists, strings and rounds, with no program in sight.
-/
import Derived.Test.YthkpgjjakdbbfaaEvt
import Derived.Test.YthkpgjjakdbbfaaSort
import Derived.Test.YthkpgjjakdbbfaaSm
import Derived.Sort.Walk0
set_option linter.unusedVariables false
set_option linter.unusedSimpArgs false
namespace Go.Proofs.Ythkpgjjakdbbfaa.Gen
open Go.RowKit Go.Proofs Go.Proofs.YthkpgjjakdbbfaaW.PrintWords Go.Proofs.Ythkpgjjakdbbfaa.Rnd Go.Proofs.Ythkpgjjakdbbfaa.Sort

theorem bytes_eq (a b : ByteArray) : (a == b) = decide (a.toList = b.toList) := by
  rw [Bool.eq_iff_iff, beq_iff_eq, decide_eq_true_eq]
  constructor
  · rintro rfl; rfl
  · intro h
    have h1 : a.data.toList = b.data.toList := by rw [← ByteArray.toList_eq, ← ByteArray.toList_eq]; exact h
    cases a with | mk a => cases b with | mk b => congr 1; exact Array.toList_inj.1 h1
theorem toList_inj {a b : ByteArray} : a.toList = b.toList ↔ a = b := by
  have h := bytes_eq a b
  constructor
  · intro e; rw [e] at h; simpa using h
  · rintro rfl; rfl
theorem toList_mk (l : List UInt8) : (⟨l.toArray⟩ : ByteArray).toList = l := by rw [ByteArray.toList_eq]
theorem map_toList_inj : ∀ {a b : List ByteArray}, a.map (·.toList) = b.map (·.toList) → a = b
  | [], [], _ => rfl
  | [], _ :: _, h => by simp at h
  | _ :: _, [], h => by simp at h
  | x :: a, y :: b, h => by
    rw [List.map_cons, List.map_cons, List.cons.injEq] at h
    rw [toList_inj.1 h.1, map_toList_inj h.2]
theorem rdS_at (l : List ByteArray) (i : Nat) (h : i < l.length) : rdOf ByteArray.empty l (i : Int) = l[i] := getD_at l _ i h
theorem rdI_at (l : List Int) (i : Nat) (h : i < l.length) : rd l (i : Int) = l[i] := getD_at l _ i h
/-- 'for i := 0; i < n; i++ { s = step s l[i] }', and what follows. -/
theorem Evt.fold {σ α β : Type} {F : Nat → σ → Int → Option α} {l : List β} (step : σ → β → σ) (fin : σ → α) (P : Nat → σ → Prop)
    (hend : ∀ s, P l.length s → Evt (fun k => F k s l.length) (fin s))
    (hgo : ∀ i (h : i < l.length) s, P i s → P (i + 1) (step s l[i]) ∧ ∀ v, Evt (fun k => F k (step s l[i]) ((i + 1 : Nat) : Int)) v → Evt (fun k => F k s (i : Nat)) v) :
    ∀ s, P 0 s → Evt (fun k => F k s 0) (fin (l.foldl step s)) := by
  have key : ∀ i, i ≤ l.length → ∀ s, P i s → Evt (fun k => F k s (i : Nat)) (fin ((l.drop i).foldl step s)) := by
    refine down ?_ ?_
    · intro s hs
      rw [List.drop_length]
      exact hend s hs
    · intro i hi ih s hs
      obtain ⟨h1, h2⟩ := hgo i hi s hs
      rw [List.drop_eq_getElem_cons hi, List.foldl_cons]
      exact h2 _ (ih _ h1)
  intro s hs
  have := key 0 (by omega) s hs
  simpa using this
theorem insL_len {α : Type} (le : α → α → Bool) (x : α) (l : List α) : (insL le x l).length = l.length + 1 := by
  induction l with
  | nil => rfl
  | cons y l ih => simp only [insL]; split <;> simp [ih]
theorem isort_len {α : Type} (le : α → α → Bool) (l : List α) : (isort le l).length = l.length := (isort_perm (le := le) l).length_eq
theorem sortInt_len (l : List Int) : (sortInt l).length = l.length := isort_len _ l
theorem isort_le (l : List (List UInt8)) : (isort (fun x y => decide (x ≤ y)) l).Pairwise (· ≤ ·) := by
  have := isort_sorted (le := fun x y : List UInt8 => decide (x ≤ y)) (fun a b c h1 h2 => by simp only [decide_eq_true_eq] at *; exact List.le_trans h1 h2) (fun a b => by simp only [Bool.or_eq_true, decide_eq_true_eq]; exact List.le_total a b) l
  exact this.imp (fun h => by simpa using h)
theorem bytes_unique {a b : List (List UInt8)} (ha : a.Pairwise (· ≤ ·)) (hb : b.Pairwise (· ≤ ·)) (h : a.Perm b) : a = b :=
  List.Perm.eq_of_pairwise (fun x y _ _ h1 h2 => List.le_antisymm h1 h2) ha hb h
theorem sortStr_toList (l : List ByteArray) : (sortStr l).map (·.toList) = isort (fun x y => decide (x ≤ y)) (l.map (·.toList)) := by
  unfold sortStr
  rw [List.map_map]
  have e1 : ((·.toList) ∘ fun b : List UInt8 => (⟨b.toArray⟩ : ByteArray)) = id := by funext b; exact toList_mk b
  rw [e1, List.map_id]
theorem sortStr_len (l : List ByteArray) : (sortStr l).length = l.length := by unfold sortStr; rw [List.length_map, isort_len, List.length_map]
/-- Inserted in front of what is not less. -/
def insS (x : ByteArray) : List ByteArray → List ByteArray
  | [] => [x]
  | y :: l => if Op.bytesLess y.toList x.toList = true then y :: insS x l else x :: y :: l
def insLt (x : List UInt8) : List (List UInt8) → List (List UInt8)
  | [] => [x]
  | y :: l => if y < x then y :: insLt x l else x :: y :: l
theorem insLt_perm (x : List UInt8) (l : List (List UInt8)) : (insLt x l).Perm (x :: l) := by
  induction l with
  | nil => exact List.Perm.refl _
  | cons y l ih =>
    simp only [insLt]
    split
    · exact (List.Perm.cons y ih).trans (List.Perm.swap x y l)
    · exact List.Perm.refl _
theorem insLt_le (x : List UInt8) (l : List (List UInt8)) (h : l.Pairwise (· ≤ ·)) : (insLt x l).Pairwise (· ≤ ·) := by
  induction l with
  | nil => simp [insLt]
  | cons y l ih =>
    rw [List.pairwise_cons] at h
    simp only [insLt]
    split
    · rename_i c
      rw [List.pairwise_cons]
      refine ⟨fun z hz => ?_, ih h.2⟩
      rcases List.mem_cons.1 ((insLt_perm x l).mem_iff.1 hz) with rfl | hz
      · exact List.le_of_lt c
      · exact h.1 z hz
    · rename_i c
      rw [List.pairwise_cons]
      refine ⟨fun z hz => ?_, by rw [List.pairwise_cons]; exact h⟩
      have c2 := List.not_lt.1 c
      rcases List.mem_cons.1 hz with rfl | hz
      · exact c2
      · exact List.le_trans c2 (h.1 z hz)
theorem less_iff (a b : ByteArray) : Op.bytesLess a.toList b.toList = true ↔ a.toList < b.toList := by
  rw [bytesLess_eq, decide_eq_true_eq]
theorem insS_map (x : ByteArray) (l : List ByteArray) : (insS x l).map (·.toList) = insLt x.toList (l.map (·.toList)) := by
  induction l with
  | nil => rfl
  | cons y l ih =>
    simp only [insS, insLt, List.map_cons]
    by_cases c : Op.bytesLess y.toList x.toList = true
    · rw [if_pos c, if_pos ((less_iff _ _).1 c), List.map_cons, ih]
    · rw [if_neg c, if_neg (fun h => c ((less_iff _ _).2 h)), List.map_cons, List.map_cons]
/-- Sorted by insertion, from the front. -/
theorem foldl_insS (l : List ByteArray) : l.foldl (fun o x => insS x o) [] = sortStr l := by
  apply map_toList_inj
  rw [sortStr_toList]
  have key : ∀ o : List ByteArray, (o.map (·.toList)).Pairwise (· ≤ ·) → ((l.foldl (fun o x => insS x o) o).map (·.toList)).Pairwise (· ≤ ·) ∧ ((l.foldl (fun o x => insS x o) o).map (·.toList)).Perm (o.map (·.toList) ++ l.map (·.toList)) := by
    induction l with
    | nil => intro o h; exact ⟨h, by simp⟩
    | cons x l ih =>
      intro o h
      rw [List.foldl_cons]
      obtain ⟨h1, h2⟩ := ih (insS x o) (by rw [insS_map]; exact insLt_le _ _ h)
      refine ⟨h1, h2.trans ?_⟩
      rw [insS_map, List.map_cons]
      exact (List.Perm.append_right _ (insLt_perm _ _)).trans (by rw [List.cons_append]; exact List.perm_middle.symm)
  obtain ⟨h1, h2⟩ := key [] List.Pairwise.nil
  exact bytes_unique h1 (isort_le _) (h2.trans (by simpa using (isort_perm _).symm))
end Go.Proofs.Ythkpgjjakdbbfaa.Gen
