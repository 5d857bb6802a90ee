/-
  Plain lemmas on lists, strings and rounds, with no program in sight.
-/
import Derived.Test.YthkpgjjakdbbfaaEvt
import Derived.Test.YthkpgjjakdbbfaaSort
import Derived.Test.YthkpgjjakdbbfaaSm
import Derived.Sort.Walk0
set_option linter.unusedVariables false
set_option linter.unusedSimpArgs false
namespace Go.Proofs.Ythkpgjjakdbbfaa.Gen
open Go.RowKit Go.Proofs Go.Proofs.YthkpgjjakdbbfaaW.PrintWords Go.Proofs.Ythkpgjjakdbbfaa.Rnd Go.Proofs.Ythkpgjjakdbbfaa.Sort

theorem bytes_eq (a b : ByteArray) : (a == b) = decide (a.toList = b.toList) := by
  rw [Bool.eq_iff_iff, beq_iff_eq, decide_eq_true_eq]
  constructor
  · rintro rfl; rfl
  · intro h
    have h1 : a.data.toList = b.data.toList := by rw [← ByteArray.toList_eq, ← ByteArray.toList_eq]; exact h
    cases a with | mk a => cases b with | mk b => congr 1; exact Array.toList_inj.1 h1
theorem rdI_at (l : List Int) (i : Nat) (h : i < l.length) : rd l (i : Int) = l[i] := getD_at l _ i h
/-- 'for i := 0; i < n; i++ { s = step s l[i] }', and what follows. -/
theorem Evt.fold {σ α β : Type} {F : Nat → σ → Int → Option α} {l : List β} (step : σ → β → σ) (fin : σ → α) (P : Nat → σ → Prop)
    (hend : ∀ s, P l.length s → Evt (fun k => F k s l.length) (fin s))
    (hgo : ∀ i (h : i < l.length) s, P i s → P (i + 1) (step s l[i]) ∧ ∀ v, Evt (fun k => F k (step s l[i]) ((i + 1 : Nat) : Int)) v → Evt (fun k => F k s (i : Nat)) v) :
    ∀ s, P 0 s → Evt (fun k => F k s 0) (fin (l.foldl step s)) := by
  have key : ∀ i, i ≤ l.length → ∀ s, P i s → Evt (fun k => F k s (i : Nat)) (fin ((l.drop i).foldl step s)) := by
    refine down ?_ ?_
    · intro s hs
      rw [List.drop_length]
      exact hend s hs
    · intro i hi ih s hs
      obtain ⟨h1, h2⟩ := hgo i hi s hs
      rw [List.drop_eq_getElem_cons hi, List.foldl_cons]
      exact h2 _ (ih _ h1)
  intro s hs
  have := key 0 (by omega) s hs
  simpa using this
theorem insL_len {α : Type} (le : α → α → Bool) (x : α) (l : List α) : (insL le x l).length = l.length + 1 := by
  induction l with
  | nil => rfl
  | cons y l ih => simp only [insL]; split <;> simp [ih]
theorem isort_len {α : Type} (le : α → α → Bool) (l : List α) : (isort le l).length = l.length := (isort_perm (le := le) l).length_eq
theorem sortInt_len (l : List Int) : (sortInt l).length = l.length := isort_len _ l
end Go.Proofs.Ythkpgjjakdbbfaa.Gen
