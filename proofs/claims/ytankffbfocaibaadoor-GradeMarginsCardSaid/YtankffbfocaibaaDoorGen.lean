/-
  Plain lemmas on lists, strings and rounds, with no program in sight.
-/
import Derived.Test.YtankffbfocaibaaDoorEvt
import Derived.Test.YtankffbfocaibaaDoorSort
import Derived.Test.YtankffbfocaibaaDoorSm
import Derived.Sort.Walk0
set_option linter.unusedVariables false
set_option linter.unusedSimpArgs false
namespace Go.Proofs.YtankffbfocaibaaDoor.Gen
open Go.RowKit Go.Proofs Go.Proofs.YtankffbfocaibaaDoorW.PrintWords Go.Proofs.YtankffbfocaibaaDoor.Rnd Go.Proofs.YtankffbfocaibaaDoor.Sort

theorem bytes_eq (a b : ByteArray) : (a == b) = decide (a.toList = b.toList) := by
  rw [Bool.eq_iff_iff, beq_iff_eq, decide_eq_true_eq]
  constructor
  · rintro rfl; rfl
  · intro h
    have h1 : a.data.toList = b.data.toList := by rw [← ByteArray.toList_eq, ← ByteArray.toList_eq]; exact h
    cases a with | mk a => cases b with | mk b => congr 1; exact Array.toList_inj.1 h1
theorem rdI_at (l : List Int) (i : Nat) (h : i < l.length) : rd l (i : Int) = l[i] := getD_at l _ i h
theorem Evt.shift {α : Type} {f : Nat → Option α} {v : α} (h : Evt (fun k => f (k + 1)) v) : Evt f v := Evt.succ h (fun _ => rfl)
theorem isort_len {α : Type} (le : α → α → Bool) (l : List α) : (isort le l).length = l.length := (isort_perm (le := le) l).length_eq
theorem sortInt_len (l : List Int) : (sortInt l).length = l.length := isort_len _ l
theorem sortInt_perm (l : List Int) : (sortInt l).Perm l := isort_perm l
theorem sortInt_le (l : List Int) : (sortInt l).Pairwise (· ≤ ·) := by
  have := isort_sorted (le := fun x y : Int => decide (x ≤ y)) (fun a b c h1 h2 => by simp at *; omega) (fun a b => by simp; omega) l
  exact this.imp (fun h => by simpa using h)
end Go.Proofs.YtankffbfocaibaaDoor.Gen
