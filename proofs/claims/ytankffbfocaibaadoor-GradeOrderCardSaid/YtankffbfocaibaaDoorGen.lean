/-
  Plain lemmas on lists, strings and rounds, with no program in sight.
-/
import Derived.Test.YtankffbfocaibaaDoorEvt
import Derived.Test.YtankffbfocaibaaDoorSort
import Derived.Test.YtankffbfocaibaaDoorSm
import Derived.Sort.Walk0
set_option linter.unusedVariables false
set_option linter.unusedSimpArgs false
namespace Go.Proofs.YtankffbfocaibaaDoor.Gen
open Go.RowKit Go.Proofs Go.Proofs.YtankffbfocaibaaDoorW.PrintWords Go.Proofs.YtankffbfocaibaaDoor.Rnd Go.Proofs.YtankffbfocaibaaDoor.Sort

theorem rdI_at (l : List Int) (i : Nat) (h : i < l.length) : rd l (i : Int) = l[i] := getD_at l _ i h
theorem Evt.shift {α : Type} {f : Nat → Option α} {v : α} (h : Evt (fun k => f (k + 1)) v) : Evt f v := Evt.succ h (fun _ => rfl)
theorem isort_len {α : Type} (le : α → α → Bool) (l : List α) : (isort le l).length = l.length := (isort_perm (le := le) l).length_eq
theorem sortInt_len (l : List Int) : (sortInt l).length = l.length := isort_len _ l
theorem sortInt_perm (l : List Int) : (sortInt l).Perm l := isort_perm l
theorem sortInt_le (l : List Int) : (sortInt l).Pairwise (· ≤ ·) := by
  have := isort_sorted (le := fun x y : Int => decide (x ≤ y)) (fun a b c h1 h2 => by simp at *; omega) (fun a b => by simp; omega) l
  exact this.imp (fun h => by simpa using h)
theorem sortInt_of_perm {a b : List Int} (h : a.Perm b) : sortInt a = sortInt b :=
  List.Perm.eq_of_pairwise (fun x y _ _ h1 h2 => Int.le_antisymm h1 h2) (sortInt_le a) (sortInt_le b) ((sortInt_perm a).trans (h.trans (sortInt_perm b).symm))
theorem filter_perm_len {α : Type} (p : α → Bool) {a b : List α} (h : a.Perm b) : (a.filter p).length = (b.filter p).length := (h.filter p).length_eq
end Go.Proofs.YtankffbfocaibaaDoor.Gen
