/-
  Plain lemmas on lists, strings and rounds, with no program in sight.
-/
import Derived.Test.YthkpgjjakdbbfaaEvt
import Derived.Test.YthkpgjjakdbbfaaSort
import Derived.Test.YthkpgjjakdbbfaaSm
import Derived.Sort.Walk0
set_option linter.unusedVariables false
set_option linter.unusedSimpArgs false
namespace Go.Proofs.Ythkpgjjakdbbfaa.Gen
open Go.RowKit Go.Proofs Go.Proofs.YthkpgjjakdbbfaaW.PrintWords Go.Proofs.Ythkpgjjakdbbfaa.Rnd Go.Proofs.Ythkpgjjakdbbfaa.Sort

theorem bytes_eq (a b : ByteArray) : (a == b) = decide (a.toList = b.toList) := by
  rw [Bool.eq_iff_iff, beq_iff_eq, decide_eq_true_eq]
  constructor
  · rintro rfl; rfl
  · intro h
    have h1 : a.data.toList = b.data.toList := by rw [← ByteArray.toList_eq, ← ByteArray.toList_eq]; exact h
    cases a with | mk a => cases b with | mk b => congr 1; exact Array.toList_inj.1 h1
theorem toList_inj {a b : ByteArray} : a.toList = b.toList ↔ a = b := by
  have h := bytes_eq a b
  constructor
  · intro e; rw [e] at h; simpa using h
  · rintro rfl; rfl
theorem toList_mk (l : List UInt8) : (⟨l.toArray⟩ : ByteArray).toList = l := by rw [ByteArray.toList_eq]
theorem map_toList_inj : ∀ {a b : List ByteArray}, a.map (·.toList) = b.map (·.toList) → a = b
  | [], [], _ => rfl
  | [], _ :: _, h => by simp at h
  | _ :: _, [], h => by simp at h
  | x :: a, y :: b, h => by
    rw [List.map_cons, List.map_cons, List.cons.injEq] at h
    rw [toList_inj.1 h.1, map_toList_inj h.2]
theorem rdS_at (l : List ByteArray) (i : Nat) (h : i < l.length) : rdOf ByteArray.empty l (i : Int) = l[i] := getD_at l _ i h
theorem isort_len {α : Type} (le : α → α → Bool) (l : List α) : (isort le l).length = l.length := (isort_perm (le := le) l).length_eq
theorem sortInt_len (l : List Int) : (sortInt l).length = l.length := isort_len _ l
theorem sortInt_perm (l : List Int) : (sortInt l).Perm l := isort_perm l
theorem sortInt_le (l : List Int) : (sortInt l).Pairwise (· ≤ ·) := by
  have := isort_sorted (le := fun x y : Int => decide (x ≤ y)) (fun a b c h1 h2 => by simp at *; omega) (fun a b => by simp; omega) l
  exact this.imp (fun h => by simpa using h)
theorem sortInt_of_perm {a b : List Int} (h : a.Perm b) : sortInt a = sortInt b :=
  List.Perm.eq_of_pairwise (fun x y _ _ h1 h2 => Int.le_antisymm h1 h2) (sortInt_le a) (sortInt_le b) ((sortInt_perm a).trans (h.trans (sortInt_perm b).symm))
theorem isort_le (l : List (List UInt8)) : (isort (fun x y => decide (x ≤ y)) l).Pairwise (· ≤ ·) := by
  have := isort_sorted (le := fun x y : List UInt8 => decide (x ≤ y)) (fun a b c h1 h2 => by simp only [decide_eq_true_eq] at *; exact List.le_trans h1 h2) (fun a b => by simp only [Bool.or_eq_true, decide_eq_true_eq]; exact List.le_total a b) l
  exact this.imp (fun h => by simpa using h)
theorem bytes_unique {a b : List (List UInt8)} (ha : a.Pairwise (· ≤ ·)) (hb : b.Pairwise (· ≤ ·)) (h : a.Perm b) : a = b :=
  List.Perm.eq_of_pairwise (fun x y _ _ h1 h2 => List.le_antisymm h1 h2) ha hb h
theorem sortStr_toList (l : List ByteArray) : (sortStr l).map (·.toList) = isort (fun x y => decide (x ≤ y)) (l.map (·.toList)) := by
  unfold sortStr
  rw [List.map_map]
  have e1 : ((·.toList) ∘ fun b : List UInt8 => (⟨b.toArray⟩ : ByteArray)) = id := by funext b; exact toList_mk b
  rw [e1, List.map_id]
theorem sortStr_of_perm {a b : List ByteArray} (h : a.Perm b) : sortStr a = sortStr b := by
  apply map_toList_inj
  rw [sortStr_toList, sortStr_toList]
  exact bytes_unique (isort_le _) (isort_le _) ((isort_perm _).trans ((h.map _).trans (isort_perm _).symm))
theorem sortStr_len (l : List ByteArray) : (sortStr l).length = l.length := by unfold sortStr; rw [List.length_map, isort_len, List.length_map]
end Go.Proofs.Ythkpgjjakdbbfaa.Gen
