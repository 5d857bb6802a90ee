/-
 lexer.Name and the reference's Name agree.
-/
import Derived.Test.YtkdbcaegeeeiaaaGreatEvt
import Derived.Test.YtkdbcaegeeeiaaaGreatLex
import Derived.Test.YtkdbcaegeeeiaaaGreatPx3
set_option linter.unusedVariables false
set_option linter.unusedSimpArgs false
namespace Go.Proofs.YtkdbcaegeeeiaaaGreat.PName
open Go.RowKit Go.Proofs.YtkdbcaegeeeiaaaGreatW.PrintWords Go.Proofs.YtkdbcaegeeeiaaaGreat.P Go.Proofs.YtkdbcaegeeeiaaaGreat.Rnd Go.Proofs.YtkdbcaegeeeiaaaGreat.Lex Go.Proofs.YtkdbcaegeeeiaaaGreat.LexA

def partB (c : Int) : Bool := (decide (48 ≤ c) && decide (c ≤ 57)) || (decide (97 ≤ c) && decide (c ≤ 122)) || (decide (65 ≤ c) && decide (c ≤ 90)) || c == 95
def letB (c : Int) : Bool := (decide (97 ≤ c) && decide (c ≤ 122)) || (decide (65 ≤ c) && decide (c ≤ 90))
theorem part_f (c : Int) : gangsawref09_part.f c = some (partB c) := by
 unfold gangsawref09_part.f gangsawref09_digit.f gangsawref09_letter.f partB
 grind
theorem let_f (c : Int) : gangsawref09_letter.f c = some (letB c) := by
 unfold gangsawref09_letter.f letB
 grind
def badB (s : ByteArray) (i : Nat) : Bool := !partB (bt s i) || (decide (65 ≤ bt s i) && decide (bt s i ≤ 90)) || (i == 0 && !letB (bt s i))
theorem name_ref (s : ByteArray) (hs : s.size ≤ 9223372036854775807) : Evt (fun k => gangsawref09_Name.f k s) (if (List.range' 0 (s.size - 0)).any (badB s) then false else decide (1 ≤ s.size ∧ s.size ≤ 24)) := by
 unfold gangsawref09_Name.f
 refine Evt.any_up (F := fun k i => gangsawref09_Name.l0 k s i) (n := s.size) (badB s) false ?_ ?_ ?_ 0 (by omega)
 ·refine Evt.succ (g := fun _ => some (decide (1 ≤ s.size ∧ s.size ≤ 24))) (Evt.pure _) (fun k => ?_)
  have e1 : ((s.size : Int) ≥ 1) ↔ 1 ≤ s.size := by omega
  have e2 : ((s.size : Int) ≤ 24) ↔ s.size ≤ 24 := by omega
  simp only [gangsawref09_Name.l0, Int.lt_irrefl, if_false, e1, e2]
  by_cases h1 : 1 ≤ s.size <;> by_cases h2 : s.size ≤ 24 <;> simp [h1, h2]
 ·intro i hi hb
  refine Evt.succ (g := fun _ => some false) (Evt.pure _) (fun k => ?_)
  simp only [gangsawref09_Name.l0, part_f, let_f, Option.bind_some]
  unfold badB at hb
  have h1 : (i : Int) < (s.size : Int) := by omega
  have h2 : (0 : Int) ≤ (i : Int) := by omega
  rw [if_pos h1, if_pos h2]
  have h3 : ((i : Int) = 0) ↔ i = 0 := by omega
  generalize bt s i = c at *
  simp only [h3]
  grind
 ·intro i hi hb v hv
  refine Evt.succ hv (fun k => ?_)
  simp only [gangsawref09_Name.l0, part_f, let_f, Option.bind_some]
  unfold badB at hb
  have h1 : (i : Int) < (s.size : Int) := by omega
  have h2 : (0 : Int) ≤ (i : Int) := by omega
  rw [if_pos h1, if_pos h2, wrap_up i s.size hi hs]
  have h3 : ((i : Int) = 0) ↔ i = 0 := by omega
  generalize bt s i = c at *
  simp only [h3]
  grind
theorem low_part : ∀ c : Nat, c < 256 → lowB c = (partB c && !(decide (65 ≤ (c : Int)) && decide ((c : Int) ≤ 90))) := by decide +kernel
theorem runFrom_all (p : Int → Bool) (s : ByteArray) : ∀ d i, s.size = i + d → (runFrom p s d i == s.size) = (List.range' i d).all fun j => p (bt s j) := by
 intro d
 induction d with
 | zero => intro i hi; simp [runFrom, hi]
 | succ d ih =>
  intro i hi
  simp only [runFrom, List.range'_succ, List.all_cons]
  rw [if_pos (by omega)]
  cases hp : p (bt s i) with
  | true => simp [ih (i + 1) (by omega)]
  | false => simp; omega
theorem bt_nat (s : ByteArray) (i : Nat) : ∃ c : Nat, c < 256 ∧ bt s i = (c : Int) := by
 obtain ⟨h0, h1⟩ := bt_range s i
 exact ⟨(bt s i).toNat, by omega, by omega⟩
theorem low_bad (s : ByteArray) (i : Nat) (hi : 0 < i) : lowB (bt s i) = !badB s i := by
 obtain ⟨c, hc, e⟩ := bt_nat s i
 have h := low_part c hc
 unfold badB
 rw [e, h]
 have : (i == 0) = false := by simp; omega
 rw [this]
 cases partB (c : Int) <;> simp
theorem low_zero : ∀ c : Nat, c < 256 → (!decide ((c : Int) < 97) && (!decide (122 < (c : Int)) && lowB c)) = !(!partB c || (decide (65 ≤ (c : Int)) && decide ((c : Int) ≤ 90)) || !letB c) := by decide +kernel
theorem all_not_any {β : Type} (l : List β) (p q : β → Bool) (h : ∀ j ∈ l, p j = !q j) : l.all p = !l.any q := by
 induction l with
 | nil => rfl
 | cons x l ih =>
  rw [List.all_cons, List.any_cons, h x (by simp), ih (fun j hj => h j (by simp [hj])), Bool.not_or]
theorem name_eq (s : ByteArray) : nameB s = (if (List.range' 0 (s.size - 0)).any (badB s) then false else decide (1 ≤ s.size ∧ s.size ≤ 24)) := by
 unfold nameB Lex.runN
 by_cases h0 : s.size = 0
 ·rw [if_pos h0]; simp [h0]
 rw [if_neg h0]
 by_cases h1 : 24 < s.size
 ·rw [if_pos h1]
  have : decide (1 ≤ s.size ∧ s.size ≤ 24) = false := by simp; omega
  rw [this]; simp
 rw [if_neg h1]
 have h2 : decide (1 ≤ s.size ∧ s.size ≤ 24) = true := by simp; omega
 rw [h2, runFrom_all lowB s s.size 0 (by omega)]
 obtain ⟨n, hn⟩ : ∃ n, s.size = n + 1 := ⟨s.size - 1, by omega⟩
 rw [hn, Nat.sub_zero, List.range'_succ, List.all_cons, List.any_cons]
 have hall : ((List.range' (0 + 1) n).all fun j => lowB (bt s j)) = !((List.range' (0 + 1) n).any (badB s)) := by
  exact all_not_any _ _ _ (fun j hj => low_bad s j (by simp at hj; omega))
 obtain ⟨c, hc, e⟩ := bt_nat s 0
 have hz := low_zero c hc
 have e' : bt s 0 = (c : Int) := e
 have hb : badB s 0 = (!partB c || (decide (65 ≤ (c : Int)) && decide ((c : Int) ≤ 90)) || !letB c) := by unfold badB; rw [e]; simp
 rw [hall, hb, e', show bt s (0 : Nat) = (c : Int) from e]
 generalize (List.range' (0 + 1) n).any (badB s) = A
 generalize (!partB c || (decide (65 ≤ (c : Int)) && decide ((c : Int) ≤ 90)) || !letB c) = B at hz
 generalize lowB (c : Int) = L at hz
 by_cases h3 : (c : Int) < 97 <;> by_cases h4 : (122 : Int) < (c : Int) <;> cases A <;> cases B <;> cases L <;> simp_all
/-- lexer.Name is the reference's. -/
theorem name_ev (s : ByteArray) (hs : s.size ≤ 9223372036854775807) : Evt (fun k => gangsawref09_Name.f k s) (nameB s) := by rw [name_eq]; exact name_ref s hs
end Go.Proofs.YtkdbcaegeeeiaaaGreat.PName
