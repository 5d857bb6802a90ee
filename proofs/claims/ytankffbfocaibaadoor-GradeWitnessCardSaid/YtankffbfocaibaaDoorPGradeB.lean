/-
  Grades in plain terms: their checks, whether a lot meets one, of the program and of the reference.
-/
import Derived.Test.YtankffbfocaibaaDoorPTestB
import Derived.Test.YtankffbfocaibaaDoorPx9
import Derived.Test.YtankffbfocaibaaDoorPx8
set_option linter.unusedVariables false
set_option linter.unusedSimpArgs false
namespace Go.Proofs.YtankffbfocaibaaDoor.PGrade
open Go.RowKit Go.Proofs.YtankffbfocaibaaDoorW.PrintWords Go.Proofs.YtankffbfocaibaaDoor.P Go.Proofs.YtankffbfocaibaaDoor.Rnd Go.Proofs.YtankffbfocaibaaDoor.Lex Go.Proofs.YtankffbfocaibaaDoor.PName Go.Proofs.YtankffbfocaibaaDoor.Open Go.Proofs.YtankffbfocaibaaDoor.Ks Go.Proofs.YtankffbfocaibaaDoor.Hof Go.Proofs.YtankffbfocaibaaDoor.Gen Go.Proofs.YtankffbfocaibaaDoor.PTest

abbrev Gr := S32
theorem rdG_at (l : List Gr) (i : Nat) (h : i < l.length) : rd_T32 l (i : Int) = l[i] := getD_at l _ i h
def badNm (g : Gr) : Bool := !nameB g.f0
def badRg (g : Gr) : Bool := !(decide (1 ≤ g.f1) && (decide (g.f1 ≤ 256) && (decide (0 ≤ g.f2) && (decide (g.f2 ≤ 1000000) && (decide (0 ≤ g.f3) && decide (g.f3 ≤ 1000000))))))
def validV (l : List Gr) : Int := if l.any badNm then 4 else if l.any badRg then 6 else 0
theorem badRg_f (g : Gr) : grade_valid_2.f g.f0 g.f1 g.f2 g.f3 = some (badRg g) := by
  unfold grade_valid_2.f badRg grade_in.f
  by_cases h1 : g.f1 < 1
  · rw [if_pos h1, decide_eq_false (show ¬ 1 ≤ g.f1 by omega)]; rfl
  rw [if_neg h1, decide_eq_true (show 1 ≤ g.f1 by omega)]
  by_cases h2 : g.f1 > 256
  · rw [if_pos h2, decide_eq_false (show ¬ g.f1 ≤ 256 by omega)]; rfl
  rw [if_neg h2, decide_eq_true (show g.f1 ≤ 256 by omega)]
  by_cases h3 : 0 ≤ g.f2
  · rw [if_pos (show g.f2 ≥ 0 from h3), decide_eq_true h3]
    by_cases h4 : g.f2 ≤ 1000000
    · rw [decide_eq_true h4]
      by_cases h5 : 0 ≤ g.f3
      · rw [if_pos (show g.f3 ≥ 0 from h5), decide_eq_true h5]; simp
      · rw [if_neg (show ¬ g.f3 ≥ 0 from h5), decide_eq_false h5]; simp
    · rw [decide_eq_false h4]; simp
  · rw [if_neg (show ¬ g.f2 ≥ 0 from h3), decide_eq_false h3]; simp
theorem valid_f (l : List Gr) : grade_valid.f l = some (validV l) := by
  unfold grade_valid.f validV
  have e1 : contains32.f l (fun x_ => grade_valid_1.f x_.f0 x_.f1 x_.f2 x_.f3) = some (l.any badNm) := anyO_some badNm l
  have e2 : contains32.f l (fun x_ => grade_valid_2.f x_.f0 x_.f1 x_.f2 x_.f3) = some (l.any badRg) := by
    rw [show (fun x_ : Gr => grade_valid_2.f x_.f0 x_.f1 x_.f2 x_.f3) = fun x_ => some (badRg x_) from funext badRg_f]
    exact anyO_some badRg l
  rw [e1, e2]
  cases l.any badNm <;> cases l.any badRg <;> rfl
def weakN (l : List T) (s : Int) : Nat := (l.filter fun t => decide (t.f1 < s)).length
def wetN (l : List T) (a : Int) : Nat := (l.filter fun t => decide (t.f2 > a)).length
def metV (g : Gr) (l : List T) : Bool := decide ((l.length : Int) ≥ g.f1) && (decide ((weakN l g.f2 : Int) < g.f1) && decide ((wetN l g.f3 : Int) < g.f1))
theorem filter_take (q : T → Bool) (l : List T) (i : Nat) (hi : i < l.length) : ((l.take (i + 1)).filter q).length = ((l.take i).filter q).length + (if q l[i] = true then 1 else 0) := by
  rw [List.take_succ_eq_append_getElem hi, List.filter_append, List.length_append]
  cases h : q l[i] <;> simp [h]
theorem filter_le (q : T → Bool) (l : List T) (i : Nat) : ((l.take i).filter q).length ≤ l.length := Nat.le_trans (List.length_filter_le _ _) (by simp; omega)
theorem count_ev (l : List T) (hl : l.length ≤ 1000000) (p : T → Option Bool) (q : T → Bool) (hp : ∀ t : T, p t = some (q t)) : Evt (fun k => grade_count.f k l p) ((l.filter q).length : Int) := by
  unfold grade_count.f
  have key : ∀ i, i ≤ l.length → Evt (fun k => grade_count.l0 k p (((l.take i).filter q).length : Int) l (l.length : Int) (i : Nat)) ((l.filter q).length : Int) := by
    refine down ?_ ?_
    · refine Evt.succ (g := fun _ => some _) (Evt.pure _) (fun k => ?_)
      simp only [grade_count.l0, Int.lt_irrefl, if_false, List.take_length]
    · intro i hi ih
      have hle := filter_le q l i
      have ht := filter_take q l i hi
      refine Evt.succ ih (fun k => ?_)
      simp only [grade_count.l0, rdG_at, rdT_at l i hi]
      rw [if_pos (by omega), if_pos (by omega), if_pos (by omega), show p (⟨l[i].f0, l[i].f1, l[i].f2⟩ : T) = some (q l[i]) from hp l[i], Option.bind_some, wrap_up i l.length hi (by omega)]
      cases c : q l[i] with
      | true => rw [c] at ht; rw [if_pos rfl, wrap_mid _ (by omega) (by omega)]; simp only [if_true] at ht; rw [show (((l.take i).filter q).length : Int) + 1 = (((l.take (i + 1)).filter q).length : Int) by omega]
      | false => rw [c] at ht; rw [if_neg (by simp)]; simp only [Bool.false_eq_true, if_false, Nat.add_zero] at ht; rw [ht]
  exact key 0 (by omega)
theorem meets_ev (g : Gr) (l : List T) (hl : l.length ≤ 1000000) : Evt (fun k => grade_meets.f k g.f0 g.f1 g.f2 g.f3 l) (metV g l) := by
  unfold grade_meets.f metV
  by_cases h1 : (l.length : Int) ≥ g.f1
  · rw [decide_eq_true h1]
    refine Evt.of_eq (g := fun k => (grade_count.f k l (fun x_ => grade_meets_1.f x_.f0 x_.f1 x_.f2 g.f0 g.f1 g.f2 g.f3)).bind fun t => if t < g.f1 then ((grade_count.f k l (fun x_ => grade_meets_2.f x_.f0 x_.f1 x_.f2 g.f0 g.f1 g.f2 g.f3)).bind fun t => some (decide (t < g.f1))) else some false) ?_ (fun k => by rw [if_pos h1])
    refine Evt.bind (v := ((weakN l g.f2 : Nat) : Int)) (count_ev l hl _ (fun t => decide (t.f1 < g.f2)) (fun t => rfl)) ?_
    by_cases h2 : (weakN l g.f2 : Int) < g.f1
    · rw [decide_eq_true h2]
      refine Evt.of_eq (g := fun k => (grade_count.f k l (fun x_ => grade_meets_2.f x_.f0 x_.f1 x_.f2 g.f0 g.f1 g.f2 g.f3)).bind fun t => some (decide (t < g.f1))) ?_ (fun k => by rw [if_pos h2])
      refine Evt.bind (v := ((wetN l g.f3 : Nat) : Int)) (count_ev l hl _ (fun t => decide (t.f2 > g.f3)) (fun t => rfl)) ?_
      exact Evt.pure _
    · rw [decide_eq_false h2]
      exact Evt.const (fun k => by rw [if_neg h2]; rfl)
  · rw [decide_eq_false h1]
    exact Evt.const (fun k => by rw [if_neg h1]; rfl)
def bothV (g : Gr) (l : List T) : Int := if validV [g] = 0 then checkV l else validV [g]
def meetsV (g : Gr) (l : List T) : Bool × Int := if bothV g l = 0 then (metV g l, 0) else (false, bothV g l)
theorem both_ev (g : Gr) (l : List T) : Evt (fun k => grade_both.f k g.f0 g.f1 g.f2 g.f3 l) (bothV g l) := by
  unfold grade_both.f bothV
  refine Evt.bind0 (g := grade_valid.f [g]) (valid_f [g]) ?_
  by_cases h : validV [g] = 0
  · simp only [if_pos h]; exact Evt.bind (check_ev l) (Evt.pure _)
  · simp only [if_neg h]; exact Evt.pure _
theorem bothV_len {g : Gr} {l : List T} (h : bothV g l = 0) : checkV l = 0 := by
  unfold bothV at h
  by_cases c : validV [g] = 0
  · rw [if_pos c] at h; exact h
  · rw [if_neg c] at h; exact absurd h c
theorem gmeets_ev (g : Gr) (l : List T) : Evt (fun k => grade_Meets.f k g.f0 g.f1 g.f2 g.f3 l) (meetsV g l) := by
  unfold grade_Meets.f meetsV
  refine Evt.bind (both_ev g l) ?_
  by_cases h : bothV g l = 0
  · simp only [if_pos h]
    have := (checkV_zero (bothV_len h)).1
    exact Evt.bind (meets_ev g l (by omega)) (Evt.pure _)
  · simp only [if_neg h]; exact Evt.pure _
end Go.Proofs.YtankffbfocaibaaDoor.PGrade
