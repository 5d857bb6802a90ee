/-
  Grades in plain terms: their checks, whether a lot meets one, of the program and of the reference.
-/
import Derived.Test.YtankffbfocaibaaDoorPTestB
import Derived.Test.YtankffbfocaibaaDoorPx9
import Derived.Test.YtankffbfocaibaaDoorPx8
set_option linter.unusedVariables false
set_option linter.unusedSimpArgs false
namespace Go.Proofs.YtankffbfocaibaaDoor.PGrade
open Go.RowKit Go.Proofs.YtankffbfocaibaaDoorW.PrintWords Go.Proofs.YtankffbfocaibaaDoor.P Go.Proofs.YtankffbfocaibaaDoor.Rnd Go.Proofs.YtankffbfocaibaaDoor.Lex Go.Proofs.YtankffbfocaibaaDoor.PName Go.Proofs.YtankffbfocaibaaDoor.Open Go.Proofs.YtankffbfocaibaaDoor.Ks Go.Proofs.YtankffbfocaibaaDoor.Hof Go.Proofs.YtankffbfocaibaaDoor.Gen Go.Proofs.YtankffbfocaibaaDoor.PTest

abbrev Gr := S32
theorem rdG_at (l : List Gr) (i : Nat) (h : i < l.length) : rd_T32 l (i : Int) = l[i] := getD_at l _ i h
def badNm (g : Gr) : Bool := !nameB g.f0
def badRg (g : Gr) : Bool := !(decide (1 ≤ g.f1) && (decide (g.f1 ≤ 256) && (decide (0 ≤ g.f2) && (decide (g.f2 ≤ 1000000) && (decide (0 ≤ g.f3) && decide (g.f3 ≤ 1000000))))))
def validV (l : List Gr) : Int := if l.any badNm then 4 else if l.any badRg then 6 else 0
theorem badRg_f (g : Gr) : grade_valid_2.f g.f0 g.f1 g.f2 g.f3 = some (badRg g) := by
  unfold grade_valid_2.f badRg grade_in.f
  by_cases h1 : g.f1 < 1
  · rw [if_pos h1, decide_eq_false (show ¬ 1 ≤ g.f1 by omega)]; rfl
  rw [if_neg h1, decide_eq_true (show 1 ≤ g.f1 by omega)]
  by_cases h2 : g.f1 > 256
  · rw [if_pos h2, decide_eq_false (show ¬ g.f1 ≤ 256 by omega)]; rfl
  rw [if_neg h2, decide_eq_true (show g.f1 ≤ 256 by omega)]
  by_cases h3 : 0 ≤ g.f2
  · rw [if_pos (show g.f2 ≥ 0 from h3), decide_eq_true h3]
    by_cases h4 : g.f2 ≤ 1000000
    · rw [decide_eq_true h4]
      by_cases h5 : 0 ≤ g.f3
      · rw [if_pos (show g.f3 ≥ 0 from h5), decide_eq_true h5]; simp
      · rw [if_neg (show ¬ g.f3 ≥ 0 from h5), decide_eq_false h5]; simp
    · rw [decide_eq_false h4]; simp
  · rw [if_neg (show ¬ g.f2 ≥ 0 from h3), decide_eq_false h3]; simp
theorem valid_f (l : List Gr) : grade_valid.f l = some (validV l) := by
  unfold grade_valid.f validV
  have e1 : contains32.f l (fun x_ => grade_valid_1.f x_.f0 x_.f1 x_.f2 x_.f3) = some (l.any badNm) := anyO_some badNm l
  have e2 : contains32.f l (fun x_ => grade_valid_2.f x_.f0 x_.f1 x_.f2 x_.f3) = some (l.any badRg) := by
    rw [show (fun x_ : Gr => grade_valid_2.f x_.f0 x_.f1 x_.f2 x_.f3) = fun x_ => some (badRg x_) from funext badRg_f]
    exact anyO_some badRg l
  rw [e1, e2]
  cases l.any badNm <;> cases l.any badRg <;> rfl
theorem each_ev (l : List Gr) (hl : l.length ≤ 9223372036854775807) (hg : ∀ t ∈ l, t.f0.size ≤ 9223372036854775807) : Evt (fun k => gangsawref34_each.f k l) (validV l) := by
  unfold gangsawref34_each.f validV
  refine Evt.any_list (F := fun k i => gangsawref34_each.l0 k l i) badNm 4 ?_ ?_ ?_
  · refine Evt.succ (g := fun k => gangsawref34_each.l1 k l 0) ?_ (fun k => by simp only [gangsawref34_each.l0, Int.lt_irrefl, if_false])
    refine Evt.any_list (F := fun k i => gangsawref34_each.l1 k l i) badRg 6 ?_ ?_ ?_
    · exact Evt.succ (g := fun _ => some 0) (Evt.pure _) (fun k => by simp only [gangsawref34_each.l1, Int.lt_irrefl, if_false])
    · intro i hi hb
      refine Evt.succ (g := fun _ => some 6) (Evt.pure _) (fun k => ?_)
      unfold badRg at hb
      simp only [gangsawref34_each.l1, rdG_at l i hi, gangsawref34_in.f]
      rw [if_pos (by omega), if_pos (by omega)]
      by_cases h1 : 1 ≤ l[i].f1
      · rw [if_pos h1]
        by_cases h2 : l[i].f1 ≤ 256
        · rw [decide_eq_true h2]
          by_cases h3 : 0 ≤ l[i].f2
          · rw [if_pos h3]
            by_cases h4 : l[i].f2 ≤ 1000000
            · rw [decide_eq_true h4]
              by_cases h5 : 0 ≤ l[i].f3
              · rw [if_pos h5]
                by_cases h6 : l[i].f3 ≤ 1000000
                · simp [h1, h2, h3, h4, h5, h6] at hb
                · rw [decide_eq_false h6]; simp
              · rw [if_neg h5]; simp
            · rw [decide_eq_false h4]; simp
          · rw [if_neg h3]; simp
        · rw [decide_eq_false h2]; simp
      · rw [if_neg h1]; simp
    · intro i hi hb v hv
      refine Evt.succ hv (fun k => ?_)
      unfold badRg at hb
      simp at hb
      simp only [gangsawref34_each.l1, rdG_at l i hi, gangsawref34_in.f]
      rw [if_pos (by omega), if_pos (by omega), if_pos (by omega), decide_eq_true (show l[i].f1 ≤ 256 by omega), if_pos (show 0 ≤ l[i].f2 by omega), decide_eq_true (show l[i].f2 ≤ 1000000 by omega), if_pos (show 0 ≤ l[i].f3 by omega), decide_eq_true (show l[i].f3 ≤ 1000000 by omega)]
      simp only [Option.bind_some, if_true]
      rw [wrap_up i l.length hi hl]
  · intro i hi hb
    have hb2 : nameB l[i].f0 = false := by unfold badNm at hb; simpa using hb
    refine Evt.succ (g := fun k => (gangsawref09_Name.f k l[i].f0).bind fun t => if t = true then gangsawref34_each.l0 k l (wrap64 ((i : Int) + 1)) else some 4) ?_ (fun k => ?_)
    · refine Evt.bind (name_ev _ (hg _ (List.getElem_mem _))) ?_
      rw [hb2]; exact Evt.pure _
    · simp only [gangsawref34_each.l0, rdG_at l i hi]
      rw [if_pos (by omega), if_pos (by omega)]
  · intro i hi hb v hv
    have hb2 : nameB l[i].f0 = true := by unfold badNm at hb; simpa using hb
    refine Evt.succ (g := fun k => (gangsawref09_Name.f k l[i].f0).bind fun t => if t = true then gangsawref34_each.l0 k l (wrap64 ((i : Int) + 1)) else some 4) ?_ (fun k => ?_)
    · refine Evt.bind (name_ev _ (hg _ (List.getElem_mem _))) ?_
      rw [hb2, wrap_up i l.length hi hl]; exact hv
    · simp only [gangsawref34_each.l0, rdG_at l i hi]
      rw [if_pos (by omega), if_pos (by omega)]
end Go.Proofs.YtankffbfocaibaaDoor.PGrade
