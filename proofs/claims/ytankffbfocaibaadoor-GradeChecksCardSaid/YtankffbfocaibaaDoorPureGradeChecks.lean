/-
  GradeChecks: the plain law.
-/
import Derived.Test.YtankffbfocaibaaDoorPGrade
import Derived.Test.YtankffbfocaibaaDoorPx12
set_option linter.unusedVariables false
set_option linter.unusedSimpArgs false
namespace Go.Proofs.YtankffbfocaibaaDoor.Pure
open Go.RowKit Go.Proofs.YtankffbfocaibaaDoorW.PrintWords Go.Proofs.YtankffbfocaibaaDoorW.PrintLast Go.Proofs.YtankffbfocaibaaDoor.Awk Go.Proofs.YtankffbfocaibaaDoor.P Go.Proofs.YtankffbfocaibaaDoor.Rnd Go.Proofs.YtankffbfocaibaaDoor.Open Go.Proofs.YtankffbfocaibaaDoor.Ks Go.Proofs.YtankffbfocaibaaDoor.Gen Go.Proofs.YtankffbfocaibaaDoor.PTest Go.Proofs.YtankffbfocaibaaDoor.PGrade
/-- the first grade that a lot meets, by both -/
theorem of_loops (l : List Gr) (x : List T) (hl : l.length ≤ 1000000) (hx : x.length ≤ 1000000) : ∀ i, i ≤ l.length → ∃ v, Evt (fun k => grade_Of.l0 k x l (l.length : Int) (i : Nat)) v ∧ Evt (fun k => gangsawref34_Of.l0 k l x (i : Nat)) v := by
  refine down ?_ ?_
  · exact ⟨((⟨#[]⟩ : ByteArray), 9), Evt.succ (g := fun _ => some _) (Evt.pure _) (fun k => by simp only [grade_Of.l0, Int.lt_irrefl, if_false]), Evt.succ (g := fun _ => some _) (Evt.pure _) (fun k => by simp only [gangsawref34_Of.l0, Int.lt_irrefl, if_false])⟩
  · intro i hi ⟨v, h1, h2⟩
    refine ⟨if metV l[i] x = true then (l[i].f0, 0) else v, ?_, ?_⟩
    · refine Evt.succ (g := fun k => (grade_meets.f k l[i].f0 l[i].f1 l[i].f2 l[i].f3 x).bind fun t => if t = true then some (l[i].f0, 0) else grade_Of.l0 k x l (l.length : Int) ((i + 1 : Nat) : Int)) ?_ (fun k => ?_)
      · refine Evt.bind (meets_ev l[i] x hx) ?_
        cases metV l[i] x with
        | true => exact Evt.pure _
        | false => exact h1
      · simp only [grade_Of.l0, rdG_at l i hi]
        rw [if_pos (by omega), if_pos (by omega), if_pos (by omega), wrap_up i l.length hi (by omega)]
    · refine Evt.succ (g := fun k => (gangsawref34_Met.f k l[i].f0 l[i].f1 l[i].f2 l[i].f3 x).bind fun t => if t = true then some (l[i].f0, 0) else gangsawref34_Of.l0 k l x ((i + 1 : Nat) : Int)) ?_ (fun k => ?_)
      · refine Evt.bind (rmet_ev l[i] x hx) ?_
        cases metV l[i] x with
        | true => exact Evt.pure _
        | false => exact h2
      · simp only [gangsawref34_Of.l0, rdG_at l i hi]
        rw [if_pos (by omega), if_pos (by omega), wrap_up i l.length hi (by omega)]
theorem of_ev (l : List Gr) (x : List T) (hg : ∀ t ∈ l, t.f0.size ≤ 9223372036854775807) (hx : ∀ t ∈ x, t.f0.size ≤ 9223372036854775807) : ∃ v, Evt (fun k => grade_Of.f k l x) v ∧ Evt (fun k => gangsawref34_Of.f k l x) v := by
  by_cases h1 : checkG l = 0
  · by_cases h2 : checkV x = 0
    · have hl : l.length ≤ 1000000 := by
        unfold checkG at h1
        by_cases c : 16 < l.length
        · rw [if_pos c] at h1; omega
        · omega
      have hxl := (checkV_zero h2).1
      obtain ⟨v, e1, e2⟩ := of_loops l x hl (by omega) 0 (by omega)
      refine ⟨v, ?_, ?_⟩
      · unfold grade_Of.f
        refine Evt.bind (gcheck_ev l) ?_
        simp only [h1, if_true]
        refine Evt.bind (check_ev x) ?_
        simp only [h2, if_true]
        exact e1
      · unfold gangsawref34_Of.f
        refine Evt.bind (rgcheck_ev l hg) ?_
        simp only [h1, if_true]
        refine Evt.bind (rcheck_ev x hx) ?_
        simp only [h2, if_true]
        exact e2
    · refine ⟨((⟨#[]⟩ : ByteArray), checkV x), ?_, ?_⟩
      · unfold grade_Of.f
        refine Evt.bind (gcheck_ev l) ?_
        simp only [h1, if_true]
        refine Evt.bind (check_ev x) ?_
        simp only [if_neg h2]
        exact Evt.pure _
      · unfold gangsawref34_Of.f
        refine Evt.bind (rgcheck_ev l hg) ?_
        simp only [h1, if_true]
        refine Evt.bind (rcheck_ev x hx) ?_
        simp only [if_neg h2]
        exact Evt.pure _
  · refine ⟨((⟨#[]⟩ : ByteArray), checkG l), ?_, ?_⟩
    · unfold grade_Of.f
      refine Evt.bind (gcheck_ev l) ?_
      simp only [if_neg h1]
      exact Evt.pure _
    · unfold gangsawref34_Of.f
      refine Evt.bind (rgcheck_ev l hg) ?_
      simp only [if_neg h1]
      exact Evt.pure _
theorem GradeChecks : ∀ (x0 : List (S32)) (x1 : List (S46)), (GList G32) x0 → (GList G46) x1 → ∃ k, gangsawlaw34_GradeChecks.f k x0 x1 = some true := by
  intro l x hg hx
  have hgs : ∀ t ∈ l, t.f0.size ≤ 9223372036854775807 := fun t ht => (hg.2 t ht).1
  have hxs : ∀ t ∈ x, t.f0.size ≤ 9223372036854775807 := fun t ht => (hx.2 t ht).1
  refine Evt.exists_ (f := fun k => gangsawlaw34_GradeChecks.f k l x) ?_
  have hloop : ∀ i, i ≤ l.length → Evt (fun k => gangsawlaw34_GradeChecks.l0 k l x (i : Nat)) true := by
    refine down ?_ ?_
    · exact Evt.succ (g := fun _ => some _) (Evt.pure _) (fun k => by simp only [gangsawlaw34_GradeChecks.l0, Int.lt_irrefl, if_false])
    · intro i hi ih
      refine Evt.succ (g := fun k => (grade_Meets.f k l[i].f0 l[i].f1 l[i].f2 l[i].f3 x).bind fun a => (gangsawref34_Meets.f k l[i].f0 l[i].f1 l[i].f2 l[i].f3 x).bind fun b => if (a.1 != b.1) = true then some false else if a.2 = b.2 then gangsawlaw34_GradeChecks.l0 k l x ((i + 1 : Nat) : Int) else some false) ?_ (fun k => ?_)
      · refine Evt.bind (gmeets_ev l[i] x) ?_
        refine Evt.bind (rgmeets_ev l[i] x (hgs _ (List.getElem_mem _)) hxs) ?_
        simp only [bne_self_eq_false, Bool.false_eq_true, if_false, if_true]
        exact ih
      · simp only [gangsawlaw34_GradeChecks.l0, rdG_at l i hi]
        rw [if_pos (by omega), if_pos (by omega), wrap_up i l.length hi hg.1]
  have hj : ∀ b, Evt (fun k => gangsawlaw34_GradeChecks.j0 k l x b) true := by
    intro b
    cases b with
    | true => exact Evt.succ (g := fun _ => some true) (Evt.pure _) (fun k => by simp only [gangsawlaw34_GradeChecks.j0, if_true])
    | false =>
      obtain ⟨v, e1, e2⟩ := of_ev l x hgs hxs
      refine Evt.succ (g := fun k => (grade_Of.f k l x).bind fun a => (gangsawref34_Of.f k l x).bind fun b => (grade_Check.f k l).bind fun c => (gangsawref34_Check.f k l).bind fun d => if c = d then (if a.1.toList = b.1.toList then gangsawlaw34_GradeChecks.j1 k l x (a.2 != b.2) else gangsawlaw34_GradeChecks.j1 k l x true) else gangsawlaw34_GradeChecks.j1 k l x true) ?_ (fun k => by simp only [gangsawlaw34_GradeChecks.j0, Bool.false_eq_true, if_false])
      refine Evt.bind e1 (Evt.bind e2 (Evt.bind (gcheck_ev l) (Evt.bind (rgcheck_ev l hgs) ?_)))
      simp only [if_true, bne_self_eq_false]
      exact Evt.succ (g := fun k => gangsawlaw34_GradeChecks.l0 k l x 0) (hloop 0 (by omega)) (fun k => by simp only [gangsawlaw34_GradeChecks.j1, Bool.false_eq_true, if_false])
  unfold gangsawlaw34_GradeChecks.f
  refine Evt.bind0 (g := gangsawlaw34_awake.f) rfl ?_
  simp only [if_true]
  by_cases c1 : (l.length : Int) > 20
  · simp only [if_pos c1]; exact hj _
  · simp only [if_neg c1]
    by_cases c2 : (x.length : Int) > 40
    · simp only [if_pos c2]
      by_cases c3 : (x.length : Int) ≤ 256
      · simp only [if_pos c3]; exact hj _
      · simp only [if_neg c3]; exact hj _
    · simp only [if_neg c2]; exact hj _
end Go.Proofs.YtankffbfocaibaaDoor.Pure
