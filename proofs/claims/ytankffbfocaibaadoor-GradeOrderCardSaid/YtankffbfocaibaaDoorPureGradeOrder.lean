/-
  GradeOrder: the plain law.
-/
import Derived.Test.YtankffbfocaibaaDoorPLot
import Derived.Test.YtankffbfocaibaaDoorPx22
set_option linter.unusedVariables false
set_option linter.unusedSimpArgs false
namespace Go.Proofs.YtankffbfocaibaaDoor.Pure
open Go.RowKit Go.Proofs.YtankffbfocaibaaDoorW.PrintWords Go.Proofs.YtankffbfocaibaaDoorW.PrintLast Go.Proofs.YtankffbfocaibaaDoor.Awk Go.Proofs.YtankffbfocaibaaDoor.P Go.Proofs.YtankffbfocaibaaDoor.Rnd Go.Proofs.YtankffbfocaibaaDoor.Open Go.Proofs.YtankffbfocaibaaDoor.Ks Go.Proofs.YtankffbfocaibaaDoor.Gen Go.Proofs.YtankffbfocaibaaDoor.PTest Go.Proofs.YtankffbfocaibaaDoor.PGrade Go.Proofs.YtankffbfocaibaaDoor.PMargin Go.Proofs.YtankffbfocaibaaDoor.PLot
theorem GradeOrder : ∀ (x0 : S32) (x1 : List (S46)) (x2 : Int), G32 x0 → (GList G46) x1 → (GInt .i64) x2 → ∃ k, gangsawlaw34_GradeOrder.f k x0.f0 x0.f1 x0.f2 x0.f3 x1 x2 = some true := by
  intro g x n hg hx hn
  refine Evt.exists_ (f := fun k => gangsawlaw34_GradeOrder.f k g.f0 g.f1 g.f2 g.f3 x n) ?_
  have hyes : Evt (fun k => gangsawlaw34_GradeOrder.j0 k x n true g.f0 g.f1 g.f2 g.f3) true := Evt.succ (g := fun _ => some true) (Evt.pure _) (fun k => by simp only [gangsawlaw34_GradeOrder.j0, if_true])
  unfold gangsawlaw34_GradeOrder.f
  refine Evt.bind0 (g := gangsawlaw34_awake.f) rfl ?_
  simp only [if_true]
  by_cases c1 : (x.length : Int) > 60
  · simp only [if_pos c1]; exact hyes
  simp only [if_neg c1]
  by_cases c2 : n < 0
  · simp only [if_pos c2]; exact hyes
  simp only [if_neg c2]
  by_cases c3 : n > (x.length : Int)
  · rw [decide_eq_true c3]; exact hyes
  rw [decide_eq_false c3]
  obtain ⟨i, rfl⟩ : ∃ i : Nat, n = (i : Int) := ⟨n.toNat, by omega⟩
  obtain ⟨y, hy⟩ : ∃ y : List T, y = ([] ++ x.drop i) ++ x.take i := ⟨_, rfl⟩
  have hp : y.Perm x := by rw [hy, List.nil_append]; exact turn_perm x i
  have hlen := hp.length_eq
  have h1 : (([] : List T).length + (x.drop i).length) < 4398046511104 := by simp; omega
  have h2 : (([] ++ x.drop i : List T).length + (x.take i).length) < 4398046511104 := by simp; omega
  refine Evt.succ (g := fun k => (grade_Meets.f k g.f0 g.f1 g.f2 g.f3 x).bind fun a => (grade_Meets.f k g.f0 g.f1 g.f2 g.f3 y).bind fun b => (grade_Margin.f k g.f0 g.f1 g.f2 g.f3 x).bind fun c => (grade_Margin.f k g.f0 g.f1 g.f2 g.f3 y).bind fun d => (if a.2 = b.2 then (if (a.1 != b.1) = true then (gangsawlaw34_GradeOrder.j1 k x a.1 a.2 c.1 c.2.1 c.2.2 true g.f0 g.f1 g.f2 g.f3) else (if c.2.2 = d.2.2 then (if c.1 = d.1 then (gangsawlaw34_GradeOrder.j1 k x a.1 a.2 c.1 c.2.1 c.2.2 (c.2.1 != d.2.1) g.f0 g.f1 g.f2 g.f3) else (gangsawlaw34_GradeOrder.j1 k x a.1 a.2 c.1 c.2.1 c.2.2 true g.f0 g.f1 g.f2 g.f3)) else (gangsawlaw34_GradeOrder.j1 k x a.1 a.2 c.1 c.2.1 c.2.2 true g.f0 g.f1 g.f2 g.f3))) else (gangsawlaw34_GradeOrder.j1 k x a.1 a.2 c.1 c.2.1 c.2.2 true g.f0 g.f1 g.f2 g.f3))) ?_ (fun k => ?_)
  · refine Evt.bind (gmeets_ev g x) (Evt.bind (gmeets_ev g y) (Evt.bind (margin_ev g x) (Evt.bind (margin_ev g y) ?_)))
    rw [meets_perm g hp, margin_perm g hp]
    simp only [if_true, bne_self_eq_false, Bool.false_eq_true, if_false]
    refine Evt.succ (g := fun _ => some true) (Evt.pure _) (fun k => ?_)
    simp only [gangsawlaw34_GradeOrder.j1, Bool.false_eq_true, if_false]
    unfold meetsV marginV
    by_cases h : bothV g x = 0
    · have hr := bothV_rank h
      simp only [if_pos h, if_true]
      by_cases hs : (x.length : Int) < g.f1
      · have hf : metV g x = false := by
          cases hm : metV g x with
          | false => rfl
          | true => rw [met_iff hr.1] at hm; omega
        simp [hs, hf]
      · have hm := met_iff (g := g) (l := x) hr.1
        simp only [if_neg hs, if_true, decide_eq_false hs]
        by_cases ha : lowS g x - g.f2 ≥ 0
        · rw [if_pos ha]
          by_cases hb : g.f3 - highA g x ≥ 0
          · rw [hm.2 (by omega), decide_eq_true hb]; rfl
          · have hf : metV g x = false := by
              cases c : metV g x with
              | false => rfl
              | true => have := hm.1 c; omega
            rw [hf, decide_eq_false hb]; rfl
        · have hf : metV g x = false := by
            cases c : metV g x with
            | false => rfl
            | true => have := hm.1 c; omega
          rw [if_neg ha, hf]; rfl
    · simp only [if_neg h]
      simp
  · simp only [gangsawlaw34_GradeOrder.j0, Bool.false_eq_true, if_false, Option.bind_some, Int.toNat_natCast]
    rw [if_pos (by omega), if_pos (by omega), if_pos h1, if_pos h2, ← hy]
end Go.Proofs.YtankffbfocaibaaDoor.Pure
