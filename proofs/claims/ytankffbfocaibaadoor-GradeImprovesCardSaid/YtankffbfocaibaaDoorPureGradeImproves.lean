/-
  GradeImproves: the plain law.
-/
import Derived.Test.YtankffbfocaibaaDoorPLot
import Derived.Test.YtankffbfocaibaaDoorPx21
set_option linter.unusedVariables false
set_option linter.unusedSimpArgs false
namespace Go.Proofs.YtankffbfocaibaaDoor.Pure
open Go.RowKit Go.Proofs.YtankffbfocaibaaDoorW.PrintWords Go.Proofs.YtankffbfocaibaaDoorW.PrintLast Go.Proofs.YtankffbfocaibaaDoor.Awk Go.Proofs.YtankffbfocaibaaDoor.P Go.Proofs.YtankffbfocaibaaDoor.Rnd Go.Proofs.YtankffbfocaibaaDoor.Open Go.Proofs.YtankffbfocaibaaDoor.Ks Go.Proofs.YtankffbfocaibaaDoor.Gen Go.Proofs.YtankffbfocaibaaDoor.PTest Go.Proofs.YtankffbfocaibaaDoor.PGrade Go.Proofs.YtankffbfocaibaaDoor.PMargin Go.Proofs.YtankffbfocaibaaDoor.PLot
theorem meetsV_2 (g : Gr) (l : List T) : (meetsV g l).2 = bothV g l := by
  unfold meetsV
  by_cases h : bothV g l = 0
  · rw [if_pos h, h]
  · rw [if_neg h]
theorem meetsV_1 {g : Gr} {l : List T} (h : bothV g l = 0) : (meetsV g l).1 = metV g l := by unfold meetsV; rw [if_pos h]
theorem GradeImproves : ∀ (x0 : S32) (x1 : List (S46)) (x2 : Int) (x3 : Int) (x4 : Int), G32 x0 → (GList G46) x1 → (GInt .i64) x2 → (GInt .i64) x3 → (GInt .i64) x4 → ∃ k, gangsawlaw34_GradeImproves.f k x0.f0 x0.f1 x0.f2 x0.f3 x1 x2 x3 x4 = some true := by
  intro g x n st dr hg hx hn hst hdr
  refine Evt.exists_ (f := fun k => gangsawlaw34_GradeImproves.f k g.f0 g.f1 g.f2 g.f3 x n st dr) ?_
  have hyes : Evt (fun k => gangsawlaw34_GradeImproves.j0 k x n st dr true g.f0 g.f1 g.f2 g.f3) true := Evt.succ (g := fun _ => some true) (Evt.pure _) (fun k => by simp only [gangsawlaw34_GradeImproves.j0, if_true])
  unfold gangsawlaw34_GradeImproves.f
  refine Evt.bind0 (g := gangsawlaw34_awake.f) rfl ?_
  simp only [if_true]
  by_cases c1 : (x.length : Int) > 60
  · simp only [if_pos c1]; exact hyes
  simp only [if_neg c1]
  by_cases c2 : n < 0
  · simp only [if_pos c2]; exact hyes
  simp only [if_neg c2]
  by_cases c3 : n ≥ (x.length : Int)
  · simp only [if_pos c3]; exact hyes
  simp only [if_neg c3]
  by_cases c4 : st < 0
  · simp only [if_pos c4]; exact hyes
  simp only [if_neg c4]
  by_cases c5 : st > 1000000
  · simp only [if_pos c5]; exact hyes
  simp only [if_neg c5]
  by_cases c6 : dr < 0
  · simp only [if_pos c6]; exact hyes
  simp only [if_neg c6]
  by_cases c7 : dr > 1000000
  · rw [decide_eq_true c7]; exact hyes
  rw [decide_eq_false c7]
  obtain ⟨i, rfl⟩ : ∃ i : Nat, n = (i : Int) := ⟨n.toNat, by omega⟩
  have hi : i < x.length := by omega
  -- the better lot
  obtain ⟨y, hy⟩ : ∃ y : List T, y = x.set i ⟨x[i].f0, wrap64 (x[i].f1 + st), wrap64 (x[i].f2 - dr)⟩ := ⟨_, rfl⟩
  have hy2 : ∀ a : List T, a = x → (a.set i (⟨(rd_T46 a (i : Int)).f0, wrap64 (((rd_T46 a (i : Int)).f1) + st), (rd_T46 a (i : Int)).f2⟩ : T)) = x.set i ⟨x[i].f0, wrap64 (x[i].f1 + st), x[i].f2⟩ := by
    intro a e
    subst e
    rw [rdT_at a i hi]
  have hy3 : ∀ a : List T, a = x.set i ⟨x[i].f0, wrap64 (x[i].f1 + st), x[i].f2⟩ → (a.set i (⟨(rd_T46 a (i : Int)).f0, (rd_T46 a (i : Int)).f1, wrap64 (((rd_T46 a (i : Int)).f2) - dr)⟩ : T)) = y := by
    intro a e
    subst e
    rw [rdT_at _ i (by rw [List.length_set]; exact hi), List.getElem_set_self, List.set_set, hy]
  refine Evt.succ (g := fun k => (grade_Meets.f k g.f0 g.f1 g.f2 g.f3 x).bind fun a => (grade_Meets.f k g.f0 g.f1 g.f2 g.f3 y).bind fun b => if a.2 = 0 then gangsawlaw34_GradeImproves.j1 k x y a.1 b.1 (b.2 != 0) g.f0 g.f1 g.f2 g.f3 else gangsawlaw34_GradeImproves.j1 k x y a.1 b.1 true g.f0 g.f1 g.f2 g.f3) ?_ (fun k => ?_)
  · have hyes1 : ∀ a b, Evt (fun k => gangsawlaw34_GradeImproves.j1 k x y a b true g.f0 g.f1 g.f2 g.f3) true := fun a b => Evt.succ (g := fun _ => some true) (Evt.pure _) (fun k => by simp only [gangsawlaw34_GradeImproves.j1, if_true])
    refine Evt.bind (gmeets_ev g x) (Evt.bind (gmeets_ev g y) ?_)
    rw [meetsV_2, meetsV_2]
    by_cases h1 : bothV g x = 0
    · simp only [if_pos h1]
      by_cases h2 : bothV g y = 0
      · rw [meetsV_1 h1, meetsV_1 h2, h2]
        have hr := bothV_rank h1
        have hv := checkV_range (bothV_len h1) x[i] (List.getElem_mem _)
        rw [wrap_mid (x[i].f1 + st) (by omega) (by omega), wrap_mid (x[i].f2 - dr) (by omega) (by omega)] at hy
        have hlen : y.length = x.length := by rw [hy, List.length_set]
        refine Evt.succ (g := fun k => (grade_Margin.f k g.f0 g.f1 g.f2 g.f3 x).bind fun a => (grade_Margin.f k g.f0 g.f1 g.f2 g.f3 y).bind fun b => if metV g x = true then (if metV g y = true then (if a.2.2 = b.2.2 then (if a.2.2 = 0 then (if b.1 ≥ a.1 then some (decide (b.2.1 ≥ a.2.1)) else some false) else some true) else some false) else some false) else (if a.2.2 = b.2.2 then (if a.2.2 = 0 then (if b.1 ≥ a.1 then some (decide (b.2.1 ≥ a.2.1)) else some false) else some true) else some false)) ?_ (fun k => by simp only [gangsawlaw34_GradeImproves.j1, bne_self_eq_false, Bool.false_eq_true, if_false])
        refine Evt.bind (margin_ev g x) (Evt.bind (margin_ev g y) ?_)
        have hmono : g.f1 ≤ (x.length : Int) → lowS g x ≤ lowS g y ∧ highA g y ≤ highA g x := fun h => by
          rw [hy]
          exact ⟨low_better hr.1 h i hi _ (by simp; omega), high_better hr.1 h i hi _ (by simp; omega)⟩
        have hmet : metV g x = true → metV g y = true := fun h => by
          rw [met_iff hr.1] at h ⊢
          have := hmono h.1
          rw [hlen]
          omega
        unfold marginV
        simp only [if_pos h1, if_pos h2, hlen]
        refine Evt.const (fun k => ?_)
        by_cases hn : (x.length : Int) < g.f1
        · simp only [if_pos hn]
          have hf : metV g x = false := by
            cases hm : metV g x with
            | false => rfl
            | true => rw [met_iff hr.1] at hm; omega
          rw [hf]; simp
        · have hm := hmono (by omega)
          simp only [if_neg hn, if_true]
          rw [if_pos (show lowS g y - g.f2 ≥ lowS g x - g.f2 by omega), decide_eq_true (show g.f3 - highA g y ≥ g.f3 - highA g x by omega)]
          by_cases hmx : metV g x = true
          · rw [if_pos hmx, if_pos (hmet hmx)]
          · rw [if_neg hmx]
      · rw [show (bothV g y != 0) = true by simpa using h2]; exact hyes1 _ _
    · simp only [if_neg h1]; exact hyes1 _ _
  · have hl2 : ([] ++ x : List T) = x := List.nil_append x
    simp only [gangsawlaw34_GradeImproves.j0, Bool.false_eq_true, if_false, Option.bind_some, Int.toNat_natCast]
    rw [if_pos (by simp; omega), if_pos (by omega), if_pos (by rw [hl2]; omega), hy2 _ hl2, hy3 _ rfl]
end Go.Proofs.YtankffbfocaibaaDoor.Pure
