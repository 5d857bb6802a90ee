/-
  If a does not imply b there is a witness; every witness meets a and does not meet b; if a implies b there is none.
-/
import Derived.Test.YtankffbfocaibaaDoorKs
import Derived.Test.YtankffbfocaibaaDoorPImplies
import Derived.Test.YtankffbfocaibaaDoorPx10
set_option linter.unusedVariables false
set_option linter.unusedSimpArgs false
namespace Go.Proofs.YtankffbfocaibaaDoor.Pure
open Go.RowKit Go.Proofs.YtankffbfocaibaaDoorW.PrintWords Go.Proofs.YtankffbfocaibaaDoorW.PrintLast Go.Proofs.YtankffbfocaibaaDoor.P Go.Proofs.YtankffbfocaibaaDoor.Open Go.Proofs.YtankffbfocaibaaDoor.Ks Go.Proofs.YtankffbfocaibaaDoor.Rnd Go.Proofs.YtankffbfocaibaaDoor.PTest Go.Proofs.YtankffbfocaibaaDoor.PGrade Go.Proofs.YtankffbfocaibaaDoor.PImplies Go.Proofs.YtankffbfocaibaaDoor.Awk
def impV (a b : Gr) : Bool × Int := if validV [a, b] = 0 then (!exP a b a.f1, 0) else (false, validV [a, b])
theorem valid_ok {a b : Gr} (h : validV [a, b] = 0) : okG a ∧ okG b ∧ validV [a] = 0 ∧ validV [b] = 0 := by
  unfold validV at *
  cases h1 : badNm a <;> cases h2 : badNm b <;> cases h3 : badRg a <;> cases h4 : badRg b <;> simp [h1, h2, h3, h4] at h
  refine ⟨?_, ?_, by simp [h1, h3], by simp [h2, h4]⟩
  · unfold badRg at h3
    simp at h3
    unfold okG
    omega
  · unfold badRg at h4
    simp at h4
    unfold okG
    omega
theorem imp_ev (a b : Gr) : Evt (fun k => grade_Implies.f k a.f0 a.f1 a.f2 a.f3 b.f0 b.f1 b.f2 b.f3) (impV a b) := by
  unfold grade_Implies.f impV
  refine Evt.bind0 (valid_f [a, b]) ?_
  by_cases h : validV [a, b] = 0
  · obtain ⟨ha, hb, -, -⟩ := valid_ok h
    simp only [if_pos h]
    refine Evt.bind (lot_ev a b a.f1 ha.2.1 ha.1 ha.2.1) ?_
    have := lotV_nil a b a.f1 ha.1
    cases he : exP a b a.f1 with
    | true =>
      have h2 : ¬ lotV a b a.f1 = [] := fun e => by rw [this.1 e] at he; cases he
      simp only [if_neg h2]; exact Evt.pure _
    | false =>
      simp only [if_pos (this.2 he)]; exact Evt.pure _
  · simp only [if_neg h]; exact Evt.pure _
def witV (a b : Gr) (n : Int) : List T × Int := if validV [a, b] = 0 then (if n < 1 ∨ n > 256 then ([], 6) else if exP a b n = true then (lotV a b n, 0) else ([], 9)) else ([], validV [a, b])
theorem wit_j0 (a b : Gr) (n : Int) (ha : okG a) (hn : n ≤ 256) : Evt (fun k => grade_Witness.j0 k n false a.f0 a.f1 a.f2 a.f3 b.f0 b.f1 b.f2 b.f3) (if exP a b n = true then (lotV a b n, 0) else ([], 9)) := by
  refine Evt.succ (g := fun k => (grade_lot.f k a.f0 a.f1 a.f2 a.f3 b.f0 b.f1 b.f2 b.f3 n).bind fun t => if t = [] then some (([] : List T), (9 : Int)) else some (t, 0)) ?_ (fun k => by simp only [grade_Witness.j0, Bool.false_eq_true, if_false])
  refine Evt.bind (lot_ev a b n hn ha.1 ha.2.1) ?_
  have := lotV_nil a b n ha.1
  cases he : exP a b n with
  | true =>
    have h2 : ¬ lotV a b n = [] := fun e => by rw [this.1 e] at he; cases he
    simp only [if_neg h2]; exact Evt.pure _
  | false => simp only [if_pos (this.2 he)]; exact Evt.pure _
theorem wit_ev (a b : Gr) (n : Int) : Evt (fun k => grade_Witness.f k a.f0 a.f1 a.f2 a.f3 b.f0 b.f1 b.f2 b.f3 n) (witV a b n) := by
  unfold grade_Witness.f witV
  refine Evt.bind0 (valid_f [a, b]) ?_
  by_cases h : validV [a, b] = 0
  · obtain ⟨ha, hb, -, -⟩ := valid_ok h
    simp only [if_pos h]
    by_cases c1 : n < 1
    · simp only [if_pos c1, if_pos (show n < 1 ∨ n > 256 from .inl c1)]
      exact Evt.succ (g := fun _ => some _) (Evt.pure _) (fun k => by simp only [grade_Witness.j0, if_true])
    · simp only [if_neg c1]
      by_cases c2 : n > 256
      · rw [decide_eq_true c2, if_pos (.inr c2)]
        exact Evt.succ (g := fun _ => some _) (Evt.pure _) (fun k => by simp only [grade_Witness.j0, if_true])
      · rw [decide_eq_false c2, if_neg (by omega)]
        exact wit_j0 a b n ha (by omega)
  · simp only [if_neg h]; exact Evt.pure _
theorem meets_wit {a b : Gr} {n : Int} (hn : n ≤ 256) (ha : okG a) (hb : okG b) (va : validV [a] = 0) (vb : validV [b] = 0) (h : exP a b n = true) : meetsV a (lotV a b n) = (true, 0) ∧ meetsV b (lotV a b n) = (false, 0) := by
  have hc := lot_check (b := b) hn ha
  unfold meetsV bothV
  rw [va, vb, hc, met_a ha h, met_b ha hb h]
  simp
theorem tail_ev (a b : Gr) (is : Bool) (ha : okG a) (hb : okG b) (h0 : validV [a, b] = 0) (va : validV [a] = 0) (vb : validV [b] = 0) (his : is = !exP a b a.f1) :
    Evt (fun k => gangsawlaw34_GradeWitness.j0 k is a.f0 a.f1 a.f2 a.f3 b.f0 b.f1 b.f2 b.f3) true := by
  refine Evt.succ (g := fun k => (grade_Witness.f k a.f0 a.f1 a.f2 a.f3 b.f0 b.f1 b.f2 b.f3 a.f1).bind fun bt => if is = true then (if bt.2 = 9 then some ((bt.1.length : Int) == 0) else some false) else
    (grade_Meets.f k a.f0 a.f1 a.f2 a.f3 bt.1).bind fun bt2 => (grade_Meets.f k b.f0 b.f1 b.f2 b.f3 bt.1).bind fun bt3 => if bt.2 = 0 then (if (bt.1.length : Int) = a.f1 then (if bt2.2 = 0 then (if bt3.2 = 0 then (if bt2.1 = true then some (!bt3.1) else some false) else some false) else some false) else some false) else some false) ?_ (fun k => by simp only [gangsawlaw34_GradeWitness.j0])
  refine Evt.bind (wit_ev a b a.f1) ?_
  have hw : witV a b a.f1 = if exP a b a.f1 = true then (lotV a b a.f1, 0) else ([], 9) := by
    unfold witV
    rw [if_pos h0, if_neg (by have := ha.1; have := ha.2.1; omega)]
  rw [hw]
  cases he : exP a b a.f1 with
  | false =>
    rw [he] at his
    subst his
    exact Evt.pure _
  | true =>
    rw [he] at his
    subst his
    obtain ⟨m1, m2⟩ := meets_wit (n := a.f1) ha.2.1 ha hb va vb he
    simp only [Bool.not_true, Bool.false_eq_true, if_false, if_true]
    refine Evt.bind (gmeets_ev a (lotV a b a.f1)) (Evt.bind (gmeets_ev b (lotV a b a.f1)) ?_)
    rw [m1, m2]
    simp only [lotV_length a b a.f1 ha.1 he, if_true]
    exact Evt.pure _
theorem GradeWitness : ∀ (x0 : S32) (x1 : S32) (x2 : Int), G32 x0 → G32 x1 → (GInt .i64) x2 → ∃ k, gangsawlaw34_GradeWitness.f k x0.f0 x0.f1 x0.f2 x0.f3 x1.f0 x1.f1 x1.f2 x1.f3 x2 = some true := by
  intro a b n h1 h2 h3
  refine Evt.exists_ ?_
  unfold gangsawlaw34_GradeWitness.f
  refine Evt.bind0 (show gangsawlaw34_awake.f = some true from rfl) ?_
  simp only [if_true]
  refine Evt.bind (imp_ev a b) ?_
  by_cases h : validV [a, b] = 0
  · obtain ⟨ha, hb, va, vb⟩ := valid_ok h
    have hi : impV a b = (!exP a b a.f1, 0) := by unfold impV; rw [if_pos h]
    rw [hi]
    simp only [if_true]
    refine Evt.bind (wit_ev a b n) ?_
    by_cases c : (witV a b n).2 = 0
    · simp only [if_pos c]
      have hw : n ≤ 256 ∧ exP a b n = true ∧ witV a b n = (lotV a b n, 0) := by
        unfold witV at c ⊢
        rw [if_pos h] at c ⊢
        by_cases c1 : n < 1 ∨ n > 256
        · rw [if_pos c1] at c; cases c
        · rw [if_neg c1] at c ⊢
          cases he : exP a b n with
          | true => rw [if_pos rfl]; exact ⟨by omega, rfl, rfl⟩
          | false => rw [he] at c; cases c
      obtain ⟨w1, w2, w3⟩ := hw
      obtain ⟨m1, m2⟩ := meets_wit w1 ha hb va vb w2
      rw [w3]
      refine Evt.bind (gmeets_ev a (lotV a b n)) (Evt.bind (gmeets_ev b (lotV a b n)) ?_)
      rw [m1, m2, exP_up w2]
      simp only [lotV_length a b n ha.1 w2, Bool.not_true, Bool.false_eq_true, if_false, if_true]
      exact tail_ev a b false ha hb h va vb (by rw [exP_up w2]; rfl)
    · simp only [if_neg c]
      exact tail_ev a b _ ha hb h va vb rfl
  · have hi : impV a b = (false, validV [a, b]) := by unfold impV; rw [if_neg h]
    rw [hi]
    simp only [if_neg h]
    exact Evt.pure _
end Go.Proofs.YtankffbfocaibaaDoor.Pure
