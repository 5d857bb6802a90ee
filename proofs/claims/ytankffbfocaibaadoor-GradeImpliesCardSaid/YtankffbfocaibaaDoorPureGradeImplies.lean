/-
  Implies says what the reference says, and Witness too.
-/
import Derived.Test.YtankffbfocaibaaDoorKs
import Derived.Test.YtankffbfocaibaaDoorPImplies
import Derived.Test.YtankffbfocaibaaDoorPx7
set_option linter.unusedVariables false
set_option linter.unusedSimpArgs false
namespace Go.Proofs.YtankffbfocaibaaDoor.Pure
open Go.RowKit Go.Proofs.YtankffbfocaibaaDoorW.PrintWords Go.Proofs.YtankffbfocaibaaDoorW.PrintLast Go.Proofs.YtankffbfocaibaaDoor.P Go.Proofs.YtankffbfocaibaaDoor.Open Go.Proofs.YtankffbfocaibaaDoor.Ks Go.Proofs.YtankffbfocaibaaDoor.Rnd Go.Proofs.YtankffbfocaibaaDoor.PTest Go.Proofs.YtankffbfocaibaaDoor.PGrade Go.Proofs.YtankffbfocaibaaDoor.PImplies Go.Proofs.YtankffbfocaibaaDoor.Awk
def impV (a b : Gr) : Bool × Int := if validV [a, b] = 0 then (!exP a b a.f1, 0) else (false, validV [a, b])
theorem valid_ok {a b : Gr} (h : validV [a, b] = 0) : okG a ∧ okG b ∧ validV [a] = 0 ∧ validV [b] = 0 := by
  unfold validV at *
  cases h1 : badNm a <;> cases h2 : badNm b <;> cases h3 : badRg a <;> cases h4 : badRg b <;> simp [h1, h2, h3, h4] at h
  refine ⟨?_, ?_, by simp [h1, h3], by simp [h2, h4]⟩
  · unfold badRg at h3
    simp at h3
    unfold okG
    omega
  · unfold badRg at h4
    simp at h4
    unfold okG
    omega
theorem imp_ev (a b : Gr) : Evt (fun k => grade_Implies.f k a.f0 a.f1 a.f2 a.f3 b.f0 b.f1 b.f2 b.f3) (impV a b) := by
  unfold grade_Implies.f impV
  refine Evt.bind0 (valid_f [a, b]) ?_
  by_cases h : validV [a, b] = 0
  · obtain ⟨ha, hb, -, -⟩ := valid_ok h
    simp only [if_pos h]
    refine Evt.bind (lot_ev a b a.f1 ha.2.1 ha.1 ha.2.1) ?_
    have := lotV_nil a b a.f1 ha.1
    cases he : exP a b a.f1 with
    | true =>
      have h2 : ¬ lotV a b a.f1 = [] := fun e => by rw [this.1 e] at he; cases he
      simp only [if_neg h2]; exact Evt.pure _
    | false =>
      simp only [if_pos (this.2 he)]; exact Evt.pure _
  · simp only [if_neg h]; exact Evt.pure _
theorem each2 (a b : Gr) (hs : a.f0.size ≤ 9223372036854775807) (ht : b.f0.size ≤ 9223372036854775807) : Evt (fun k => gangsawref34_each.f k [a, b]) (validV [a, b]) := by
  refine each_ev [a, b] (by simp) (fun t h => ?_)
  simp only [List.mem_cons, List.not_mem_nil, or_false] at h
  rcases h with rfl | rfl
  · exact hs
  · exact ht
theorem rimp_step (a b : Gr) (ha : okG a) (hb : okG b) (i : Nat) (hi : i < 257) (k : Nat) : gangsawref34_Implies.l0 (k + 1) (i : Nat) a.f0 a.f1 a.f2 a.f3 b.f0 b.f1 b.f2 b.f3 =
    if exP a b (i : Nat) = true then some (false, 0) else gangsawref34_Implies.l0 k ((i + 1 : Nat) : Int) a.f0 a.f1 a.f2 a.f3 b.f0 b.f1 b.f2 b.f3 := by
  simp only [gangsawref34_Implies.l0]
  rw [if_pos (by omega), exists_f a b _ ha.1 ha.2.1 hb.1, wrap_up i 257 (by omega) (by omega)]
  rfl
theorem rimp_no (a b : Gr) (ha : okG a) (hb : okG b) (hn : ∀ n : Nat, n ≤ 256 → exP a b n = false) : ∀ i, i ≤ 257 → Evt (fun k => gangsawref34_Implies.l0 k (i : Nat) a.f0 a.f1 a.f2 a.f3 b.f0 b.f1 b.f2 b.f3) (true, 0) := by
  refine down ?_ ?_
  · exact Evt.succ (g := fun _ => some _) (Evt.pure _) (fun k => by simp only [gangsawref34_Implies.l0]; rw [if_neg (by omega)])
  · intro i hi ih
    refine Evt.succ ih (fun k => ?_)
    rw [rimp_step a b ha hb i hi, hn i (by omega)]
    rfl
theorem rimp_yes (a b : Gr) (ha : okG a) (hb : okG b) (m : Nat) (hm : m ≤ 256) (he : exP a b m = true) : ∀ i, i ≤ m → Evt (fun k => gangsawref34_Implies.l0 k (i : Nat) a.f0 a.f1 a.f2 a.f3 b.f0 b.f1 b.f2 b.f3) (false, 0) := by
  refine down ?_ ?_
  · exact Evt.succ (g := fun _ => some _) (Evt.pure _) (fun k => by rw [rimp_step a b ha hb m (by omega), he]; rfl)
  · intro i hi ih
    cases hc : exP a b (i : Nat) with
    | true => exact Evt.succ (g := fun _ => some _) (Evt.pure _) (fun k => by rw [rimp_step a b ha hb i (by omega), hc]; rfl)
    | false => exact Evt.succ ih (fun k => by rw [rimp_step a b ha hb i (by omega), hc]; rfl)
theorem rimp_ev (a b : Gr) (hs : a.f0.size ≤ 9223372036854775807) (ht : b.f0.size ≤ 9223372036854775807) : Evt (fun k => gangsawref34_Implies.f k a.f0 a.f1 a.f2 a.f3 b.f0 b.f1 b.f2 b.f3) (impV a b) := by
  unfold gangsawref34_Implies.f impV
  refine Evt.bind (each2 a b hs ht) ?_
  by_cases h : validV [a, b] = 0
  · obtain ⟨ha, hb, -, -⟩ := valid_ok h
    simp only [if_pos h]
    cases he : exP a b a.f1 with
    | true =>
      have := rimp_yes a b ha hb a.f1.toNat (by have := ha.2.1; omega) (by rw [show ((a.f1.toNat : Nat) : Int) = a.f1 by have := ha.1; omega]; exact he) 1 (by have := ha.1; omega)
      exact this
    | false =>
      have := rimp_no a b ha hb (fun n _ => by
        cases h3 : exP a b n with
        | false => rfl
        | true => rw [exP_up h3] at he; cases he) 1 (by omega)
      exact this
  · simp only [if_neg h]; exact Evt.pure _
def witV (a b : Gr) (n : Int) : List T × Int := if validV [a, b] = 0 then (if n < 1 ∨ n > 256 then ([], 6) else if exP a b n = true then (lotV a b n, 0) else ([], 9)) else ([], validV [a, b])
theorem wit_j0 (a b : Gr) (n : Int) (ha : okG a) (hn : n ≤ 256) : Evt (fun k => grade_Witness.j0 k n false a.f0 a.f1 a.f2 a.f3 b.f0 b.f1 b.f2 b.f3) (if exP a b n = true then (lotV a b n, 0) else ([], 9)) := by
  refine Evt.succ (g := fun k => (grade_lot.f k a.f0 a.f1 a.f2 a.f3 b.f0 b.f1 b.f2 b.f3 n).bind fun t => if t = [] then some (([] : List T), (9 : Int)) else some (t, 0)) ?_ (fun k => by simp only [grade_Witness.j0, Bool.false_eq_true, if_false])
  refine Evt.bind (lot_ev a b n hn ha.1 ha.2.1) ?_
  have := lotV_nil a b n ha.1
  cases he : exP a b n with
  | true =>
    have h2 : ¬ lotV a b n = [] := fun e => by rw [this.1 e] at he; cases he
    simp only [if_neg h2]; exact Evt.pure _
  | false => simp only [if_pos (this.2 he)]; exact Evt.pure _
theorem wit_ev (a b : Gr) (n : Int) : Evt (fun k => grade_Witness.f k a.f0 a.f1 a.f2 a.f3 b.f0 b.f1 b.f2 b.f3 n) (witV a b n) := by
  unfold grade_Witness.f witV
  refine Evt.bind0 (valid_f [a, b]) ?_
  by_cases h : validV [a, b] = 0
  · obtain ⟨ha, hb, -, -⟩ := valid_ok h
    simp only [if_pos h]
    by_cases c1 : n < 1
    · simp only [if_pos c1, if_pos (show n < 1 ∨ n > 256 from .inl c1)]
      exact Evt.succ (g := fun _ => some _) (Evt.pure _) (fun k => by simp only [grade_Witness.j0, if_true])
    · simp only [if_neg c1]
      by_cases c2 : n > 256
      · rw [decide_eq_true c2, if_pos (.inr c2)]
        exact Evt.succ (g := fun _ => some _) (Evt.pure _) (fun k => by simp only [grade_Witness.j0, if_true])
      · rw [decide_eq_false c2, if_neg (by omega)]
        exact wit_j0 a b n ha (by omega)
  · simp only [if_neg h]; exact Evt.pure _
theorem cwit_ev (a b : Gr) (n : Int) (hs : a.f0.size ≤ 9223372036854775807) (ht : b.f0.size ≤ 9223372036854775807) : Evt (fun k => gangsawref34_CheckWitness.f k a.f0 a.f1 a.f2 a.f3 b.f0 b.f1 b.f2 b.f3 n) (witV a b n).2 := by
  unfold gangsawref34_CheckWitness.f witV
  refine Evt.bind (each2 a b hs ht) ?_
  by_cases h : validV [a, b] = 0
  · obtain ⟨ha, hb, -, -⟩ := valid_ok h
    simp only [if_pos h]
    have hi : gangsawref34_in.f n 1 256 = some (decide (1 ≤ n ∧ n ≤ 256)) := by
      unfold gangsawref34_in.f
      by_cases c1 : 1 ≤ n <;> by_cases c2 : n ≤ 256 <;> simp [c1, c2]
    rw [hi]
    by_cases c : n < 1 ∨ n > 256
    · rw [decide_eq_false (by omega), if_pos c]
      exact Evt.pure _
    · rw [decide_eq_true (by omega), if_neg c]
      simp only [Option.bind_some, if_true, exists_f a b n ha.1 ha.2.1 hb.1]
      cases exP a b n <;> exact Evt.pure _
  · simp only [if_neg h]; exact Evt.pure _
theorem witV_len (a b : Gr) (n : Int) : ((witV a b n).2 = 0 → ((witV a b n).1.length : Int) = n) ∧ ((witV a b n).2 ≠ 0 → (witV a b n).1.length = 0) := by
  unfold witV
  by_cases h : validV [a, b] = 0
  · obtain ⟨ha, hb, -, -⟩ := valid_ok h
    simp only [if_pos h]
    by_cases c : n < 1 ∨ n > 256
    · rw [if_pos c]; simp
    · rw [if_neg c]
      cases he : exP a b n with
      | true => simp [lotV_length a b n ha.1 he]
      | false => simp
  · simp only [if_neg h]; simp [h]
theorem GradeImplies : ∀ (x0 : S32) (x1 : S32) (x2 : Int), G32 x0 → G32 x1 → (GInt .i64) x2 → ∃ k, gangsawlaw34_GradeImplies.f k x0.f0 x0.f1 x0.f2 x0.f3 x1.f0 x1.f1 x1.f2 x1.f3 x2 = some true := by
  intro a b n h1 h2 h3
  have hs : a.f0.size ≤ 9223372036854775807 := by have := h1.1; unfold GStr at this; omega
  have ht : b.f0.size ≤ 9223372036854775807 := by have := h2.1; unfold GStr at this; omega
  refine Evt.exists_ ?_
  unfold gangsawlaw34_GradeImplies.f
  refine Evt.bind0 (show gangsawlaw34_awake.f = some true from rfl) ?_
  simp only [if_true]
  refine Evt.bind (imp_ev a b) (Evt.bind (rimp_ev a b hs ht) (Evt.bind (wit_ev a b n) ?_))
  have e : ((impV a b).1 != (impV a b).1) = false := by simp
  simp only [e, Bool.false_eq_true, if_false, if_true]
  refine Evt.bind (cwit_ev a b n hs ht) ?_
  simp only [if_true]
  obtain ⟨w1, w2⟩ := witV_len a b n
  by_cases c : (witV a b n).2 = 0
  · simp only [if_pos c, if_pos (w1 c)]; exact Evt.pure _
  · simp only [if_neg c, w2 c]; exact Evt.pure _
end Go.Proofs.YtankffbfocaibaaDoor.Pure
