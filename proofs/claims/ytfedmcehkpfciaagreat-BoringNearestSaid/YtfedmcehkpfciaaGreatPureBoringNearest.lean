/-
  BoringNearest: the plain law.
-/
import Derived.Test.YtfedmcehkpfciaaGreatKs
import Derived.Test.YtfedmcehkpfciaaGreatHof
import Derived.Test.YtfedmcehkpfciaaGreatEvt
import Derived.Test.YtfedmcehkpfciaaGreatPx4
import Derived.Test.YtfedmcehkpfciaaGreatPx2
import Derived.Test.YtfedmcehkpfciaaGreatPx3
set_option linter.unusedVariables false
set_option linter.unusedSimpArgs false
namespace Go.Proofs.YtfedmcehkpfciaaGreat.Pure
open Go.RowKit Go.Proofs.YtfedmcehkpfciaaGreatW.PrintWords Go.Proofs.YtfedmcehkpfciaaGreatW.PrintLast Go.Proofs.YtfedmcehkpfciaaGreat.P Go.Proofs.YtfedmcehkpfciaaGreat.Open Go.Proofs.YtfedmcehkpfciaaGreat.Ks Go.Proofs.YtfedmcehkpfciaaGreat.Rnd Go.Proofs.YtfedmcehkpfciaaGreat.Hof Go.Proofs.YtfedmcehkpfciaaGreat.Awk
abbrev Bo := S33
theorem rdB_at (l : List Bo) (i : Nat) (h : i < l.length) : rd_T33 l (i : Int) = l[i] := getD_at l _ i h
theorem anyO_some {α : Type} (q : α → Bool) (l : List α) : anyO (fun x => some (q x)) l = some (l.any q) := by
  induction l with
  | nil => rfl
  | cons x l ih => simp only [anyO, List.any_cons]; cases h : q x <;> simp [ih]
def inR (x : Int) : Bool := decide (-1000000 ≤ x) && decide (x ≤ 1000000)
def good (s : Bo) : Bool := inR s.f1.f0 && inR s.f1.f1
theorem in_f (x : Int) : boring_in.f x = some (inR x) := by
  unfold boring_in.f inR
  by_cases h : x ≥ -1000000
  · rw [if_pos h, decide_eq_true (show -1000000 ≤ x from h)]; rfl
  · rw [if_neg h, decide_eq_false (show ¬ -1000000 ≤ x from h)]; rfl
theorem rin_f (x : Int) : gangsawref14_in.f x (-1000000) 1000000 = some (inR x) := by
  unfold gangsawref14_in.f inR
  by_cases h : -1000000 ≤ x
  · rw [if_pos h, decide_eq_true h]; rfl
  · rw [if_neg h, decide_eq_false h]; rfl
theorem point_f (a b : Int) : boring_Nearest_1.f a b = some (inR a && inR b) := by
  unfold boring_Nearest_1.f
  rw [in_f, in_f]
  cases inR a <;> cases inR b <;> rfl
theorem bad_f (s : Bo) : boring_Nearest_2.f s.f0 s.f1.f0 s.f1.f1 s.f2 (fun x_ => boring_Nearest_1.f x_.f0 x_.f1) = some (!good s) := by
  show ((boring_Nearest_1.f s.f1.f0 s.f1.f1).bind fun t => some (!t)) = _
  rw [point_f]; rfl
def distV (s : Bo) (p q : Int) : Int := wrap64 ((wrap64 ((wrap64 (s.f1.f0 - p)) * (wrap64 (s.f1.f0 - p)))) + (wrap64 ((wrap64 (s.f1.f1 - q)) * (wrap64 (s.f1.f1 - q)))))
theorem far_f (l : List Bo) (p q : Int) (i : Nat) (h : i < l.length) : boring_Nearest_3.f (i : Int) l p q = some (distV l[i] p q) := by
  unfold boring_Nearest_3.f distV
  rw [if_pos (by omega), if_pos (by omega), rdB_at l i h]
theorem square_f (s : Bo) (p q : Int) : gangsawref14_square.f s.f1.f0 s.f1.f1 p q = some (distV s p q) := rfl
/-- the nearest from the i-th on, b being the nearest before, by both -/
theorem near_loop (l : List Bo) (p q : Int) (hl : l.length ≤ 9223372036854775807) : ∀ i, i ≤ l.length → ∀ b, b < l.length → ∃ v, Evt (fun k => boring_Nearest.l0 k (b : Nat) (l.length : Int) (i : Nat) l p q) v ∧ Evt (fun k => gangsawref14_Nearest.l1 k l (b : Nat) (i : Nat) p q) v := by
  refine down ?_ ?_
  · intro b hb
    exact ⟨((b : Int), 0), Evt.succ (g := fun _ => some _) (Evt.pure _) (fun k => by simp only [boring_Nearest.l0, Int.lt_irrefl, if_false]), Evt.succ (g := fun _ => some _) (Evt.pure _) (fun k => by simp only [gangsawref14_Nearest.l1, Int.lt_irrefl, if_false])⟩
  · intro i hi ih b hb
    have hw := wrap_up i l.length hi hl
    by_cases hc : distV l[i] p q < distV l[b] p q
    · obtain ⟨v, h1, h2⟩ := ih i hi
      refine ⟨v, Evt.succ h1 (fun k => ?_), Evt.succ h2 (fun k => ?_)⟩
      · simp only [boring_Nearest.l0, far_f l p q i hi, far_f l p q b hb, Option.bind_some, hw]
        rw [if_pos (by omega), if_pos hc]
      · simp only [gangsawref14_Nearest.l1, rdB_at l i hi, rdB_at l b hb, square_f, Option.bind_some, hw]
        rw [if_pos (by omega), if_pos (by omega), if_pos (by omega), if_pos (by omega), if_pos hc]
    · obtain ⟨v, h1, h2⟩ := ih b hb
      refine ⟨v, Evt.succ h1 (fun k => ?_), Evt.succ h2 (fun k => ?_)⟩
      · simp only [boring_Nearest.l0, far_f l p q i hi, far_f l p q b hb, Option.bind_some, hw]
        rw [if_pos (by omega), if_neg hc]
      · simp only [gangsawref14_Nearest.l1, rdB_at l i hi, rdB_at l b hb, square_f, Option.bind_some, hw]
        rw [if_pos (by omega), if_pos (by omega), if_pos (by omega), if_pos (by omega), if_neg hc]
/-- the reference's loop over the coordinates -/
theorem ok_loop (l : List Bo) (p q : Int) (hl : l.length ≤ 9223372036854775807) {v : Int × Int} (hv : Evt (fun k => gangsawref14_Nearest.l1 k l 0 1 p q) v) :
    ∀ i, i ≤ l.length → ∀ b : Bool, Evt (fun k => gangsawref14_Nearest.l0 k l b (i : Nat) p q) (if (b && (l.drop i).all good) = true then v else (0, 6)) := by
  refine down ?_ ?_
  · intro b
    rw [List.drop_length, List.all_nil, Bool.and_true]
    cases b with
    | true => exact Evt.succ hv (fun k => by simp only [gangsawref14_Nearest.l0, Int.lt_irrefl, if_false, if_true])
    | false => exact Evt.succ (g := fun _ => some _) (Evt.pure _) (fun k => by simp only [gangsawref14_Nearest.l0, Int.lt_irrefl, if_false, Bool.false_eq_true])
  · intro i hi ih b
    have hw := wrap_up i l.length hi hl
    rw [List.drop_eq_getElem_cons hi, List.all_cons]
    cases b with
    | false =>
      refine Evt.succ (ih false) (fun k => ?_)
      simp only [gangsawref14_Nearest.l0, hw]
      rw [if_pos (by omega), if_neg (by simp)]
    | true =>
      have h1 := ih (good l[i])
      rw [Bool.true_and]
      refine Evt.succ h1 (fun k => ?_)
      simp only [gangsawref14_Nearest.l0, rdB_at l i hi, rin_f, Option.bind_some, hw]
      rw [if_pos (by omega), if_pos trivial, if_pos (by omega)]
      unfold good
      cases inR l[i].f1.f0 <;> rfl
theorem all_any (l : List Bo) : l.all good = !(l.any fun s => !good s) := by
  induction l with
  | nil => rfl
  | cons x l ih => rw [List.all_cons, List.any_cons, ih]; cases good x <;> cases (l.any fun s => !good s) <;> rfl
theorem nearest_ev (l : List Bo) (p q : Int) (hl : l.length ≤ 9223372036854775807) : ∃ v, Evt (fun k => boring_Nearest.f k l p q) v ∧ Evt (fun k => gangsawref14_Nearest.f k l p q) v := by
  unfold boring_Nearest.f gangsawref14_Nearest.f
  by_cases h0 : (l.length : Int) = 0
  · exact ⟨(0, 9), by simp only [if_pos h0]; exact Evt.pure _, by simp only [if_pos h0]; exact Evt.pure _⟩
  simp only [if_neg h0, rin_f, Option.bind_some]
  have e1 : contains33.f l (fun x_ => boring_Nearest_2.f x_.f0 x_.f1.f0 x_.f1.f1 x_.f2 (fun x_ => boring_Nearest_1.f x_.f0 x_.f1)) = some (l.any fun s => !good s) := by
    rw [show (fun x_ : Bo => boring_Nearest_2.f x_.f0 x_.f1.f0 x_.f1.f1 x_.f2 (fun x_ => boring_Nearest_1.f x_.f0 x_.f1)) = fun x_ => some (!good x_) from funext bad_f]
    exact anyO_some (fun s => !good s) l
  obtain ⟨v, n1, n2⟩ := near_loop l p q hl 1 (by omega) 0 (by omega)
  have n0 : Evt (fun k => boring_Nearest.l0 k 0 (l.length : Int) 0 l p q) v := by
    refine Evt.succ n1 (fun k => ?_)
    have hf := far_f l p q 0 (by omega)
    simp only [boring_Nearest.l0, show boring_Nearest_3.f 0 l p q = some (distV l[0] p q) from hf, Option.bind_some, Int.lt_irrefl, if_false]
    rw [if_pos (by omega), show wrap64 ((0 : Int) + 1) = ((1 : Nat) : Int) from wrap_up 0 l.length (by omega) hl]; rfl
  have hok := ok_loop l p q hl n2 0 (by omega)
  rw [List.drop_zero, all_any] at hok
  have hj : ∀ b : Bool, Evt (fun k => gangsawref14_Nearest.j0 k l b p q) (if (b && !(l.any fun s => !good s)) = true then v else (0, 6)) := fun b =>
    Evt.succ (hok b) (fun k => by simp only [gangsawref14_Nearest.j0]; rfl)
  refine ⟨if ((inR p && inR q) && !(l.any fun s => !good s)) = true then v else (0, 6), ?_, ?_⟩
  · refine Evt.bind0 (point_f p q) ?_
    cases hp : (inR p && inR q) with
    | false =>
      simp only [Bool.false_eq_true, if_false, Bool.false_and]
      exact Evt.succ (g := fun _ => some _) (Evt.pure _) (fun k => by simp only [boring_Nearest.j0, if_true])
    | true =>
      simp only [if_true, e1, Option.bind_some, Bool.true_and]
      cases hb : (l.any fun s => !good s) with
      | true => exact Evt.succ (g := fun _ => some _) (Evt.pure _) (fun k => by simp only [boring_Nearest.j0, if_true]; rfl)
      | false => exact Evt.succ n0 (fun k => by simp only [boring_Nearest.j0, Bool.false_eq_true, if_false])
  · cases hp : inR p with
    | false =>
      simp only [Bool.false_eq_true, if_false, Bool.false_and]
      have := hj false
      simp only [Bool.false_eq_true, if_false, Bool.false_and] at this
      exact this
    | true =>
      simp only [if_true, Bool.true_and]
      exact hj (inR q)
theorem BoringNearest : ∀ (x0 : List (S33)) (x1 : S30), (GList G33) x0 → G30 x1 → ∃ k, gangsawlaw14_BoringNearest.f k x0 x1.f0 x1.f1 = some true := by
  intro l x hg hx
  refine Evt.exists_ (f := fun k => gangsawlaw14_BoringNearest.f k l x.f0 x.f1) ?_
  unfold gangsawlaw14_BoringNearest.f
  refine Evt.bind0 (g := gangsawlaw14_awake.f) rfl ?_
  simp only [if_true]
  by_cases h : (l.length : Int) > 100
  · simp only [if_pos h]; exact Evt.pure _
  simp only [if_neg h]
  obtain ⟨v, h1, h2⟩ := nearest_ev l x.f0 x.f1 hg.1
  refine Evt.bind h1 (Evt.bind h2 ?_)
  exact Evt.const (fun k => by simp)
end Go.Proofs.YtfedmcehkpfciaaGreat.Pure
