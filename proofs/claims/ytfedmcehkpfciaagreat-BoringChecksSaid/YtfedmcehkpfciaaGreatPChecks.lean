/-
 The tests of borings in a pit, in plain terms: boring.Check, boring.CheckAll and the reference's.
-/
import Derived.Test.YtfedmcehkpfciaaGreatPBoring
import Derived.Test.YtfedmcehkpfciaaGreatChk14
import Derived.Test.YtfedmcehkpfciaaGreatPx25
import Derived.Test.YtfedmcehkpfciaaGreatPx12
import Derived.Test.YtfedmcehkpfciaaGreatPx11
import Derived.Test.YtfedmcehkpfciaaGreatPx9
import Derived.Test.YtfedmcehkpfciaaGreatPx10
import Derived.Test.YtfedmcehkpfciaaGreatPx6
set_option linter.unusedVariables false
set_option linter.unusedSimpArgs false
namespace Go.Proofs.YtfedmcehkpfciaaGreat.PChecks
open Go.RowKit Go.Proofs.YtfedmcehkpfciaaGreatW.PrintWords Go.Proofs.YtfedmcehkpfciaaGreatW.PrintLast Go.Proofs.YtfedmcehkpfciaaGreat.P Go.Proofs.YtfedmcehkpfciaaGreat.Rnd Go.Proofs.YtfedmcehkpfciaaGreat.Lex Go.Proofs.YtfedmcehkpfciaaGreat.PName Go.Proofs.YtfedmcehkpfciaaGreat.Hof Go.Proofs.YtfedmcehkpfciaaGreat.Sym Go.Proofs.YtfedmcehkpfciaaGreat.SymC Go.Proofs.YtfedmcehkpfciaaGreat.First Go.Proofs.YtfedmcehkpfciaaGreat.Chk14 Go.Proofs.YtfedmcehkpfciaaGreat.PBoring
theorem ite_step {α : Type} {c : Prop} [Decidable c] {x y v : α} (h1 : c → x = v) (h2 : ¬ c → y = v) : ite c x y = v := by
 by_cases h : c
 ·rw [if_pos h]; exact h1 h
 ·rw [if_neg h]; exact h2 h
def okR (a b c d e f : Int) : Prop := (-1000000 ≤ a ∧ a ≤ 1000000) ∧ (-1000000 ≤ b ∧ b ≤ 1000000) ∧ (-1000000 ≤ c ∧ c ≤ 1000000) ∧ (-1000000 ≤ d ∧ d ≤ 1000000) ∧ (-1000000 ≤ e ∧ e ≤ 1000000) ∧ (-1000000 ≤ f ∧ f ≤ 1000000)
instance (a b c d e f : Int) : Decidable (okR a b c d e f) := by unfold okR; infer_instance
def checkB (a b c d e f : Int) : Int := if okR a b c d e f then (if a ≥ d then 1 else if b ≥ e then 1 else if c ≥ f then 1 else 0) else 6
theorem box_f (a b c d e f : Int) : box_Check.f a b c d e f = some (checkB a b c d e f) := by
 unfold box_Check.f checkB
 by_cases h : okR a b c d e f
 ·rw [if_pos h]
  unfold okR at h
  rw [if_pos (by omega), if_pos (by omega), if_pos (by omega), if_pos (by omega), if_pos (by omega), if_pos (by omega), if_pos (by omega), if_pos (by omega), if_pos (by omega), if_pos (by omega), if_pos (by omega), if_pos (by omega)]
  by_cases h1 : a ≥ d
  ·rw [if_pos h1, if_pos h1]
  rw [if_neg h1, if_neg h1]
  by_cases h2 : b ≥ e
  ·rw [if_pos h2, if_pos h2]
  rw [if_neg h2, if_neg h2]
  by_cases h3 : c ≥ f
  ·rw [if_pos h3, if_pos h3]
  rw [if_neg h3, if_neg h3]
 ·rw [if_neg h]
  unfold okR at h
  repeat' (refine ite_step (fun _ => ?_) (fun _ => ?_))
  all_goals first | rfl | (exfalso; omega)
theorem rbox_ev (a b c d e f : Int) : Evt (fun k => gangsawref06_Check.f k a b c d e f) (checkB a b c d e f) := by
 unfold gangsawref06_Check.f checkB
 have w1 : wrap64 ((0 : Int) + 1) = 1 := wrap_mid 1 (by decide) (by decide)
 have w2 : wrap64 ((1 : Int) + 1) = 2 := wrap_mid 2 (by decide) (by decide)
 have w3 : wrap64 ((2 : Int) + 1) = 3 := wrap_mid 3 (by decide) (by decide)
 have s3 : Evt (fun k => gangsawref06_Check.l1 k 3 a b c d e f) 0 := Evt.succ (g := fun _ => some 0) (Evt.pure _) (fun k => by simp only [gangsawref06_Check.l1]; rw [if_neg (by decide)])
 have s2 : Evt (fun k => gangsawref06_Check.l1 k 2 a b c d e f) (if c ≥ f then 1 else 0) := by
  by_cases h : c ≥ f
  ·rw [if_pos h]; exact Evt.succ (g := fun _ => some 1) (Evt.pure _) (fun k => by simp only [gangsawref06_Check.l1]; rw [if_pos (by decide)]; show (if c ≥ f then _ else _) = _; rw [if_pos h])
  ·rw [if_neg h]; exact Evt.succ s3 (fun k => by simp only [gangsawref06_Check.l1, w3]; rw [if_pos (by decide)]; show (if c ≥ f then _ else _) = _; rw [if_neg h])
 have s1 : Evt (fun k => gangsawref06_Check.l1 k 1 a b c d e f) (if b ≥ e then 1 else if c ≥ f then 1 else 0) := by
  by_cases h : b ≥ e
  ·rw [if_pos h]; exact Evt.succ (g := fun _ => some 1) (Evt.pure _) (fun k => by simp only [gangsawref06_Check.l1]; rw [if_pos (by decide)]; show (if b ≥ e then _ else _) = _; rw [if_pos h])
  ·rw [if_neg h]; exact Evt.succ s2 (fun k => by simp only [gangsawref06_Check.l1, w2]; rw [if_pos (by decide)]; show (if b ≥ e then _ else _) = _; rw [if_neg h])
 have s0 : Evt (fun k => gangsawref06_Check.l1 k 0 a b c d e f) (if a ≥ d then 1 else if b ≥ e then 1 else if c ≥ f then 1 else 0) := by
  by_cases h : a ≥ d
  ·rw [if_pos h]; exact Evt.succ (g := fun _ => some 1) (Evt.pure _) (fun k => by simp only [gangsawref06_Check.l1]; rw [if_pos (by decide)]; show (if a ≥ d then _ else _) = _; rw [if_pos h])
  ·rw [if_neg h]; exact Evt.succ s1 (fun k => by simp only [gangsawref06_Check.l1, w1]; rw [if_pos (by decide)]; show (if a ≥ d then _ else _) = _; rw [if_neg h])
 generalize (if a ≥ d then (1 : Int) else if b ≥ e then 1 else if c ≥ f then 1 else 0) = V at s0
 -- one round of the first loop
 have round : ∀ (i j : Int) (p q : Int) (v : Int), i < 3 → wrap64 (i + 1) = j → gangsawref06_At.f a b c i = some p → gangsawref06_At.f d e f i = some q → Evt (fun k => gangsawref06_Check.l0 k j a b c d e f) v →
   Evt (fun k => gangsawref06_Check.l0 k i a b c d e f) (if (-1000000 ≤ p ∧ p ≤ 1000000) ∧ (-1000000 ≤ q ∧ q ≤ 1000000) then v else 6) := by
  intro i j p q v hi hj hp hq hv
  by_cases h : (-1000000 ≤ p ∧ p ≤ 1000000) ∧ (-1000000 ≤ q ∧ q ≤ 1000000)
  ·rw [if_pos h]
   refine Evt.succ hv (fun k => ?_)
   simp only [gangsawref06_Check.l0, hp, hq, Option.bind_some, hj]
   rw [if_pos hi, if_neg (by omega), if_neg (by omega), if_neg (by omega), if_neg (by omega)]
  ·rw [if_neg h]
   refine Evt.succ (g := fun _ => some 6) (Evt.pure _) (fun k => ?_)
   simp only [gangsawref06_Check.l0, hp, hq, Option.bind_some]
   rw [if_pos hi]
   refine ite_step (fun _ => rfl) (fun h1 => ?_)
   refine ite_step (fun _ => rfl) (fun h2 => ?_)
   refine ite_step (fun _ => rfl) (fun h3 => ?_)
   refine ite_step (fun _ => rfl) (fun h4 => ?_)
   exfalso; omega
 have t3 : Evt (fun k => gangsawref06_Check.l0 k 3 a b c d e f) V := Evt.succ s0 (fun k => by simp only [gangsawref06_Check.l0]; rw [if_neg (by decide)])
 have t2 := round 2 3 c f V (by decide) w3 rfl rfl t3
 have t1 := round 1 2 b e _ (by decide) w2 rfl rfl t2
 have t0 := round 0 1 a d _ (by decide) w1 rfl rfl t1
 have e : (if (-1000000 ≤ a ∧ a ≤ 1000000) ∧ (-1000000 ≤ d ∧ d ≤ 1000000) then (if (-1000000 ≤ b ∧ b ≤ 1000000) ∧ (-1000000 ≤ e ∧ e ≤ 1000000) then (if (-1000000 ≤ c ∧ c ≤ 1000000) ∧ (-1000000 ≤ f ∧ f ≤ 1000000) then V else 6) else 6) else 6) = (if okR a b c d e f then V else 6) := by
  by_cases h : okR a b c d e f
  ·rw [if_pos h]; unfold okR at h; rw [if_pos (by omega), if_pos (by omega), if_pos (by omega)]
  ·rw [if_neg h]; unfold okR at h
   refine ite_step (fun _ => ?_) (fun _ => rfl)
   refine ite_step (fun _ => ?_) (fun _ => rfl)
   refine ite_step (fun _ => ?_) (fun _ => rfl)
   exfalso; omega
 rw [e] at t0
 exact t0

abbrev Bg := S33
abbrev rdB (l : List Bg) (i : Int) : Bg := rd_T33 l i
theorem rdB_at (l : List Bg) (i : Nat) (h : i < l.length) : rd_T33 l (i : Int) = l[i] := getD_at l _ i h
def outP (lo hi : Int) (x : Lg) : Bool := decide (x.f0 < lo) || decide (x.f1 > hi)
def wV (x : Bg) (p0 p1 p2 p3 p4 p5 : Int) : Bool := decide (x.f1.f0 ≥ p0 ∧ x.f1.f0 < p3 ∧ x.f1.f1 ≥ p1 ∧ x.f1.f1 < p4) && !x.f2.any (outP p2 p5)
theorem outP_f (x : Lg) (p0 p1 p2 p3 p4 p5 : Int) : boring_within_1_1.f x.f0 x.f1 x.f2 p0 p1 p2 p3 p4 p5 = some (outP p2 p5 x) := by
 unfold boring_within_1_1.f outP
 by_cases h : x.f0 < p2
 ·rw [if_pos h, decide_eq_true h]; rfl
 ·rw [if_neg h, decide_eq_false h]; rfl
theorem within1_f (x : Bg) (p0 p1 p2 p3 p4 p5 : Int) : boring_within_1.f x.f0 x.f1.f0 x.f1.f1 x.f2 p0 p1 p2 p3 p4 p5 = some (wV x p0 p1 p2 p3 p4 p5) := by
 unfold boring_within_1.f wV
 rw [some1_f x.f0 x.f1.f0 x.f1.f1 x.f2 (outP p2 p5) _ (fun y => outP_f y p0 p1 p2 p3 p4 p5)]
 by_cases h1 : x.f1.f0 ≥ p0
 ·rw [if_pos h1]
  by_cases h2 : x.f1.f0 < p3
  ·rw [if_pos h2]
   by_cases h3 : x.f1.f1 ≥ p1
   ·rw [if_pos h3]
    by_cases h4 : x.f1.f1 < p4
    ·rw [if_pos h4, decide_eq_true ⟨h1, h2, h3, h4⟩]; rfl
    ·rw [if_neg h4, decide_eq_false (fun c => h4 c.2.2.2)]; rfl
   ·rw [if_neg h3, decide_eq_false (fun c => h3 c.2.2.1)]; rfl
  ·rw [if_neg h2, decide_eq_false (fun c => h2 c.2.1)]; rfl
 ·rw [if_neg h1, decide_eq_false (fun c => h1 c.1)]; rfl
def firstV (p0 p1 p2 p3 p4 p5 : Int) (l : List Bg) : Int :=
 if l.any (fun x => !nameB x.f0) = true then 4 else if l.any (fun x => decide (64 < x.f2.length)) = true then 7 else if l.any (fun x => x.f2.any bad1) = true then 1 else if l.any (fun x => !wV x p0 p1 p2 p3 p4 p5) = true then 12 else if l.any (fun x => !incV x.f2) = true then 11 else 0
theorem anyO_pt {α : Type} (p : α → Bool) (q : α → Option Bool) : ∀ l : List α, (∀ x ∈ l, q x = some (p x)) → anyO q l = some (l.any p)
 | [], _ => rfl
 | x :: r, h => by
  rw [List.any_cons, anyO, h x (by simp), Option.bind_some]
  cases hx : p x with
  | true => simp
  | false => rw [if_neg (by simp), anyO_pt p q r (fun y hy => h y (by simp [hy])), Bool.false_or]
theorem first_f (p0 p1 p2 p3 p4 p5 : Int) (l : List Bg) (hl : ∀ x ∈ l, x.f2.length ≤ 9223372036854775807) :
  (boring_within.f p0 p1 p2 p3 p4 p5).bind (fun u => boring_first.f l u) = some (firstV p0 p1 p2 p3 p4 p5 l) := by
 unfold boring_within.f boring_first.f firstV
 rw [Option.bind_some]
 simp only [firstO]
 have e1 : anyO (fun x : Bg => (boring_checks_1.f x.f0 x.f1.f0 x.f1.f1 x.f2).bind fun b => some (!b)) l = some (l.any (fun x => !nameB x.f0)) := anyO_pt _ _ l (fun x _ => rfl)
 have e2 : anyO (fun x : Bg => (boring_checks_2.f x.f0 x.f1.f0 x.f1.f1 x.f2).bind fun b => some (!b)) l = some (l.any (fun x => decide (64 < x.f2.length))) := anyO_pt _ _ l (fun x _ => by
  show some (!decide ((x.f2.length : Int) ≤ 64)) = some (decide (64 < x.f2.length))
  congr 1
  rw [Bool.eq_iff_iff]; simp; omega)
 have e3 : anyO (fun x : Bg => (boring_checks_3.f x.f0 x.f1.f0 x.f1.f1 x.f2).bind fun b => some (!b)) l = some (l.any (fun x => x.f2.any bad1)) := anyO_pt _ _ l (fun x _ => by
  unfold boring_checks_3.f; rw [some1_f x.f0 x.f1.f0 x.f1.f1 x.f2 bad1 _ bad1_f]; simp)
 have e4 : anyO (fun x : Bg => (boring_within_1.f x.f0 x.f1.f0 x.f1.f1 x.f2 p0 p1 p2 p3 p4 p5).bind fun b => some (!b)) l = some (l.any (fun x => !wV x p0 p1 p2 p3 p4 p5)) := anyO_pt _ _ l (fun x _ => by rw [within1_f]; rfl)
 have e5 : anyO (fun x : Bg => (boring_increasing.f (x.f2.length + 2) x.f0 x.f1.f0 x.f1.f1 x.f2).bind fun b => some (!b)) l = some (l.any (fun x => !incV x.f2)) := anyO_pt _ _ l (fun x hx => by rw [inc_of _ _ _ _ (hl x hx) _ (by omega)]; rfl)
 rw [e1, e2, e3, e4, e5]
 simp only [Option.bind_some]
 cases l.any (fun x => !nameB x.f0) <;> simp only [if_true, Bool.false_eq_true, if_false]
 cases l.any (fun x => decide (64 < x.f2.length)) <;> simp only [if_true, Bool.false_eq_true, if_false]
 cases l.any (fun x => x.f2.any bad1) <;> simp only [if_true, Bool.false_eq_true, if_false]
 cases l.any (fun x => !wV x p0 p1 p2 p3 p4 p5) <;> simp only [if_true, Bool.false_eq_true, if_false]
 cases l.any (fun x => !incV x.f2) <;> simp only [if_true, Bool.false_eq_true, if_false]
theorem rwithin_ev (x : Bg) (p0 p1 p2 p3 p4 p5 : Int) (hl : x.f2.length ≤ 9223372036854775807) : Evt (fun k => gangsawref14_within.f k x.f0 x.f1.f0 x.f1.f1 x.f2 p0 p1 p2 p3 p4 p5) (wV x p0 p1 p2 p3 p4 p5) := by
 have loop : ∀ i, i ≤ x.f2.length → ∀ ok, Evt (fun k => gangsawref14_within.l0 k ok i x.f0 x.f1.f0 x.f1.f1 x.f2 p0 p1 p2 p3 p4 p5) (ok && !(x.f2.drop i).any (outP p2 p5)) := by
  refine down ?_ ?_
  ·intro ok
   refine Evt.succ (g := fun _ => some ok) ?_ (fun k => by simp only [gangsawref14_within.l0, Int.lt_irrefl, if_false])
   simp only [List.drop_length, List.any_nil, Bool.not_false, Bool.and_true]
   exact Evt.pure _
  ·intro i hi ih ok
   have c1 : (i : Int) < (x.f2.length : Int) := by omega
   have c2 : (0 : Int) ≤ (i : Int) := by omega
   rw [PBoring.drop_cons x.f2 i hi, List.any_cons]
   have w := wrap_up i x.f2.length hi hl
   cases ok with
   | false =>
    rw [Bool.false_and]
    have h := ih false
    rw [Bool.false_and] at h
    exact Evt.succ h (fun k => by simp only [gangsawref14_within.l0, if_pos c1, Bool.false_eq_true, if_false, w])
   | true =>
    rw [Bool.true_and]
    by_cases h1 : (x.f2[i]).f0 ≥ p2
    ·refine Evt.succ (g := fun k => gangsawref14_within.l0 k (decide ((x.f2[i]).f1 ≤ p5)) ((i + 1 : Nat) : Int) x.f0 x.f1.f0 x.f1.f1 x.f2 p0 p1 p2 p3 p4 p5) ?_ (fun k => by simp only [gangsawref14_within.l0, if_pos c1, if_true, if_pos c2, rdL_at x.f2 i hi, if_pos h1, w])
     have h := ih (decide ((x.f2[i]).f1 ≤ p5))
     have e : (decide ((x.f2[i]).f1 ≤ p5) && !(x.f2.drop (i + 1)).any (outP p2 p5)) = !(outP p2 p5 x.f2[i] || (x.f2.drop (i + 1)).any (outP p2 p5)) := by
      unfold outP
      rw [decide_eq_false (show ¬ (x.f2[i]).f0 < p2 by omega)]
      by_cases h2 : (x.f2[i]).f1 ≤ p5
      ·rw [decide_eq_true h2, decide_eq_false (show ¬ (x.f2[i]).f1 > p5 by omega)]; rfl
      ·rw [decide_eq_false h2, decide_eq_true (show (x.f2[i]).f1 > p5 by omega)]; rfl
     rw [e] at h
     exact h
    ·refine Evt.succ (g := fun k => gangsawref14_within.l0 k false ((i + 1 : Nat) : Int) x.f0 x.f1.f0 x.f1.f1 x.f2 p0 p1 p2 p3 p4 p5) ?_ (fun k => by simp only [gangsawref14_within.l0, if_pos c1, if_true, if_pos c2, rdL_at x.f2 i hi, if_neg h1, w])
     have h := ih false
     have e : (false && !(x.f2.drop (i + 1)).any (outP p2 p5)) = !(outP p2 p5 x.f2[i] || (x.f2.drop (i + 1)).any (outP p2 p5)) := by
      unfold outP
      rw [decide_eq_true (show (x.f2[i]).f0 < p2 by omega)]; rfl
     rw [e] at h
     exact h
 have start : ∀ ok, Evt (fun k => gangsawref14_within.j0 k ok x.f0 x.f1.f0 x.f1.f1 x.f2 p0 p1 p2 p3 p4 p5) (ok && !x.f2.any (outP p2 p5)) := fun ok =>
  Evt.succ (by have h := loop 0 (by omega) ok; rw [List.drop_zero] at h; exact h) (fun k => rfl)
 unfold gangsawref14_within.f wV
 by_cases h1 : x.f1.f0 ≥ p0
 ·simp only [if_pos h1]
  by_cases h2 : x.f1.f0 < p3
  ·simp only [if_pos h2]
   by_cases h3 : x.f1.f1 ≥ p1
   ·simp only [if_pos h3]
    have e : decide (x.f1.f0 ≥ p0 ∧ x.f1.f0 < p3 ∧ x.f1.f1 ≥ p1 ∧ x.f1.f1 < p4) = decide (x.f1.f1 < p4) := by rw [decide_eq_decide]; exact ⟨fun h => h.2.2.2, fun h => ⟨h1, h2, h3, h⟩⟩
    rw [e]
    exact start _
   ·simp only [if_neg h3]; rw [decide_eq_false (fun c => h3 c.2.2.1)]; exact start false
  ·simp only [if_neg h2]; rw [decide_eq_false (fun c => h2 c.2.1)]; exact start false
 ·simp only [if_neg h1]; rw [decide_eq_false (fun c => h1 c.1)]; exact start false
theorem part1_ev (x : Bg) (hl : x.f2.length ≤ 9223372036854775807) : Evt (fun k => gangsawref14_part.f k x.f0 x.f1.f0 x.f1.f1 x.f2 1) (x.f2.any bad1) := by
 unfold gangsawref14_part.f
 simp only [show ¬ (1 : Int) = 4 by decide, show ¬ (1 : Int) = 7 by decide, if_false]
 have h := Evt.any_list (F := fun k i => gangsawref14_part.l0 k i x.f0 x.f1.f0 x.f1.f1 x.f2) (l := x.f2) bad1 true (V := false) ?_ ?_ ?_
 ·have e : (if x.f2.any bad1 = true then true else false) = x.f2.any bad1 := by cases x.f2.any bad1 <;> rfl
  rw [e] at h
  exact h
 ·exact Evt.succ (g := fun _ => some false) (Evt.pure _) (fun k => by simp only [gangsawref14_part.l0, Int.lt_irrefl, if_false])
 ·intro i hi hb
  refine Evt.succ (g := fun _ => some true) (Evt.pure _) (fun k => ?_)
  unfold bad1 at hb
  simp only [gangsawref14_part.l0, rdL_at x.f2 i hi]
  rw [if_pos (by omega), if_pos (by omega)]
  by_cases c0 : x.f2[i].f0 ≥ x.f2[i].f1
  ·rw [if_pos c0]
  ·rw [if_neg c0]
   by_cases c1 : x.f2[i].f2 = 1
   ·simp [c1] at hb; omega
   ·rw [if_neg c1]
    by_cases c2 : x.f2[i].f2 = 2
    ·simp [c2] at hb; omega
    ·rw [if_neg c2]
 ·intro i hi hb v hv
  refine Evt.succ hv (fun k => ?_)
  unfold bad1 at hb
  simp only [gangsawref14_part.l0, rdL_at x.f2 i hi, wrap_up i x.f2.length hi hl]
  rw [if_pos (by omega), if_pos (by omega)]
  by_cases c0 : x.f2[i].f0 ≥ x.f2[i].f1
  ·simp [c0] at hb
  ·rw [if_neg c0]
   by_cases c1 : x.f2[i].f2 = 1
   ·rw [if_pos c1]
   ·rw [if_neg c1]
    by_cases c2 : x.f2[i].f2 = 2
    ·rw [if_pos c2]
    ·simp [c1, c2] at hb
theorem part4_ev (x : Bg) (hn : x.f0.size ≤ 9223372036854775807) : Evt (fun k => gangsawref14_part.f k x.f0 x.f1.f0 x.f1.f1 x.f2 4) (!nameB x.f0) := by
 unfold gangsawref14_part.f
 simp only [if_true]
 exact Evt.bind (name_ev x.f0 hn) (Evt.pure _)
theorem part7_ev (x : Bg) : Evt (fun k => gangsawref14_part.f k x.f0 x.f1.f0 x.f1.f1 x.f2 7) (decide (64 < x.f2.length)) := by
 unfold gangsawref14_part.f
 simp only [show ¬ (7 : Int) = 4 by decide, if_true, if_false]
 have e : decide ((x.f2.length : Int) > 64) = decide (64 < x.f2.length) := by rw [decide_eq_decide]; omega
 rw [e]
 exact Evt.pure _
abbrev EE : List Int := [4, 7, 1]
theorem all_round (p0 p1 p2 p3 p4 p5 : Int) (l : List Bg) (hll : l.length ≤ 9223372036854775807) (e : Int) (j : Nat) (bad : Bg → Bool) (hj : j < 3) (hE : rd EE (j : Int) = e)
  (hpart : ∀ x ∈ l, Evt (fun k => gangsawref14_part.f k x.f0 x.f1.f0 x.f1.f1 x.f2 e) (bad x)) {V : Int} (hend : Evt (fun k => gangsawref14_all.l0 k l EE ((j + 1 : Nat) : Int) p0 p1 p2 p3 p4 p5) V) :
  Evt (fun k => gangsawref14_all.l0 k l EE (j : Int) p0 p1 p2 p3 p4 p5) (if l.any bad = true then e else V) := by
 have c1 : (j : Int) < (EE.length : Int) := by show (j : Int) < 3; omega
 have c2 : (0 : Int) ≤ (j : Int) := by omega
 refine Evt.succ (g := fun k => gangsawref14_all.l1 k l EE j 0 p0 p1 p2 p3 p4 p5) ?_ (fun k => by simp only [gangsawref14_all.l0, if_pos c1])
 refine Evt.any_list (F := fun k i => gangsawref14_all.l1 k l EE j i p0 p1 p2 p3 p4 p5) bad e ?_ ?_ ?_
 ·exact Evt.succ hend (fun k => by simp only [gangsawref14_all.l1, Int.lt_irrefl, if_false, wrap_up j 3 hj (by decide)])
 ·intro i hi hb
  have hp := hpart l[i] (List.getElem_mem hi)
  rw [hb] at hp
  have d1 : (i : Int) < (l.length : Int) := by omega
  have d2 : (0 : Int) ≤ (i : Int) := by omega
  refine Evt.succ (g := fun k => (gangsawref14_part.f k l[i].f0 l[i].f1.f0 l[i].f1.f1 l[i].f2 e).bind fun t => if t = true then some e else gangsawref14_all.l1 k l EE j (wrap64 ((i : Int) + 1)) p0 p1 p2 p3 p4 p5) ?_ (fun k => by simp only [gangsawref14_all.l1, if_pos d1, if_pos d2, if_pos c1, if_pos c2, rdB_at l i hi, hE])
  exact Evt.bind hp (by simp only [if_true]; exact Evt.pure _)
 ·intro i hi hb v hv
  have hp := hpart l[i] (List.getElem_mem hi)
  rw [hb] at hp
  have d1 : (i : Int) < (l.length : Int) := by omega
  have d2 : (0 : Int) ≤ (i : Int) := by omega
  refine Evt.succ (g := fun k => (gangsawref14_part.f k l[i].f0 l[i].f1.f0 l[i].f1.f1 l[i].f2 e).bind fun t => if t = true then some e else gangsawref14_all.l1 k l EE j ((i + 1 : Nat) : Int) p0 p1 p2 p3 p4 p5) ?_ (fun k => by simp only [gangsawref14_all.l1, if_pos d1, if_pos d2, if_pos c1, if_pos c2, rdB_at l i hi, hE, wrap_up i l.length hi hll])
  exact Evt.bind hp (by simp only [Bool.false_eq_true, if_false]; exact hv)
theorem all_ev (p0 p1 p2 p3 p4 p5 : Int) (l : List Bg) (hll : l.length ≤ 9223372036854775807) (hl : ∀ x ∈ l, x.f2.length ≤ 9223372036854775807) (hn : ∀ x ∈ l, x.f0.size ≤ 9223372036854775807) :
  Evt (fun k => gangsawref14_all.f k l p0 p1 p2 p3 p4 p5) (firstV p0 p1 p2 p3 p4 p5 l) := by
 unfold gangsawref14_all.f firstV
 refine all_round p0 p1 p2 p3 p4 p5 l hll 4 0 _ (by decide) rfl (fun x hx => part4_ev x (hn x hx)) ?_
 refine all_round p0 p1 p2 p3 p4 p5 l hll 7 1 _ (by decide) rfl (fun x hx => part7_ev x) ?_
 refine all_round p0 p1 p2 p3 p4 p5 l hll 1 2 _ (by decide) rfl (fun x hx => part1_ev x (hl x hx)) ?_
 refine Evt.succ (g := fun k => gangsawref14_all.l2 k l 0 p0 p1 p2 p3 p4 p5) ?_ (fun k => by simp only [gangsawref14_all.l0]; rw [if_neg (by decide)])
 refine Evt.any_list (F := fun k i => gangsawref14_all.l2 k l i p0 p1 p2 p3 p4 p5) (fun x => !wV x p0 p1 p2 p3 p4 p5) 12 ?_ ?_ ?_
 ·refine Evt.succ (g := fun k => gangsawref14_all.l3 k l 0) ?_ (fun k => by simp only [gangsawref14_all.l2, Int.lt_irrefl, if_false])
  refine Evt.any_list (F := fun k i => gangsawref14_all.l3 k l i) (fun x : Bg => !incV x.f2) 11 ?_ ?_ ?_
  ·exact Evt.succ (g := fun _ => some 0) (Evt.pure _) (fun k => by simp only [gangsawref14_all.l3, Int.lt_irrefl, if_false])
  ·intro i hi hb
   have hp := rinc_ev l[i].f0 l[i].f1.f0 l[i].f1.f1 l[i].f2 (hl _ (List.getElem_mem hi))
   rw [show incV l[i].f2 = false by simpa using hb] at hp
   have d1 : (i : Int) < (l.length : Int) := by omega
   have d2 : (0 : Int) ≤ (i : Int) := by omega
   refine Evt.succ (g := fun k => (gangsawref14_stacked.f k l[i].f0 l[i].f1.f0 l[i].f1.f1 l[i].f2).bind fun t => if t = true then gangsawref14_all.l3 k l (wrap64 ((i : Int) + 1)) else some 11) ?_ (fun k => by simp only [gangsawref14_all.l3, if_pos d1, if_pos d2, rdB_at l i hi])
   exact Evt.bind hp (by simp only [Bool.false_eq_true, if_false]; exact Evt.pure _)
  ·intro i hi hb v hv
   have hp := rinc_ev l[i].f0 l[i].f1.f0 l[i].f1.f1 l[i].f2 (hl _ (List.getElem_mem hi))
   rw [show incV l[i].f2 = true by simpa using hb] at hp
   have d1 : (i : Int) < (l.length : Int) := by omega
   have d2 : (0 : Int) ≤ (i : Int) := by omega
   refine Evt.succ (g := fun k => (gangsawref14_stacked.f k l[i].f0 l[i].f1.f0 l[i].f1.f1 l[i].f2).bind fun t => if t = true then gangsawref14_all.l3 k l ((i + 1 : Nat) : Int) else some 11) ?_ (fun k => by simp only [gangsawref14_all.l3, if_pos d1, if_pos d2, rdB_at l i hi, wrap_up i l.length hi hll])
   exact Evt.bind hp (by simp only [if_true]; exact hv)
 ·intro i hi hb
  have hp := rwithin_ev l[i] p0 p1 p2 p3 p4 p5 (hl _ (List.getElem_mem hi))
  rw [show wV l[i] p0 p1 p2 p3 p4 p5 = false by simpa using hb] at hp
  have d1 : (i : Int) < (l.length : Int) := by omega
  have d2 : (0 : Int) ≤ (i : Int) := by omega
  refine Evt.succ (g := fun k => (gangsawref14_within.f k l[i].f0 l[i].f1.f0 l[i].f1.f1 l[i].f2 p0 p1 p2 p3 p4 p5).bind fun t => if t = true then gangsawref14_all.l2 k l (wrap64 ((i : Int) + 1)) p0 p1 p2 p3 p4 p5 else some 12) ?_ (fun k => by simp only [gangsawref14_all.l2, if_pos d1, if_pos d2, rdB_at l i hi])
  exact Evt.bind hp (by simp only [Bool.false_eq_true, if_false]; exact Evt.pure _)
 ·intro i hi hb v hv
  have hp := rwithin_ev l[i] p0 p1 p2 p3 p4 p5 (hl _ (List.getElem_mem hi))
  rw [show wV l[i] p0 p1 p2 p3 p4 p5 = true by simpa using hb] at hp
  have d1 : (i : Int) < (l.length : Int) := by omega
  have d2 : (0 : Int) ≤ (i : Int) := by omega
  refine Evt.succ (g := fun k => (gangsawref14_within.f k l[i].f0 l[i].f1.f0 l[i].f1.f1 l[i].f2 p0 p1 p2 p3 p4 p5).bind fun t => if t = true then gangsawref14_all.l2 k l ((i + 1 : Nat) : Int) p0 p1 p2 p3 p4 p5 else some 12) ?_ (fun k => by simp only [gangsawref14_all.l2, if_pos d1, if_pos d2, rdB_at l i hi, wrap_up i l.length hi hll])
  exact Evt.bind hp (by simp only [if_true]; exact hv)
def chkV (x : Bg) (p0 p1 p2 p3 p4 p5 : Int) : Int := if checkB p0 p1 p2 p3 p4 p5 = 0 then firstV p0 p1 p2 p3 p4 p5 [x] else checkB p0 p1 p2 p3 p4 p5
theorem check_f (x : Bg) (p0 p1 p2 p3 p4 p5 : Int) (hl : x.f2.length ≤ 9223372036854775807) : boring_Check.f x.f0 x.f1.f0 x.f1.f1 x.f2 p0 p1 p2 p3 p4 p5 = some (chkV x p0 p1 p2 p3 p4 p5) := by
 unfold boring_Check.f chkV
 rw [box_f, Option.bind_some]
 by_cases h : checkB p0 p1 p2 p3 p4 p5 = 0
 ·rw [if_pos h, if_pos h]
  exact first_f p0 p1 p2 p3 p4 p5 [x] (fun y hy => by rw [List.mem_singleton.1 hy]; exact hl)
 ·rw [if_neg h, if_neg h]
theorem rcheck_ev (x : Bg) (p0 p1 p2 p3 p4 p5 : Int) (hl : x.f2.length ≤ 9223372036854775807) (hn : x.f0.size ≤ 9223372036854775807) : Evt (fun k => gangsawref14_Check.f k x.f0 x.f1.f0 x.f1.f1 x.f2 p0 p1 p2 p3 p4 p5) (chkV x p0 p1 p2 p3 p4 p5) := by
 unfold gangsawref14_Check.f chkV
 refine Evt.bind (rbox_ev p0 p1 p2 p3 p4 p5) ?_
 by_cases h : checkB p0 p1 p2 p3 p4 p5 = 0
 ·simp only [if_pos h]
  exact Evt.bind (all_ev p0 p1 p2 p3 p4 p5 [x] (by simp) (fun y hy => by rw [List.mem_singleton.1 hy]; exact hl) (fun y hy => by rw [List.mem_singleton.1 hy]; exact hn)) (Evt.pure _)
 ·simp only [if_neg h]
  exact Evt.pure _
def dupB (l : List Bg) (i : Nat) : Bool := (l.take i).any (fun y => y.f0.toList == (rdB l i).f0.toList)
def dupV (l : List Bg) : Int := if (List.range' 0 (l.length - 0)).any (dupB l) = true then 5 else 0
theorem dup_ev (l : List Bg) (hll : l.length ≤ 9223372036854775807) : Evt (fun k => boring_CheckAll.l0 k l l (l.length : Int) 0) (dupV l) := by
 refine Evt.any_up (F := fun k i => boring_CheckAll.l0 k l l (l.length : Int) i) (n := l.length) (dupB l) 5 ?_ ?_ ?_ 0 (by omega)
 ·exact Evt.succ (g := fun _ => some 0) (Evt.pure _) (fun k => by simp only [boring_CheckAll.l0, Int.lt_irrefl, if_false])
 ·intro i hi hb
  have d1 : (i : Int) < (l.length : Int) := by omega
  have d2 : (0 : Int) ≤ (i : Int) := by omega
  have d3 : (i : Int) ≤ (l.length : Int) := by omega
  refine Evt.succ (g := fun _ => some 5) (Evt.pure _) (fun k => ?_)
  simp only [boring_CheckAll.l0, if_pos d1, if_pos d2, if_pos d3]
  rw [show contains33.f (l.take (i : Int).toNat) (fun x_ => boring_CheckAll_1.f x_.f0 x_.f1.f0 x_.f1.f1 x_.f2 (rd_T33 l i).f0 (rd_T33 l i).f1.f0 (rd_T33 l i).f1.f1 (rd_T33 l i).f2) = some (dupB l i) from anyO_pt _ _ _ (fun x _ => rfl), hb]
  rfl
 ·intro i hi hb v hv
  have d1 : (i : Int) < (l.length : Int) := by omega
  have d2 : (0 : Int) ≤ (i : Int) := by omega
  have d3 : (i : Int) ≤ (l.length : Int) := by omega
  refine Evt.succ hv (fun k => ?_)
  simp only [boring_CheckAll.l0, if_pos d1, if_pos d2, if_pos d3]
  rw [show contains33.f (l.take (i : Int).toNat) (fun x_ => boring_CheckAll_1.f x_.f0 x_.f1.f0 x_.f1.f1 x_.f2 (rd_T33 l i).f0 (rd_T33 l i).f1.f0 (rd_T33 l i).f1.f1 (rd_T33 l i).f2) = some (dupB l i) from anyO_pt _ _ _ (fun x _ => rfl), hb, wrap_up i l.length hi hll]
  rfl
theorem rdup_ev (l : List Bg) (hll : l.length ≤ 9223372036854775807) : Evt (fun k => gangsawref14_CheckAll.l0 k l 0) (dupV l) := by
 refine Evt.any_up (F := fun k i => gangsawref14_CheckAll.l0 k l i) (n := l.length) (dupB l) 5 ?_ ?_ ?_ 0 (by omega)
 ·exact Evt.succ (g := fun _ => some 0) (Evt.pure _) (fun k => by simp only [gangsawref14_CheckAll.l0, Int.lt_irrefl, if_false])
 all_goals
  intro i hi hb
  have d1 : (i : Int) < (l.length : Int) := by omega
  have d2 : (0 : Int) ≤ (i : Int) := by omega
  have ht : (l.take i).length = i := by rw [List.length_take]; omega
  have bad : ∀ m (h : m < (l.take i).length), ((l.take i)[m].f0.toList == (rdB l i).f0.toList) = true → Evt (fun k => gangsawref14_CheckAll.l1 k l i m) 5 := fun m hm hc => by
   have e1 : (m : Int) < (i : Int) := by omega
   have e2 : (0 : Int) ≤ (m : Int) := by omega
   have e3 : (m : Int) < (l.length : Int) := by omega
   have e4 : (rd_T33 l i).f0.toList = (rd_T33 l m).f0.toList := by
    rw [rdB_at l m (by omega)]
    simp only [beq_iff_eq, List.getElem_take] at hc
    exact hc.symm
   exact Evt.succ (g := fun _ => some 5) (Evt.pure _) (fun k => by simp only [gangsawref14_CheckAll.l1, if_pos e1, if_pos d1, if_pos d2, if_pos e2, if_pos e3, if_pos e4])
  have good : ∀ m (h : m < (l.take i).length), ((l.take i)[m].f0.toList == (rdB l i).f0.toList) = false → ∀ v, Evt (fun k => gangsawref14_CheckAll.l1 k l i ((m + 1 : Nat) : Int)) v → Evt (fun k => gangsawref14_CheckAll.l1 k l i m) v := fun m hm hc v hv => by
   have e1 : (m : Int) < (i : Int) := by omega
   have e2 : (0 : Int) ≤ (m : Int) := by omega
   have e3 : (m : Int) < (l.length : Int) := by omega
   have e4 : ¬ (rd_T33 l i).f0.toList = (rd_T33 l m).f0.toList := by
    rw [rdB_at l m (by omega)]
    intro h
    simp only [beq_eq_false_iff_ne, List.getElem_take, ne_eq] at hc
    exact hc h.symm
   exact Evt.succ hv (fun k => by simp only [gangsawref14_CheckAll.l1, if_pos e1, if_pos d1, if_pos d2, if_pos e2, if_pos e3, if_neg e4, wrap_up m l.length (by omega) hll])
 ·refine Evt.succ (g := fun k => gangsawref14_CheckAll.l1 k l i 0) ?_ (fun k => by simp only [gangsawref14_CheckAll.l0, if_pos d1])
  exact Evt.any_bad (F := fun k m => gangsawref14_CheckAll.l1 k l i m) _ 5 hb bad good
 ·intro v hv
  refine Evt.succ (g := fun k => gangsawref14_CheckAll.l1 k l i 0) ?_ (fun k => by simp only [gangsawref14_CheckAll.l0, if_pos d1])
  have h := Evt.any_list (F := fun k m => gangsawref14_CheckAll.l1 k l i m) (l := l.take i) (fun y => y.f0.toList == (rdB l i).f0.toList) 5 (V := v) ?_ bad good
  ·rw [show (l.take i).any (fun y => y.f0.toList == (rdB l i).f0.toList) = false from hb, if_neg (by simp)] at h
   exact h
  ·rw [ht]
   exact Evt.succ hv (fun k => by simp only [gangsawref14_CheckAll.l1, Int.lt_irrefl, if_false, wrap_up i l.length hi hll])
def allV (l : List Bg) (p0 p1 p2 p3 p4 p5 : Int) : Int :=
 if 64 < l.length then 7 else if checkB p0 p1 p2 p3 p4 p5 = 0 then (if firstV p0 p1 p2 p3 p4 p5 l = 0 then dupV l else firstV p0 p1 p2 p3 p4 p5 l) else checkB p0 p1 p2 p3 p4 p5
theorem checkAll_ev (l : List Bg) (p0 p1 p2 p3 p4 p5 : Int) (hll : l.length ≤ 9223372036854775807) (hl : ∀ x ∈ l, x.f2.length ≤ 9223372036854775807) : Evt (fun k => boring_CheckAll.f k l p0 p1 p2 p3 p4 p5) (allV l p0 p1 p2 p3 p4 p5) := by
 unfold boring_CheckAll.f allV
 by_cases h : 64 < l.length
 ·have c : (l.length : Int) > 64 := by omega
  simp only [if_pos h, if_pos c]
  exact Evt.pure _
 ·have c : ¬ (l.length : Int) > 64 := by omega
  simp only [if_neg h, if_neg c, box_f, Option.bind_some]
  by_cases hb : checkB p0 p1 p2 p3 p4 p5 = 0
  ·simp only [if_pos hb]
   have hf := first_f p0 p1 p2 p3 p4 p5 l hl
   obtain ⟨u, hu, hf⟩ := Option.bind_eq_some_iff.1 hf
   simp only [hu, Option.bind_some, hf]
   by_cases h0 : firstV p0 p1 p2 p3 p4 p5 l = 0
   ·simp only [if_pos h0]; exact dup_ev l hll
   ·simp only [if_neg h0]; exact Evt.pure _
  ·simp only [if_neg hb]; exact Evt.pure _
theorem rcheckAll_ev (l : List Bg) (p0 p1 p2 p3 p4 p5 : Int) (hll : l.length ≤ 9223372036854775807) (hl : ∀ x ∈ l, x.f2.length ≤ 9223372036854775807) (hn : ∀ x ∈ l, x.f0.size ≤ 9223372036854775807) : Evt (fun k => gangsawref14_CheckAll.f k l p0 p1 p2 p3 p4 p5) (allV l p0 p1 p2 p3 p4 p5) := by
 unfold gangsawref14_CheckAll.f allV
 by_cases h : 64 < l.length
 ·have c : (l.length : Int) > 64 := by omega
  simp only [if_pos h, if_pos c]
  exact Evt.pure _
 ·have c : ¬ (l.length : Int) > 64 := by omega
  simp only [if_neg h, if_neg c]
  refine Evt.bind (rbox_ev p0 p1 p2 p3 p4 p5) ?_
  by_cases hb : checkB p0 p1 p2 p3 p4 p5 = 0
  ·simp only [if_pos hb]
   refine Evt.bind (all_ev p0 p1 p2 p3 p4 p5 l hll hl hn) ?_
   by_cases h0 : firstV p0 p1 p2 p3 p4 p5 l = 0
   ·simp only [if_pos h0]; exact rdup_ev l hll
   ·simp only [if_neg h0]; exact Evt.pure _
  ·simp only [if_neg hb]; exact Evt.pure _
end Go.Proofs.YtfedmcehkpfciaaGreat.PChecks
