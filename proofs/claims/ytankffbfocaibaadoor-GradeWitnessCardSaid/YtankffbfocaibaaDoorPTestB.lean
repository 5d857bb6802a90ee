/-
  The checks of tests agree; sorted strengths and absorptions agree.
-/
import Derived.Test.YtankffbfocaibaaDoorPName
import Derived.Test.YtankffbfocaibaaDoorKs
import Derived.Test.YtankffbfocaibaaDoorGen
import Derived.Test.YtankffbfocaibaaDoorPx9
set_option linter.unusedVariables false
set_option linter.unusedSimpArgs false
namespace Go.Proofs.YtankffbfocaibaaDoor.PTest
open Go.RowKit Go.Proofs.YtankffbfocaibaaDoorW.PrintWords Go.Proofs.YtankffbfocaibaaDoor.P Go.Proofs.YtankffbfocaibaaDoor.Rnd Go.Proofs.YtankffbfocaibaaDoor.Lex Go.Proofs.YtankffbfocaibaaDoor.PName Go.Proofs.YtankffbfocaibaaDoor.Open Go.Proofs.YtankffbfocaibaaDoor.Ks Go.Proofs.YtankffbfocaibaaDoor.Hof Go.Proofs.YtankffbfocaibaaDoor.Sort Go.Proofs.YtankffbfocaibaaDoor.Gen Go.Proofs.YtankffbfocaibaaDoor.Sm

abbrev T := S46
abbrev zT := z46
theorem rdT_at (l : List T) (i : Nat) (h : i < l.length) : rd_T46 l (i : Int) = l[i] := getD_at l _ i h
theorem anyO_some {α : Type} (q : α → Bool) (l : List α) : anyO (fun x => some (q x)) l = some (l.any q) := by
  induction l with
  | nil => rfl
  | cons x l ih => simp only [anyO, List.any_cons]; cases h : q x <;> simp [ih]
def badN (t : T) : Bool := !nameB t.f0
def badR (t : T) : Bool := decide (t.f1 < 0) || decide (1000000 < t.f1) || decide (t.f2 < 0) || decide (1000000 < t.f2)
def dupAt (l : List T) (i : Nat) : Bool := (l.take i).any fun x => x.f0 == (l.getD i zT).f0
def dupV (l : List T) : Bool := (List.range' 0 (l.length - 0)).any (dupAt l)
def checkV (l : List T) : Int := if 256 < l.length then 7 else if l.any badN then 4 else if l.any badR then 6 else if dupV l then 5 else 0
theorem badR_f (t : T) : sample_Check_2.f t.f0 t.f1 t.f2 = some (badR t) := by
  unfold sample_Check_2.f badR
  by_cases h1 : t.f1 < 0
  · simp [h1]
  · by_cases h2 : t.f1 > 1000000
    · simp [h1, h2]
    · by_cases h3 : t.f2 < 0
      · simp [h1, h2, h3]
      · simp [h1, h2, h3]
theorem seen_loop (l : List T) (hl : l.length ≤ 256) : ∀ i, i ≤ l.length → ∀ m : SM ByteArray Bool, (∀ k, m.at_ k false = (l.take i).any fun x => x.f0 == k) → Evt (fun k => sample_Check.l0 k l (l.length : Int) (i : Nat) m) (if (List.range' i (l.length - i)).any (dupAt l) then 5 else 0) := by
  refine down ?_ ?_
  · intro m hm
    simp only [Nat.sub_self, List.range'_zero, List.any_nil, Bool.false_eq_true, if_false]
    refine Evt.succ (g := fun _ => some 0) (Evt.pure _) (fun k => ?_)
    simp only [sample_Check.l0, Int.lt_irrefl, if_false]
  · intro i hi ih m hm
    have e : l.length - i = (l.length - (i + 1)) + 1 := by omega
    rw [e, List.range'_succ, List.any_cons]
    have hd : m.at_ l[i].f0 false = dupAt l i := by rw [hm]; unfold dupAt; rw [getD_nat _ _ _ hi]
    cases hb : dupAt l i with
    | true =>
      rw [Bool.true_or, if_pos rfl]
      refine Evt.succ (g := fun _ => some 5) (Evt.pure _) (fun k => ?_)
      simp only [sample_Check.l0, rdT_at l i hi]
      rw [if_pos (by omega), if_pos (by omega), if_pos (by omega), if_pos (by rw [hd, hb])]
    | false =>
      rw [Bool.false_or]
      refine Evt.succ (ih (m.put l[i].f0 true) ?_) (fun k => ?_)
      · intro k
        unfold SM.at_
        rw [SM.get_put, List.take_succ_eq_append_getElem hi, List.any_append]
        have := hm k
        unfold SM.at_ at this
        by_cases c : (k == l[i].f0) = true
        · rw [if_pos c]
          rw [beq_iff_eq] at c
          subst c
          simp
        · rw [if_neg c, this]
          have c2 : (l[i].f0 == k) = false := by
            rw [beq_eq_false_iff_ne]; intro h; exact c (by rw [h]; simp)
          simp [c2]
      · simp only [sample_Check.l0, rdT_at l i hi]
        rw [if_pos (by omega), if_pos (by omega), if_pos (by omega), if_neg (by rw [hd, hb]; simp), wrap_up i l.length hi (by omega)]
theorem check_ev (l : List T) : Evt (fun k => sample_Check.f k l) (checkV l) := by
  unfold sample_Check.f checkV
  by_cases h : 256 < l.length
  · rw [if_pos h]; exact Evt.const (fun k => by rw [if_pos (by omega)])
  · rw [if_neg h]
    have e1 : contains46.f l (fun x_ => sample_Check_1.f x_.f0 x_.f1 x_.f2) = some (l.any badN) := anyO_some badN l
    have e2 : contains46.f l (fun x_ => sample_Check_2.f x_.f0 x_.f1 x_.f2) = some (l.any badR) := by
      rw [show (fun x_ : T => sample_Check_2.f x_.f0 x_.f1 x_.f2) = fun x_ => some (badR x_) from funext badR_f]
      exact anyO_some badR l
    refine Evt.of_eq (g := fun k => if l.any badN = true then some 4 else if l.any badR = true then some 6 else sample_Check.l0 k l (l.length : Int) 0 SM.new) ?_ (fun k => by rw [if_neg (by omega), e1, Option.bind_some, e2, Option.bind_some])
    cases l.any badN with
    | true => exact Evt.pure _
    | false =>
      cases l.any badR with
      | true => exact Evt.pure _
      | false => exact seen_loop l (by omega) 0 (by omega) SM.new (fun k => rfl)
theorem checkV_zero {l : List T} (h : checkV l = 0) : l.length ≤ 256 ∧ l.any badN = false ∧ l.any badR = false ∧ dupV l = false := by
  unfold checkV at h
  by_cases h1 : 256 < l.length
  · rw [if_pos h1] at h; omega
  · rw [if_neg h1] at h
    cases a : l.any badN <;> cases b : l.any badR <;> cases c : dupV l <;> rw [a, b, c] at h <;> simp at h
    exact ⟨by omega, rfl, rfl, rfl⟩
end Go.Proofs.YtankffbfocaibaaDoor.PTest
