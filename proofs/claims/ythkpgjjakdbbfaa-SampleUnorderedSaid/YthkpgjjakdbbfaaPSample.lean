/-
  Strength, Absorption and Rank in plain terms, of the program and of the reference.
-/
import Derived.Test.YthkpgjjakdbbfaaPTest
import Derived.Test.YthkpgjjakdbbfaaPx3
import Derived.Test.YthkpgjjakdbbfaaPx15
import Derived.Test.YthkpgjjakdbbfaaPx16
import Derived.Test.YthkpgjjakdbbfaaPx17
import Derived.Test.YthkpgjjakdbbfaaPx18
import Derived.Test.YthkpgjjakdbbfaaPx12
set_option linter.unusedVariables false
set_option linter.unusedSimpArgs false
namespace Go.Proofs.Ythkpgjjakdbbfaa.PSample
open Go.RowKit Go.Proofs.YthkpgjjakdbbfaaW.PrintWords Go.Proofs.Ythkpgjjakdbbfaa.P Go.Proofs.Ythkpgjjakdbbfaa.Rnd Go.Proofs.Ythkpgjjakdbbfaa.Lex Go.Proofs.Ythkpgjjakdbbfaa.PName Go.Proofs.Ythkpgjjakdbbfaa.Open Go.Proofs.Ythkpgjjakdbbfaa.Ks Go.Proofs.Ythkpgjjakdbbfaa.Hof Go.Proofs.Ythkpgjjakdbbfaa.Sort Go.Proofs.Ythkpgjjakdbbfaa.Gen Go.Proofs.Ythkpgjjakdbbfaa.Sm Go.Proofs.Ythkpgjjakdbbfaa.PTest

def strengthV (l : List T) (n : Int) : Int × Int := if checkV l = 0 then (if n < 1 then (0, 9) else if n > (l.length : Int) then (0, 9) else (rd (sortInt (l.map (·.f1))) (n - 1), 0)) else (0, checkV l)
def absorptionV (l : List T) (n : Int) : Int × Int := if checkV l = 0 then (if n < 1 then (0, 9) else if n > (l.length : Int) then (0, 9) else (rd (sortInt (l.map (·.f2))) ((l.length : Int) - n), 0)) else (0, checkV l)
theorem ranked_ev (l : List T) (n : Int) : Evt (fun k => sample_ranked.f k l n) (if checkV l = 0 then (if n < 1 then 9 else if n > (l.length : Int) then 9 else 0) else checkV l) := by
  unfold sample_ranked.f
  refine Evt.bind (check_ev l) ?_
  by_cases c : checkV l = 0
  · simp only [if_pos c]
    by_cases h1 : n < 1
    · simp only [if_pos h1]; exact Evt.pure _
    · by_cases h2 : n > (l.length : Int)
      · simp only [if_neg h1, if_pos h2]; exact Evt.pure _
      · simp only [if_neg h1, if_neg h2]; exact Evt.pure _
  · simp only [if_neg c]; exact Evt.pure _
theorem strength_ev (l : List T) (n : Int) : Evt (fun k => sample_Strength.f k l n) (strengthV l n) := by
  unfold sample_Strength.f strengthV
  refine Evt.bind (ranked_ev l n) ?_
  by_cases c : checkV l = 0
  · have hl := (checkV_zero c).1
    simp only [if_pos c]
    by_cases h1 : n < 1
    · simp only [if_pos h1]; exact Evt.pure _
    · by_cases h2 : n > (l.length : Int)
      · simp only [if_neg h1, if_pos h2]; exact Evt.pure _
      · simp only [if_neg h1, if_neg h2, if_true]
        refine Evt.bind (sorted_ev l (by omega) _ (·.f1) (fun t => rfl)) ?_
        refine Evt.const (fun k => ?_)
        have hlen : (sortInt (l.map (·.f1))).length = l.length := by rw [sortInt_len, List.length_map]
        rw [wrap_mid (n - 1) (by omega) (by omega), if_pos (by omega), if_pos (by omega)]
  · simp only [if_neg c]; exact Evt.pure _
theorem absorption_ev (l : List T) (n : Int) : Evt (fun k => sample_Absorption.f k l n) (absorptionV l n) := by
  unfold sample_Absorption.f absorptionV
  refine Evt.bind (ranked_ev l n) ?_
  by_cases c : checkV l = 0
  · have hl := (checkV_zero c).1
    simp only [if_pos c]
    by_cases h1 : n < 1
    · simp only [if_pos h1]; exact Evt.pure _
    · by_cases h2 : n > (l.length : Int)
      · simp only [if_neg h1, if_pos h2]; exact Evt.pure _
      · simp only [if_neg h1, if_neg h2, if_true]
        refine Evt.bind (sorted_ev l (by omega) _ (·.f2) (fun t => rfl)) ?_
        refine Evt.const (fun k => ?_)
        have hlen : (sortInt (l.map (·.f2))).length = l.length := by rw [sortInt_len, List.length_map]
        rw [wrap_mid ((l.length : Int) - n) (by omega) (by omega), if_pos (by omega), if_pos (by omega)]
  · simp only [if_neg c]; exact Evt.pure _
theorem few_ev (l : List T) (hg : l.length ≤ 9223372036854775807) : ∃ b, Evt (fun k => gangsawref33_Few.f k l) b ∧ (b = true → l.length ≤ 260) := by
  have h0 : Evt (fun k => gangsawref33_Few.l0 k l 0) (!(l.any fun t => decide ((t.f0.size : Int) > 100))) := by
    have := Evt.any_list (F := fun k i => gangsawref33_Few.l0 k l i) (l := l) (fun t => decide ((t.f0.size : Int) > 100)) false (V := true) ?_ ?_ ?_
    · cases h : l.any (fun t => decide ((t.f0.size : Int) > 100)) <;> rw [h] at this <;> exact this
    · exact Evt.succ (g := fun _ => some true) (Evt.pure _) (fun k => by simp only [gangsawref33_Few.l0, Int.lt_irrefl, if_false])
    · intro i hi hb
      refine Evt.succ (g := fun _ => some false) (Evt.pure _) (fun k => ?_)
      simp only [gangsawref33_Few.l0, rdT_at l i hi]
      rw [if_pos (by omega), if_pos (by omega), if_pos (of_decide_eq_true hb)]
    · intro i hi hb v hv
      refine Evt.succ hv (fun k => ?_)
      simp only [gangsawref33_Few.l0, rdT_at l i hi]
      rw [if_pos (by omega), if_pos (by omega), if_neg (of_decide_eq_false hb), wrap_up i l.length hi hg]
  have hj : ∀ b, Evt (fun k => gangsawref33_Few.j0 k l b) (if b = true then false else !(l.any fun t => decide ((t.f0.size : Int) > 100))) := by
    intro b
    cases b with
    | true => exact Evt.succ (g := fun _ => some false) (Evt.pure _) (fun k => by simp only [gangsawref33_Few.j0, if_true])
    | false => exact Evt.succ h0 (fun k => by simp only [gangsawref33_Few.j0, Bool.false_eq_true, if_false])
  unfold gangsawref33_Few.f
  by_cases c1 : (l.length : Int) > 40
  · by_cases c2 : (l.length : Int) ≤ 256
    · exact ⟨_, Evt.of_eq (hj true) (fun k => by rw [if_pos c1, if_pos c2]), by simp⟩
    · refine ⟨_, Evt.of_eq (hj (decide ((l.length : Int) > 260))) (fun k => by rw [if_pos c1, if_neg c2]), fun h => ?_⟩
      by_cases c3 : (l.length : Int) > 260
      · rw [if_pos (decide_eq_true c3)] at h; cases h
      · omega
  · exact ⟨_, Evt.of_eq (hj false) (fun k => by rw [if_neg c1]), fun _ => by omega⟩
end Go.Proofs.Ythkpgjjakdbbfaa.PSample
