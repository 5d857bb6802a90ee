/-
  Margins of grades in plain terms, of the program and of the reference.
-/
import Derived.Test.YtankffbfocaibaaDoorPGrade
import Derived.Test.YtankffbfocaibaaDoorPx14
import Derived.Test.YtankffbfocaibaaDoorPx15
set_option linter.unusedVariables false
set_option linter.unusedSimpArgs false
namespace Go.Proofs.YtankffbfocaibaaDoor.PMargin
open Go.RowKit Go.Proofs.YtankffbfocaibaaDoorW.PrintWords Go.Proofs.YtankffbfocaibaaDoor.P Go.Proofs.YtankffbfocaibaaDoor.Rnd Go.Proofs.YtankffbfocaibaaDoor.Lex Go.Proofs.YtankffbfocaibaaDoor.PName Go.Proofs.YtankffbfocaibaaDoor.Open Go.Proofs.YtankffbfocaibaaDoor.Ks Go.Proofs.YtankffbfocaibaaDoor.Hof Go.Proofs.YtankffbfocaibaaDoor.Sort Go.Proofs.YtankffbfocaibaaDoor.Gen Go.Proofs.YtankffbfocaibaaDoor.PTest Go.Proofs.YtankffbfocaibaaDoor.PGrade
def strengthV (l : List T) (n : Int) : Int × Int := if checkV l = 0 then (if n < 1 then (0, 9) else if n > (l.length : Int) then (0, 9) else (rd (sortInt (l.map (·.f1))) (n - 1), 0)) else (0, checkV l)
def absorptionV (l : List T) (n : Int) : Int × Int := if checkV l = 0 then (if n < 1 then (0, 9) else if n > (l.length : Int) then (0, 9) else (rd (sortInt (l.map (·.f2))) ((l.length : Int) - n), 0)) else (0, checkV l)
theorem ranked_ev (l : List T) (n : Int) : Evt (fun k => sample_ranked.f k l n) (if checkV l = 0 then (if n < 1 then 9 else if n > (l.length : Int) then 9 else 0) else checkV l) := by
  unfold sample_ranked.f
  refine Evt.bind (check_ev l) ?_
  by_cases c : checkV l = 0
  · simp only [if_pos c]
    by_cases h1 : n < 1
    · simp only [if_pos h1]; exact Evt.pure _
    · by_cases h2 : n > (l.length : Int)
      · simp only [if_neg h1, if_pos h2]; exact Evt.pure _
      · simp only [if_neg h1, if_neg h2]; exact Evt.pure _
  · simp only [if_neg c]; exact Evt.pure _
theorem strength_ev (l : List T) (n : Int) : Evt (fun k => sample_Strength.f k l n) (strengthV l n) := by
  unfold sample_Strength.f strengthV
  refine Evt.bind (ranked_ev l n) ?_
  by_cases c : checkV l = 0
  · have hl := (checkV_zero c).1
    simp only [if_pos c]
    by_cases h1 : n < 1
    · simp only [if_pos h1]; exact Evt.pure _
    · by_cases h2 : n > (l.length : Int)
      · simp only [if_neg h1, if_pos h2]; exact Evt.pure _
      · simp only [if_neg h1, if_neg h2, if_true]
        refine Evt.bind (sorted_ev l (by omega) _ (·.f1) (fun t => rfl)) ?_
        refine Evt.const (fun k => ?_)
        have hlen : (sortInt (l.map (·.f1))).length = l.length := by rw [sortInt_len, List.length_map]
        rw [wrap_mid (n - 1) (by omega) (by omega), if_pos (by omega), if_pos (by omega)]
  · simp only [if_neg c]; exact Evt.pure _
theorem absorption_ev (l : List T) (n : Int) : Evt (fun k => sample_Absorption.f k l n) (absorptionV l n) := by
  unfold sample_Absorption.f absorptionV
  refine Evt.bind (ranked_ev l n) ?_
  by_cases c : checkV l = 0
  · have hl := (checkV_zero c).1
    simp only [if_pos c]
    by_cases h1 : n < 1
    · simp only [if_pos h1]; exact Evt.pure _
    · by_cases h2 : n > (l.length : Int)
      · simp only [if_neg h1, if_pos h2]; exact Evt.pure _
      · simp only [if_neg h1, if_neg h2, if_true]
        refine Evt.bind (sorted_ev l (by omega) _ (·.f2) (fun t => rfl)) ?_
        refine Evt.const (fun k => ?_)
        have hlen : (sortInt (l.map (·.f2))).length = l.length := by rw [sortInt_len, List.length_map]
        rw [wrap_mid ((l.length : Int) - n) (by omega) (by omega), if_pos (by omega), if_pos (by omega)]
  · simp only [if_neg c]; exact Evt.pure _
/-- what the sorted numbers of valid tests lie between -/
theorem sorted_range (l : List T) (q : T → Int) (h : ∀ t ∈ l, 0 ≤ q t ∧ q t ≤ 1000000) (i : Nat) (hi : i < (sortInt (l.map q)).length) : 0 ≤ (sortInt (l.map q))[i] ∧ (sortInt (l.map q))[i] ≤ 1000000 := by
  have := (sortInt_perm (l.map q)).mem_iff.1 (List.getElem_mem hi)
  obtain ⟨t, ht, e⟩ := List.mem_map.1 this
  have := h t ht
  omega
theorem rd_nat (l : List Int) (z : Int) (i : Nat) (e : z = (i : Int)) (h : i < l.length) : rd l z = l[i] := by subst e; exact rdI_at l i h
def lowS (g : Gr) (l : List T) : Int := rd (sortInt (l.map (·.f1))) (g.f1 - 1)
def highA (g : Gr) (l : List T) : Int := rd (sortInt (l.map (·.f2))) ((l.length : Int) - g.f1)
def marginV (g : Gr) (l : List T) : Int × Int × Int := if bothV g l = 0 then (if (l.length : Int) < g.f1 then (0, 0, 9) else (lowS g l - g.f2, g.f3 - highA g l, 0)) else (0, 0, bothV g l)
theorem low_range {g : Gr} {l : List T} (h : bothV g l = 0) (hn : ¬ (l.length : Int) < g.f1) : 0 ≤ lowS g l ∧ lowS g l ≤ 1000000 ∧ 0 ≤ highA g l ∧ highA g l ≤ 1000000 := by
  have hc := bothV_len h
  have hr := bothV_rank h
  have hlen1 : (sortInt (l.map (·.f1))).length = l.length := by rw [sortInt_len, List.length_map]
  have hlen2 : (sortInt (l.map (·.f2))).length = l.length := by rw [sortInt_len, List.length_map]
  have h1 := sorted_range l (·.f1) (fun t ht => by have := checkV_range hc t ht; omega) (g.f1 - 1).toNat (by omega)
  have h2 := sorted_range l (·.f2) (fun t ht => by have := checkV_range hc t ht; omega) ((l.length : Int) - g.f1).toNat (by omega)
  have e1 : lowS g l = (sortInt (l.map (·.f1)))[(g.f1 - 1).toNat]'(by omega) := rd_nat _ _ _ (by omega) (by omega)
  have e2 : highA g l = (sortInt (l.map (·.f2)))[((l.length : Int) - g.f1).toNat]'(by omega) := rd_nat _ _ _ (by omega) (by omega)
  omega
theorem margin_ev (g : Gr) (l : List T) : Evt (fun k => grade_Margin.f k g.f0 g.f1 g.f2 g.f3 l) (marginV g l) := by
  unfold grade_Margin.f marginV
  refine Evt.bind (both_ev g l) ?_
  by_cases h : bothV g l = 0
  · simp only [if_pos h]
    have hc := bothV_len h
    have hr := bothV_rank h
    refine Evt.bind (strength_ev l g.f1) ?_
    simp only [strengthV, if_pos hc, if_neg (show ¬ g.f1 < 1 by omega)]
    by_cases hn : (l.length : Int) < g.f1
    · simp only [if_pos hn, if_pos (show g.f1 > (l.length : Int) from hn)]
      exact Evt.pure _
    · have hlr := low_range h hn
      simp only [if_neg hn, if_neg (show ¬ g.f1 > (l.length : Int) from hn), if_true]
      refine Evt.bind (absorption_ev l g.f1) ?_
      simp only [absorptionV, if_pos hc, if_neg (show ¬ g.f1 < 1 by omega), if_neg (show ¬ g.f1 > (l.length : Int) from hn), if_true]
      refine Evt.const (fun k => ?_)
      show some (wrap64 (lowS g l - g.f2), wrap64 (g.f3 - highA g l), 0) = _
      rw [wrap_mid _ (by omega) (by omega), wrap_mid _ (by omega) (by omega)]
  · simp only [if_neg h]; exact Evt.pure _
end Go.Proofs.YtankffbfocaibaaDoor.PMargin
