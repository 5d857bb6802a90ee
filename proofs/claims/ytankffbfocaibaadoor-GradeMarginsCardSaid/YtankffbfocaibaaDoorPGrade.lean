/-
  Grades in plain terms: their checks, whether a lot meets one, of the program and of the reference.
-/
import Derived.Test.YtankffbfocaibaaDoorPTest
import Derived.Test.YtankffbfocaibaaDoorPx1
import Derived.Test.YtankffbfocaibaaDoorPx8
import Derived.Test.YtankffbfocaibaaDoorPx11
import Derived.Test.YtankffbfocaibaaDoorPx4
import Derived.Test.YtankffbfocaibaaDoorPx10
set_option linter.unusedVariables false
set_option linter.unusedSimpArgs false
namespace Go.Proofs.YtankffbfocaibaaDoor.PGrade
open Go.RowKit Go.Proofs.YtankffbfocaibaaDoorW.PrintWords Go.Proofs.YtankffbfocaibaaDoor.P Go.Proofs.YtankffbfocaibaaDoor.Rnd Go.Proofs.YtankffbfocaibaaDoor.Lex Go.Proofs.YtankffbfocaibaaDoor.PName Go.Proofs.YtankffbfocaibaaDoor.Open Go.Proofs.YtankffbfocaibaaDoor.Ks Go.Proofs.YtankffbfocaibaaDoor.Hof Go.Proofs.YtankffbfocaibaaDoor.Gen Go.Proofs.YtankffbfocaibaaDoor.PTest

abbrev Gr := S32
theorem rdG_at (l : List Gr) (i : Nat) (h : i < l.length) : rd_T32 l (i : Int) = l[i] := getD_at l _ i h
def badNm (g : Gr) : Bool := !nameB g.f0
def badRg (g : Gr) : Bool := !(decide (1 ≤ g.f1) && (decide (g.f1 ≤ 256) && (decide (0 ≤ g.f2) && (decide (g.f2 ≤ 1000000) && (decide (0 ≤ g.f3) && decide (g.f3 ≤ 1000000))))))
def validV (l : List Gr) : Int := if l.any badNm then 4 else if l.any badRg then 6 else 0
theorem badRg_f (g : Gr) : grade_valid_2.f g.f0 g.f1 g.f2 g.f3 = some (badRg g) := by
  unfold grade_valid_2.f badRg grade_in.f
  by_cases h1 : g.f1 < 1
  · rw [if_pos h1, decide_eq_false (show ¬ 1 ≤ g.f1 by omega)]; rfl
  rw [if_neg h1, decide_eq_true (show 1 ≤ g.f1 by omega)]
  by_cases h2 : g.f1 > 256
  · rw [if_pos h2, decide_eq_false (show ¬ g.f1 ≤ 256 by omega)]; rfl
  rw [if_neg h2, decide_eq_true (show g.f1 ≤ 256 by omega)]
  by_cases h3 : 0 ≤ g.f2
  · rw [if_pos (show g.f2 ≥ 0 from h3), decide_eq_true h3]
    by_cases h4 : g.f2 ≤ 1000000
    · rw [decide_eq_true h4]
      by_cases h5 : 0 ≤ g.f3
      · rw [if_pos (show g.f3 ≥ 0 from h5), decide_eq_true h5]; simp
      · rw [if_neg (show ¬ g.f3 ≥ 0 from h5), decide_eq_false h5]; simp
    · rw [decide_eq_false h4]; simp
  · rw [if_neg (show ¬ g.f2 ≥ 0 from h3), decide_eq_false h3]; simp
theorem valid_f (l : List Gr) : grade_valid.f l = some (validV l) := by
  unfold grade_valid.f validV
  have e1 : contains32.f l (fun x_ => grade_valid_1.f x_.f0 x_.f1 x_.f2 x_.f3) = some (l.any badNm) := anyO_some badNm l
  have e2 : contains32.f l (fun x_ => grade_valid_2.f x_.f0 x_.f1 x_.f2 x_.f3) = some (l.any badRg) := by
    rw [show (fun x_ : Gr => grade_valid_2.f x_.f0 x_.f1 x_.f2 x_.f3) = fun x_ => some (badRg x_) from funext badRg_f]
    exact anyO_some badRg l
  rw [e1, e2]
  cases l.any badNm <;> cases l.any badRg <;> rfl
theorem each_ev (l : List Gr) (hl : l.length ≤ 9223372036854775807) (hg : ∀ t ∈ l, t.f0.size ≤ 9223372036854775807) : Evt (fun k => gangsawref34_each.f k l) (validV l) := by
  unfold gangsawref34_each.f validV
  refine Evt.any_list (F := fun k i => gangsawref34_each.l0 k l i) badNm 4 ?_ ?_ ?_
  · refine Evt.succ (g := fun k => gangsawref34_each.l1 k l 0) ?_ (fun k => by simp only [gangsawref34_each.l0, Int.lt_irrefl, if_false])
    refine Evt.any_list (F := fun k i => gangsawref34_each.l1 k l i) badRg 6 ?_ ?_ ?_
    · exact Evt.succ (g := fun _ => some 0) (Evt.pure _) (fun k => by simp only [gangsawref34_each.l1, Int.lt_irrefl, if_false])
    · intro i hi hb
      refine Evt.succ (g := fun _ => some 6) (Evt.pure _) (fun k => ?_)
      unfold badRg at hb
      simp only [gangsawref34_each.l1, rdG_at l i hi, gangsawref34_in.f]
      rw [if_pos (by omega), if_pos (by omega)]
      by_cases h1 : 1 ≤ l[i].f1
      · rw [if_pos h1]
        by_cases h2 : l[i].f1 ≤ 256
        · rw [decide_eq_true h2]
          by_cases h3 : 0 ≤ l[i].f2
          · rw [if_pos h3]
            by_cases h4 : l[i].f2 ≤ 1000000
            · rw [decide_eq_true h4]
              by_cases h5 : 0 ≤ l[i].f3
              · rw [if_pos h5]
                by_cases h6 : l[i].f3 ≤ 1000000
                · simp [h1, h2, h3, h4, h5, h6] at hb
                · rw [decide_eq_false h6]; simp
              · rw [if_neg h5]; simp
            · rw [decide_eq_false h4]; simp
          · rw [if_neg h3]; simp
        · rw [decide_eq_false h2]; simp
      · rw [if_neg h1]; simp
    · intro i hi hb v hv
      refine Evt.succ hv (fun k => ?_)
      unfold badRg at hb
      simp at hb
      simp only [gangsawref34_each.l1, rdG_at l i hi, gangsawref34_in.f]
      rw [if_pos (by omega), if_pos (by omega), if_pos (by omega), decide_eq_true (show l[i].f1 ≤ 256 by omega), if_pos (show 0 ≤ l[i].f2 by omega), decide_eq_true (show l[i].f2 ≤ 1000000 by omega), if_pos (show 0 ≤ l[i].f3 by omega), decide_eq_true (show l[i].f3 ≤ 1000000 by omega)]
      simp only [Option.bind_some, if_true]
      rw [wrap_up i l.length hi hl]
  · intro i hi hb
    have hb2 : nameB l[i].f0 = false := by unfold badNm at hb; simpa using hb
    refine Evt.succ (g := fun k => (gangsawref09_Name.f k l[i].f0).bind fun t => if t = true then gangsawref34_each.l0 k l (wrap64 ((i : Int) + 1)) else some 4) ?_ (fun k => ?_)
    · refine Evt.bind (name_ev _ (hg _ (List.getElem_mem _))) ?_
      rw [hb2]; exact Evt.pure _
    · simp only [gangsawref34_each.l0, rdG_at l i hi]
      rw [if_pos (by omega), if_pos (by omega)]
  · intro i hi hb v hv
    have hb2 : nameB l[i].f0 = true := by unfold badNm at hb; simpa using hb
    refine Evt.succ (g := fun k => (gangsawref09_Name.f k l[i].f0).bind fun t => if t = true then gangsawref34_each.l0 k l (wrap64 ((i : Int) + 1)) else some 4) ?_ (fun k => ?_)
    · refine Evt.bind (name_ev _ (hg _ (List.getElem_mem _))) ?_
      rw [hb2, wrap_up i l.length hi hl]; exact hv
    · simp only [gangsawref34_each.l0, rdG_at l i hi]
      rw [if_pos (by omega), if_pos (by omega)]
def weakN (l : List T) (s : Int) : Nat := (l.filter fun t => decide (t.f1 < s)).length
def wetN (l : List T) (a : Int) : Nat := (l.filter fun t => decide (t.f2 > a)).length
def metV (g : Gr) (l : List T) : Bool := decide ((l.length : Int) ≥ g.f1) && (decide ((weakN l g.f2 : Int) < g.f1) && decide ((wetN l g.f3 : Int) < g.f1))
theorem filter_take (q : T → Bool) (l : List T) (i : Nat) (hi : i < l.length) : ((l.take (i + 1)).filter q).length = ((l.take i).filter q).length + (if q l[i] = true then 1 else 0) := by
  rw [List.take_succ_eq_append_getElem hi, List.filter_append, List.length_append]
  cases h : q l[i] <;> simp [h]
theorem filter_le (q : T → Bool) (l : List T) (i : Nat) : ((l.take i).filter q).length ≤ l.length := Nat.le_trans (List.length_filter_le _ _) (by simp; omega)
theorem worse_ev (l : List T) (hl : l.length ≤ 1000000) (s a : Int) : Evt (fun k => gangsawref34_worse.f k l s a) ((weakN l s : Int), (wetN l a : Int)) := by
  unfold gangsawref34_worse.f
  have key : ∀ i, i ≤ l.length → Evt (fun k => gangsawref34_worse.l0 k l s a (weakN (l.take i) s : Int) (wetN (l.take i) a : Int) (i : Nat)) ((weakN l s : Int), (wetN l a : Int)) := by
    refine down ?_ ?_
    · refine Evt.succ (g := fun _ => some _) (Evt.pure _) (fun k => ?_)
      simp only [gangsawref34_worse.l0, Int.lt_irrefl, if_false, List.take_length]
    · intro i hi ih
      have h1 := filter_le (fun t => decide (t.f1 < s)) l i
      have h2 := filter_le (fun t => decide (t.f2 > a)) l i
      have h3 : weakN (l.take (i + 1)) s = weakN (l.take i) s + _ := filter_take (fun t => decide (t.f1 < s)) l i hi
      have h4 : wetN (l.take (i + 1)) a = wetN (l.take i) a + _ := filter_take (fun t => decide (t.f2 > a)) l i hi
      have h5 : weakN (l.take i) s ≤ l.length := h1
      have h6 : wetN (l.take i) a ≤ l.length := h2
      rw [h3, h4] at ih
      refine Evt.succ ih (fun k => ?_)
      simp only [gangsawref34_worse.l0, rdT_at l i hi, decide_eq_true_eq]
      rw [if_pos (by omega), if_pos (by omega), wrap_up i l.length hi (by omega), wrap_mid ((weakN (l.take i) s : Int) + 1) (by omega) (by omega), wrap_mid ((wetN (l.take i) a : Int) + 1) (by omega) (by omega)]
      by_cases c1 : l[i].f1 < s
      · by_cases c2 : l[i].f2 > a
        · rw [if_pos c1, if_pos c2, if_pos c1, if_pos c2]; rfl
        · rw [if_pos c1, if_neg c2, if_pos c1, if_neg c2]; rfl
      · by_cases c2 : l[i].f2 > a
        · rw [if_neg c1, if_pos c2, if_neg c1, if_pos c2]; rfl
        · rw [if_neg c1, if_neg c2, if_neg c1, if_neg c2]; rfl
  exact key 0 (by omega)
theorem rmet_ev (g : Gr) (l : List T) (hl : l.length ≤ 1000000) : Evt (fun k => gangsawref34_Met.f k g.f0 g.f1 g.f2 g.f3 l) (metV g l) := by
  unfold gangsawref34_Met.f metV
  refine Evt.bind (worse_ev l hl _ _) ?_
  refine Evt.const (fun k => ?_)
  by_cases h1 : (l.length : Int) ≥ g.f1
  · by_cases h2 : (weakN l g.f2 : Int) < g.f1
    · rw [if_pos h1, if_pos h2, decide_eq_true h1, decide_eq_true h2]; rfl
    · rw [if_pos h1, if_neg h2, decide_eq_true h1, decide_eq_false h2]; rfl
  · rw [if_neg h1, decide_eq_false h1]; rfl
def bothV (g : Gr) (l : List T) : Int := if validV [g] = 0 then checkV l else validV [g]
def meetsV (g : Gr) (l : List T) : Bool × Int := if bothV g l = 0 then (metV g l, 0) else (false, bothV g l)
theorem both_ev (g : Gr) (l : List T) : Evt (fun k => grade_both.f k g.f0 g.f1 g.f2 g.f3 l) (bothV g l) := by
  unfold grade_both.f bothV
  refine Evt.bind0 (g := grade_valid.f [g]) (valid_f [g]) ?_
  by_cases h : validV [g] = 0
  · simp only [if_pos h]; exact Evt.bind (check_ev l) (Evt.pure _)
  · simp only [if_neg h]; exact Evt.pure _
theorem bothV_len {g : Gr} {l : List T} (h : bothV g l = 0) : checkV l = 0 := by
  unfold bothV at h
  by_cases c : validV [g] = 0
  · rw [if_pos c] at h; exact h
  · rw [if_neg c] at h; exact absurd h c
theorem rgmeets_ev (g : Gr) (l : List T) (hg : g.f0.size ≤ 9223372036854775807) (hl : ∀ t ∈ l, t.f0.size ≤ 9223372036854775807) : Evt (fun k => gangsawref34_Meets.f k g.f0 g.f1 g.f2 g.f3 l) (meetsV g l) := by
  unfold gangsawref34_Meets.f meetsV bothV
  refine Evt.bind (g := fun k => gangsawref34_each.f k [g]) (each_ev [g] (by simp) (fun t ht => by rw [List.mem_singleton] at ht; rw [ht]; exact hg)) ?_
  by_cases h : validV [g] = 0
  · simp only [if_pos h]
    refine Evt.bind (rcheck_ev l hl) ?_
    by_cases c : checkV l = 0
    · simp only [if_pos c]
      have := (checkV_zero c).1
      exact Evt.bind (rmet_ev g l (by omega)) (Evt.pure _)
    · simp only [if_neg c]; exact Evt.pure _
  · simp only [if_neg h]; exact Evt.pure _
theorem bothV_rank {g : Gr} {l : List T} (h : bothV g l = 0) : 1 ≤ g.f1 ∧ g.f1 ≤ 256 ∧ 0 ≤ g.f2 ∧ g.f2 ≤ 1000000 ∧ 0 ≤ g.f3 ∧ g.f3 ≤ 1000000 := by
  unfold bothV at h
  by_cases c : validV [g] = 0
  · unfold validV at c
    cases a : [g].any badNm <;> cases b : [g].any badRg <;> rw [a, b] at c <;> simp at c
    simp [badRg] at b
    omega
  · rw [if_neg c] at h; exact absurd h c
end Go.Proofs.YtankffbfocaibaaDoor.PGrade
