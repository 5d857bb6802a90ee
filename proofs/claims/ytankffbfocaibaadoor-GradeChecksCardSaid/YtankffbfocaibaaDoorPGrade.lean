/-
  Grades in plain terms: their checks, whether a lot meets one, of the program and of the reference.
-/
import Derived.Test.YtankffbfocaibaaDoorPTest
import Derived.Test.YtankffbfocaibaaDoorPx1
import Derived.Test.YtankffbfocaibaaDoorPx8
import Derived.Test.YtankffbfocaibaaDoorPx11
import Derived.Test.YtankffbfocaibaaDoorPx4
import Derived.Test.YtankffbfocaibaaDoorPx10
set_option linter.unusedVariables false
set_option linter.unusedSimpArgs false
namespace Go.Proofs.YtankffbfocaibaaDoor.PGrade
open Go.RowKit Go.Proofs.YtankffbfocaibaaDoorW.PrintWords Go.Proofs.YtankffbfocaibaaDoor.P Go.Proofs.YtankffbfocaibaaDoor.Rnd Go.Proofs.YtankffbfocaibaaDoor.Lex Go.Proofs.YtankffbfocaibaaDoor.PName Go.Proofs.YtankffbfocaibaaDoor.Open Go.Proofs.YtankffbfocaibaaDoor.Ks Go.Proofs.YtankffbfocaibaaDoor.Hof Go.Proofs.YtankffbfocaibaaDoor.Gen Go.Proofs.YtankffbfocaibaaDoor.PTest

abbrev Gr := S32
abbrev zG := z32
theorem rdG_at (l : List Gr) (i : Nat) (h : i < l.length) : rd_T32 l (i : Int) = l[i] := getD_at l _ i h
def badNm (g : Gr) : Bool := !nameB g.f0
def badRg (g : Gr) : Bool := !(decide (1 ≤ g.f1) && (decide (g.f1 ≤ 256) && (decide (0 ≤ g.f2) && (decide (g.f2 ≤ 1000000) && (decide (0 ≤ g.f3) && decide (g.f3 ≤ 1000000))))))
def validV (l : List Gr) : Int := if l.any badNm then 4 else if l.any badRg then 6 else 0
theorem badRg_f (g : Gr) : grade_valid_2.f g.f0 g.f1 g.f2 g.f3 = some (badRg g) := by
  unfold grade_valid_2.f badRg grade_in.f
  by_cases h1 : g.f1 < 1
  · rw [if_pos h1, decide_eq_false (show ¬ 1 ≤ g.f1 by omega)]; rfl
  rw [if_neg h1, decide_eq_true (show 1 ≤ g.f1 by omega)]
  by_cases h2 : g.f1 > 256
  · rw [if_pos h2, decide_eq_false (show ¬ g.f1 ≤ 256 by omega)]; rfl
  rw [if_neg h2, decide_eq_true (show g.f1 ≤ 256 by omega)]
  by_cases h3 : 0 ≤ g.f2
  · rw [if_pos (show g.f2 ≥ 0 from h3), decide_eq_true h3]
    by_cases h4 : g.f2 ≤ 1000000
    · rw [decide_eq_true h4]
      by_cases h5 : 0 ≤ g.f3
      · rw [if_pos (show g.f3 ≥ 0 from h5), decide_eq_true h5]; simp
      · rw [if_neg (show ¬ g.f3 ≥ 0 from h5), decide_eq_false h5]; simp
    · rw [decide_eq_false h4]; simp
  · rw [if_neg (show ¬ g.f2 ≥ 0 from h3), decide_eq_false h3]; simp
theorem valid_f (l : List Gr) : grade_valid.f l = some (validV l) := by
  unfold grade_valid.f validV
  have e1 : contains32.f l (fun x_ => grade_valid_1.f x_.f0 x_.f1 x_.f2 x_.f3) = some (l.any badNm) := anyO_some badNm l
  have e2 : contains32.f l (fun x_ => grade_valid_2.f x_.f0 x_.f1 x_.f2 x_.f3) = some (l.any badRg) := by
    rw [show (fun x_ : Gr => grade_valid_2.f x_.f0 x_.f1 x_.f2 x_.f3) = fun x_ => some (badRg x_) from funext badRg_f]
    exact anyO_some badRg l
  rw [e1, e2]
  cases l.any badNm <;> cases l.any badRg <;> rfl
theorem each_ev (l : List Gr) (hl : l.length ≤ 9223372036854775807) (hg : ∀ t ∈ l, t.f0.size ≤ 9223372036854775807) : Evt (fun k => gangsawref34_each.f k l) (validV l) := by
  unfold gangsawref34_each.f validV
  refine Evt.any_list (F := fun k i => gangsawref34_each.l0 k l i) badNm 4 ?_ ?_ ?_
  · refine Evt.succ (g := fun k => gangsawref34_each.l1 k l 0) ?_ (fun k => by simp only [gangsawref34_each.l0, Int.lt_irrefl, if_false])
    refine Evt.any_list (F := fun k i => gangsawref34_each.l1 k l i) badRg 6 ?_ ?_ ?_
    · exact Evt.succ (g := fun _ => some 0) (Evt.pure _) (fun k => by simp only [gangsawref34_each.l1, Int.lt_irrefl, if_false])
    · intro i hi hb
      refine Evt.succ (g := fun _ => some 6) (Evt.pure _) (fun k => ?_)
      unfold badRg at hb
      simp only [gangsawref34_each.l1, rdG_at l i hi, gangsawref34_in.f]
      rw [if_pos (by omega), if_pos (by omega)]
      by_cases h1 : 1 ≤ l[i].f1
      · rw [if_pos h1]
        by_cases h2 : l[i].f1 ≤ 256
        · rw [decide_eq_true h2]
          by_cases h3 : 0 ≤ l[i].f2
          · rw [if_pos h3]
            by_cases h4 : l[i].f2 ≤ 1000000
            · rw [decide_eq_true h4]
              by_cases h5 : 0 ≤ l[i].f3
              · rw [if_pos h5]
                by_cases h6 : l[i].f3 ≤ 1000000
                · simp [h1, h2, h3, h4, h5, h6] at hb
                · rw [decide_eq_false h6]; simp
              · rw [if_neg h5]; simp
            · rw [decide_eq_false h4]; simp
          · rw [if_neg h3]; simp
        · rw [decide_eq_false h2]; simp
      · rw [if_neg h1]; simp
    · intro i hi hb v hv
      refine Evt.succ hv (fun k => ?_)
      unfold badRg at hb
      simp at hb
      simp only [gangsawref34_each.l1, rdG_at l i hi, gangsawref34_in.f]
      rw [if_pos (by omega), if_pos (by omega), if_pos (by omega), decide_eq_true (show l[i].f1 ≤ 256 by omega), if_pos (show 0 ≤ l[i].f2 by omega), decide_eq_true (show l[i].f2 ≤ 1000000 by omega), if_pos (show 0 ≤ l[i].f3 by omega), decide_eq_true (show l[i].f3 ≤ 1000000 by omega)]
      simp only [Option.bind_some, if_true]
      rw [wrap_up i l.length hi hl]
  · intro i hi hb
    have hb2 : nameB l[i].f0 = false := by unfold badNm at hb; simpa using hb
    refine Evt.succ (g := fun k => (gangsawref09_Name.f k l[i].f0).bind fun t => if t = true then gangsawref34_each.l0 k l (wrap64 ((i : Int) + 1)) else some 4) ?_ (fun k => ?_)
    · refine Evt.bind (name_ev _ (hg _ (List.getElem_mem _))) ?_
      rw [hb2]; exact Evt.pure _
    · simp only [gangsawref34_each.l0, rdG_at l i hi]
      rw [if_pos (by omega), if_pos (by omega)]
  · intro i hi hb v hv
    have hb2 : nameB l[i].f0 = true := by unfold badNm at hb; simpa using hb
    refine Evt.succ (g := fun k => (gangsawref09_Name.f k l[i].f0).bind fun t => if t = true then gangsawref34_each.l0 k l (wrap64 ((i : Int) + 1)) else some 4) ?_ (fun k => ?_)
    · refine Evt.bind (name_ev _ (hg _ (List.getElem_mem _))) ?_
      rw [hb2, wrap_up i l.length hi hl]; exact hv
    · simp only [gangsawref34_each.l0, rdG_at l i hi]
      rw [if_pos (by omega), if_pos (by omega)]
def dupG (l : List Gr) (i : Nat) : Bool := (l.take i).any fun x => x.f0 == (l.getD i zG).f0
def dupVG (l : List Gr) : Bool := (List.range' 0 (l.length - 0)).any (dupG l)
def checkG (l : List Gr) : Int := if 16 < l.length then 7 else if validV l = 0 then (if dupVG l then 5 else 0) else validV l
theorem gcheck_ev (l : List Gr) : Evt (fun k => grade_Check.f k l) (checkG l) := by
  unfold grade_Check.f checkG
  by_cases h : 16 < l.length
  · rw [if_pos h]; exact Evt.const (fun k => by rw [if_pos (by omega)])
  rw [if_neg h]
  by_cases hv : validV l = 0
  · rw [if_pos hv]
    refine Evt.of_eq (g := fun k => grade_Check.l0 k l l (l.length : Int) 0) ?_ (fun k => by rw [if_neg (by omega), valid_f, hv]; rfl)
    unfold dupVG
    have hc : ∀ i (hi : i < l.length), contains32.f (l.take i) (fun x_ => grade_Check_1.f x_.f0 x_.f1 x_.f2 x_.f3 l[i].f0 l[i].f1 l[i].f2 l[i].f3) = some (dupG l i) := by
      intro i hi
      have : (fun x_ : Gr => grade_Check_1.f x_.f0 x_.f1 x_.f2 x_.f3 l[i].f0 l[i].f1 l[i].f2 l[i].f3) = fun x_ => some (x_.f0 == l[i].f0) := by
        funext x
        unfold grade_Check_1.f
        rw [bytes_eq]
        congr 1
        by_cases hh : x.f0.toList = l[i].f0.toList
        · rw [hh]; simp
        · rw [decide_eq_false hh]; simpa using hh
      rw [this]
      unfold dupG
      rw [getD_nat _ _ _ hi]
      exact anyO_some (fun x_ : Gr => x_.f0 == l[i].f0) (l.take i)
    refine Evt.any_up (F := fun k i => grade_Check.l0 k l l (l.length : Int) i) (n := l.length) (dupG l) 5 ?_ ?_ ?_ 0 (by omega)
    · exact Evt.succ (g := fun _ => some 0) (Evt.pure _) (fun k => by simp only [grade_Check.l0, Int.lt_irrefl, if_false])
    · intro i hi hb
      refine Evt.succ (g := fun _ => some 5) (Evt.pure _) (fun k => ?_)
      simp only [grade_Check.l0, rdG_at l i hi, Int.toNat_natCast]
      rw [if_pos (by omega), if_pos (by omega), if_pos (by omega), if_pos (by omega), hc i hi, hb]; rfl
    · intro i hi hb v hv
      refine Evt.succ hv (fun k => ?_)
      simp only [grade_Check.l0, rdG_at l i hi, Int.toNat_natCast]
      rw [if_pos (by omega), if_pos (by omega), if_pos (by omega), if_pos (by omega), hc i hi, hb, wrap_up i l.length hi (by omega)]; rfl
  · rw [if_neg hv]
    exact Evt.const (fun k => by rw [if_neg (by omega), valid_f, Option.bind_some, if_neg hv])
theorem rgcheck_ev (l : List Gr) (hg : ∀ t ∈ l, t.f0.size ≤ 9223372036854775807) : Evt (fun k => gangsawref34_Check.f k l) (checkG l) := by
  unfold gangsawref34_Check.f checkG
  by_cases h : 16 < l.length
  · rw [if_pos h]; exact Evt.const (fun k => by rw [if_pos (by omega)])
  rw [if_neg h]
  refine Evt.of_eq (g := fun k => (gangsawref34_each.f k l).bind fun t => if t = 0 then gangsawref34_Check.l0 k l 0 else some t) ?_ (fun k => by rw [if_neg (by omega)])
  refine Evt.bind (each_ev l (by omega) hg) ?_
  by_cases hv : validV l = 0
  · simp only [if_pos hv]
    have hinner : ∀ i (hi : i < l.length), ∀ v, Evt (fun k => gangsawref34_Check.l0 k l ((i + 1 : Nat) : Int)) v → Evt (fun k => gangsawref34_Check.l1 k l (i : Nat) 0) (if dupG l i then 5 else v) := by
      intro i hi v hv
      have := Evt.any_list (F := fun k n => gangsawref34_Check.l1 k l (i : Nat) n) (l := l.take i) (fun x => x.f0 == l[i].f0) 5 (V := v) ?_ ?_ ?_
      · unfold dupG; rw [getD_nat _ _ _ hi]; exact this
      · have : (l.take i).length = i := by simp; omega
        rw [this]
        refine Evt.succ hv (fun k => ?_)
        simp only [gangsawref34_Check.l1, Int.lt_irrefl, if_false]
        rw [wrap_up i l.length hi (by omega)]
      · intro n hn hb
        have hn' : n < i := by simp at hn; omega
        refine Evt.succ (g := fun _ => some 5) (Evt.pure _) (fun k => ?_)
        have hb2 : l[i].f0.toList = l[n].f0.toList := by
          rw [List.getElem_take, bytes_eq] at hb; exact (of_decide_eq_true hb).symm
        simp only [gangsawref34_Check.l1, rdG_at l i hi, rdG_at l n (by omega)]
        rw [if_pos (by omega), if_pos (by omega), if_pos (by omega), if_pos (by omega), if_pos (by omega), if_pos hb2]
      · intro n hn hb v hv
        have hn' : n < i := by simp at hn; omega
        refine Evt.succ hv (fun k => ?_)
        have hb2 : ¬ l[i].f0.toList = l[n].f0.toList := by
          rw [List.getElem_take, bytes_eq] at hb; intro e; exact of_decide_eq_false hb e.symm
        simp only [gangsawref34_Check.l1, rdG_at l i hi, rdG_at l n (by omega)]
        rw [if_pos (by omega), if_pos (by omega), if_pos (by omega), if_pos (by omega), if_pos (by omega), if_neg hb2, wrap_up n l.length (by omega) (by omega)]
    unfold dupVG
    refine Evt.any_up (F := fun k i => gangsawref34_Check.l0 k l i) (n := l.length) (dupG l) 5 ?_ ?_ ?_ 0 (by omega)
    · exact Evt.succ (g := fun _ => some 0) (Evt.pure _) (fun k => by simp only [gangsawref34_Check.l0, Int.lt_irrefl, if_false])
    · intro i hi hb
      refine Evt.succ (g := fun k => gangsawref34_Check.l1 k l (i : Nat) 0) ?_ (fun k => by simp only [gangsawref34_Check.l0]; rw [if_pos (by omega)])
      have hin := Evt.any_bad (F := fun k n => gangsawref34_Check.l1 k l (i : Nat) n) (l := l.take i) (fun x => x.f0 == l[i].f0) 5 (by unfold dupG at hb; rw [getD_nat _ _ _ hi] at hb; exact hb) ?_ ?_
      · exact hin
      · intro n hn hb
        have hn' : n < i := by simp at hn; omega
        refine Evt.succ (g := fun _ => some 5) (Evt.pure _) (fun k => ?_)
        have hb2 : l[i].f0.toList = l[n].f0.toList := by
          rw [List.getElem_take, bytes_eq] at hb; exact (of_decide_eq_true hb).symm
        simp only [gangsawref34_Check.l1, rdG_at l i hi, rdG_at l n (by omega)]
        rw [if_pos (by omega), if_pos (by omega), if_pos (by omega), if_pos (by omega), if_pos (by omega), if_pos hb2]
      · intro n hn hb v hv
        have hn' : n < i := by simp at hn; omega
        refine Evt.succ hv (fun k => ?_)
        have hb2 : ¬ l[i].f0.toList = l[n].f0.toList := by
          rw [List.getElem_take, bytes_eq] at hb; intro e; exact of_decide_eq_false hb e.symm
        simp only [gangsawref34_Check.l1, rdG_at l i hi, rdG_at l n (by omega)]
        rw [if_pos (by omega), if_pos (by omega), if_pos (by omega), if_pos (by omega), if_pos (by omega), if_neg hb2, wrap_up n l.length (by omega) (by omega)]
    · intro i hi hb v hv
      refine Evt.succ (g := fun k => gangsawref34_Check.l1 k l (i : Nat) 0) ?_ (fun k => by simp only [gangsawref34_Check.l0]; rw [if_pos (by omega)])
      have := hinner i hi v hv
      rw [hb] at this
      exact this
  · simp only [if_neg hv]; exact Evt.pure _
def weakN (l : List T) (s : Int) : Nat := (l.filter fun t => decide (t.f1 < s)).length
def wetN (l : List T) (a : Int) : Nat := (l.filter fun t => decide (t.f2 > a)).length
def metV (g : Gr) (l : List T) : Bool := decide ((l.length : Int) ≥ g.f1) && (decide ((weakN l g.f2 : Int) < g.f1) && decide ((wetN l g.f3 : Int) < g.f1))
theorem filter_take (q : T → Bool) (l : List T) (i : Nat) (hi : i < l.length) : ((l.take (i + 1)).filter q).length = ((l.take i).filter q).length + (if q l[i] = true then 1 else 0) := by
  rw [List.take_succ_eq_append_getElem hi, List.filter_append, List.length_append]
  cases h : q l[i] <;> simp [h]
theorem filter_le (q : T → Bool) (l : List T) (i : Nat) : ((l.take i).filter q).length ≤ l.length := Nat.le_trans (List.length_filter_le _ _) (by simp; omega)
theorem count_ev (l : List T) (hl : l.length ≤ 1000000) (p : T → Option Bool) (q : T → Bool) (hp : ∀ t : T, p t = some (q t)) : Evt (fun k => grade_count.f k l p) ((l.filter q).length : Int) := by
  unfold grade_count.f
  have key : ∀ i, i ≤ l.length → Evt (fun k => grade_count.l0 k p (((l.take i).filter q).length : Int) l (l.length : Int) (i : Nat)) ((l.filter q).length : Int) := by
    refine down ?_ ?_
    · refine Evt.succ (g := fun _ => some _) (Evt.pure _) (fun k => ?_)
      simp only [grade_count.l0, Int.lt_irrefl, if_false, List.take_length]
    · intro i hi ih
      have hle := filter_le q l i
      have ht := filter_take q l i hi
      refine Evt.succ ih (fun k => ?_)
      simp only [grade_count.l0, rdG_at, rdT_at l i hi]
      rw [if_pos (by omega), if_pos (by omega), if_pos (by omega), show p (⟨l[i].f0, l[i].f1, l[i].f2⟩ : T) = some (q l[i]) from hp l[i], Option.bind_some, wrap_up i l.length hi (by omega)]
      cases c : q l[i] with
      | true => rw [c] at ht; rw [if_pos rfl, wrap_mid _ (by omega) (by omega)]; simp only [if_true] at ht; rw [show (((l.take i).filter q).length : Int) + 1 = (((l.take (i + 1)).filter q).length : Int) by omega]
      | false => rw [c] at ht; rw [if_neg (by simp)]; simp only [Bool.false_eq_true, if_false, Nat.add_zero] at ht; rw [ht]
  exact key 0 (by omega)
theorem meets_ev (g : Gr) (l : List T) (hl : l.length ≤ 1000000) : Evt (fun k => grade_meets.f k g.f0 g.f1 g.f2 g.f3 l) (metV g l) := by
  unfold grade_meets.f metV
  by_cases h1 : (l.length : Int) ≥ g.f1
  · rw [decide_eq_true h1]
    refine Evt.of_eq (g := fun k => (grade_count.f k l (fun x_ => grade_meets_1.f x_.f0 x_.f1 x_.f2 g.f0 g.f1 g.f2 g.f3)).bind fun t => if t < g.f1 then ((grade_count.f k l (fun x_ => grade_meets_2.f x_.f0 x_.f1 x_.f2 g.f0 g.f1 g.f2 g.f3)).bind fun t => some (decide (t < g.f1))) else some false) ?_ (fun k => by rw [if_pos h1])
    refine Evt.bind (v := ((weakN l g.f2 : Nat) : Int)) (count_ev l hl _ (fun t => decide (t.f1 < g.f2)) (fun t => rfl)) ?_
    by_cases h2 : (weakN l g.f2 : Int) < g.f1
    · rw [decide_eq_true h2]
      refine Evt.of_eq (g := fun k => (grade_count.f k l (fun x_ => grade_meets_2.f x_.f0 x_.f1 x_.f2 g.f0 g.f1 g.f2 g.f3)).bind fun t => some (decide (t < g.f1))) ?_ (fun k => by rw [if_pos h2])
      refine Evt.bind (v := ((wetN l g.f3 : Nat) : Int)) (count_ev l hl _ (fun t => decide (t.f2 > g.f3)) (fun t => rfl)) ?_
      exact Evt.pure _
    · rw [decide_eq_false h2]
      exact Evt.const (fun k => by rw [if_neg h2]; rfl)
  · rw [decide_eq_false h1]
    exact Evt.const (fun k => by rw [if_neg h1]; rfl)
theorem worse_ev (l : List T) (hl : l.length ≤ 1000000) (s a : Int) : Evt (fun k => gangsawref34_worse.f k l s a) ((weakN l s : Int), (wetN l a : Int)) := by
  unfold gangsawref34_worse.f
  have key : ∀ i, i ≤ l.length → Evt (fun k => gangsawref34_worse.l0 k l s a (weakN (l.take i) s : Int) (wetN (l.take i) a : Int) (i : Nat)) ((weakN l s : Int), (wetN l a : Int)) := by
    refine down ?_ ?_
    · refine Evt.succ (g := fun _ => some _) (Evt.pure _) (fun k => ?_)
      simp only [gangsawref34_worse.l0, Int.lt_irrefl, if_false, List.take_length]
    · intro i hi ih
      have h1 := filter_le (fun t => decide (t.f1 < s)) l i
      have h2 := filter_le (fun t => decide (t.f2 > a)) l i
      have h3 : weakN (l.take (i + 1)) s = weakN (l.take i) s + _ := filter_take (fun t => decide (t.f1 < s)) l i hi
      have h4 : wetN (l.take (i + 1)) a = wetN (l.take i) a + _ := filter_take (fun t => decide (t.f2 > a)) l i hi
      have h5 : weakN (l.take i) s ≤ l.length := h1
      have h6 : wetN (l.take i) a ≤ l.length := h2
      rw [h3, h4] at ih
      refine Evt.succ ih (fun k => ?_)
      simp only [gangsawref34_worse.l0, rdT_at l i hi, decide_eq_true_eq]
      rw [if_pos (by omega), if_pos (by omega), wrap_up i l.length hi (by omega), wrap_mid ((weakN (l.take i) s : Int) + 1) (by omega) (by omega), wrap_mid ((wetN (l.take i) a : Int) + 1) (by omega) (by omega)]
      by_cases c1 : l[i].f1 < s
      · by_cases c2 : l[i].f2 > a
        · rw [if_pos c1, if_pos c2, if_pos c1, if_pos c2]; rfl
        · rw [if_pos c1, if_neg c2, if_pos c1, if_neg c2]; rfl
      · by_cases c2 : l[i].f2 > a
        · rw [if_neg c1, if_pos c2, if_neg c1, if_pos c2]; rfl
        · rw [if_neg c1, if_neg c2, if_neg c1, if_neg c2]; rfl
  exact key 0 (by omega)
theorem rmet_ev (g : Gr) (l : List T) (hl : l.length ≤ 1000000) : Evt (fun k => gangsawref34_Met.f k g.f0 g.f1 g.f2 g.f3 l) (metV g l) := by
  unfold gangsawref34_Met.f metV
  refine Evt.bind (worse_ev l hl _ _) ?_
  refine Evt.const (fun k => ?_)
  by_cases h1 : (l.length : Int) ≥ g.f1
  · by_cases h2 : (weakN l g.f2 : Int) < g.f1
    · rw [if_pos h1, if_pos h2, decide_eq_true h1, decide_eq_true h2]; rfl
    · rw [if_pos h1, if_neg h2, decide_eq_true h1, decide_eq_false h2]; rfl
  · rw [if_neg h1, decide_eq_false h1]; rfl
def bothV (g : Gr) (l : List T) : Int := if validV [g] = 0 then checkV l else validV [g]
def meetsV (g : Gr) (l : List T) : Bool × Int := if bothV g l = 0 then (metV g l, 0) else (false, bothV g l)
theorem both_ev (g : Gr) (l : List T) : Evt (fun k => grade_both.f k g.f0 g.f1 g.f2 g.f3 l) (bothV g l) := by
  unfold grade_both.f bothV
  refine Evt.bind0 (g := grade_valid.f [g]) (valid_f [g]) ?_
  by_cases h : validV [g] = 0
  · simp only [if_pos h]; exact Evt.bind (check_ev l) (Evt.pure _)
  · simp only [if_neg h]; exact Evt.pure _
theorem bothV_len {g : Gr} {l : List T} (h : bothV g l = 0) : checkV l = 0 := by
  unfold bothV at h
  by_cases c : validV [g] = 0
  · rw [if_pos c] at h; exact h
  · rw [if_neg c] at h; exact absurd h c
theorem gmeets_ev (g : Gr) (l : List T) : Evt (fun k => grade_Meets.f k g.f0 g.f1 g.f2 g.f3 l) (meetsV g l) := by
  unfold grade_Meets.f meetsV
  refine Evt.bind (both_ev g l) ?_
  by_cases h : bothV g l = 0
  · simp only [if_pos h]
    have := (checkV_zero (bothV_len h)).1
    exact Evt.bind (meets_ev g l (by omega)) (Evt.pure _)
  · simp only [if_neg h]; exact Evt.pure _
theorem rgmeets_ev (g : Gr) (l : List T) (hg : g.f0.size ≤ 9223372036854775807) (hl : ∀ t ∈ l, t.f0.size ≤ 9223372036854775807) : Evt (fun k => gangsawref34_Meets.f k g.f0 g.f1 g.f2 g.f3 l) (meetsV g l) := by
  unfold gangsawref34_Meets.f meetsV bothV
  refine Evt.bind (g := fun k => gangsawref34_each.f k [g]) (each_ev [g] (by simp) (fun t ht => by rw [List.mem_singleton] at ht; rw [ht]; exact hg)) ?_
  by_cases h : validV [g] = 0
  · simp only [if_pos h]
    refine Evt.bind (rcheck_ev l hl) ?_
    by_cases c : checkV l = 0
    · simp only [if_pos c]
      have := (checkV_zero c).1
      exact Evt.bind (rmet_ev g l (by omega)) (Evt.pure _)
    · simp only [if_neg c]; exact Evt.pure _
  · simp only [if_neg h]; exact Evt.pure _
end Go.Proofs.YtankffbfocaibaaDoor.PGrade
