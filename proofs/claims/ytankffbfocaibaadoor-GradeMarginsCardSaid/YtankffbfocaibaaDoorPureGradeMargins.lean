/-
  GradeMargins: the plain law.
-/
import Derived.Test.YtankffbfocaibaaDoorPMargin
import Derived.Test.YtankffbfocaibaaDoorPx13
import Derived.Test.YtankffbfocaibaaDoorPx16
import Derived.Test.YtankffbfocaibaaDoorPx17
import Derived.Test.YtankffbfocaibaaDoorPx18
set_option linter.unusedVariables false
set_option linter.unusedSimpArgs false
namespace Go.Proofs.YtankffbfocaibaaDoor.PLeast34
open Go.RowKit Go.Proofs.YtankffbfocaibaaDoorW.PrintWords Go.Proofs.YtankffbfocaibaaDoorW.PrintLast Go.Proofs.YtankffbfocaibaaDoor.P Go.Proofs.YtankffbfocaibaaDoor.Rnd Go.Proofs.YtankffbfocaibaaDoor.Open Go.Proofs.YtankffbfocaibaaDoor.Ks Go.Proofs.YtankffbfocaibaaDoor.Sort Go.Proofs.YtankffbfocaibaaDoor.Gen Go.Proofs.YtankffbfocaibaaDoor.PTest Go.Proofs.YtankffbfocaibaaDoor.PGrade Go.Proofs.YtankffbfocaibaaDoor.PMargin
def upTo (x : List Int) (i : Nat) : Prop := ∀ p q (hp : p < q) (hq : q < i) (h : q < x.length), x[p]'(by omega) ≤ x[q]
def upBut (x : List Int) (i j : Nat) : Prop := (∀ p q (hp : p < q) (hq : q ≤ i) (h : q < x.length), p ≠ j → q ≠ j → x[p]'(by omega) ≤ x[q]) ∧ ∀ q (hq : j < q) (hi : q ≤ i) (h : q < x.length), x[j]'(by omega) < x[q]
theorem upBut_stop {x : List Int} {i j : Nat} (hi : i < x.length) (hj : j ≤ i) (h : upBut x i j) (hs : ∀ h0 : 0 < j, x[j - 1]'(by omega) ≤ x[j]'(by omega)) : upTo x (i + 1) := by
  intro p q hp hq hx
  by_cases c1 : q = j
  · subst c1
    have h1 := hs (by omega)
    by_cases c2 : p = q - 1
    · subst c2; exact h1
    · exact Int.le_trans (h.1 p (q - 1) (by omega) (by omega) (by omega) (by omega) (by omega)) h1
  · by_cases c2 : p = j
    · subst c2; exact Int.le_of_lt (h.2 q hp (by omega) hx)
    · exact h.1 p q hp (by omega) hx c2 c1
def swapL (x : List Int) (j : Nat) (a b : Int) : List Int := (x.set j a).set (j - 1) b
theorem swapL_len (x : List Int) (j : Nat) (a b : Int) : (swapL x j a b).length = x.length := by unfold swapL; simp
theorem swapL_get (x : List Int) (j : Nat) (hj : 0 < j) (a b : Int) (p : Nat) (hp : p < x.length) : (swapL x j a b)[p]'(by rw [swapL_len]; exact hp) = if p = j - 1 then b else if p = j then a else x[p] := by
  simp only [swapL, List.getElem_set]
  repeat' split
  all_goals first | rfl | omega
theorem upBut_swap {x : List Int} {i j : Nat} (hi : i < x.length) (hj : j ≤ i) (h0 : 0 < j) (h : upBut x i j) (hs : x[j]'(by omega) < x[j - 1]'(by omega)) : upBut (swapL x j (x[j - 1]'(by omega)) (x[j]'(by omega))) i (j - 1) := by
  constructor
  · intro p q hp hq hx hpj hqj
    have hx' : q < x.length := by rw [swapL_len] at hx; exact hx
    rw [swapL_get x j h0 _ _ p (by omega), swapL_get x j h0 _ _ q hx', if_neg hpj, if_neg hqj]
    by_cases c1 : p = j
    · subst c1
      rw [if_pos rfl, if_neg (by omega)]
      exact h.1 (p - 1) q (by omega) hq hx' (by omega) (by omega)
    · rw [if_neg c1]
      by_cases c2 : q = j
      · rw [if_pos c2]
        exact h.1 p (j - 1) (by omega) (by omega) (by omega) c1 (by omega)
      · rw [if_neg c2]
        exact h.1 p q hp hq hx' c1 c2
  · intro q hq hqi hx
    have hx' : q < x.length := by rw [swapL_len] at hx; exact hx
    rw [swapL_get x j h0 _ _ (j - 1) (by omega), swapL_get x j h0 _ _ q hx', if_pos rfl, if_neg (by omega)]
    by_cases c2 : q = j
    · rw [if_pos c2]; exact hs
    · rw [if_neg c2]; exact h.2 q (by omega) hqi hx'
theorem swap_perm (x : List Int) (j : Nat) (hj : j < x.length) (h0 : 0 < j) : (swapL x j (x[j - 1]'(by omega)) x[j]).Perm x := List.set_set_perm hj (by omega)
theorem least_loops (l0 : List Int) (n : Int) (hl : l0.length ≤ 1000000) (h1 : 1 ≤ n) (h2 : n ≤ (l0.length : Int)) : ∀ i, i ≤ l0.length → ∀ x : List Int, x.Perm l0 → upTo x i → Evt (fun k => gangsawref34_least.l0 k n x (i : Nat)) (rd (sortInt l0) (n - 1)) := by
  refine down ?_ ?_
  · intro x hp hu
    have e : x = sortInt l0 := by
      refine List.Perm.eq_of_pairwise (fun a b _ _ h1 h2 => Int.le_antisymm h1 h2) ?_ (sortInt_le l0) (hp.trans (sortInt_perm l0).symm)
      rw [List.pairwise_iff_getElem]
      intro p q h3 h4 h5
      have := hp.length_eq
      exact hu p q h5 (by omega) h4
    have hlen := hp.length_eq
    subst e
    refine Evt.succ (g := fun _ => some (rd (sortInt l0) (n - 1))) (Evt.pure _) (fun k => ?_)
    simp only [gangsawref34_least.l0]
    rw [if_neg (by omega), wrap_mid (n - 1) (by omega) (by omega), if_pos (by omega), if_pos (by omega)]
  · intro i hi ih x hp hu
    have hlen := hp.length_eq
    have inner : ∀ d j, j = d → j ≤ i → ∀ x : List Int, x.Perm l0 → upBut x i j → Evt (fun k => gangsawref34_least.l1 k n x (i : Nat) (j : Nat)) (rd (sortInt l0) (n - 1)) := by
      intro d
      induction d with
      | zero =>
        intro j e hj x hp hu
        subst e
        have hlen := hp.length_eq
        refine Evt.succ (ih x hp (upBut_stop (by omega) hj hu (fun h => absurd h (by omega)))) (fun k => ?_)
        simp only [gangsawref34_least.l1]
        rw [if_neg (by omega), wrap_up i l0.length hi (by omega)]
      | succ d IH =>
        intro j e hj x hp hu
        subst e
        have hlen := hp.length_eq
        by_cases c : x[d + 1]'(by omega) < x[d]'(by omega)
        · refine Evt.succ (IH d rfl (by omega) (swapL x (d + 1) (x[d + 1 - 1]'(by omega)) (x[d + 1]'(by omega))) ((swap_perm x (d + 1) (by omega) (by omega)).trans hp) (upBut_swap (by omega) hj (by omega) hu c)) (fun k => ?_)
          simp only [gangsawref34_least.l1]
          rw [if_pos (by omega), if_pos (by omega), if_pos (by omega), show wrap64 (((d + 1 : Nat) : Int) - 1) = (d : Int) from wrap_down d (by omega), if_pos (by omega), if_pos (by omega), rdI_at x (d + 1) (by omega), rdI_at x d (by omega), if_pos c]
          rfl
        · refine Evt.succ (ih x hp (upBut_stop (by omega) hj hu (fun h => Int.not_lt.1 c))) (fun k => ?_)
          simp only [gangsawref34_least.l1]
          rw [if_pos (by omega), if_pos (by omega), if_pos (by omega), show wrap64 (((d + 1 : Nat) : Int) - 1) = (d : Int) from wrap_down d (by omega), if_pos (by omega), if_pos (by omega), rdI_at x (d + 1) (by omega), rdI_at x d (by omega), if_neg c, wrap_up i l0.length hi (by omega)]
    refine Evt.succ (inner i i rfl (Nat.le_refl _) x hp ⟨fun p q h3 h4 h5 h6 h7 => hu p q h3 (by omega) h5, fun q h3 h4 h5 => absurd h3 (by omega)⟩) (fun k => ?_)
    simp only [gangsawref34_least.l0]
    rw [if_pos (by omega)]
theorem least_ev (l0 : List Int) (n : Int) (hl : l0.length ≤ 1000000) (h1 : 1 ≤ n) (h2 : n ≤ (l0.length : Int)) : Evt (fun k => gangsawref34_least.f k l0 n) (rd (sortInt l0) (n - 1)) := by
  unfold gangsawref34_least.f
  refine Evt.bind0 (g := some ([] : List Int)) rfl ?_
  refine Evt.of_eq (g := fun k => gangsawref34_least.l0 k n l0 0) ?_ (fun k => by rw [if_pos (by simp; omega), List.nil_append])
  exact least_loops l0 n hl h1 h2 0 (by omega) l0 (List.Perm.refl _) (fun p q _ h _ => absurd h (by omega))
/-- the least of the negatives -/
theorem sort_neg (l : List Int) : sortInt (l.map (fun x => -x)) = (sortInt l).reverse.map (fun x => -x) := by
  refine List.Perm.eq_of_pairwise (fun a b _ _ h1 h2 => Int.le_antisymm h1 h2) (sortInt_le _) ?_ ((sortInt_perm _).trans (((sortInt_perm l).symm.trans (List.reverse_perm _).symm).map _))
  rw [List.pairwise_map, List.pairwise_reverse]
  exact (sortInt_le l).imp (fun h => by omega)
theorem rd_neg (l : List Int) (n : Int) (h1 : 1 ≤ n) (h2 : n ≤ (l.length : Int)) : rd (sortInt (l.map (fun x => -x))) (n - 1) = -(rd (sortInt l) ((l.length : Int) - n)) := by
  have hlen : (sortInt l).length = l.length := sortInt_len l
  rw [sort_neg]
  obtain ⟨i, rfl⟩ : ∃ i : Nat, n = ((i + 1 : Nat) : Int) := ⟨(n - 1).toNat, by omega⟩
  rw [show ((i + 1 : Nat) : Int) - 1 = (i : Nat) by omega, rdI_at _ i (by simp; omega), show (l.length : Int) - ((i + 1 : Nat) : Int) = ((l.length - 1 - i : Nat) : Int) by omega, rdI_at _ _ (by omega), List.getElem_map, List.getElem_reverse]
  simp only [hlen]
theorem rmargin_ev (g : Gr) (l : List T) (hg : g.f0.size ≤ 9223372036854775807) (hl : ∀ t ∈ l, t.f0.size ≤ 9223372036854775807) : Evt (fun k => gangsawref34_Margin.f k g.f0 g.f1 g.f2 g.f3 l) (marginV g l) := by
  unfold gangsawref34_Margin.f marginV
  refine Evt.bind (rgmeets_ev g l hg hl) ?_
  unfold meetsV
  by_cases h : bothV g l = 0
  · simp only [if_pos h, if_true]
    have hc := bothV_len h
    have hr := bothV_rank h
    have hlen := (checkV_zero hc).1
    by_cases hn : (l.length : Int) < g.f1
    · simp only [if_pos hn]; exact Evt.pure _
    · simp only [if_neg hn]
      have hlr := low_range h hn
      have key : ∀ i, i ≤ l.length → Evt (fun k => gangsawref34_Margin.l0 k l ((l.take i).map (·.f1)) ((l.take i).map (fun t => -t.f2)) (i : Nat) g.f0 g.f1 g.f2 g.f3) (lowS g l - g.f2, g.f3 - highA g l, 0) := by
        refine down ?_ ?_
        · refine Evt.succ (g := fun k => (gangsawref34_least.f k (l.map (·.f1)) g.f1).bind fun a => (gangsawref34_least.f k (l.map (fun t => -t.f2)) g.f1).bind fun b => some (wrap64 (a - g.f2), wrap64 (g.f3 + b), 0)) ?_ (fun k => by simp only [gangsawref34_Margin.l0, Int.lt_irrefl, if_false, List.take_length])
          refine Evt.bind (least_ev (l.map (·.f1)) g.f1 (by simp; omega) (by omega) (by simp; omega)) ?_
          refine Evt.bind (least_ev (l.map (fun t => -t.f2)) g.f1 (by simp; omega) (by omega) (by simp; omega)) ?_
          refine Evt.const (fun k => ?_)
          have e2 : rd (sortInt (l.map (fun t => -t.f2))) (g.f1 - 1) = -highA g l := by
            have := rd_neg (l.map (·.f2)) g.f1 (by omega) (by simp; omega)
            rw [List.map_map, List.length_map] at this
            exact this
          rw [e2, show rd (sortInt (l.map (·.f1))) (g.f1 - 1) = lowS g l from rfl, wrap_mid _ (by omega) (by omega), wrap_mid _ (by omega) (by omega)]
          rw [show g.f3 + -highA g l = g.f3 - highA g l by omega]
        · intro i hi ih
          have hrg := checkV_range hc l[i] (List.getElem_mem _)
          refine Evt.succ ih (fun k => ?_)
          simp only [gangsawref34_Margin.l0, rdT_at l i hi]
          rw [if_pos (by omega), if_pos (by omega), if_pos (by simp; omega), if_pos (by simp; omega), wrap_up i l.length hi (by omega), wrap_mid (-l[i].f2) (by omega) (by omega), List.take_succ_eq_append_getElem hi, List.map_append, List.map_append]
          rfl
      exact key 0 (by omega)
  · simp only [if_neg h]; exact Evt.pure _
theorem fails_ev (g : Gr) (l : List T) (hg : g.f0.size ≤ 9223372036854775807) (hl : ∀ t ∈ l, t.f0.size ≤ 9223372036854775807) : ∃ v : List Int × Int, v.1.length ≤ 1000000 ∧ Evt (fun k => grade_Fails.f k g.f0 g.f1 g.f2 g.f3 l) v ∧ Evt (fun k => gangsawref34_Fails.f k g.f0 g.f1 g.f2 g.f3 l) v := by
  by_cases h : bothV g l = 0
  · have hlen := (checkV_zero (bothV_len h)).1
    have key : ∀ i, i ≤ l.length → ∀ o : List Int, o.length ≤ i → ∃ v : List Int × Int, v.1.length ≤ 1000000 ∧ Evt (fun k => grade_Fails.l0 k o l (l.length : Int) (i : Nat) g.f0 g.f1 g.f2 g.f3) v ∧ Evt (fun k => gangsawref34_Fails.l0 k l o (i : Nat) g.f0 g.f1 g.f2 g.f3) v := by
      refine down ?_ ?_
      · intro o ho
        exact ⟨(o, 0), by simp; omega, Evt.succ (g := fun _ => some _) (Evt.pure _) (fun k => by simp only [grade_Fails.l0, Int.lt_irrefl, if_false]), Evt.succ (g := fun _ => some _) (Evt.pure _) (fun k => by simp only [gangsawref34_Fails.l0, Int.lt_irrefl, if_false])⟩
      · intro i hi ih o ho
        by_cases c1 : l[i].f1 < g.f2
        · obtain ⟨v, h0, h1, h2⟩ := ih (o ++ [(i : Int)]) (by simp; omega)
          refine ⟨v, h0, Evt.succ h1 (fun k => ?_), Evt.succ h2 (fun k => ?_)⟩
          · simp only [grade_Fails.l0, rdT_at l i hi, grade_weak.f, Option.bind_some]
            rw [if_pos (by omega), if_pos (by omega), if_pos (by omega), if_pos (decide_eq_true c1), if_pos (by omega), wrap_up i l.length hi (by omega)]
          · simp only [gangsawref34_Fails.l0, rdT_at l i hi]
            rw [if_pos (by omega), if_pos (by omega), if_pos c1, if_pos (by omega), wrap_up i l.length hi (by omega)]
        · by_cases c2 : l[i].f2 > g.f3
          · obtain ⟨v, h0, h1, h2⟩ := ih (o ++ [(i : Int)]) (by simp; omega)
            refine ⟨v, h0, Evt.succ h1 (fun k => ?_), Evt.succ h2 (fun k => ?_)⟩
            · simp only [grade_Fails.l0, rdT_at l i hi, grade_weak.f, grade_wet.f, Option.bind_some]
              rw [if_pos (by omega), if_pos (by omega), if_pos (by omega), if_neg (by simp; omega), if_pos (decide_eq_true c2), if_pos (by omega), wrap_up i l.length hi (by omega)]
            · simp only [gangsawref34_Fails.l0, rdT_at l i hi]
              rw [if_pos (by omega), if_pos (by omega), if_neg c1, if_pos c2, if_pos (by omega), wrap_up i l.length hi (by omega)]
          · obtain ⟨v, h0, h1, h2⟩ := ih o (by omega)
            refine ⟨v, h0, Evt.succ h1 (fun k => ?_), Evt.succ h2 (fun k => ?_)⟩
            · simp only [grade_Fails.l0, rdT_at l i hi, grade_weak.f, grade_wet.f, Option.bind_some]
              rw [if_pos (by omega), if_pos (by omega), if_pos (by omega), if_neg (by simp; omega), if_neg (by simp; omega), wrap_up i l.length hi (by omega)]
            · simp only [gangsawref34_Fails.l0, rdT_at l i hi]
              rw [if_pos (by omega), if_pos (by omega), if_neg c1, if_neg c2, wrap_up i l.length hi (by omega)]
    obtain ⟨v, h0, h1, h2⟩ := key 0 (by omega) [] (by simp)
    refine ⟨v, h0, ?_, ?_⟩
    · unfold grade_Fails.f
      refine Evt.bind (both_ev g l) ?_
      simp only [if_pos h]; exact h1
    · unfold gangsawref34_Fails.f
      refine Evt.bind (rgmeets_ev g l hg hl) ?_
      unfold meetsV
      simp only [if_pos h, if_true]; exact h2
  · refine ⟨([], bothV g l), by simp, ?_, ?_⟩
    · unfold grade_Fails.f
      refine Evt.bind (both_ev g l) ?_
      simp only [if_neg h]; exact Evt.pure _
    · unfold gangsawref34_Fails.f
      refine Evt.bind (rgmeets_ev g l hg hl) ?_
      unfold meetsV
      simp only [if_neg h]; exact Evt.pure _
end Go.Proofs.YtankffbfocaibaaDoor.PLeast34
namespace Go.Proofs.YtankffbfocaibaaDoor.Pure
open Go.RowKit Go.Proofs.YtankffbfocaibaaDoorW.PrintWords Go.Proofs.YtankffbfocaibaaDoorW.PrintLast Go.Proofs.YtankffbfocaibaaDoor.Awk Go.Proofs.YtankffbfocaibaaDoor.P Go.Proofs.YtankffbfocaibaaDoor.Rnd Go.Proofs.YtankffbfocaibaaDoor.Open Go.Proofs.YtankffbfocaibaaDoor.Ks Go.Proofs.YtankffbfocaibaaDoor.Gen Go.Proofs.YtankffbfocaibaaDoor.PTest Go.Proofs.YtankffbfocaibaaDoor.PGrade Go.Proofs.YtankffbfocaibaaDoor.PMargin Go.Proofs.YtankffbfocaibaaDoor.PLeast34
theorem GradeMargins : ∀ (x0 : S32) (x1 : List (S46)), G32 x0 → (GList G46) x1 → ∃ k, gangsawlaw34_GradeMargins.f k x0.f0 x0.f1 x0.f2 x0.f3 x1 = some true := by
  intro g x hg hx
  have hxs : ∀ t ∈ x, t.f0.size ≤ 9223372036854775807 := fun t ht => (hx.2 t ht).1
  refine Evt.exists_ (f := fun k => gangsawlaw34_GradeMargins.f k g.f0 g.f1 g.f2 g.f3 x) ?_
  have hloop : ∀ a : List Int, a.length ≤ 1000000 → ∀ i, i ≤ a.length → Evt (fun k => gangsawlaw34_GradeMargins.l0 k a a (i : Nat)) true := by
    intro a ha
    refine down ?_ ?_
    · exact Evt.succ (g := fun _ => some _) (Evt.pure _) (fun k => by simp only [gangsawlaw34_GradeMargins.l0, Int.lt_irrefl, if_false])
    · intro i hi ih
      refine Evt.succ ih (fun k => ?_)
      simp only [gangsawlaw34_GradeMargins.l0]
      rw [if_pos (by omega), if_pos (by omega), if_pos (by omega), if_pos trivial, wrap_up i a.length hi (by omega)]
  have hj : ∀ b, Evt (fun k => gangsawlaw34_GradeMargins.j0 k x b g.f0 g.f1 g.f2 g.f3) true := by
    intro b
    cases b with
    | true => exact Evt.succ (g := fun _ => some true) (Evt.pure _) (fun k => by simp only [gangsawlaw34_GradeMargins.j0, if_true])
    | false =>
      obtain ⟨v, h0, e1, e2⟩ := fails_ev g x hg.1 hxs
      refine Evt.succ (g := fun k => (grade_Fails.f k g.f0 g.f1 g.f2 g.f3 x).bind fun a => (gangsawref34_Fails.f k g.f0 g.f1 g.f2 g.f3 x).bind fun b => (grade_Margin.f k g.f0 g.f1 g.f2 g.f3 x).bind fun c => (gangsawref34_Margin.f k g.f0 g.f1 g.f2 g.f3 x).bind fun d => if a.2 = b.2 then (if c.2.2 = d.2.2 then (if c.1 = d.1 then (if c.2.1 = d.2.1 then gangsawlaw34_GradeMargins.j1 k a.1 b.1 ((a.1.length : Int) != (b.1.length : Int)) else gangsawlaw34_GradeMargins.j1 k a.1 b.1 true) else gangsawlaw34_GradeMargins.j1 k a.1 b.1 true) else gangsawlaw34_GradeMargins.j1 k a.1 b.1 true) else gangsawlaw34_GradeMargins.j1 k a.1 b.1 true) ?_ (fun k => by simp only [gangsawlaw34_GradeMargins.j0, Bool.false_eq_true, if_false])
      refine Evt.bind e1 (Evt.bind e2 (Evt.bind (margin_ev g x) (Evt.bind (rmargin_ev g x hg.1 hxs) ?_)))
      simp only [if_true, bne_self_eq_false]
      exact Evt.succ (g := fun k => gangsawlaw34_GradeMargins.l0 k v.1 v.1 0) (hloop v.1 h0 0 (by omega)) (fun k => by simp only [gangsawlaw34_GradeMargins.j1, Bool.false_eq_true, if_false])
  unfold gangsawlaw34_GradeMargins.f
  refine Evt.bind0 (g := gangsawlaw34_awake.f) rfl ?_
  simp only [if_true]
  by_cases c2 : (x.length : Int) > 40
  · simp only [if_pos c2]
    by_cases c3 : (x.length : Int) ≤ 256
    · simp only [if_pos c3]; exact hj _
    · simp only [if_neg c3]; exact hj _
  · simp only [if_neg c2]; exact hj _
end Go.Proofs.YtankffbfocaibaaDoor.Pure
