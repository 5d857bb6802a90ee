/-
 What two borings say together, in plain terms.
-/
import Derived.Test.YtfedmcehkpfciaaGreatPureBoringMerges
set_option linter.unusedVariables false
set_option linter.unusedSimpArgs false
namespace Go.Proofs.YtfedmcehkpfciaaGreat.PTogether
open Go.RowKit Go.Proofs.YtfedmcehkpfciaaGreatW.PrintWords Go.Proofs.YtfedmcehkpfciaaGreatW.PrintLast Go.Proofs.YtfedmcehkpfciaaGreat.P Go.Proofs.YtfedmcehkpfciaaGreat.Rnd Go.Proofs.YtfedmcehkpfciaaGreat.Lex Go.Proofs.YtfedmcehkpfciaaGreat.PName Go.Proofs.YtfedmcehkpfciaaGreat.PBoring Go.Proofs.YtfedmcehkpfciaaGreat.Sort Go.Proofs.YtfedmcehkpfciaaGreat.PMerge Go.Proofs.YtfedmcehkpfciaaGreat.Pure
def Inc (l : List Lg) : Prop := l.Pairwise (fun x y => x.f1 ≤ y.f0) ∧ ∀ x ∈ l, x.f0 < x.f1
theorem stV_app (z : Int) : ∀ (A B : List Lg), (∀ x ∈ A, x.f1 ≤ z) → stV z (A ++ B) = stV z B
 | [], _, _ => rfl
 | x :: A, B, h => by
  have h1 : ¬ z < x.f1 := by have := h x (by simp); omega
  have ih := stV_app z A B (fun y hy => h y (by simp [hy]))
  rw [List.cons_append, stV, if_neg h1, ih]; simp
theorem stV_end (z : Int) (A : List Lg) (h : ∀ x ∈ A, x.f1 ≤ z) : stV z A = 0 := by
 have := stV_app z A [] h
 rw [List.append_nil] at this
 rw [this]; rfl
theorem stV_start (z : Int) : ∀ (A : List Lg), (∀ x ∈ A, z < x.f0) → stV z A = 0
 | [], _ => rfl
 | x :: A, h => by
  have h1 : ¬ x.f0 ≤ z := by have := h x (by simp); omega
  rw [stV, if_neg h1, stV_start z A (fun y hy => h y (by simp [hy]))]
theorem stV_ahead (z : Int) : ∀ (A B : List Lg), (∀ x ∈ B, z < x.f0) → stV z (A ++ B) = stV z A
 | [], B, h => by rw [List.nil_append, stV_start z B h]; rfl
 | x :: A, B, h => by
  have ih := stV_ahead z A B h
  rw [List.cons_append, stV, stV, ih]
theorem stV_cong (z : Int) : ∀ (A B C : List Lg), stV z B = stV z C → stV z (A ++ B) = stV z (A ++ C)
 | [], _, _, h => h
 | x :: A, B, C, h => by
  have ih := stV_cong z A B C h
  rw [List.cons_append, List.cons_append, stV, stV, ih]
theorem rdl_last (I : List Lg) (y : Lg) : rdl (I ++ [y]) ((I ++ [y]).length - 1) = y := by
 unfold rdl
 rw [List.length_append, List.getD_eq_getElem?_getD]
 simp
theorem js_last (I : List Lg) (y x : Lg) : js (I ++ [y]) x = if y.f1 = x.f0 ∧ y.f2 = x.f2 then I ++ [⟨y.f0, x.f1, y.f2⟩] else I ++ [y, x] := by
 have hp : 0 < (I ++ [y]).length := by simp
 unfold js
 rw [if_pos hp, rdl_last]
 have hs : ∀ v : Lg, (I ++ [y]).set ((I ++ [y]).length - 1) v = I ++ [v] := fun v => by
  rw [List.set_append_right _ _ (by simp)]; simp
 have ha : I ++ [y] ++ [x] = I ++ [y, x] := by simp
 by_cases h1 : y.f1 = x.f0
 ·rw [if_pos h1]
  by_cases h2 : y.f2 = x.f2
  ·rw [if_pos h2, if_pos ⟨h1, h2⟩, hs]
  ·rw [if_neg h2, if_neg (fun h => h2 h.2), ha]
 ·rw [if_neg h1, if_neg (fun h => h1 h.1), ha]
theorem js_nil (x : Lg) : js [] x = [x] := rfl
theorem last_cases (acc : List Lg) : acc = [] ∨ ∃ I y, acc = I ++ [y] := by
 rcases List.eq_nil_or_concat acc with h | ⟨I, y, h⟩
 ·exact .inl h
 ·exact .inr ⟨I, y, by simpa using h⟩
theorem js_inc (acc : List Lg) (x : Lg) (r : List Lg) (h : Inc (acc ++ x :: r)) : Inc (js acc x ++ r) := by
 rcases last_cases acc with rfl | ⟨I, y, rfl⟩
 ·rw [js_nil]; exact h
 ·rw [js_last]
  by_cases hc : y.f1 = x.f0 ∧ y.f2 = x.f2
  ·rw [if_pos hc]
   obtain ⟨h1, h2⟩ := h
   have hx := h2 x (by simp)
   have hy := h2 y (by simp)
   simp only [List.append_assoc, List.cons_append, List.nil_append, List.pairwise_append, List.pairwise_cons, List.mem_cons, List.mem_append] at h1 h2 ⊢
   refine ⟨?_, ?_⟩
   ·simp only [List.append_assoc, List.cons_append, List.nil_append, List.pairwise_append, List.pairwise_cons, List.mem_cons, List.mem_append]
    refine ⟨h1.1, ⟨fun b hb => h1.2.1.2.1 b hb, h1.2.1.2.2⟩, fun u hu v hv => ?_⟩
    rcases hv with rfl | hv
    ·exact h1.2.2 u hu y (.inl rfl)
    ·exact h1.2.2 u hu v (.inr (.inr hv))
   ·intro u hu
    simp only [List.append_assoc, List.cons_append, List.nil_append, List.mem_append, List.mem_cons] at hu
    rcases hu with hu | rfl | hu
    ·exact h2 u (.inl hu)
    ·show y.f0 < x.f1
     omega
    ·exact h2 u (.inr (.inr (.inr hu)))
  ·rw [if_neg hc]; simpa using h
theorem js_st (z : Int) (acc : List Lg) (x : Lg) (r : List Lg) (h : Inc (acc ++ x :: r)) : stV z (js acc x ++ r) = stV z (acc ++ x :: r) := by
 rcases last_cases acc with rfl | ⟨I, y, rfl⟩
 ·rw [js_nil]; rfl
 ·rw [js_last]
  by_cases hc : y.f1 = x.f0 ∧ y.f2 = x.f2
  ·rw [if_pos hc]
   have hx := h.2 x (by simp)
   have hy := h.2 y (by simp)
   rw [List.append_assoc, List.append_assoc]
   refine stV_cong z I _ _ ?_
   simp only [List.cons_append, List.nil_append, stV]
   by_cases a1 : y.f0 ≤ z
   ·rw [if_pos a1, if_pos a1]
    by_cases a2 : z < x.f1
    ·rw [if_pos a2]
     by_cases a3 : z < y.f1
     ·rw [if_pos a3]
     ·rw [if_neg a3, if_pos (by omega), if_pos a2, hc.2]
    ·rw [if_neg a2, if_neg (by omega), if_pos (by omega), if_neg a2]
   ·rw [if_neg a1, if_neg a1, if_neg (by omega)]
  ·rw [if_neg hc]
   have : I ++ [y, x] ++ r = I ++ [y] ++ x :: r := by simp
   rw [this]
theorem join_st (z : Int) : ∀ (r acc : List Lg), Inc (acc ++ r) → stV z (r.foldl js acc) = stV z (acc ++ r)
 | [], acc, _ => by rw [List.append_nil]; rfl
 | x :: r, acc, h => by
  rw [List.foldl_cons, join_st z r (js acc x) (js_inc acc x r h), js_st z acc x r h]
theorem joinV_st (z : Int) (l : List Lg) (h : Inc l) : stV z (joinV l) = stV z l := join_st z l [] h
theorem inc_pair (l : List Lg) (h : incV l = true) : ∀ i, i + 1 < l.length → (rdl l i).f1 ≤ (rdl l (i + 1)).f0 := by
 intro i hi
 unfold incV at h
 rw [Bool.not_eq_true', List.any_eq_false] at h
 have := h (i + 1) (by rw [List.mem_range'_1]; omega)
 unfold incB at this
 rw [decide_eq_true_eq] at this
 simp only [Nat.add_sub_cancel] at this
 omega
theorem inc_cons (x : Lg) (r : List Lg) (h : incV (x :: r) = true) : incV r = true ∧ ∀ y r', r = y :: r' → x.f1 ≤ y.f0 := by
 refine ⟨?_, ?_⟩
 ·unfold incV
  rw [Bool.not_eq_true', List.any_eq_false]
  intro i hi
  rw [List.mem_range'_1] at hi
  unfold incB
  rw [decide_eq_true_eq]
  have := inc_pair (x :: r) h i (by simp; omega)
  have e1 : rdl (x :: r) (i + 1) = rdl r i := by simp [rdl]
  have e0 : rdl (x :: r) i = rdl r (i - 1) := by
   obtain ⟨j, rfl⟩ : ∃ j, i = j + 1 := ⟨i - 1, by omega⟩
   simp [rdl]
  rw [e1, e0] at this
  omega
 ·intro y r' e
  subst e
  exact inc_pair (x :: y :: r') h 0 (by simp)
theorem inc_of_formed : ∀ l : List Lg, incV l = true → l.any bad1 = false → Inc l
 | [], _, _ => ⟨List.Pairwise.nil, fun x hx => by cases hx⟩
 | x :: r, h, hb => by
  rw [List.any_cons, Bool.or_eq_false_iff] at hb
  obtain ⟨h1, h2⟩ := inc_cons x r h
  obtain ⟨i1, i2⟩ := inc_of_formed r h1 hb.2
  have hx : x.f0 < x.f1 := by
   have := hb.1
   unfold bad1 at this
   rw [Bool.or_eq_false_iff, decide_eq_false_iff_not] at this
   omega
  refine ⟨List.pairwise_cons.2 ⟨?_, i1⟩, fun u hu => ?_⟩
  ·intro u hu
   cases r with
   | nil => cases hu
   | cons y r' =>
    have hy := h2 y r' rfl
    rcases List.mem_cons.1 hu with rfl | hu
    ·exact hy
    ·have := (List.pairwise_cons.1 i1).1 u hu
     have := i2 y (by simp)
     omega
  ·rcases List.mem_cons.1 hu with rfl | hu
   ·exact hx
   ·exact i2 u hu
theorem formed_inc {n0 : ByteArray} {a b : Int} {l : List Lg} (h : formedV n0 a b l = 0) : Inc l ∧ l.any bad1 = false := by
 have ha := (formed_any h).1
 refine ⟨inc_of_formed l ?_ ha, ha⟩
 unfold formedV at h
 by_cases h1 : nameB n0 = false
 ·rw [if_pos h1] at h; omega
 rw [if_neg h1] at h
 by_cases h2 : 64 < l.length
 ·rw [if_pos h2] at h; omega
 rw [if_neg h2, if_neg (by rw [ha]; decide)] at h
 by_cases h4 : okP a b ∧ l.any out6 = false
 ·rw [if_pos h4] at h
  by_cases h5 : incV l = true
  ·exact h5
  ·rw [if_neg h5] at h; omega
 ·rw [if_neg h4] at h; omega
theorem cf_comm (s t : Int) : cf s t = cf t s := by
 unfold cf
 by_cases hs : s = 0
 ·by_cases ht : t = 0
  ·rw [if_pos hs, if_pos ht]
  ·rw [if_pos hs, if_neg ht, if_pos hs]
 ·by_cases ht : t = 0
  ·rw [if_neg hs, if_pos ht, if_pos ht]
  ·rw [if_neg hs, if_neg ht, if_neg ht, if_neg hs]
   by_cases e : s = t
   ·rw [e]
   ·have e' : ¬ t = s := fun h => e h.symm
    rw [bne_iff_ne.mpr e, bne_iff_ne.mpr e']
theorem mx_comm (s t : Int) : mx s t = mx t s := by
 unfold mx
 by_cases h : s < t
 ·rw [if_pos h, if_neg (by omega)]
 ·rw [if_neg h]
  by_cases h' : t < s
  ·rw [if_pos h']
  ·rw [if_neg h']; omega
theorem mgP_nil (S T : Int → Int) (acc : List Lg) : mgP S T [] acc = some acc := rfl
theorem mgP_one (S T : Int → Int) (x : Int) (acc : List Lg) : mgP S T [x] acc = some acc := rfl
theorem mgR_one (S T : Int → Int) (x : Int) (acc : List Lg) : mgR S T [x] acc = some acc := rfl
theorem mgP_comm (S T : Int → Int) : ∀ (U : List Int) (acc : List Lg), mgP S T U acc = mgP T S U acc
 | [], _ => rfl
 | [_], _ => rfl
 | x :: y :: r, acc => by
  rw [mgP, mgP, cf_comm, mx_comm, mgP_comm S T (y :: r)]
theorem flats_mem (l : List Lg) (w : Int) : w ∈ flats l ↔ ∃ x ∈ l, w = x.f0 ∨ w = x.f1 := by
 unfold flats fl
 simp [List.mem_flatMap]
theorem sort_mem (X : List Int) (w : Int) : w ∈ sortInt X ↔ w ∈ X := (isort_perm X).mem_iff
theorem sort_le (X : List Int) : (sortInt X).Pairwise (· ≤ ·) := isortL X
def cuts (la lb : List Lg) : List Int := dd (sortInt (flats (la ++ lb)))
theorem cuts_strict (la lb : List Lg) : (cuts la lb).Pairwise (· < ·) := dd_strict _ (sort_le _)
theorem cuts_mem (la lb : List Lg) (w : Int) : w ∈ cuts la lb ↔ w ∈ flats la ∨ w ∈ flats lb := by
 unfold cuts
 rw [dd_mem, sort_mem]
 unfold flats
 rw [List.flatMap_append, List.mem_append]
theorem cuts_comm (la lb : List Lg) : cuts la lb = cuts lb la := strict_unique (cuts_strict _ _) (cuts_strict _ _) (fun w => by rw [cuts_mem, cuts_mem, or_comm])
theorem step_const (l : List Lg) (x y z : Int) (hx : x ≤ z) (hy : z < y) (h : ∀ w ∈ flats l, w ≤ x ∨ y ≤ w) : stV z l = stV x l := by
 induction l with
 | nil => rfl
 | cons u r ih =>
  have ih := ih (fun w hw => h w (by unfold flats at hw ⊢; rw [List.flatMap_cons, List.mem_append]; exact .inr hw))
  have h0 := h u.f0 (by rw [flats_mem]; exact ⟨u, by simp, .inl rfl⟩)
  have h1 := h u.f1 (by rw [flats_mem]; exact ⟨u, by simp, .inr rfl⟩)
  rw [stV, stV, ih]
  by_cases c0 : u.f0 ≤ x
  ·rw [if_pos c0, if_pos (by omega)]
   by_cases c1 : x < u.f1
   ·rw [if_pos c1, if_pos (by omega)]
   ·rw [if_neg c1, if_neg (by omega)]
  ·rw [if_neg c0, if_neg (by omega)]
def oz (s t : Int) : Int := if s = 0 then t else s
theorem mx_oz {s t : Int} (hs : 0 ≤ s) (ht : 0 ≤ t) (h : cf s t = false) : mx s t = oz s t := by
 unfold oz
 by_cases s0 : s = 0
 ·rw [if_pos s0, s0, mx_zero ht]
 ·rw [if_neg s0]
  by_cases t0 : t = 0
  ·rw [t0, mx_zero' hs]
  ·unfold cf at h
   rw [if_neg s0, if_neg t0] at h
   have : s = t := by simpa using h
   rw [← this, mx_self]
theorem mgP_st (la lb : List Lg) (ha : la.any bad1 = false) (hb : lb.any bad1 = false) (z : Int) : ∀ (U : List Int) (acc L : List Lg), mgP (fun z => stV z la) (fun z => stV z lb) U acc = some L → U.Pairwise (· < ·) →
  (∀ x r, U = x :: r → (∀ w, w ∈ flats la ∨ w ∈ flats lb → w ∈ U ∨ w < x) ∧ (∀ q ∈ acc, q.f1 ≤ x)) →
  (∀ x r, U = x :: r → stV z L = if x ≤ z then oz (stV z la) (stV z lb) else stV z acc) ∧ (U = [] → L = acc)
 | [], acc, L, h, _, _ => by
  rw [mgP_nil] at h
  exact ⟨fun x r e => (by cases e), fun _ => (Option.some.inj h).symm⟩
 | [x], acc, L, h, hU, hE => by
  rw [mgP_one] at h
  ·obtain rfl := Option.some.inj h
   refine ⟨fun x' r e => ?_, fun e => by cases e⟩
   obtain ⟨rfl, rfl⟩ : x = x' ∧ [] = r := List.cons.inj e
   obtain ⟨h1, h2⟩ := hE x [] rfl
   by_cases c : x ≤ z
   ·rw [if_pos c]
    have ea : stV z la = 0 := stV_end z la (fun u hu => by
     have := h1 u.f1 (.inl ((flats_mem _ _).2 ⟨u, hu, .inr rfl⟩))
     rcases this with h | h
     ·simp at h; omega
     ·omega)
    have eb : stV z lb = 0 := stV_end z lb (fun u hu => by
     have := h1 u.f1 (.inr ((flats_mem _ _).2 ⟨u, hu, .inr rfl⟩))
     rcases this with h | h
     ·simp at h; omega
     ·omega)
    rw [ea, eb, stV_end z acc (fun q hq => by have := h2 q hq; omega)]; rfl
   ·rw [if_neg c]
 | x :: y :: r, acc, L, h, hU, hE => by
  rw [mgP] at h
  obtain ⟨h1, h2⟩ := hE x (y :: r) rfl
  have hxy : x < y := (List.pairwise_cons.1 hU).1 y (by simp)
  have hU' := (List.pairwise_cons.1 hU).2
  cases hc : cf (stV x la) (stV x lb) with
  | true => rw [hc] at h; simp at h
  | false =>
   rw [hc, if_neg (by decide)] at h
   have hm := mx_oz (stV_nonneg x la ha) (stV_nonneg x lb hb) hc
   generalize hacc : (if mx (stV x la) (stV x lb) = 0 then acc else acc ++ [⟨x, y, mx (stV x la) (stV x lb)⟩]) = acc' at h
   have hacc1 : ∀ q ∈ acc', q.f1 ≤ y := by
    intro q hq
    rw [← hacc] at hq
    by_cases e : mx (stV x la) (stV x lb) = 0
    ·rw [if_pos e] at hq; have := h2 q hq; omega
    ·rw [if_neg e, List.mem_append] at hq
     rcases hq with hq | hq
     ·have := h2 q hq; omega
     ·simp at hq; rw [hq]; exact Int.le_refl _
   have ih := (mgP_st la lb ha hb z (y :: r) acc' L h hU' (fun x' r' e => by
    obtain ⟨rfl, rfl⟩ : y = x' ∧ r = r' := List.cons.inj e
    refine ⟨fun w hw => ?_, hacc1⟩
    rcases h1 w hw with h | h
    ·rcases List.mem_cons.1 h with rfl | h
     ·exact .inr hxy
     ·exact .inl h
    ·exact .inr (by omega))).1 y r rfl
   refine ⟨fun x' r' e => ?_, fun e => by cases e⟩
   obtain ⟨rfl, rfl⟩ : x = x' ∧ y :: r = r' := List.cons.inj e
   rw [ih]
   by_cases c1 : y ≤ z
   ·rw [if_pos c1, if_pos (by omega)]
   ·rw [if_neg c1]
    have hall : ∀ w, w ∈ flats la ∨ w ∈ flats lb → w ≤ x ∨ y ≤ w := by
     intro w hw
     rcases h1 w hw with h | h
     ·rcases List.mem_cons.1 h with rfl | h
      ·exact .inl (Int.le_refl _)
      ·rcases List.mem_cons.1 h with rfl | h
       ·exact .inr (Int.le_refl _)
       ·have := (List.pairwise_cons.1 hU').1 w h; exact .inr (by omega)
     ·exact .inl (by omega)
    by_cases c0 : x ≤ z
    ·rw [if_pos c0, step_const la x y z c0 (by omega) (fun w hw => hall w (.inl hw)), step_const lb x y z c0 (by omega) (fun w hw => hall w (.inr hw)), ← hm, ← hacc]
     have he : ∀ q ∈ acc, q.f1 ≤ z := fun q hq => by have := h2 q hq; omega
     by_cases e : mx (stV x la) (stV x lb) = 0
     ·rw [if_pos e, e, stV_end z acc he]
     ·rw [if_neg e, stV_app z acc _ he, stV]
      simp only
      rw [if_pos c0, if_pos (by omega)]
    ·rw [if_neg c0, ← hacc]
     by_cases e : mx (stV x la) (stV x lb) = 0
     ·rw [if_pos e]
     ·rw [if_neg e]
      exact stV_ahead z acc _ (fun q hq => by simp at hq; rw [hq]; show z < x; omega)
theorem mgP_inc (S T : Int → Int) : ∀ (U : List Int) (acc L : List Lg), mgP S T U acc = some L → U.Pairwise (· < ·) → Inc acc → (∀ x r, U = x :: r → ∀ q ∈ acc, q.f1 ≤ x) → Inc L
 | [], acc, L, h, _, hi, _ => by
  rw [mgP_nil] at h
  rw [← Option.some.inj h]; exact hi
 | [x], acc, L, h, _, hi, _ => by
  rw [mgP_one] at h
  rw [← Option.some.inj h]; exact hi
 | x :: y :: r, acc, L, h, hU, hi, hE => by
  rw [mgP] at h
  have h2 := hE x (y :: r) rfl
  have hxy : x < y := (List.pairwise_cons.1 hU).1 y (by simp)
  cases hc : cf (S x) (T x) with
  | true => rw [hc] at h; simp at h
  | false =>
   rw [hc, if_neg (by decide)] at h
   refine mgP_inc S T (y :: r) _ L h (List.pairwise_cons.1 hU).2 ?_ ?_
   ·by_cases e : mx (S x) (T x) = 0
    ·rw [if_pos e]; exact hi
    ·rw [if_neg e]
     refine ⟨List.pairwise_append.2 ⟨hi.1, by simp, fun q hq v hv => ?_⟩, fun q hq => ?_⟩
     ·simp at hv; rw [hv]; exact h2 q hq
     ·rcases List.mem_append.1 hq with hq | hq
      ·exact hi.2 q hq
      ·simp at hq; rw [hq]; exact hxy
   ·intro x' r' e q hq
    obtain ⟨rfl, rfl⟩ : y = x' ∧ r = r' := List.cons.inj e
    by_cases e : mx (S x) (T x) = 0
    ·rw [if_pos e] at hq; have := h2 q hq; omega
    ·rw [if_neg e, List.mem_append] at hq
     rcases hq with hq | hq
     ·have := h2 q hq; omega
     ·simp at hq; rw [hq]; exact Int.le_refl _
theorem merged_st (la lb : List Lg) (ha : la.any bad1 = false) (hb : lb.any bad1 = false) (z : Int) (L : List Lg) (hia : Inc la) (hib : Inc lb) (h : mgP (fun z => stV z la) (fun z => stV z lb) (cuts la lb) [] = some L) : stV z (joinV L) = oz (stV z la) (stV z lb) := by
 have hs := cuts_strict la lb
 have hm := cuts_mem la lb
 generalize cuts la lb = U at h hs hm
 have hL : Inc L := mgP_inc _ _ U [] L h hs ⟨List.Pairwise.nil, fun x hx => by cases hx⟩ (fun _ _ _ q hq => by cases hq)
 rw [joinV_st z L hL]
 obtain ⟨k1, k2⟩ := mgP_st la lb ha hb z U [] L h hs (fun x r e => ⟨fun w hw => .inl ((hm w).2 hw), fun q hq => by cases hq⟩)
 cases U with
 | nil =>
  have ea : la = [] := by
   cases la with
   | nil => rfl
   | cons u r => exact absurd ((hm u.f0).2 (.inl ((flats_mem _ _).2 ⟨u, by simp, .inl rfl⟩))) (by simp)
  have eb : lb = [] := by
   cases lb with
   | nil => rfl
   | cons u r => exact absurd ((hm u.f0).2 (.inr ((flats_mem _ _).2 ⟨u, by simp, .inl rfl⟩))) (by simp)
  rw [k2 rfl, ea, eb]; rfl
 | cons x r =>
  rw [k1 x r rfl]
  by_cases c : x ≤ z
  ·rw [if_pos c]
  ·rw [if_neg c]
   have low : ∀ w, w ∈ flats la ∨ w ∈ flats lb → x ≤ w := fun w hw => by
    rcases List.mem_cons.1 ((hm w).2 hw) with rfl | h
    ·exact Int.le_refl _
    ·have := (List.pairwise_cons.1 hs).1 w h; omega
   rw [stV_start z la (fun u hu => by have := low u.f0 (.inl ((flats_mem _ _).2 ⟨u, hu, .inl rfl⟩)); omega), stV_start z lb (fun u hu => by have := low u.f0 (.inr ((flats_mem _ _).2 ⟨u, hu, .inl rfl⟩)); omega)]
   rfl
theorem flats_cons (x : Lg) (r : List Lg) : flats (x :: r) = x.f0 :: x.f1 :: flats r := by unfold flats; rw [List.flatMap_cons]; rfl
theorem flats_sorted : ∀ l : List Lg, Inc l → (flats l).Pairwise (· ≤ ·)
 | [], _ => List.Pairwise.nil
 | x :: r, h => by
  have hr : Inc r := ⟨(List.pairwise_cons.1 h.1).2, fun u hu => h.2 u (by simp [hu])⟩
  have ih := flats_sorted r hr
  have hx := h.2 x (by simp)
  have hlow : ∀ w ∈ flats r, x.f1 ≤ w := fun w hw => by
   obtain ⟨u, hu, e⟩ := (flats_mem r w).1 hw
   have := (List.pairwise_cons.1 h.1).1 u hu
   have := hr.2 u hu
   rcases e with rfl | rfl <;> omega
  rw [flats_cons]
  refine List.pairwise_cons.2 ⟨fun w hw => ?_, List.pairwise_cons.2 ⟨hlow, ih⟩⟩
  rcases List.mem_cons.1 hw with rfl | hw
  ·omega
  ·have := hlow w hw; omega
theorem self_go (l : List Lg) (hl : Inc l) (hb : l.any bad1 = false) : ∀ (r pre acc : List Lg), pre ++ r = l → mgR (fun z => stV z l) (fun z => stV z l) (flats r) acc = some (acc ++ r)
 | [], pre, acc, _ => by rw [List.append_nil]; rfl
 | x :: r, pre, acc, e => by
  subst e
  have hx := hl.2 x (by simp)
  have hpre : ∀ u ∈ pre, u.f1 ≤ x.f0 := fun u hu => (List.pairwise_append.1 hl.1).2.2 u hu x (by simp)
  have hpost : ∀ u ∈ r, x.f1 ≤ u.f0 := (List.pairwise_cons.1 (List.pairwise_append.1 hl.1).2.1).1
  have hS : stV x.f0 (pre ++ x :: r) = x.f2 := by
   rw [stV_app _ _ _ hpre, stV, if_pos (Int.le_refl _), if_pos hx]
  have h2 : x.f2 ≠ 0 := by
   have := List.any_eq_false.1 hb x (by simp)
   unfold bad1 at this
   intro e
   rw [e] at this
   simp at this
  have ih := self_go (pre ++ x :: r) hl hb r (pre ++ [x]) (acc ++ [x]) (by simp)
  have hcf : cf x.f2 x.f2 = false := by unfold cf; rw [if_neg h2, if_neg h2]; simp
  have hacc : acc ++ [x] ++ r = acc ++ x :: r := by simp
  rw [hacc] at ih
  rw [flats_cons, mgR, if_neg (by omega), hS, hcf, if_neg (by decide), if_neg h2]
  have e1 : (⟨x.f0, x.f1, x.f2⟩ : Lg) = x := rfl
  rw [e1]
  cases r with
  | nil =>
   rw [show flats ([] : List Lg) = [] from rfl, mgR_one]
  | cons y r' =>
   rw [flats_cons] at ih ⊢
   rw [mgR]
   by_cases c : x.f1 = y.f0
   ·rw [if_pos c]; exact ih
   ·have hxy := hpost y (by simp)
    have h0 : stV x.f1 (pre ++ x :: y :: r') = 0 := by
     rw [stV_app _ _ _ (fun u hu => by have := hpre u hu; omega), stV, if_pos (by omega), if_neg (by omega)]
     refine stV_start _ _ (fun u hu => ?_)
     rcases List.mem_cons.1 hu with rfl | hu
     ·omega
     ·have h3 := (List.pairwise_cons.1 (List.pairwise_cons.1 (List.pairwise_append.1 hl.1).2.1).2).1 u hu
      have h4 := hl.2 y (by simp)
      omega
    rw [if_neg c, h0, if_pos rfl, if_pos rfl]
    have hz : cf 0 0 = false := rfl
    rw [hz, if_neg (by decide)]
    exact ih
theorem self_merge (l : List Lg) (hl : Inc l) (hb : l.any bad1 = false) : mgP (fun z => stV z l) (fun z => stV z l) (cuts l l) [] = some l := by
 have e : cuts l l = dd (flats l) := strict_unique (cuts_strict l l) (dd_strict _ (flats_sorted l hl)) (fun w => by rw [cuts_mem, dd_mem, or_self])
 rw [e, ← mgR_cons (fun z => stV_nonneg z l hb) (fun z => stV_nonneg z l hb), self_go l hl hb l [] [] rfl]
 rfl
end Go.Proofs.YtfedmcehkpfciaaGreat.PTogether
