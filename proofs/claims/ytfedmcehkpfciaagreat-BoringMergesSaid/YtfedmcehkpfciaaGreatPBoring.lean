/-
 Borings in plain terms: their form, their logs joined, what they say, of the program and of the reference.
-/
import Derived.Test.YtfedmcehkpfciaaGreatEvt
import Derived.Test.YtfedmcehkpfciaaGreatHof
import Derived.Test.YtfedmcehkpfciaaGreatPName
import Derived.Test.YtfedmcehkpfciaaGreatSym
import Derived.Test.YtfedmcehkpfciaaGreatPx13
import Derived.Test.YtfedmcehkpfciaaGreatPx5
import Derived.Test.YtfedmcehkpfciaaGreatPx25
import Derived.Test.YtfedmcehkpfciaaGreatPx18
import Derived.Test.YtfedmcehkpfciaaGreatPx16
import Derived.Test.YtfedmcehkpfciaaGreatPx15
import Derived.Test.YtfedmcehkpfciaaGreatPx19
set_option linter.unusedVariables false
set_option linter.unusedSimpArgs false
namespace Go.Proofs.YtfedmcehkpfciaaGreat.PBoring
open Go.RowKit Go.Proofs.YtfedmcehkpfciaaGreatW.PrintWords Go.Proofs.YtfedmcehkpfciaaGreatW.PrintLast Go.Proofs.YtfedmcehkpfciaaGreat.P Go.Proofs.YtfedmcehkpfciaaGreat.Rnd Go.Proofs.YtfedmcehkpfciaaGreat.Lex Go.Proofs.YtfedmcehkpfciaaGreat.PName Go.Proofs.YtfedmcehkpfciaaGreat.Hof Go.Proofs.YtfedmcehkpfciaaGreat.Sym
abbrev Lg := S48
abbrev zL := z48
theorem rdL_at (l : List Lg) (i : Nat) (h : i < l.length) : rd_T48 l (i : Int) = l[i] := getD_at l _ i h
def rdl (l : List Lg) (i : Nat) : Lg := l.getD i zL
theorem rdL_nat (l : List Lg) (i : Nat) : rd_T48 l (i : Int) = rdl l i := by unfold rd_T48 rdl; rw [Int.toNat_natCast]
def stV (z : Int) : List Lg → Int
 | [] => 0
 | x :: r => if x.f0 ≤ z then (if z < x.f1 then x.f2 else stV z r) else stV z r
theorem drop_cons (l : List Lg) (i : Nat) (h : i < l.length) : l.drop i = l[i] :: l.drop (i + 1) := List.drop_eq_getElem_cons h
theorem state_ev (n0 : ByteArray) (a b : Int) (l : List Lg) (z : Int) (hl : l.length ≤ 9223372036854775807) : Evt (fun k => boring_State.f k n0 a b l z) (stV z l) := by
 unfold boring_State.f
 have key : ∀ i, i ≤ l.length → Evt (fun k => boring_State.l0 k z l l.length (i : Nat)) (stV z (l.drop i)) := by
  refine down ?_ ?_
  ·rw [List.drop_length]
   exact Evt.succ (g := fun _ => some 0) (Evt.pure _) (fun k => by simp only [boring_State.l0, Int.lt_irrefl, if_false])
  ·intro i hi ih
   rw [drop_cons l i hi]
   have c1 : (i : Int) < (l.length : Int) := by omega
   have c2 : (0 : Int) ≤ (i : Int) := by omega
   unfold stV
   by_cases h1 : l[i].f0 ≤ z
   ·by_cases h2 : z < l[i].f1
    ·rw [if_pos h1, if_pos h2]
     exact Evt.succ (g := fun _ => some _) (Evt.pure _) (fun k => by simp only [boring_State.l0, if_pos c1, if_pos c2, rdL_at l i hi, if_pos h1, if_pos h2])
    ·rw [if_pos h1, if_neg h2]
     exact Evt.succ ih (fun k => by simp only [boring_State.l0, if_pos c1, if_pos c2, rdL_at l i hi, if_pos h1, if_neg h2, wrap_up i l.length hi hl])
   ·rw [if_neg h1]
    exact Evt.succ ih (fun k => by simp only [boring_State.l0, if_pos c1, if_pos c2, rdL_at l i hi, if_neg h1, wrap_up i l.length hi hl])
 exact key 0 (by omega)
theorem rstate_ev (n0 : ByteArray) (a b : Int) (l : List Lg) (z : Int) (hl : l.length ≤ 9223372036854775807) : Evt (fun k => gangsawref14_State.f k n0 a b l z) (stV z l) := by
 unfold gangsawref14_State.f
 have key : ∀ i, i ≤ l.length → Evt (fun k => gangsawref14_State.l0 k z (i : Nat) n0 a b l) (stV z (l.drop i)) := by
  refine down ?_ ?_
  ·rw [List.drop_length]
   exact Evt.succ (g := fun _ => some 0) (Evt.pure _) (fun k => by simp only [gangsawref14_State.l0, Int.lt_irrefl, if_false])
  ·intro i hi ih
   rw [drop_cons l i hi]
   have c1 : (i : Int) < (l.length : Int) := by omega
   have c2 : (0 : Int) ≤ (i : Int) := by omega
   unfold stV
   by_cases h1 : l[i].f0 ≤ z
   ·by_cases h2 : z < l[i].f1
    ·rw [if_pos h1, if_pos h2]
     exact Evt.succ (g := fun _ => some _) (Evt.pure _) (fun k => by simp only [gangsawref14_State.l0, if_pos c1, if_pos c2, rdL_at l i hi, if_pos h1, if_pos h2])
    ·rw [if_pos h1, if_neg h2]
     exact Evt.succ ih (fun k => by simp only [gangsawref14_State.l0, if_pos c1, if_pos c2, rdL_at l i hi, if_pos h1, if_neg h2, wrap_up i l.length hi hl])
   ·rw [if_neg h1]
    exact Evt.succ ih (fun k => by simp only [gangsawref14_State.l0, if_pos c1, if_pos c2, rdL_at l i hi, if_neg h1, wrap_up i l.length hi hl])
 exact key 0 (by omega)
def js (acc : List Lg) (x : Lg) : List Lg :=
 if 0 < acc.length then (if (rdl acc (acc.length - 1)).f1 = x.f0 then (if (rdl acc (acc.length - 1)).f2 = x.f2 then acc.set (acc.length - 1) ⟨(rdl acc (acc.length - 1)).f0, x.f1, (rdl acc (acc.length - 1)).f2⟩ else acc ++ [x]) else acc ++ [x]) else acc ++ [x]
theorem js_len (acc : List Lg) (x : Lg) : (js acc x).length ≤ acc.length + 1 := by
 unfold js
 by_cases h0 : 0 < acc.length
 ·rw [if_pos h0]
  by_cases h1 : (rdl acc (acc.length - 1)).f1 = x.f0
  ·rw [if_pos h1]
   by_cases h2 : (rdl acc (acc.length - 1)).f2 = x.f2
   ·rw [if_pos h2, List.length_set]; omega
   ·rw [if_neg h2]; simp
  ·rw [if_neg h1]; simp
 ·rw [if_neg h0]; simp
def joinV (l : List Lg) : List Lg := l.foldl js []
theorem joinV_len_aux (l : List Lg) : ∀ acc, (l.foldl js acc).length ≤ acc.length + l.length := by
 induction l with
 | nil => intro acc; simp
 | cons x r ih =>
  intro acc
  rw [List.foldl_cons]
  have := ih (js acc x)
  have := js_len acc x
  simp only [List.length_cons]
  omega
theorem joinV_len (l : List Lg) : (joinV l).length ≤ l.length := by
 have := joinV_len_aux l []
 simpa [joinV] using this
theorem joined_ev (l : List Lg) (hl : l.length ≤ 100000) : Evt (fun k => boring_joined.f k l) (joinV l) := by
 unfold boring_joined.f
 have key : ∀ i, i ≤ l.length → ∀ acc : List Lg, acc.length ≤ i → Evt (fun k => boring_joined.l0 k acc l l.length (i : Nat)) ((l.drop i).foldl js acc) := by
  refine down (P := fun i => ∀ acc : List Lg, acc.length ≤ i → Evt (fun k => boring_joined.l0 k acc l l.length (i : Nat)) ((l.drop i).foldl js acc)) ?_ ?_
  ·intro acc _
   rw [List.drop_length]
   exact Evt.succ (g := fun _ => some acc) (Evt.pure _) (fun k => by simp only [boring_joined.l0, Int.lt_irrefl, if_false])
  ·intro i hi ih acc ha
   rw [drop_cons l i hi, List.foldl_cons]
   have hih := ih (js acc l[i]) (by have := js_len acc l[i]; omega)
   have c1 : (i : Int) < (l.length : Int) := by omega
   have c2 : (0 : Int) ≤ (i : Int) := by omega
   have hw := wrap_up i l.length hi (by omega)
   have hA : acc.length < 5864062014805 := by omega
   refine Evt.succ hih (fun k => ?_)
   simp only [boring_joined.l0, if_pos c1, if_pos c2, rdL_at l i hi, hw]
   unfold js
   by_cases h0 : 0 < acc.length
   ·have h0' : (acc.length : Int) > 0 := by omega
    have e1 : wrap64 ((acc.length : Int) - 1) = ((acc.length - 1 : Nat) : Int) := by rw [wrap_mid _ (by omega) (by omega)]; omega
    have c3 : (0 : Int) ≤ ((acc.length - 1 : Nat) : Int) := by omega
    have c4 : ((acc.length - 1 : Nat) : Int) < (acc.length : Int) := by omega
    simp only [if_pos h0, if_pos h0', e1, if_pos c3, if_pos c4, rdL_nat, Int.toNat_natCast, if_pos hA]
    by_cases h1 : (rdl acc (acc.length - 1)).f1 = l[i].f0
    ·by_cases h2 : (rdl acc (acc.length - 1)).f2 = l[i].f2
     ·simp only [if_pos h1, if_pos h2]
     ·simp only [if_pos h1, if_neg h2]
    ·simp only [if_neg h1]
   ·have h0' : ¬ (acc.length : Int) > 0 := by omega
    simp only [if_neg h0, if_neg h0', if_pos hA]
 exact key 0 (by omega) [] (by simp)
theorem rjoined_ev (l : List Lg) (hl : l.length ≤ 100000) : Evt (fun k => gangsawref14_joined.f k l) (joinV l) := by
 unfold gangsawref14_joined.f
 have key : ∀ i, i ≤ l.length → ∀ acc : List Lg, acc.length ≤ i → Evt (fun k => gangsawref14_joined.l0 k l acc (i : Nat)) ((l.drop i).foldl js acc) := by
  refine down (P := fun i => ∀ acc : List Lg, acc.length ≤ i → Evt (fun k => gangsawref14_joined.l0 k l acc (i : Nat)) ((l.drop i).foldl js acc)) ?_ ?_
  ·intro acc _
   rw [List.drop_length]
   exact Evt.succ (g := fun _ => some acc) (Evt.pure _) (fun k => by simp only [gangsawref14_joined.l0, Int.lt_irrefl, if_false])
  ·intro i hi ih acc ha
   rw [drop_cons l i hi, List.foldl_cons]
   have hih := ih (js acc l[i]) (by have := js_len acc l[i]; omega)
   have c1 : (i : Int) < (l.length : Int) := by omega
   have c2 : (0 : Int) ≤ (i : Int) := by omega
   have hw := wrap_up i l.length hi (by omega)
   have hA : acc.length < 5864062014805 := by omega
   refine Evt.succ hih (fun k => ?_)
   simp only [gangsawref14_joined.l0, if_pos c1, if_pos c2, rdL_at l i hi, hw]
   unfold js
   by_cases h0 : 0 < acc.length
   ·have h0' : (acc.length : Int) > 0 := by omega
    have e1 : wrap64 ((acc.length : Int) - 1) = ((acc.length - 1 : Nat) : Int) := by rw [wrap_mid _ (by omega) (by omega)]; omega
    have c3 : (0 : Int) ≤ ((acc.length - 1 : Nat) : Int) := by omega
    have c4 : ((acc.length - 1 : Nat) : Int) < (acc.length : Int) := by omega
    simp only [if_pos h0, if_pos h0', e1, if_pos c3, if_pos c4, rdL_nat, Int.toNat_natCast, if_pos hA]
    by_cases h1 : (rdl acc (acc.length - 1)).f1 = l[i].f0
    ·by_cases h2 : (rdl acc (acc.length - 1)).f2 = l[i].f2
     ·simp only [if_pos h1, if_pos h2]
     ·simp only [if_pos h1, if_neg h2]
    ·simp only [if_neg h1]
   ·have h0' : ¬ (acc.length : Int) > 0 := by omega
    simp only [if_neg h0, if_neg h0', if_pos hA]
 exact key 0 (by omega) [] (by simp)
def incB (l : List Lg) (i : Nat) : Bool := decide ((rdl l i).f0 < (rdl l (i - 1)).f1)
def incV (l : List Lg) : Bool := !(List.range' 1 (l.length - 1)).any (incB l)
theorem inc_k (n0 : ByteArray) (a b : Int) (l : List Lg) (hl : l.length ≤ 9223372036854775807) : ∀ d i k, i + d = l.length → 1 ≤ i → d < k → boring_increasing.l0 k (i : Nat) n0 a b l = some (!(List.range' i d).any (incB l)) := by
 intro d
 induction d with
 | zero =>
  intro i k hi h1 hk
  obtain ⟨k, rfl⟩ : ∃ j, k = j + 1 := ⟨k - 1, by omega⟩
  obtain rfl : i = l.length := by omega
  simp only [boring_increasing.l0, Int.lt_irrefl, if_false, List.range'_zero, List.any_nil, Bool.not_false]
 | succ d ih =>
  intro i k hi h1 hk
  obtain ⟨k, rfl⟩ : ∃ j, k = j + 1 := ⟨k - 1, by omega⟩
  have c1 : (i : Int) < (l.length : Int) := by omega
  have c2 : (0 : Int) ≤ (i : Int) := by omega
  have e1 : wrap64 ((i : Int) - 1) = ((i - 1 : Nat) : Int) := by rw [wrap_mid _ (by omega) (by omega)]; omega
  have c3 : (0 : Int) ≤ ((i - 1 : Nat) : Int) := by omega
  have c4 : ((i - 1 : Nat) : Int) < (l.length : Int) := by omega
  simp only [boring_increasing.l0, if_pos c1, if_pos c2, e1, if_pos c3, if_pos c4, rdL_nat, wrap_up i l.length (by omega) hl, List.range'_succ, List.any_cons]
  unfold incB
  by_cases h : (rdl l i).f0 < (rdl l (i - 1)).f1
  ·rw [if_pos h, decide_eq_true h]; rfl
  ·rw [if_neg h, decide_eq_false h, Bool.false_or]; exact ih (i + 1) k (by omega) (by omega) (by omega)
theorem inc_of (n0 : ByteArray) (a b : Int) (l : List Lg) (hl : l.length ≤ 9223372036854775807) (k : Nat) (hk : l.length < k) : boring_increasing.f k n0 a b l = some (incV l) := by
 unfold boring_increasing.f incV
 by_cases h0 : l.length = 0
 ·obtain ⟨k, rfl⟩ : ∃ j, k = j + 1 := ⟨k - 1, by omega⟩
  rw [h0]
  have c : ¬ (1 : Int) < (l.length : Int) := by omega
  simp only [boring_increasing.l0, if_neg c]
  rfl
 ·exact inc_k n0 a b l hl (l.length - 1) 1 k (by omega) (by omega) (by omega)
theorem rinc_k (n0 : ByteArray) (a b : Int) (l : List Lg) (hl : l.length ≤ 9223372036854775807) : ∀ d i k, i + d = l.length → 1 ≤ i → d < k → gangsawref14_stacked.l0 k (i : Nat) n0 a b l = some (!(List.range' i d).any (incB l)) := by
 intro d
 induction d with
 | zero =>
  intro i k hi h1 hk
  obtain ⟨k, rfl⟩ : ∃ j, k = j + 1 := ⟨k - 1, by omega⟩
  obtain rfl : i = l.length := by omega
  simp only [gangsawref14_stacked.l0, Int.lt_irrefl, if_false, List.range'_zero, List.any_nil, Bool.not_false]
 | succ d ih =>
  intro i k hi h1 hk
  obtain ⟨k, rfl⟩ : ∃ j, k = j + 1 := ⟨k - 1, by omega⟩
  have c1 : (i : Int) < (l.length : Int) := by omega
  have c2 : (0 : Int) ≤ (i : Int) := by omega
  have e1 : wrap64 ((i : Int) - 1) = ((i - 1 : Nat) : Int) := by rw [wrap_mid _ (by omega) (by omega)]; omega
  have c3 : (0 : Int) ≤ ((i - 1 : Nat) : Int) := by omega
  have c4 : ((i - 1 : Nat) : Int) < (l.length : Int) := by omega
  simp only [gangsawref14_stacked.l0, if_pos c1, if_pos c2, e1, if_pos c3, if_pos c4, rdL_nat, wrap_up i l.length (by omega) hl, List.range'_succ, List.any_cons]
  unfold incB
  by_cases h : (rdl l i).f0 < (rdl l (i - 1)).f1
  ·rw [if_pos h, decide_eq_true h]; rfl
  ·rw [if_neg h, decide_eq_false h, Bool.false_or]; exact ih (i + 1) k (by omega) (by omega) (by omega)
theorem rinc_ev (n0 : ByteArray) (a b : Int) (l : List Lg) (hl : l.length ≤ 9223372036854775807) : Evt (fun k => gangsawref14_stacked.f k n0 a b l) (incV l) := ⟨l.length + 1, fun k hk => by
 show gangsawref14_stacked.f k n0 a b l = _
 unfold gangsawref14_stacked.f incV
 by_cases h0 : l.length = 0
 ·obtain ⟨k, rfl⟩ : ∃ j, k = j + 1 := ⟨k - 1, by omega⟩
  rw [h0]
  have c : ¬ (1 : Int) < (l.length : Int) := by omega
  simp only [gangsawref14_stacked.l0, if_neg c]
  rfl
 ·exact rinc_k n0 a b l hl (l.length - 1) 1 k (by omega) (by omega) (by omega)⟩
def bad1 (x : Lg) : Bool := decide (x.f0 ≥ x.f1) || !(decide (x.f2 = 1) || decide (x.f2 = 2))
def out6 (x : Lg) : Bool := !(decide (-1000000 ≤ x.f0) && (decide (x.f0 ≤ 1000000) && (decide (-1000000 ≤ x.f1) && decide (x.f1 ≤ 1000000))))
def okP (a b : Int) : Prop := -1000000 ≤ a ∧ a ≤ 999999 ∧ -1000000 ≤ b ∧ b ≤ 999999
instance (a b : Int) : Decidable (okP a b) := by unfold okP; infer_instance
def formedV (n0 : ByteArray) (a b : Int) (l : List Lg) : Int :=
 if nameB n0 = false then 4 else if 64 < l.length then 7 else if l.any bad1 = true then 1 else if okP a b ∧ l.any out6 = false then (if incV l = true then 0 else 11) else 6
theorem bin_f (a : Int) : boring_in.f a = some (decide (-1000000 ≤ a ∧ a ≤ 1000000)) := by
 unfold boring_in.f
 by_cases c : a ≥ -1000000
 ·rw [if_pos c]; simp [show -1000000 ≤ a from c]
 ·rw [if_neg c]; simp [show ¬ -1000000 ≤ a from c]
theorem rin_f (a l h : Int) : gangsawref14_in.f a l h = some (decide (l ≤ a ∧ a ≤ h)) := by
 unfold gangsawref14_in.f
 by_cases c : l ≤ a
 ·rw [if_pos c]; simp [c]
 ·rw [if_neg c]; simp [c]
theorem bad1_f (x : Lg) : boring_checks_3_1.f x.f0 x.f1 x.f2 = some (bad1 x) := by
 unfold boring_checks_3_1.f bad1
 by_cases h0 : x.f0 ≥ x.f1
 ·rw [if_pos h0, decide_eq_true h0]; rfl
 ·rw [if_neg h0, decide_eq_false h0]
  by_cases h1 : x.f2 = 1
  ·rw [if_pos h1, decide_eq_true h1]; rfl
  ·rw [if_neg h1, decide_eq_false h1]
   by_cases h2 : x.f2 = 2
   ·simp [h2]
   ·simp [h2]
theorem out6_f (x : Lg) : boring_formed_1_1.f x.f0 x.f1 x.f2 = some (out6 x) := by
 unfold boring_formed_1_1.f out6
 simp only [bin_f, Option.bind_some, decide_eq_true_eq]
 by_cases h1 : -1000000 ≤ x.f0 ∧ x.f0 ≤ 1000000
 ·rw [if_pos h1]
  simp [h1.1, h1.2]
 ·rw [if_neg h1]
  by_cases h2 : -1000000 ≤ x.f0
  ·have h3 : ¬ x.f0 ≤ 1000000 := fun h => h1 ⟨h2, h⟩
   simp [h3]
  ·simp [h2]
theorem anyO_some_ (p : Lg → Bool) : ∀ l : List Lg, anyO (fun x => some (p x)) l = some (l.any p)
 | [] => rfl
 | x :: r => by
  rw [List.any_cons]
  cases h : p x with
  | true => simp [anyO, h]
  | false => simp [anyO, h, anyO_some_ p r]
theorem some1_f (n0 : ByteArray) (a b : Int) (l : List Lg) (p : Lg → Bool) (q : Lg → Option Bool) (h : ∀ x, q x = some (p x)) : boring_some.f n0 a b l q = some (l.any p) := by
 unfold boring_some.f contains48.f
 rw [show q = fun x => some (p x) from funext h, anyO_some_]
 rfl
theorem place_f (n0 : ByteArray) (a b : Int) (l : List Lg) : boring_formed_1.f n0 a b l = some (decide (okP a b ∧ l.any out6 = false)) := by
 unfold boring_formed_1.f
 simp only [bin_f, Option.bind_some, decide_eq_true_eq, some1_f n0 a b l out6 _ out6_f]
 by_cases h1 : -1000000 ≤ a ∧ a ≤ 1000000
 ·rw [if_pos h1]
  by_cases h2 : -1000000 ≤ b ∧ b ≤ 1000000
  ·rw [if_pos h2, wrap_mid (a + 1) (by omega) (by omega), wrap_mid (b + 1) (by omega) (by omega)]
   by_cases h3 : -1000000 ≤ a + 1 ∧ a + 1 ≤ 1000000
   ·rw [if_pos h3]
    by_cases h4 : -1000000 ≤ b + 1 ∧ b + 1 ≤ 1000000
    ·rw [if_pos h4]
     have : okP a b := by unfold okP; omega
     cases l.any out6 <;> simp [this]
    ·rw [if_neg h4, decide_eq_false (fun c => by have := c.1; unfold okP at this; omega)]
   ·rw [if_neg h3, decide_eq_false (fun c => by have := c.1; unfold okP at this; omega)]
  ·rw [if_neg h2, decide_eq_false (fun c => by have := c.1; unfold okP at this; omega)]
 ·rw [if_neg h1, decide_eq_false (fun c => by have := c.1; unfold okP at this; omega)]
theorem formed_f (n0 : ByteArray) (a b : Int) (l : List Lg) (hl : l.length ≤ 9223372036854775807) : boring_formed.f n0 a b l = some (formedV n0 a b l) := by
 unfold boring_formed.f formedV
 have e1 : boring_checks_1.f n0 a b l = some (nameB n0) := rfl
 have e2 : boring_checks_2.f n0 a b l = some (decide ((l.length : Int) ≤ 64)) := rfl
 have e3 : boring_checks_3.f n0 a b l = some (!l.any bad1) := by unfold boring_checks_3.f; rw [some1_f n0 a b l bad1 _ bad1_f]; rfl
 rw [e1, e2, e3, place_f, inc_of n0 a b l hl _ (by omega)]
 simp only [Option.bind_some]
 cases nameB n0 with
 | false => rfl
 | true =>
  simp only [if_true, Bool.true_eq_false, if_false]
  by_cases h1 : 64 < l.length
  ·rw [if_pos h1, if_neg (by simp; omega)]
  ·rw [if_neg h1, if_pos (by simp; omega)]
   cases l.any bad1 with
   | true => rfl
   | false =>
    simp only [Bool.not_false, if_true, Bool.false_eq_true, if_false, decide_eq_true_eq]
    by_cases h2 : okP a b ∧ l.any out6 = false
    ·rw [if_pos h2, if_pos h2]; cases incV l <;> rfl
    ·rw [if_neg h2, if_neg h2]
theorem rformed_ev (n0 : ByteArray) (a b : Int) (l : List Lg) (hn : n0.size ≤ 9223372036854775807) (hl : l.length ≤ 9223372036854775807) : Evt (fun k => gangsawref14_Formed.f k n0 a b l) (formedV n0 a b l) := by
 unfold gangsawref14_Formed.f formedV
 -- named
 have hnm : Evt (fun k => gangsawref14_named.f k n0 a b l) (if nameB n0 = false then 4 else if 64 < l.length then 7 else if l.any bad1 = true then 1 else 0) := by
  unfold gangsawref14_named.f
  refine Evt.bind (name_ev n0 hn) ?_
  cases nameB n0 with
  | false => simp only [Bool.false_eq_true, if_false, if_true]; exact Evt.pure _
  | true =>
   simp only [if_true, Bool.true_eq_false, if_false]
   have e64 : ((l.length : Int) > 64) = (64 < l.length) := propext (by omega)
   simp only [e64]
   by_cases h1 : 64 < l.length
   ·simp only [if_pos h1]; exact Evt.pure _
   ·simp only [if_neg h1]
    refine Evt.any_list (F := fun k i => gangsawref14_named.l0 k i n0 a b l) bad1 1 ?_ ?_ ?_
    ·exact Evt.succ (g := fun _ => some 0) (Evt.pure _) (fun k => by simp only [gangsawref14_named.l0, Int.lt_irrefl, if_false])
    ·intro i hi hb
     refine Evt.succ (g := fun _ => some 1) (Evt.pure _) (fun k => ?_)
     unfold bad1 at hb
     simp only [gangsawref14_named.l0, rdL_at l i hi]
     rw [if_pos (by omega), if_pos (by omega)]
     by_cases c0 : l[i].f0 ≥ l[i].f1
     ·rw [if_pos c0]
     ·rw [if_neg c0]
      by_cases c1 : l[i].f2 = 1
      ·simp [c1] at hb; omega
      ·rw [if_neg c1]
       by_cases c2 : l[i].f2 = 2
       ·simp [c2] at hb; omega
       ·rw [if_neg c2]
    ·intro i hi hb v hv
     refine Evt.succ hv (fun k => ?_)
     unfold bad1 at hb
     simp only [gangsawref14_named.l0, rdL_at l i hi, wrap_up i l.length hi hl]
     rw [if_pos (by omega), if_pos (by omega)]
     by_cases c0 : l[i].f0 ≥ l[i].f1
     ·simp [c0] at hb
     ·rw [if_neg c0]
      by_cases c1 : l[i].f2 = 1
      ·rw [if_pos c1]
      ·rw [if_neg c1]
       by_cases c2 : l[i].f2 = 2
       ·rw [if_pos c2]
       ·simp [c1, c2] at hb
 refine Evt.bind hnm ?_
 cases nameB n0 with
 | false => simp only [if_true]; exact Evt.const (fun k => if_neg (by decide))
 | true =>
  simp only [Bool.true_eq_false, if_false]
  by_cases h1 : 64 < l.length
  ·simp only [if_pos h1]; exact Evt.const (fun k => if_neg (by decide))
  ·simp only [if_neg h1]
   cases l.any bad1 with
   | true => simp only [if_true]; exact Evt.const (fun k => if_neg (by decide))
   | false =>
    simp only [Bool.false_eq_true, if_false, if_true, rin_f, Option.bind_some, decide_eq_true_eq]
    -- the loop
    have stp : ∀ (q : Bool), Evt (fun k => gangsawref14_Formed.j0 k q n0 a b l) (if q = true ∧ l.any out6 = false then (if incV l = true then 0 else 11) else 6) := by
     intro q
     have key : ∀ i, i ≤ l.length → ∀ q : Bool, Evt (fun k => gangsawref14_Formed.l0 k q (i : Nat) n0 a b l) (if q = true ∧ (l.drop i).any out6 = false then (if incV l = true then 0 else 11) else 6) := by
      refine down (P := fun i => ∀ q : Bool, Evt (fun k => gangsawref14_Formed.l0 k q (i : Nat) n0 a b l) (if q = true ∧ (l.drop i).any out6 = false then (if incV l = true then 0 else 11) else 6)) ?_ ?_
      ·intro q
       rw [List.drop_length]
       cases q with
       | false => exact Evt.succ (g := fun _ => some 6) (Evt.pure _) (fun k => by simp only [gangsawref14_Formed.l0, Int.lt_irrefl, if_false, Bool.false_eq_true])
       | true =>
        rw [if_pos (show true = true ∧ ([] : List Lg).any out6 = false from ⟨rfl, rfl⟩)]
        refine Evt.succ (g := fun k => (gangsawref14_stacked.f k n0 a b l).bind fun v => if v = true then some 0 else some 11) ?_ (fun k => by simp only [gangsawref14_Formed.l0, Int.lt_irrefl, if_false, if_true])
        refine Evt.bind (rinc_ev n0 a b l hl) ?_
        cases incV l with
        | true => exact Evt.pure _
        | false => exact Evt.pure _
      ·intro i hi ih q
       rw [drop_cons l i hi, List.any_cons]
       have c1 : (i : Int) < (l.length : Int) := by omega
       have c2 : (0 : Int) ≤ (i : Int) := by omega
       have hw := wrap_up i l.length hi hl
       cases q with
       | false =>
        have := ih false
        rw [if_neg (fun c => by cases c.1)] at this ⊢
        exact Evt.succ this (fun k => by simp only [gangsawref14_Formed.l0, if_pos c1, Bool.false_eq_true, if_false, hw])
       | true =>
        by_cases d1 : -1000000 ≤ l[i].f0 ∧ l[i].f0 ≤ 1000000
        ·have := ih (decide (-1000000 ≤ l[i].f1 ∧ l[i].f1 ≤ 1000000))
         have ev : (decide (-1000000 ≤ l[i].f1 ∧ l[i].f1 ≤ 1000000) = true ∧ (l.drop (i + 1)).any out6 = false) ↔ ((out6 l[i] || (l.drop (i + 1)).any out6) = false) := by
          unfold out6
          by_cases d2 : -1000000 ≤ l[i].f1 ∧ l[i].f1 ≤ 1000000
          ·simp [d1.1, d1.2, d2.1, d2.2]
          ·rw [decide_eq_false d2]
           by_cases d3 : -1000000 ≤ l[i].f1
           ·have d4 : ¬ l[i].f1 ≤ 1000000 := fun h => d2 ⟨d3, h⟩
            simp [d4]
           ·simp [d3]
         simp only [ev] at this
         simp only [true_and]
         exact Evt.succ this (fun k => by simp only [gangsawref14_Formed.l0, if_pos c1, if_pos c2, if_true, rdL_at l i hi, rin_f, Option.bind_some, decide_eq_true d1, hw])
        ·have := ih false
         have o1 : out6 l[i] = true := by
          unfold out6
          by_cases d2 : -1000000 ≤ l[i].f0
          ·have d4 : ¬ l[i].f0 ≤ 1000000 := fun h => d1 ⟨d2, h⟩
           simp [d4]
          ·simp [d2]
         rw [if_neg (fun c => by cases c.1)] at this
         rw [o1, Bool.true_or, if_neg (fun c => by cases c.2)]
         exact Evt.succ this (fun k => by simp only [gangsawref14_Formed.l0, if_pos c1, if_pos c2, if_true, rdL_at l i hi, rin_f, Option.bind_some, decide_eq_false d1, Bool.false_eq_true, if_false, hw])
     exact Evt.succ (key 0 (by omega) q) (fun k => by simp only [gangsawref14_Formed.j0]; rfl)
    by_cases ha : -1000000 ≤ a ∧ a ≤ 999999
    ·simp only [if_pos ha]
     have := stp (decide (-1000000 ≤ b ∧ b ≤ 999999))
     have ev : (decide (-1000000 ≤ b ∧ b ≤ 999999) = true ∧ l.any out6 = false) ↔ (okP a b ∧ l.any out6 = false) := by
      rw [decide_eq_true_eq]; unfold okP
      exact ⟨fun h => ⟨⟨ha.1, ha.2, h.1.1, h.1.2⟩, h.2⟩, fun h => ⟨⟨h.1.2.2.1, h.1.2.2.2⟩, h.2⟩⟩
     simp only [ev] at this
     exact this
    ·simp only [if_neg ha]
     have := stp false
     rw [if_neg (fun c => by cases c.1)] at this
     rw [if_neg (fun c => by have := c.1; unfold okP at this; omega)]
     exact this
theorem equal_ev (n0 : ByteArray) (a b : Int) (l : List Lg) (hl : l.length ≤ 100000) : Evt (fun k => gangsawref14_Equal.f k n0 a b l n0 a b l) true := by
 unfold gangsawref14_Equal.f
 simp only [beq_self_eq_true, Bool.not_true, Bool.or_false, Bool.false_eq_true, if_false, if_true, bne_self_eq_false]
 refine Evt.succ (g := fun k => gangsawref14_Equal.l0 k 0 n0 a b l n0 a b l) ?_ (fun k => by simp only [gangsawref14_Equal.j0, Bool.false_eq_true, if_false])
 have key : ∀ i, i ≤ l.length → Evt (fun k => gangsawref14_Equal.l0 k (i : Nat) n0 a b l n0 a b l) true := by
  refine down ?_ ?_
  ·exact Evt.succ (g := fun _ => some true) (Evt.pure _) (fun k => by simp only [gangsawref14_Equal.l0, Int.lt_irrefl, if_false])
  ·intro i hi ih
   have c1 : (i : Int) < (l.length : Int) := by omega
   have c2 : (0 : Int) ≤ (i : Int) := by omega
   exact Evt.succ ih (fun k => by simp only [gangsawref14_Equal.l0, if_pos c1, if_pos c2, beq_self_eq_true, Bool.not_true, Bool.or_false, Bool.false_eq_true, if_false, wrap_up i l.length hi (by omega)])
 exact key 0 (by omega)
end Go.Proofs.YtfedmcehkpfciaaGreat.PBoring
