/-
 Borings in plain terms: their form, their logs joined, what they say, of the program and of the reference.
-/
import Derived.Test.YtfedmcehkpfciaaGreatEvt
import Derived.Test.YtfedmcehkpfciaaGreatHof
import Derived.Test.YtfedmcehkpfciaaGreatPName
import Derived.Test.YtfedmcehkpfciaaGreatSym
import Derived.Test.YtfedmcehkpfciaaGreatPx13
import Derived.Test.YtfedmcehkpfciaaGreatPx5
import Derived.Test.YtfedmcehkpfciaaGreatPx25
import Derived.Test.YtfedmcehkpfciaaGreatPx18
import Derived.Test.YtfedmcehkpfciaaGreatPx16
import Derived.Test.YtfedmcehkpfciaaGreatPx15
import Derived.Test.YtfedmcehkpfciaaGreatPx19
set_option linter.unusedVariables false
set_option linter.unusedSimpArgs false
namespace Go.Proofs.YtfedmcehkpfciaaGreat.PBoring
open Go.RowKit Go.Proofs.YtfedmcehkpfciaaGreatW.PrintWords Go.Proofs.YtfedmcehkpfciaaGreatW.PrintLast Go.Proofs.YtfedmcehkpfciaaGreat.P Go.Proofs.YtfedmcehkpfciaaGreat.Rnd Go.Proofs.YtfedmcehkpfciaaGreat.Lex Go.Proofs.YtfedmcehkpfciaaGreat.PName Go.Proofs.YtfedmcehkpfciaaGreat.Hof Go.Proofs.YtfedmcehkpfciaaGreat.Sym
abbrev Lg := S48
abbrev zL := z48
theorem rdL_at (l : List Lg) (i : Nat) (h : i < l.length) : rd_T48 l (i : Int) = l[i] := getD_at l _ i h
def rdl (l : List Lg) (i : Nat) : Lg := l.getD i zL
theorem rdL_nat (l : List Lg) (i : Nat) : rd_T48 l (i : Int) = rdl l i := by unfold rd_T48 rdl; rw [Int.toNat_natCast]
theorem drop_cons (l : List Lg) (i : Nat) (h : i < l.length) : l.drop i = l[i] :: l.drop (i + 1) := List.drop_eq_getElem_cons h
def incB (l : List Lg) (i : Nat) : Bool := decide ((rdl l i).f0 < (rdl l (i - 1)).f1)
def incV (l : List Lg) : Bool := !(List.range' 1 (l.length - 1)).any (incB l)
theorem inc_k (n0 : ByteArray) (a b : Int) (l : List Lg) (hl : l.length ≤ 9223372036854775807) : ∀ d i k, i + d = l.length → 1 ≤ i → d < k → boring_increasing.l0 k (i : Nat) n0 a b l = some (!(List.range' i d).any (incB l)) := by
 intro d
 induction d with
 | zero =>
  intro i k hi h1 hk
  obtain ⟨k, rfl⟩ : ∃ j, k = j + 1 := ⟨k - 1, by omega⟩
  obtain rfl : i = l.length := by omega
  simp only [boring_increasing.l0, Int.lt_irrefl, if_false, List.range'_zero, List.any_nil, Bool.not_false]
 | succ d ih =>
  intro i k hi h1 hk
  obtain ⟨k, rfl⟩ : ∃ j, k = j + 1 := ⟨k - 1, by omega⟩
  have c1 : (i : Int) < (l.length : Int) := by omega
  have c2 : (0 : Int) ≤ (i : Int) := by omega
  have e1 : wrap64 ((i : Int) - 1) = ((i - 1 : Nat) : Int) := by rw [wrap_mid _ (by omega) (by omega)]; omega
  have c3 : (0 : Int) ≤ ((i - 1 : Nat) : Int) := by omega
  have c4 : ((i - 1 : Nat) : Int) < (l.length : Int) := by omega
  simp only [boring_increasing.l0, if_pos c1, if_pos c2, e1, if_pos c3, if_pos c4, rdL_nat, wrap_up i l.length (by omega) hl, List.range'_succ, List.any_cons]
  unfold incB
  by_cases h : (rdl l i).f0 < (rdl l (i - 1)).f1
  ·rw [if_pos h, decide_eq_true h]; rfl
  ·rw [if_neg h, decide_eq_false h, Bool.false_or]; exact ih (i + 1) k (by omega) (by omega) (by omega)
theorem inc_of (n0 : ByteArray) (a b : Int) (l : List Lg) (hl : l.length ≤ 9223372036854775807) (k : Nat) (hk : l.length < k) : boring_increasing.f k n0 a b l = some (incV l) := by
 unfold boring_increasing.f incV
 by_cases h0 : l.length = 0
 ·obtain ⟨k, rfl⟩ : ∃ j, k = j + 1 := ⟨k - 1, by omega⟩
  rw [h0]
  have c : ¬ (1 : Int) < (l.length : Int) := by omega
  simp only [boring_increasing.l0, if_neg c]
  rfl
 ·exact inc_k n0 a b l hl (l.length - 1) 1 k (by omega) (by omega) (by omega)
theorem rinc_k (n0 : ByteArray) (a b : Int) (l : List Lg) (hl : l.length ≤ 9223372036854775807) : ∀ d i k, i + d = l.length → 1 ≤ i → d < k → gangsawref14_stacked.l0 k (i : Nat) n0 a b l = some (!(List.range' i d).any (incB l)) := by
 intro d
 induction d with
 | zero =>
  intro i k hi h1 hk
  obtain ⟨k, rfl⟩ : ∃ j, k = j + 1 := ⟨k - 1, by omega⟩
  obtain rfl : i = l.length := by omega
  simp only [gangsawref14_stacked.l0, Int.lt_irrefl, if_false, List.range'_zero, List.any_nil, Bool.not_false]
 | succ d ih =>
  intro i k hi h1 hk
  obtain ⟨k, rfl⟩ : ∃ j, k = j + 1 := ⟨k - 1, by omega⟩
  have c1 : (i : Int) < (l.length : Int) := by omega
  have c2 : (0 : Int) ≤ (i : Int) := by omega
  have e1 : wrap64 ((i : Int) - 1) = ((i - 1 : Nat) : Int) := by rw [wrap_mid _ (by omega) (by omega)]; omega
  have c3 : (0 : Int) ≤ ((i - 1 : Nat) : Int) := by omega
  have c4 : ((i - 1 : Nat) : Int) < (l.length : Int) := by omega
  simp only [gangsawref14_stacked.l0, if_pos c1, if_pos c2, e1, if_pos c3, if_pos c4, rdL_nat, wrap_up i l.length (by omega) hl, List.range'_succ, List.any_cons]
  unfold incB
  by_cases h : (rdl l i).f0 < (rdl l (i - 1)).f1
  ·rw [if_pos h, decide_eq_true h]; rfl
  ·rw [if_neg h, decide_eq_false h, Bool.false_or]; exact ih (i + 1) k (by omega) (by omega) (by omega)
theorem rinc_ev (n0 : ByteArray) (a b : Int) (l : List Lg) (hl : l.length ≤ 9223372036854775807) : Evt (fun k => gangsawref14_stacked.f k n0 a b l) (incV l) := ⟨l.length + 1, fun k hk => by
 show gangsawref14_stacked.f k n0 a b l = _
 unfold gangsawref14_stacked.f incV
 by_cases h0 : l.length = 0
 ·obtain ⟨k, rfl⟩ : ∃ j, k = j + 1 := ⟨k - 1, by omega⟩
  rw [h0]
  have c : ¬ (1 : Int) < (l.length : Int) := by omega
  simp only [gangsawref14_stacked.l0, if_neg c]
  rfl
 ·exact rinc_k n0 a b l hl (l.length - 1) 1 k (by omega) (by omega) (by omega)⟩
def bad1 (x : Lg) : Bool := decide (x.f0 ≥ x.f1) || !(decide (x.f2 = 1) || decide (x.f2 = 2))
def okP (a b : Int) : Prop := -1000000 ≤ a ∧ a ≤ 999999 ∧ -1000000 ≤ b ∧ b ≤ 999999
instance (a b : Int) : Decidable (okP a b) := by unfold okP; infer_instance
theorem bad1_f (x : Lg) : boring_checks_3_1.f x.f0 x.f1 x.f2 = some (bad1 x) := by
 unfold boring_checks_3_1.f bad1
 by_cases h0 : x.f0 ≥ x.f1
 ·rw [if_pos h0, decide_eq_true h0]; rfl
 ·rw [if_neg h0, decide_eq_false h0]
  by_cases h1 : x.f2 = 1
  ·rw [if_pos h1, decide_eq_true h1]; rfl
  ·rw [if_neg h1, decide_eq_false h1]
   by_cases h2 : x.f2 = 2
   ·simp [h2]
   ·simp [h2]
theorem anyO_some_ (p : Lg → Bool) : ∀ l : List Lg, anyO (fun x => some (p x)) l = some (l.any p)
 | [] => rfl
 | x :: r => by
  rw [List.any_cons]
  cases h : p x with
  | true => simp [anyO, h]
  | false => simp [anyO, h, anyO_some_ p r]
theorem some1_f (n0 : ByteArray) (a b : Int) (l : List Lg) (p : Lg → Bool) (q : Lg → Option Bool) (h : ∀ x, q x = some (p x)) : boring_some.f n0 a b l q = some (l.any p) := by
 unfold boring_some.f contains48.f
 rw [show q = fun x => some (p x) from funext h, anyO_some_]
 rfl
end Go.Proofs.YtfedmcehkpfciaaGreat.PBoring
