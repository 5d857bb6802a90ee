/-
  Lots that meet a grade and not another one, in plain terms.
-/
import Derived.Test.YtankffbfocaibaaDoorPGradeB
import Derived.Test.YtankffbfocaibaaDoorItoa
import Derived.Test.YtankffbfocaibaaDoorPx2
import Derived.Test.YtankffbfocaibaaDoorPx5
import Derived.KernelRfl
set_option linter.unusedVariables false
set_option linter.unusedSimpArgs false
namespace Go.Proofs.YtankffbfocaibaaDoor.PImplies
open Go.RowKit Go.Proofs.YtankffbfocaibaaDoorW.PrintWords Go.Proofs.YtankffbfocaibaaDoor.Itoa Go.Proofs.YtankffbfocaibaaDoor.P Go.Proofs.YtankffbfocaibaaDoor.Lex Go.Proofs.YtankffbfocaibaaDoor.Rnd Go.Proofs.YtankffbfocaibaaDoor.PTest Go.Proofs.YtankffbfocaibaaDoor.PGrade
/-- the first tests and the other ones of a lot that meets a and not b -/
def lotC (a b : Gr) (n : Int) : Option ((Int × Int) × (Int × Int)) :=
  if n < a.f1 then none
  else if n < b.f1 then some ((1000000, 0), (1000000, 0))
  else if a.f2 < b.f2 then some ((a.f2, 0), (a.f2, 0))
  else if a.f3 > b.f3 then some ((1000000, a.f3), (1000000, a.f3))
  else if a.f1 > b.f1 then (if b.f2 > 0 then some ((0, 0), (1000000, 0)) else if b.f3 < 1000000 then some ((1000000, 1000000), (1000000, 0)) else none)
  else none
def nm (i : Nat) : ByteArray := (⟨#[116]⟩ : ByteArray) ++ dec i
def testV (r : Int) (p : (Int × Int) × (Int × Int)) (i : Nat) : T := ⟨nm i, (if (i : Int) < r - 1 then p.1 else p.2).1, (if (i : Int) < r - 1 then p.1 else p.2).2⟩
def lotV (a b : Gr) (n : Int) : List T := match lotC a b n with
  | none => []
  | some p => (List.range n.toNat).map (testV a.f1 p)
/-- when there is such a lot -/
def exP (a b : Gr) (n : Int) : Bool := decide (a.f1 ≤ n) && (decide (n < b.f1) || (decide (a.f2 < b.f2) || (decide (a.f3 > b.f3) || (decide (a.f1 > b.f1) && (decide (b.f2 > 0) || decide (b.f3 < 1000000))))))
theorem lotC_some (a b : Gr) (n : Int) : (lotC a b n).isSome = exP a b n := by
  unfold lotC exP
  by_cases c1 : n < a.f1
  · simp [c1]; omega
  · rw [if_neg c1]
    have c1' : a.f1 ≤ n := by omega
    by_cases c2 : n < b.f1
    · simp [c1', c2]
    · by_cases c3 : a.f2 < b.f2
      · simp [c1', c2, c3]
      · by_cases c4 : a.f3 > b.f3
        · simp [c1', c2, c3, c4]
        · by_cases c5 : a.f1 > b.f1
          · by_cases c6 : b.f2 > 0
            · simp [c1', c2, c3, c4, c5, c6]
            · by_cases c7 : b.f3 < 1000000 <;> simp [c1', c2, c3, c4, c5, c6, c7]
          · simp [c1', c2, c3, c4, c5]
theorem lotV_nil (a b : Gr) (n : Int) (ha : 1 ≤ a.f1) : lotV a b n = [] ↔ exP a b n = false := by
  rw [← lotC_some]
  unfold lotV
  cases h : lotC a b n with
  | none => simp
  | some p =>
    have : ¬ n < a.f1 := fun h1 => by unfold lotC at h; rw [if_pos h1] at h; cases h
    simp
    omega
theorem lotV_length (a b : Gr) (n : Int) (ha : 1 ≤ a.f1) (h : exP a b n = true) : ((lotV a b n).length : Int) = n := by
  rw [← lotC_some] at h
  unfold lotV
  cases hc : lotC a b n with
  | none => rw [hc] at h; cases h
  | some p =>
    have : ¬ n < a.f1 := fun h1 => by unfold lotC at hc; rw [if_pos h1] at hc; cases hc
    simp
    omega
theorem dec_size (i : Nat) : (dec i).size ≤ 3 := by
  unfold dec decL
  by_cases h1 : i < 10
  · rw [if_pos h1]; exact Nat.le_of_ble_eq_true rfl
  · rw [if_neg h1]
    by_cases h2 : i < 100
    · rw [if_pos h2]; exact Nat.le_of_ble_eq_true rfl
    · rw [if_neg h2]; exact Nat.le_of_ble_eq_true rfl
theorem lot_loop (a : Gr) (p : (Int × Int) × (Int × Int)) (n : Nat) (hn : n ≤ 256) (h1 : 1 ≤ a.f1) (h2 : a.f1 ≤ 256) : ∀ i, i ≤ n → Evt (fun k => grade_lot.l0 k ((List.range i).map (testV a.f1 p)) (n : Int) (i : Nat) a.f0 a.f1 a.f2 a.f3 (⟨#[]⟩ : ByteArray) p.1.1 p.1.2 (⟨#[]⟩ : ByteArray) p.2.1 p.2.2) ((List.range n).map (testV a.f1 p)) := by
  refine down ?_ ?_
  · exact Evt.succ (g := fun _ => some _) (Evt.pure _) (fun k => by simp only [grade_lot.l0, Int.lt_irrefl, if_false])
  · intro i hi ih
    refine Evt.succ ih (fun k => ?_)
    have hd := dec_size i
    have e : (List.range (i + 1)).map (testV a.f1 p) = (List.range i).map (testV a.f1 p) ++ [testV a.f1 p i] := by rw [List.range_succ, List.map_append]; rfl
    have hf : strconv_Itoa.f (i : Int) = some (dec i) := by unfold strconv_Itoa.f; rw [if_pos (by omega), if_pos (by omega), Int.toNat_natCast]
    simp only [grade_lot.l0, hf, Option.bind_some]
    rw [if_pos (by omega), wrap_mid (a.f1 - 1) (by omega) (by omega), wrap_up i n hi (by omega), e]
    unfold testV nm
    by_cases c : (i : Int) < a.f1 - 1
    · rw [if_pos c, if_pos (by omega), if_pos (by simp; omega), if_pos c]
    · rw [if_neg c, if_pos (by omega), if_pos (by simp; omega), if_neg c]
theorem lot_j1 (a : Gr) (p : (Int × Int) × (Int × Int)) (n : Int) (h0 : 0 ≤ n) (hn : n ≤ 256) (h1 : 1 ≤ a.f1) (h2 : a.f1 ≤ 256) : Evt (fun k => grade_lot.j1 k n a.f0 a.f1 a.f2 a.f3 (⟨#[]⟩ : ByteArray) p.1.1 p.1.2 (⟨#[]⟩ : ByteArray) p.2.1 p.2.2) ((List.range n.toNat).map (testV a.f1 p)) := by
  have h := lot_loop a p n.toNat (by omega) h1 h2 0 (by omega)
  rw [show ((n.toNat : Nat) : Int) = n by omega] at h
  exact Evt.succ h (fun k => by simp only [grade_lot.j1]; rfl)
theorem lot_ev (a b : Gr) (n : Int) (hn : n ≤ 256) (h1 : 1 ≤ a.f1) (h2 : a.f1 ≤ 256) : Evt (fun k => grade_lot.f k a.f0 a.f1 a.f2 a.f3 b.f0 b.f1 b.f2 b.f3 n) (lotV a b n) := by
  unfold grade_lot.f lotV lotC
  by_cases c1 : n < a.f1
  · simp only [if_pos c1]; exact Evt.pure _
  · simp only [if_neg c1]
    have h0 : 0 ≤ n := by omega
    by_cases c2 : n < b.f1
    · simp only [if_pos c2]; exact lot_j1 a ((1000000, 0), (1000000, 0)) n h0 hn h1 h2
    · simp only [if_neg c2]
      by_cases c3 : a.f2 < b.f2
      · simp only [if_pos c3]; exact lot_j1 a ((a.f2, 0), (a.f2, 0)) n h0 hn h1 h2
      · simp only [if_neg c3]
        by_cases c4 : a.f3 > b.f3
        · simp only [if_pos c4]; exact lot_j1 a ((1000000, a.f3), (1000000, a.f3)) n h0 hn h1 h2
        · simp only [if_neg c4]
          by_cases c5 : a.f1 > b.f1
          · simp only [if_pos c5]
            by_cases c6 : b.f2 > 0
            · simp only [if_pos c6]
              refine Evt.succ (lot_j1 a ((0, 0), (1000000, 0)) n h0 hn h1 h2) (fun k => ?_)
              simp only [grade_lot.j0, decide_eq_true c6, if_true]
            · simp only [if_neg c6]
              by_cases c7 : b.f3 < 1000000
              · simp only [if_pos c7]
                refine Evt.succ (lot_j1 a ((1000000, 1000000), (1000000, 0)) n h0 hn h1 h2) (fun k => ?_)
                simp only [grade_lot.j0, decide_eq_false c6, Bool.false_eq_true, if_false, if_pos c5, if_pos c7]
              · simp only [if_neg c7]
                refine Evt.succ (Evt.pure _) (fun k => ?_)
                simp only [grade_lot.j0, decide_eq_false c6, Bool.false_eq_true, if_false, if_pos c5, if_neg c7]
          · simp only [if_neg c5]
            refine Evt.succ (Evt.pure _) (fun k => ?_)
            simp only [grade_lot.j0, Bool.false_eq_true, if_false, if_neg c5]
theorem mn_le (x y : Int) (h : x ≤ y) : mn x y = x := by unfold mn; omega
theorem exists_f (a b : Gr) (n : Int) (h1 : 1 ≤ a.f1) (h2 : a.f1 ≤ 256) (h3 : 1 ≤ b.f1) : gangsawref34_Exists.f a.f0 a.f1 a.f2 a.f3 b.f0 b.f1 b.f2 b.f3 n = some (exP a b n) := by
  unfold gangsawref34_Exists.f exP
  by_cases c1 : n < a.f1
  · rw [if_pos c1]
    have : ¬ a.f1 ≤ n := by omega
    simp [this]
  · rw [if_neg c1]
    have c1' : a.f1 ≤ n := by omega
    have hm : ∀ s f : Bool, gangsawref34_most.f a.f1 n s f = some (if s = true then n else if f = true then a.f1 - 1 else 0) := fun s f => by
      unfold gangsawref34_most.f
      rw [wrap_mid (a.f1 - 1) (by omega) (by omega), mn_le (a.f1 - 1) n (by omega)]
      cases s <;> cases f <;> rfl
    simp only [hm, Option.bind_some]
    by_cases c2 : n < b.f1
    · simp [c1', c2]
    · have c2' : n ≥ b.f1 := by omega
      by_cases c3 : a.f2 < b.f2
      · simp [c1', c2, c2', c3]
      · by_cases c4 : a.f3 > b.f3
        · by_cases d1 : b.f2 > 0 <;> by_cases d2 : a.f1 - 1 ≥ b.f1 <;> simp [c1', c2, c2', c3, c4, d1, d2] <;> omega
        · have d1 : ¬ (b.f2 > a.f2) := by omega
          have d2 : ¬ (b.f3 < a.f3) := by omega
          have d3 : (a.f1 - 1 ≥ b.f1) = (a.f1 > b.f1) := by apply propext; omega
          have d4 : ¬ ((0 : Int) ≥ b.f1) := by omega
          by_cases c6 : b.f2 > 0 <;> by_cases c7 : b.f3 < 1000000 <;> by_cases c5 : a.f1 > b.f1 <;>
            simp only [decide_eq_true c1', decide_eq_false c2, decide_eq_false c3, decide_eq_false c4, c5, c6, c7, d1, d2, d3, d4, if_neg c2, decide_true, decide_false, if_true, if_false, Bool.true_and, Bool.false_or, Bool.or_true, Bool.or_false, Bool.and_true, Bool.and_false, Bool.true_or, Bool.false_eq_true]
theorem exP_up {a b : Gr} {n : Int} (h : exP a b n = true) : exP a b a.f1 = true := by
  unfold exP at *
  simp only [Bool.and_eq_true, Bool.or_eq_true, decide_eq_true_eq] at *
  omega
def okG (g : Gr) : Prop := 1 ≤ g.f1 ∧ g.f1 ≤ 256 ∧ 0 ≤ g.f2 ∧ g.f2 ≤ 1000000 ∧ 0 ≤ g.f3 ∧ g.f3 ≤ 1000000
end Go.Proofs.YtankffbfocaibaaDoor.PImplies
