/-
  Lots that meet a grade and not another one, in plain terms.
-/
import Derived.Test.YtankffbfocaibaaDoorPGradeB
import Derived.Test.YtankffbfocaibaaDoorItoa
import Derived.Test.YtankffbfocaibaaDoorPx2
import Derived.Test.YtankffbfocaibaaDoorPx5
import Derived.KernelRfl
set_option linter.unusedVariables false
set_option linter.unusedSimpArgs false
namespace Go.Proofs.YtankffbfocaibaaDoor.PImplies
open Go.RowKit Go.Proofs.YtankffbfocaibaaDoorW.PrintWords Go.Proofs.YtankffbfocaibaaDoor.Itoa Go.Proofs.YtankffbfocaibaaDoor.P Go.Proofs.YtankffbfocaibaaDoor.Lex Go.Proofs.YtankffbfocaibaaDoor.Rnd Go.Proofs.YtankffbfocaibaaDoor.PTest Go.Proofs.YtankffbfocaibaaDoor.PGrade
/-- the first tests and the other ones of a lot that meets a and not b -/
def lotC (a b : Gr) (n : Int) : Option ((Int × Int) × (Int × Int)) :=
  if n < a.f1 then none
  else if n < b.f1 then some ((1000000, 0), (1000000, 0))
  else if a.f2 < b.f2 then some ((a.f2, 0), (a.f2, 0))
  else if a.f3 > b.f3 then some ((1000000, a.f3), (1000000, a.f3))
  else if a.f1 > b.f1 then (if b.f2 > 0 then some ((0, 0), (1000000, 0)) else if b.f3 < 1000000 then some ((1000000, 1000000), (1000000, 0)) else none)
  else none
def nm (i : Nat) : ByteArray := (⟨#[116]⟩ : ByteArray) ++ dec i
def testV (r : Int) (p : (Int × Int) × (Int × Int)) (i : Nat) : T := ⟨nm i, (if (i : Int) < r - 1 then p.1 else p.2).1, (if (i : Int) < r - 1 then p.1 else p.2).2⟩
def lotV (a b : Gr) (n : Int) : List T := match lotC a b n with
  | none => []
  | some p => (List.range n.toNat).map (testV a.f1 p)
/-- when there is such a lot -/
def exP (a b : Gr) (n : Int) : Bool := decide (a.f1 ≤ n) && (decide (n < b.f1) || (decide (a.f2 < b.f2) || (decide (a.f3 > b.f3) || (decide (a.f1 > b.f1) && (decide (b.f2 > 0) || decide (b.f3 < 1000000))))))
theorem lotC_some (a b : Gr) (n : Int) : (lotC a b n).isSome = exP a b n := by
  unfold lotC exP
  by_cases c1 : n < a.f1
  · simp [c1]; omega
  · rw [if_neg c1]
    have c1' : a.f1 ≤ n := by omega
    by_cases c2 : n < b.f1
    · simp [c1', c2]
    · by_cases c3 : a.f2 < b.f2
      · simp [c1', c2, c3]
      · by_cases c4 : a.f3 > b.f3
        · simp [c1', c2, c3, c4]
        · by_cases c5 : a.f1 > b.f1
          · by_cases c6 : b.f2 > 0
            · simp [c1', c2, c3, c4, c5, c6]
            · by_cases c7 : b.f3 < 1000000 <;> simp [c1', c2, c3, c4, c5, c6, c7]
          · simp [c1', c2, c3, c4, c5]
theorem lotV_nil (a b : Gr) (n : Int) (ha : 1 ≤ a.f1) : lotV a b n = [] ↔ exP a b n = false := by
  rw [← lotC_some]
  unfold lotV
  cases h : lotC a b n with
  | none => simp
  | some p =>
    have : ¬ n < a.f1 := fun h1 => by unfold lotC at h; rw [if_pos h1] at h; cases h
    simp
    omega
theorem lotV_length (a b : Gr) (n : Int) (ha : 1 ≤ a.f1) (h : exP a b n = true) : ((lotV a b n).length : Int) = n := by
  rw [← lotC_some] at h
  unfold lotV
  cases hc : lotC a b n with
  | none => rw [hc] at h; cases h
  | some p =>
    have : ¬ n < a.f1 := fun h1 => by unfold lotC at hc; rw [if_pos h1] at hc; cases hc
    simp
    omega
theorem dec_size (i : Nat) : (dec i).size ≤ 3 := by
  unfold dec decL
  by_cases h1 : i < 10
  · rw [if_pos h1]; exact Nat.le_of_ble_eq_true rfl
  · rw [if_neg h1]
    by_cases h2 : i < 100
    · rw [if_pos h2]; exact Nat.le_of_ble_eq_true rfl
    · rw [if_neg h2]; exact Nat.le_of_ble_eq_true rfl
theorem lot_loop (a : Gr) (p : (Int × Int) × (Int × Int)) (n : Nat) (hn : n ≤ 256) (h1 : 1 ≤ a.f1) (h2 : a.f1 ≤ 256) : ∀ i, i ≤ n → Evt (fun k => grade_lot.l0 k ((List.range i).map (testV a.f1 p)) (n : Int) (i : Nat) a.f0 a.f1 a.f2 a.f3 (⟨#[]⟩ : ByteArray) p.1.1 p.1.2 (⟨#[]⟩ : ByteArray) p.2.1 p.2.2) ((List.range n).map (testV a.f1 p)) := by
  refine down ?_ ?_
  · exact Evt.succ (g := fun _ => some _) (Evt.pure _) (fun k => by simp only [grade_lot.l0, Int.lt_irrefl, if_false])
  · intro i hi ih
    refine Evt.succ ih (fun k => ?_)
    have hd := dec_size i
    have e : (List.range (i + 1)).map (testV a.f1 p) = (List.range i).map (testV a.f1 p) ++ [testV a.f1 p i] := by rw [List.range_succ, List.map_append]; rfl
    have hf : strconv_Itoa.f (i : Int) = some (dec i) := by unfold strconv_Itoa.f; rw [if_pos (by omega), if_pos (by omega), Int.toNat_natCast]
    simp only [grade_lot.l0, hf, Option.bind_some]
    rw [if_pos (by omega), wrap_mid (a.f1 - 1) (by omega) (by omega), wrap_up i n hi (by omega), e]
    unfold testV nm
    by_cases c : (i : Int) < a.f1 - 1
    · rw [if_pos c, if_pos (by omega), if_pos (by simp; omega), if_pos c]
    · rw [if_neg c, if_pos (by omega), if_pos (by simp; omega), if_neg c]
theorem lot_j1 (a : Gr) (p : (Int × Int) × (Int × Int)) (n : Int) (h0 : 0 ≤ n) (hn : n ≤ 256) (h1 : 1 ≤ a.f1) (h2 : a.f1 ≤ 256) : Evt (fun k => grade_lot.j1 k n a.f0 a.f1 a.f2 a.f3 (⟨#[]⟩ : ByteArray) p.1.1 p.1.2 (⟨#[]⟩ : ByteArray) p.2.1 p.2.2) ((List.range n.toNat).map (testV a.f1 p)) := by
  have h := lot_loop a p n.toNat (by omega) h1 h2 0 (by omega)
  rw [show ((n.toNat : Nat) : Int) = n by omega] at h
  exact Evt.succ h (fun k => by simp only [grade_lot.j1]; rfl)
theorem lot_ev (a b : Gr) (n : Int) (hn : n ≤ 256) (h1 : 1 ≤ a.f1) (h2 : a.f1 ≤ 256) : Evt (fun k => grade_lot.f k a.f0 a.f1 a.f2 a.f3 b.f0 b.f1 b.f2 b.f3 n) (lotV a b n) := by
  unfold grade_lot.f lotV lotC
  by_cases c1 : n < a.f1
  · simp only [if_pos c1]; exact Evt.pure _
  · simp only [if_neg c1]
    have h0 : 0 ≤ n := by omega
    by_cases c2 : n < b.f1
    · simp only [if_pos c2]; exact lot_j1 a ((1000000, 0), (1000000, 0)) n h0 hn h1 h2
    · simp only [if_neg c2]
      by_cases c3 : a.f2 < b.f2
      · simp only [if_pos c3]; exact lot_j1 a ((a.f2, 0), (a.f2, 0)) n h0 hn h1 h2
      · simp only [if_neg c3]
        by_cases c4 : a.f3 > b.f3
        · simp only [if_pos c4]; exact lot_j1 a ((1000000, a.f3), (1000000, a.f3)) n h0 hn h1 h2
        · simp only [if_neg c4]
          by_cases c5 : a.f1 > b.f1
          · simp only [if_pos c5]
            by_cases c6 : b.f2 > 0
            · simp only [if_pos c6]
              refine Evt.succ (lot_j1 a ((0, 0), (1000000, 0)) n h0 hn h1 h2) (fun k => ?_)
              simp only [grade_lot.j0, decide_eq_true c6, if_true]
            · simp only [if_neg c6]
              by_cases c7 : b.f3 < 1000000
              · simp only [if_pos c7]
                refine Evt.succ (lot_j1 a ((1000000, 1000000), (1000000, 0)) n h0 hn h1 h2) (fun k => ?_)
                simp only [grade_lot.j0, decide_eq_false c6, Bool.false_eq_true, if_false, if_pos c5, if_pos c7]
              · simp only [if_neg c7]
                refine Evt.succ (Evt.pure _) (fun k => ?_)
                simp only [grade_lot.j0, decide_eq_false c6, Bool.false_eq_true, if_false, if_pos c5, if_neg c7]
          · simp only [if_neg c5]
            refine Evt.succ (Evt.pure _) (fun k => ?_)
            simp only [grade_lot.j0, Bool.false_eq_true, if_false, if_neg c5]
theorem exP_up {a b : Gr} {n : Int} (h : exP a b n = true) : exP a b a.f1 = true := by
  unfold exP at *
  simp only [Bool.and_eq_true, Bool.or_eq_true, decide_eq_true_eq] at *
  omega
theorem filter_range (q : T → Bool) (f : Nat → T) (c : Nat) (x y : Bool) (hx : ∀ i, i < c → q (f i) = x) (hy : ∀ i, c ≤ i → q (f i) = y) : ∀ n : Nat, (((List.range n).map f).filter q).length = (if x = true then min c n else 0) + (if y = true then n - min c n else 0)
  | 0 => by simp
  | n + 1 => by
    rw [List.range_succ, List.map_append, List.filter_append, List.length_append, filter_range q f c x y hx hy n]
    by_cases h : n < c
    · have e := hx n h
      cases x <;> cases y <;> simp [e] <;> omega
    · have e := hy n (by omega)
      cases x <;> cases y <;> simp [e] <;> omega
theorem weak_range (r : Int) (p : (Int × Int) × (Int × Int)) (s : Int) (n : Nat) : weakN ((List.range n).map (testV r p)) s = (if decide (p.1.1 < s) = true then min (r - 1).toNat n else 0) + (if decide (p.2.1 < s) = true then n - min (r - 1).toNat n else 0) := by
  unfold weakN
  refine filter_range _ _ (r - 1).toNat _ _ (fun i hi => ?_) (fun i hi => ?_) n
  · unfold testV; rw [if_pos (by omega)]
  · unfold testV; rw [if_neg (by omega)]
theorem wet_range (r : Int) (p : (Int × Int) × (Int × Int)) (s : Int) (n : Nat) : wetN ((List.range n).map (testV r p)) s = (if decide (p.1.2 > s) = true then min (r - 1).toNat n else 0) + (if decide (p.2.2 > s) = true then n - min (r - 1).toNat n else 0) := by
  unfold wetN
  refine filter_range _ _ (r - 1).toNat _ _ (fun i hi => ?_) (fun i hi => ?_) n
  · unfold testV; rw [if_pos (by omega)]
  · unfold testV; rw [if_neg (by omega)]
def okG (g : Gr) : Prop := 1 ≤ g.f1 ∧ g.f1 ≤ 256 ∧ 0 ≤ g.f2 ∧ g.f2 ≤ 1000000 ∧ 0 ≤ g.f3 ∧ g.f3 ≤ 1000000
theorem lotC_ok {a b : Gr} {n : Int} {p : (Int × Int) × (Int × Int)} (ha : okG a) (h : lotC a b n = some p) : (0 ≤ p.1.1 ∧ p.1.1 ≤ 1000000 ∧ 0 ≤ p.1.2 ∧ p.1.2 ≤ 1000000) ∧ (0 ≤ p.2.1 ∧ p.2.1 ≤ 1000000 ∧ 0 ≤ p.2.2 ∧ p.2.2 ≤ 1000000) ∧ a.f1 ≤ n := by
  obtain ⟨h1, h2, h3, h4, h5, h6⟩ := ha
  unfold lotC at h
  by_cases c1 : n < a.f1
  · rw [if_pos c1] at h; cases h
  · rw [if_neg c1] at h
    split at h
    · cases h; simp; omega
    · split at h
      · cases h; simp; omega
      · split at h
        · cases h; simp; omega
        · split at h
          · split at h
            · cases h; simp; omega
            · split at h
              · cases h; simp; omega
              · cases h
          · cases h
theorem met_a {a b : Gr} {n : Int} (ha : okG a) (h : exP a b n = true) : metV a (lotV a b n) = true := by
  have hl := lotV_length a b n ha.1 h
  rw [← lotC_some] at h
  unfold metV
  obtain ⟨h1, h2, h3, h4, h5, h6⟩ := ha
  cases hc : lotC a b n with
  | none => rw [hc] at h; cases h
  | some p =>
    have e : lotV a b n = (List.range n.toNat).map (testV a.f1 p) := by unfold lotV; rw [hc]
    rw [hl, e, weak_range, wet_range]
    unfold lotC at hc
    by_cases c1 : n < a.f1
    · rw [if_pos c1] at hc; cases hc
    · rw [if_neg c1] at hc
      simp only [Bool.and_eq_true, decide_eq_true_eq]
      split at hc
      · cases hc; refine ⟨by omega, ?_, ?_⟩ <;> simp only [decide_eq_true_eq] <;> (repeat' split) <;> omega
      · split at hc
        · cases hc; refine ⟨by omega, ?_, ?_⟩ <;> simp only [decide_eq_true_eq] <;> (repeat' split) <;> omega
        · split at hc
          · cases hc; refine ⟨by omega, ?_, ?_⟩ <;> simp only [decide_eq_true_eq] <;> (repeat' split) <;> omega
          · split at hc
            · split at hc
              · cases hc; refine ⟨by omega, ?_, ?_⟩ <;> simp only [decide_eq_true_eq] <;> (repeat' split) <;> omega
              · split at hc
                · cases hc; refine ⟨by omega, ?_, ?_⟩ <;> simp only [decide_eq_true_eq] <;> (repeat' split) <;> omega
                · cases hc
            · cases hc
theorem met_b {a b : Gr} {n : Int} (ha : okG a) (hb : okG b) (h : exP a b n = true) : metV b (lotV a b n) = false := by
  have hl := lotV_length a b n ha.1 h
  rw [← lotC_some] at h
  obtain ⟨h1, h2, h3, h4, h5, h6⟩ := ha
  obtain ⟨g1, g2, g3, g4, g5, g6⟩ := hb
  cases hm : metV b (lotV a b n) with
  | false => rfl
  | true =>
    exfalso
    unfold metV at hm
    cases hc : lotC a b n with
    | none => rw [hc] at h; cases h
    | some p =>
      have e : lotV a b n = (List.range n.toNat).map (testV a.f1 p) := by unfold lotV; rw [hc]
      rw [hl, e, weak_range, wet_range] at hm
      simp only [Bool.and_eq_true, decide_eq_true_eq] at hm
      obtain ⟨m1, m2, m3⟩ := hm
      unfold lotC at hc
      by_cases c1 : n < a.f1
      · rw [if_pos c1] at hc; cases hc
      · rw [if_neg c1] at hc
        split at hc
        · omega
        · split at hc
          · rename_i c2 c3
            cases hc
            simp only [c3, if_true] at m2
            omega
          · split at hc
            · rename_i c2 c3 c4
              cases hc
              simp only [c4, if_true] at m3
              omega
            · split at hc
              · split at hc
                · rename_i c2 c3 c4 c5 c6
                  cases hc
                  simp only [show (0 : Int) < b.f2 from c6, if_true] at m2
                  omega
                · split at hc
                  · rename_i c2 c3 c4 c5 c6 c7
                    cases hc
                    simp only [show (1000000 : Int) > b.f3 from c7, if_true] at m3
                    omega
                  · cases hc
              · cases hc
def und (b : ByteArray) : Nat := b.data.toList.foldl (fun s c => s * 10 + (c.toNat - 48)) 0
def allN (p : Nat → Bool) : Nat → Bool
  | 0 => true
  | n + 1 => p n && allN p n
theorem allN_spec {p : Nat → Bool} : ∀ {n : Nat}, allN p n = true → ∀ i, i < n → p i = true
  | 0, _, i, h => by omega
  | n + 1, h, i, hi => by
    rw [allN, Bool.and_eq_true] at h
    by_cases c : i = n
    · subst c; exact h.1
    · exact allN_spec h.2 i (by omega)
theorem und_all : allN (fun i => Nat.beq (und (nm i)) (i + 68 * 10 ^ (dec i).size)) 256 = true := by kernel_rfl
theorem name_all : allN (fun i => nameB (nm i)) 256 = true := by kernel_rfl
theorem nm_inj {i j : Nat} (hi : i < 256) (hj : j < 256) (h : nm i = nm j) : i = j := by
  have h1 := Nat.eq_of_beq_eq_true (allN_spec und_all i hi)
  have h2 := Nat.eq_of_beq_eq_true (allN_spec und_all j hj)
  have h3 : (nm i).size = 1 + (dec i).size := by unfold nm; rw [ByteArray.size_append]; rfl
  have h4 : (nm j).size = 1 + (dec j).size := by unfold nm; rw [ByteArray.size_append]; rfl
  have h5 : (dec i).size = (dec j).size := by rw [h] at h3; omega
  rw [h, h2, h5] at h1
  omega
theorem lot_check {a b : Gr} {n : Int} (hn : n ≤ 256) (ha : okG a) : checkV (lotV a b n) = 0 := by
  unfold lotV
  cases hc : lotC a b n with
  | none => rfl
  | some p =>
    obtain ⟨⟨p1, p2, p3, p4⟩, ⟨p5, p6, p7, p8⟩, p9⟩ := lotC_ok ha hc
    show checkV ((List.range n.toNat).map (testV a.f1 p)) = 0
    have e1 : ((List.range n.toNat).map (testV a.f1 p)).any badN = false := by
      rw [List.any_eq_false]
      intro t ht
      obtain ⟨i, hi, rfl⟩ := List.mem_map.1 ht
      have hi := List.mem_range.1 hi
      have := allN_spec name_all i (by omega)
      simp only [badN, testV, this]
      decide
    have e2 : ((List.range n.toNat).map (testV a.f1 p)).any badR = false := by
      rw [List.any_eq_false]
      intro t ht
      obtain ⟨i, hi, rfl⟩ := List.mem_map.1 ht
      unfold badR testV
      by_cases c : (i : Int) < a.f1 - 1
      · simp only [if_pos c]; simp; omega
      · simp only [if_neg c]; simp; omega
    have e3 : dupV ((List.range n.toNat).map (testV a.f1 p)) = false := by
      unfold dupV
      rw [List.any_eq_false]
      intro i hi
      rw [List.mem_range'_1] at hi
      have hi2 : i < n.toNat := by simpa using hi
      unfold dupAt
      rw [Bool.not_eq_true, List.any_eq_false]
      intro t ht
      rw [← List.map_take, List.take_range] at ht
      obtain ⟨j, hj, rfl⟩ := List.mem_map.1 ht
      have hj := List.mem_range.1 hj
      rw [show ((List.range n.toNat).map (testV a.f1 p)).getD i zT = testV a.f1 p i by simp [hi2]]
      simp only [testV, beq_iff_eq]
      intro h
      have := nm_inj (by omega) (by omega) h
      omega
    unfold checkV
    rw [e1, e2, e3]
    simp
    omega
end Go.Proofs.YtankffbfocaibaaDoor.PImplies
