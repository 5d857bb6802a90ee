/-
  machine.Check and the reference's Check agree; which machines do a kind of work.
-/
import Derived.Test.YtpfggghpkdnppaaPName
import Derived.Test.YtpfggghpkdnppaaKs
import Derived.Test.YtpfggghpkdnppaaPx2
import Derived.Test.YtpfggghpkdnppaaPx12
import Derived.Test.YtpfggghpkdnppaaPx13
import Derived.Test.YtpfggghpkdnppaaPx10
set_option linter.unusedVariables false
set_option linter.unusedSimpArgs false
namespace Go.Proofs.Ytpfggghpkdnppaa.PMach
open Go.RowKit Go.Proofs.YtpfggghpkdnppaaW.PrintWords Go.Proofs.Ytpfggghpkdnppaa.P Go.Proofs.Ytpfggghpkdnppaa.Rnd Go.Proofs.Ytpfggghpkdnppaa.Lex Go.Proofs.Ytpfggghpkdnppaa.PName Go.Proofs.Ytpfggghpkdnppaa.Open Go.Proofs.Ytpfggghpkdnppaa.Ks Go.Proofs.Ytpfggghpkdnppaa.Hof

def inB (n lo hi : Int) : Bool := decide (lo ≤ n) && decide (n ≤ hi)
theorem in_f (n lo hi : Int) : machine_in.f n lo hi = some (inB n lo hi) := by unfold machine_in.f inB; grind
theorem name_f (s : ByteArray) : lexer_Name.f s = some (nameB s) := rfl
theorem rd34_at (l : List S34) (i : Nat) (h : i < l.length) : rd_T34 l (i : Int) = l[i] := getD_at l _ i h
theorem anyO_some {α : Type} (q : α → Bool) (l : List α) : anyO (fun x => some (q x)) l = some (l.any q) := by
  induction l with
  | nil => rfl
  | cons x l ih => simp only [anyO, List.any_cons]; cases h : q x <;> simp [ih]
def unnamedM (m : S34) : Bool := !nameB m.f0 || !nameB m.f1
def lessB (a b : ByteArray) : Bool := Op.bytesLess a.toList b.toList
def adjBad (l : List S34) (i : Nat) : Bool := !lessB (l.getD (i - 1) z34).f0 (l.getD i z34).f0
def sortedM (l : List S34) : Bool := !(List.range' 1 (l.length - 1)).any (adjBad l)
def checkV (l : List S34) : Int :=
  if l.length > 32 then 7 else if l.any unnamedM then 4 else if l.any (fun m => !inB m.f2 0 100000) then 6 else if sortedM l then 0 else 5
theorem adj_loop {F : Nat → Int → Option Int} (l : List S34) (hl : l.length ≤ 9223372036854775807) (r v : Int) (hend : ∀ i : Int, (l.length : Int) ≤ i → Evt (fun k => F k i) v)
    (hbad : ∀ i, 1 ≤ i → i < l.length → adjBad l i = true → Evt (fun k => F k (i : Nat)) r) (hgo : ∀ i, 1 ≤ i → i < l.length → adjBad l i = false → ∀ v, Evt (fun k => F k ((i + 1 : Nat) : Int)) v → Evt (fun k => F k (i : Nat)) v) :
    Evt (fun k => F k 1) (if sortedM l then v else r) := by
  have e : (if sortedM l then v else r) = (if (List.range' 1 (l.length - 1)).any (adjBad l) then r else v) := by
    unfold sortedM; cases (List.range' 1 (l.length - 1)).any (adjBad l) <;> rfl
  rw [e]
  by_cases hn : l.length = 0
  · have : (List.range' 1 (l.length - 1)).any (adjBad l) = false := by simp [hn]
    rw [this]
    exact hend 1 (by omega)
  · have key : ∀ i, i ≤ l.length → 1 ≤ i → Evt (fun k => F k (i : Nat)) (if (List.range' i (l.length - i)).any (adjBad l) then r else v) := by
      refine down ?_ ?_
      · intro _; simp only [Nat.sub_self, List.range'_zero, List.any_nil, Bool.false_eq_true, if_false]; exact hend _ (Int.le_refl _)
      · intro i hi ih h1
        have e : l.length - i = (l.length - (i + 1)) + 1 := by omega
        rw [e, List.range'_succ, List.any_cons]
        cases hb : adjBad l i with
        | true => rw [Bool.true_or, if_pos rfl]; exact hbad i h1 hi hb
        | false => rw [Bool.false_or]; exact hgo i h1 hi hb _ (ih (by omega))
    exact key 1 (by omega) (Nat.le_refl _)
theorem wrap_prev (i : Nat) (h1 : 1 ≤ i) (h : i ≤ 9223372036854775807) : wrap64 ((i : Int) - 1) = ((i - 1 : Nat) : Int) := by rw [wrap_mid] <;> omega
theorem check_adj (l : List S34) (hl : l.length ≤ 9223372036854775807) : Evt (fun k => machine_Check.l0 k l 1) (if sortedM l then 0 else 5) := by
  refine adj_loop (F := fun k i => machine_Check.l0 k l i) l hl 5 0 ?_ ?_ ?_
  · intro i hi
    refine Evt.succ (g := fun _ => some 0) (Evt.pure _) (fun k => ?_)
    simp only [machine_Check.l0]
    rw [if_neg (by omega)]
  · intro i h1 hi hb
    refine Evt.succ (g := fun _ => some 5) (Evt.pure _) (fun k => ?_)
    simp only [machine_Check.l0, wrap_prev i h1 (by omega), rd34_at l i hi, rd34_at l (i - 1) (by omega)]
    have hb' : lessB l[i - 1].f0 l[i].f0 = false := by
      unfold adjBad at hb
      rw [getD_nat _ _ _ hi, getD_nat _ _ _ (show i - 1 < l.length by omega)] at hb
      simpa using hb
    unfold lessB at hb'
    rw [if_pos (by omega), if_pos (by omega), if_pos (by omega), if_pos (by omega), hb']; rfl
  · intro i h1 hi hb v hv
    refine Evt.succ hv (fun k => ?_)
    simp only [machine_Check.l0, wrap_prev i h1 (by omega), rd34_at l i hi, rd34_at l (i - 1) (by omega)]
    have hb' : lessB l[i - 1].f0 l[i].f0 = true := by
      unfold adjBad at hb
      rw [getD_nat _ _ _ hi, getD_nat _ _ _ (show i - 1 < l.length by omega)] at hb
      simpa using hb
    unfold lessB at hb'
    rw [if_pos (by omega), if_pos (by omega), if_pos (by omega), if_pos (by omega), hb', if_pos rfl, wrap_up i l.length hi hl]
theorem unnamed_f (m : S34) : machine_Check_1.f m.f0 m.f1 m.f2 = some (unnamedM m) := by
  unfold machine_Check_1.f unnamedM; simp only [name_f, Option.bind_some]; cases nameB m.f0 <;> cases nameB m.f1 <;> rfl
theorem range_f (m : S34) : machine_Check_2.f m.f0 m.f1 m.f2 = some (!inB m.f2 0 100000) := by
  unfold machine_Check_2.f; simp only [in_f, Option.bind_some]
theorem check_ev (l : List S34) (hl : l.length ≤ 9223372036854775807) : Evt (fun k => machine_Check.f k l) (checkV l) := by
  unfold machine_Check.f checkV contains34.f
  have h1 : ((l.length : Int) > 32) ↔ l.length > 32 := by omega
  simp only [h1, unnamed_f, range_f, anyO_some, Option.bind_some]
  by_cases c : l.length > 32
  · simp only [if_pos c]; exact Evt.pure _
  simp only [if_neg c]
  cases l.any unnamedM with
  | true => exact Evt.pure _
  | false =>
    simp only [Bool.false_eq_true, if_false]
    cases l.any (fun m => !inB m.f2 0 100000) with
    | true => exact Evt.pure _
    | false => exact check_adj l hl
def whoV (l : List S34) (w : ByteArray) (i : Nat) : List Int := (List.range' i (l.length - i)).filterMap fun j => if (l.getD j z34).f1.toList = w.toList then some (j : Int) else none
theorem whoV_step (l : List S34) (w : ByteArray) (i : Nat) (h : i < l.length) : whoV l w i = (if l[i].f1.toList = w.toList then [(i : Int)] else []) ++ whoV l w (i + 1) := by
  unfold whoV
  have e : l.length - i = (l.length - (i + 1)) + 1 := by omega
  rw [e, List.range'_succ, List.filterMap_cons, getD_nat _ _ _ h]
  by_cases c : l[i].f1.toList = w.toList <;> simp [c]
theorem can_rounds (l : List S34) (w : ByteArray) (hl : l.length ≤ 1000000) : ∀ i, i ≤ l.length → ∀ acc : List Int, acc.length ≤ i → ∀ k, l.length - i < k → machine_can.l0 k w acc l (l.length : Int) i = some (acc ++ whoV l w i) := by
  refine down ?_ ?_
  · intro acc _ k hk
    obtain ⟨k, rfl⟩ : ∃ j, k = j + 1 := ⟨k - 1, by omega⟩
    have : whoV l w l.length = [] := by simp [whoV]
    simp only [machine_can.l0, Int.lt_irrefl, if_false, this, List.append_nil]
  · intro i hi ih acc hacc k hk
    obtain ⟨k, rfl⟩ : ∃ j, k = j + 1 := ⟨k - 1, by omega⟩
    simp only [machine_can.l0, rd34_at l i hi]
    rw [whoV_step l w i hi, if_pos (by omega), if_pos (by omega), if_pos (by omega), wrap_up i l.length hi (by omega)]
    by_cases c : l[i].f1.toList = w.toList
    · rw [if_pos c, if_pos c, if_pos (by omega), ih (acc ++ [(i : Int)]) (by simp; omega) k (by omega), List.append_assoc]
    · rw [if_neg c, if_neg c, ih acc (by omega) k (by omega), List.nil_append]
theorem can_f (l : List S34) (w : ByteArray) (hl : l.length ≤ 1000000) : machine_can_N.f l w = some (whoV l w 0) := by
  unfold machine_can_N.f machine_can.f
  exact can_rounds l w hl 0 (by omega) [] (by simp) _ (by omega)
theorem rd47_at (l : List S47) (i : Nat) (h : i < l.length) : rd_T47 l (i : Int) = l[i] := getD_at l _ i h
theorem rd36_at (l : List S36) (i : Nat) (h : i < l.length) : rd_T36 l (i : Int) = l[i] := getD_at l _ i h
def bigM (m : S34) : Bool := decide (100 < m.f0.size) || decide (100 < m.f1.size)
def bigJ (j : S47) : Bool := decide (20 < j.f1.length) || decide (100 < j.f0.size) || j.f1.any fun s => decide (100 < s.f0.size)
def smallV (l : List S34) (js : List S47) : Bool :=
  if 40 < l.length ∨ (12 < js.length ∧ (js.length ≤ 128 ∨ 132 < js.length)) then false else if l.any bigM then false else !js.any bigJ
theorem small_jobs (js : List S47) (hj : js.length ≤ 9223372036854775807) : Evt (fun k => gangsawref49_Small.l1 k js 0) (!js.any bigJ) := by
  have e : (!js.any bigJ) = (if js.any bigJ then false else true) := by cases js.any bigJ <;> rfl
  rw [e]
  have ibad : ∀ i (hi : i < js.length), js[i].f1.length ≤ 20 → ∀ n (hn : n < js[i].f1.length), decide (100 < js[i].f1[n].f0.size) = true → Evt (fun k => gangsawref49_Small.l2 k js i n) false := by
    intro i hi hs n hn hb
    refine Evt.succ (g := fun _ => some false) (Evt.pure _) (fun k => ?_)
    simp only [gangsawref49_Small.l2, rd47_at js i hi, rd36_at _ n hn]
    simp at hb
    rw [if_pos (by omega), if_pos (by omega), if_pos (by omega), if_pos (by omega), if_pos (by omega)]
  have igo : ∀ i (hi : i < js.length), js[i].f1.length ≤ 20 → ∀ n (hn : n < js[i].f1.length), decide (100 < js[i].f1[n].f0.size) = false → ∀ v, Evt (fun k => gangsawref49_Small.l2 k js i ((n + 1 : Nat) : Int)) v → Evt (fun k => gangsawref49_Small.l2 k js i n) v := by
    intro i hi hs n hn hb v hv
    refine Evt.succ hv (fun k => ?_)
    simp only [gangsawref49_Small.l2, rd47_at js i hi, rd36_at _ n hn]
    simp at hb
    rw [if_pos (by omega), if_pos (by omega), if_pos (by omega), if_pos (by omega), if_neg (by omega), wrap_up n _ hn (by omega)]
  refine Evt.any_list (F := fun k i => gangsawref49_Small.l1 k js i) bigJ false ?_ ?_ ?_
  · exact Evt.succ (g := fun _ => some true) (Evt.pure _) (fun k => by simp only [gangsawref49_Small.l1, Int.lt_irrefl, if_false])
  · intro i hi hb
    by_cases c : 20 < js[i].f1.length
    · refine Evt.succ (g := fun k => gangsawref49_Small.j3 k js i true) (Evt.succ (g := fun _ => some false) (Evt.pure _) (fun k => by simp only [gangsawref49_Small.j3, if_true])) (fun k => ?_)
      simp only [gangsawref49_Small.l1, rd47_at js i hi]
      rw [if_pos (by omega), if_pos (by omega), if_pos (by omega)]
    · refine Evt.succ (g := fun k => gangsawref49_Small.j3 k js i (decide ((js[i].f0.size : Int) > 100))) ?_ (fun k => ?_)
      · by_cases c2 : 100 < js[i].f0.size
        · have : decide ((js[i].f0.size : Int) > 100) = true := decide_eq_true (by omega)
          rw [this]
          exact Evt.succ (g := fun _ => some false) (Evt.pure _) (fun k => by simp only [gangsawref49_Small.j3, if_true])
        · have : decide ((js[i].f0.size : Int) > 100) = false := decide_eq_false (by omega)
          rw [this]
          refine Evt.succ (g := fun k => gangsawref49_Small.l2 k js i 0) ?_ (fun k => by simp only [gangsawref49_Small.j3, Bool.false_eq_true, if_false])
          have hb' : js[i].f1.any (fun s => decide (100 < s.f0.size)) = true := by
            unfold bigJ at hb
            rw [decide_eq_false c, decide_eq_false c2] at hb
            simpa using hb
          exact Evt.any_bad (F := fun k n => gangsawref49_Small.l2 k js i n) (l := js[i].f1) _ false hb' (ibad i hi (by omega)) (igo i hi (by omega))
      · simp only [gangsawref49_Small.l1, rd47_at js i hi]
        rw [if_pos (by omega), if_pos (by omega), if_neg (by omega)]
  · intro i hi hb v hv
    have hb' : js[i].f1.length ≤ 20 ∧ js[i].f0.size ≤ 100 ∧ js[i].f1.any (fun s => decide (100 < s.f0.size)) = false := by
      unfold bigJ at hb
      simp only [Bool.or_eq_false_iff, decide_eq_false_iff_not] at hb
      exact ⟨by omega, by omega, hb.2⟩
    obtain ⟨h1, h2, h3⟩ := hb'
    refine Evt.succ (g := fun k => gangsawref49_Small.j3 k js i (decide ((js[i].f0.size : Int) > 100))) ?_ (fun k => ?_)
    · have : decide ((js[i].f0.size : Int) > 100) = false := decide_eq_false (by omega)
      rw [this]
      refine Evt.succ (g := fun k => gangsawref49_Small.l2 k js i 0) ?_ (fun k => by simp only [gangsawref49_Small.j3, Bool.false_eq_true, if_false])
      have := Evt.any_list (F := fun k n => gangsawref49_Small.l2 k js i n) (l := js[i].f1) (fun s => decide (100 < s.f0.size)) false (V := v) ?_ (ibad i hi h1) (igo i hi h1)
      · rw [h3] at this; exact this
      · refine Evt.succ hv (fun k => ?_)
        simp only [gangsawref49_Small.l2, rd47_at js i hi]
        rw [if_pos (by omega), if_pos (by omega), if_neg (by omega), wrap_up i js.length hi hj]
    · simp only [gangsawref49_Small.l1, rd47_at js i hi]
      rw [if_pos (by omega), if_pos (by omega), if_neg (by omega)]
theorem small_j0 (l : List S34) (js : List S47) (hl : l.length ≤ 9223372036854775807) (hj : js.length ≤ 9223372036854775807) : Evt (fun k => gangsawref49_Small.j0 k l js false) (if l.any bigM then false else !js.any bigJ) := by
  refine Evt.succ (g := fun k => gangsawref49_Small.l0 k l js 0) ?_ (fun k => by simp only [gangsawref49_Small.j0, Bool.false_eq_true, if_false])
  refine Evt.any_list (F := fun k i => gangsawref49_Small.l0 k l js i) bigM false ?_ ?_ ?_
  · exact Evt.succ (small_jobs js hj) (fun k => by simp only [gangsawref49_Small.l0, Int.lt_irrefl, if_false])
  · intro i hi hb
    refine Evt.succ (g := fun _ => some false) (Evt.pure _) (fun k => ?_)
    simp only [gangsawref49_Small.l0, rd34_at l i hi]
    simp [bigM] at hb
    rw [if_pos (by omega), if_pos (by omega)]
    by_cases c : (l[i].f0.size : Int) > 100
    · rw [if_pos c]
    · rw [if_neg c, if_pos (by omega)]
  · intro i hi hb v hv
    refine Evt.succ hv (fun k => ?_)
    simp only [gangsawref49_Small.l0, rd34_at l i hi]
    simp [bigM] at hb
    rw [if_pos (by omega), if_pos (by omega), if_neg (by omega), if_neg (by omega), wrap_up i l.length hi hl]
theorem small_no (l : List S34) (js : List S47) : Evt (fun k => gangsawref49_Small.j0 k l js true) false :=
  Evt.succ (g := fun _ => some false) (Evt.pure _) (fun k => by simp only [gangsawref49_Small.j0, if_true])
theorem small_ev (l : List S34) (js : List S47) (hl : l.length ≤ 9223372036854775807) (hj : js.length ≤ 9223372036854775807) : Evt (fun k => gangsawref49_Small.f k l js) (smallV l js) := by
  unfold gangsawref49_Small.f smallV
  by_cases c1 : 40 < l.length
  · rw [if_pos (Or.inl c1)]
    exact Evt.of_eq (small_no l js) (fun k => by rw [if_pos (by omega)])
  · by_cases c2 : 12 < js.length
    · by_cases c3 : js.length ≤ 128
      · rw [if_pos (Or.inr ⟨c2, Or.inl c3⟩)]
        exact Evt.of_eq (small_no l js) (fun k => by rw [if_neg (by omega), if_pos (by omega), if_pos (by omega)])
      · by_cases c4 : 132 < js.length
        · rw [if_pos (Or.inr ⟨c2, Or.inr c4⟩)]
          refine Evt.of_eq (small_no l js) (fun k => ?_)
          rw [if_neg (by omega), if_pos (by omega), if_neg (by omega), decide_eq_true (show (js.length : Int) > 132 by omega)]
        · rw [if_neg (by omega)]
          refine Evt.of_eq (small_j0 l js hl hj) (fun k => ?_)
          rw [if_neg (by omega), if_pos (by omega), if_neg (by omega), decide_eq_false (show ¬ (js.length : Int) > 132 by omega)]
    · rw [if_neg (by omega)]
      exact Evt.of_eq (small_j0 l js hl hj) (fun k => by rw [if_neg (by omega), if_neg (by omega)])
theorem small_few {l : List S34} {js : List S47} (h : smallV l js = true) : l.length ≤ 40 ∧ (js.length ≤ 12 ∨ 128 < js.length ∧ js.length ≤ 132) ∧ l.any bigM = false ∧ js.any bigJ = false := by
  unfold smallV at h
  by_cases c : 40 < l.length ∨ (12 < js.length ∧ (js.length ≤ 128 ∨ 132 < js.length))
  · rw [if_pos c] at h; cases h
  · rw [if_neg c] at h
    cases h1 : l.any bigM with
    | true => rw [h1] at h; cases h
    | false => rw [h1] at h; exact ⟨by omega, by omega, rfl, by simpa using h⟩
end Go.Proofs.Ytpfggghpkdnppaa.PMach
