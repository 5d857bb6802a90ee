/-
  Strength, Absorption and Rank in plain terms, of the program and of the reference.
-/
import Derived.Test.YthkpgjjakdbbfaaPTest
import Derived.Test.YthkpgjjakdbbfaaPx3
import Derived.Test.YthkpgjjakdbbfaaPx15
import Derived.Test.YthkpgjjakdbbfaaPx16
import Derived.Test.YthkpgjjakdbbfaaPx17
import Derived.Test.YthkpgjjakdbbfaaPx18
import Derived.Test.YthkpgjjakdbbfaaPx12
set_option linter.unusedVariables false
set_option linter.unusedSimpArgs false
namespace Go.Proofs.Ythkpgjjakdbbfaa.PSample
open Go.RowKit Go.Proofs.YthkpgjjakdbbfaaW.PrintWords Go.Proofs.Ythkpgjjakdbbfaa.P Go.Proofs.Ythkpgjjakdbbfaa.Rnd Go.Proofs.Ythkpgjjakdbbfaa.Lex Go.Proofs.Ythkpgjjakdbbfaa.PName Go.Proofs.Ythkpgjjakdbbfaa.Open Go.Proofs.Ythkpgjjakdbbfaa.Ks Go.Proofs.Ythkpgjjakdbbfaa.Hof Go.Proofs.Ythkpgjjakdbbfaa.Sort Go.Proofs.Ythkpgjjakdbbfaa.Gen Go.Proofs.Ythkpgjjakdbbfaa.Sm Go.Proofs.Ythkpgjjakdbbfaa.PTest

def leI (x y : Int) : Bool := decide (x ≤ y)
theorem ins_inner (x0 o : List Int) (i : Nat) (hi : i < x0.length) (hx : x0.length ≤ 1000000) (ho : o.length ≤ 1000000) : ∀ p, p ≤ o.length → ∀ v, Evt (fun k => gangsawref33_sorted.l0 k x0 (o.take p ++ insL leI x0[i] (o.drop p)) ((i + 1 : Nat) : Int)) v → Evt (fun k => gangsawref33_sorted.l1 k x0 o (i : Nat) (p : Nat)) v := by
  refine down ?_ ?_
  · intro v hv
    refine Evt.succ hv (fun k => ?_)
    simp only [gangsawref33_sorted.l1, Int.lt_irrefl, if_false, Option.bind_some, rdI_at x0 i hi, Int.toNat_natCast, List.take_length, List.drop_length, List.nil_append, insL, List.append_nil, List.length_nil, List.length_append, List.length_singleton, Nat.zero_add, Nat.add_zero]
    rw [if_pos (by omega), if_pos (by omega), if_pos (by omega), if_pos (by omega), if_pos (by omega), if_pos (by omega), if_pos (by omega), wrap_up i x0.length hi (by omega)]
  · intro p hp ih v hv
    rw [List.drop_eq_getElem_cons hp] at hv
    simp only [insL] at hv
    by_cases c : o[p] ≤ x0[i]
    · rw [show leI o[p] x0[i] = true from decide_eq_true c, if_pos rfl] at hv
      refine Evt.succ (ih v ?_) (fun k => ?_)
      · rw [List.take_succ_eq_append_getElem hp, List.append_assoc]; exact hv
      · simp only [gangsawref33_sorted.l1, rdI_at o p hp, rdI_at x0 i hi]
        rw [if_pos (by omega), if_pos (by omega), if_pos (by omega), if_pos (by omega), if_pos c, wrap_up p o.length hp (by omega)]
    · rw [show leI o[p] x0[i] = false from decide_eq_false c, if_neg (by simp)] at hv
      refine Evt.succ hv (fun k => ?_)
      simp only [gangsawref33_sorted.l1, rdI_at o p hp, rdI_at x0 i hi, Option.bind_some, Int.toNat_natCast, List.nil_append, List.length_nil, List.length_append, List.length_singleton, List.length_take, List.length_drop, Nat.zero_add]
      rw [if_pos (by omega), if_pos (by omega), if_pos (by omega), if_pos (by omega), if_neg c, if_pos (by omega), if_pos (by omega), if_pos (by omega), if_pos (by omega), wrap_up i x0.length hi (by omega), List.append_assoc, List.drop_eq_getElem_cons hp, List.singleton_append]
theorem rsorted_ev (x0 : List Int) (hx : x0.length ≤ 1000000) : Evt (fun k => gangsawref33_sorted.f k x0) (sortInt x0) := by
  unfold gangsawref33_sorted.f
  have h := Evt.fold (F := fun k o i => gangsawref33_sorted.l0 k x0 o i) (l := x0) (fun o x => insL leI x o) (fun o => o) (fun i o => o.length = i) ?_ ?_ [] rfl
  · exact h
  · intro o ho
    exact Evt.succ (g := fun _ => some o) (Evt.pure _) (fun k => by simp only [gangsawref33_sorted.l0, Int.lt_irrefl, if_false])
  · intro i hi o ho
    refine ⟨by rw [insL_len, ho], fun v hv => ?_⟩
    refine Evt.succ (g := fun k => gangsawref33_sorted.l1 k x0 o (i : Nat) 0) ?_ (fun k => by simp only [gangsawref33_sorted.l0]; rw [if_pos (by omega)])
    exact ins_inner x0 o i hi hx (by omega) 0 (by omega) v (by simpa using hv)
theorem rstrengths_ev (l : List T) (hl : l.length ≤ 1000000) : Evt (fun k => gangsawref33_strengths.f k l) (sortInt (l.map (·.f1))) := by
  unfold gangsawref33_strengths.f
  have key : ∀ i, i ≤ l.length → Evt (fun k => gangsawref33_strengths.l0 k l ((l.take i).map (·.f1)) (i : Nat)) (sortInt (l.map (·.f1))) := by
    refine down ?_ ?_
    · refine Evt.succ (g := fun k => (gangsawref33_sorted.f k (l.map (·.f1))).bind fun t => some t) (Evt.bind (rsorted_ev _ (by simpa using hl)) (Evt.pure _)) (fun k => ?_)
      simp only [gangsawref33_strengths.l0, Int.lt_irrefl, if_false, List.take_length]
    · intro i hi ih
      refine Evt.succ ih (fun k => ?_)
      simp only [gangsawref33_strengths.l0, rdT_at l i hi]
      rw [if_pos (by omega), if_pos (by omega), if_pos (by simp; omega), wrap_up i l.length hi (by omega), List.take_succ_eq_append_getElem hi, List.map_append]
      rfl
  exact key 0 (by omega)
theorem few_ev (l : List T) (hg : l.length ≤ 9223372036854775807) : ∃ b, Evt (fun k => gangsawref33_Few.f k l) b ∧ (b = true → l.length ≤ 260) := by
  have h0 : Evt (fun k => gangsawref33_Few.l0 k l 0) (!(l.any fun t => decide ((t.f0.size : Int) > 100))) := by
    have := Evt.any_list (F := fun k i => gangsawref33_Few.l0 k l i) (l := l) (fun t => decide ((t.f0.size : Int) > 100)) false (V := true) ?_ ?_ ?_
    · cases h : l.any (fun t => decide ((t.f0.size : Int) > 100)) <;> rw [h] at this <;> exact this
    · exact Evt.succ (g := fun _ => some true) (Evt.pure _) (fun k => by simp only [gangsawref33_Few.l0, Int.lt_irrefl, if_false])
    · intro i hi hb
      refine Evt.succ (g := fun _ => some false) (Evt.pure _) (fun k => ?_)
      simp only [gangsawref33_Few.l0, rdT_at l i hi]
      rw [if_pos (by omega), if_pos (by omega), if_pos (of_decide_eq_true hb)]
    · intro i hi hb v hv
      refine Evt.succ hv (fun k => ?_)
      simp only [gangsawref33_Few.l0, rdT_at l i hi]
      rw [if_pos (by omega), if_pos (by omega), if_neg (of_decide_eq_false hb), wrap_up i l.length hi hg]
  have hj : ∀ b, Evt (fun k => gangsawref33_Few.j0 k l b) (if b = true then false else !(l.any fun t => decide ((t.f0.size : Int) > 100))) := by
    intro b
    cases b with
    | true => exact Evt.succ (g := fun _ => some false) (Evt.pure _) (fun k => by simp only [gangsawref33_Few.j0, if_true])
    | false => exact Evt.succ h0 (fun k => by simp only [gangsawref33_Few.j0, Bool.false_eq_true, if_false])
  unfold gangsawref33_Few.f
  by_cases c1 : (l.length : Int) > 40
  · by_cases c2 : (l.length : Int) ≤ 256
    · exact ⟨_, Evt.of_eq (hj true) (fun k => by rw [if_pos c1, if_pos c2]), by simp⟩
    · refine ⟨_, Evt.of_eq (hj (decide ((l.length : Int) > 260))) (fun k => by rw [if_pos c1, if_neg c2]), fun h => ?_⟩
      by_cases c3 : (l.length : Int) > 260
      · rw [if_pos (decide_eq_true c3)] at h; cases h
      · omega
  · exact ⟨_, Evt.of_eq (hj false) (fun k => by rw [if_neg c1]), fun _ => by omega⟩
end Go.Proofs.Ythkpgjjakdbbfaa.PSample
