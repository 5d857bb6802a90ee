/-
  The kinds of work that no machine does: sorted and compacted, or inserted one by one: the same list.
-/
import Derived.Test.YtpfggghpkdnppaaPEach
import Derived.Test.YtpfggghpkdnppaaSort
import Derived.Sort.Walk0
import Derived.Test.YtpfggghpkdnppaaPx24
import Derived.Test.YtpfggghpkdnppaaPx16
set_option linter.unusedVariables false
set_option linter.unusedSimpArgs false
namespace Go.Proofs.Ytpfggghpkdnppaa.PWorks
open Go.RowKit Go.Proofs Go.Proofs.YtpfggghpkdnppaaW.PrintWords Go.Proofs.Ytpfggghpkdnppaa.P Go.Proofs.Ytpfggghpkdnppaa.Rnd Go.Proofs.Ytpfggghpkdnppaa.Lex Go.Proofs.Ytpfggghpkdnppaa.PName Go.Proofs.Ytpfggghpkdnppaa.Open Go.Proofs.Ytpfggghpkdnppaa.Ks Go.Proofs.Ytpfggghpkdnppaa.PMach Go.Proofs.Ytpfggghpkdnppaa.PEach Go.Proofs.Ytpfggghpkdnppaa.Sort

def insU (w : List UInt8) : List (List UInt8) → List (List UInt8)
  | [] => [w]
  | y :: l => if y < w then y :: insU w l else if y = w then y :: l else w :: y :: l
theorem mem_insU (w x : List UInt8) (l : List (List UInt8)) : x ∈ insU w l ↔ x = w ∨ x ∈ l := by
  induction l with
  | nil => simp [insU]
  | cons y l ih =>
    simp only [insU]
    split
    · simp only [List.mem_cons, ih]; grind
    · split
      · rename_i c; subst c; simp
      · simp only [List.mem_cons]
theorem lt_of_not {a b : List UInt8} (h1 : ¬ a < b) (h2 : ¬ a = b) : b < a := by
  by_cases h : b < a
  · exact h
  · exact absurd (Std.lt_of_le_of_ne (List.not_lt.1 h) h2) h1
theorem insU_strict (w : List UInt8) (l : List (List UInt8)) (h : l.Pairwise (· < ·)) : (insU w l).Pairwise (· < ·) := by
  induction l with
  | nil => simp [insU]
  | cons y l ih =>
    rw [List.pairwise_cons] at h
    simp only [insU]
    split
    · rename_i c
      rw [List.pairwise_cons]
      refine ⟨fun z hz => ?_, ih h.2⟩
      rcases (mem_insU _ _ _).1 hz with rfl | hz
      · exact c
      · exact h.1 z hz
    · rename_i c
      split
      · rw [List.pairwise_cons]; exact h
      · rename_i c2
        have hw := lt_of_not c c2
        rw [List.pairwise_cons]
        refine ⟨fun z hz => ?_, by rw [List.pairwise_cons]; exact h⟩
        rcases List.mem_cons.1 hz with rfl | hz
        · exact hw
        · exact List.lt_trans hw (h.1 z hz)
theorem foldU (l : List (List UInt8)) : ∀ o : List (List UInt8), o.Pairwise (· < ·) → (l.foldl (fun o w => insU w o) o).Pairwise (· < ·) ∧ ∀ x, x ∈ l.foldl (fun o w => insU w o) o ↔ x ∈ o ∨ x ∈ l := by
  induction l with
  | nil => intro o h; exact ⟨h, by simp⟩
  | cons w l ih =>
    intro o h
    obtain ⟨h1, h2⟩ := ih (insU w o) (insU_strict w o h)
    refine ⟨h1, fun x => ?_⟩
    rw [List.foldl_cons, h2, mem_insU, List.mem_cons]
    grind
def unkV (l : List S34) (js : List S47) : List ByteArray := (js.flatMap (·.f1)).filterMap fun s => if unknownS l s then some s.f0 else none
def insB (w : ByteArray) : List ByteArray → List ByteArray
  | [] => [w]
  | y :: o => if lessB y w then y :: insB w o else if y.toList = w.toList then y :: o else w :: y :: o
theorem insB_map (w : ByteArray) (o : List ByteArray) : (insB w o).map (·.toList) = insU w.toList (o.map (·.toList)) := by
  induction o with
  | nil => rfl
  | cons y o ih =>
    simp only [insB, insU, List.map_cons, lessB, bytesLess_eq, decide_eq_true_eq]
    split
    · rw [List.map_cons, ih]
    · split <;> simp
theorem insB_len (w : ByteArray) (o : List ByteArray) : (insB w o).length ≤ o.length + 1 := by
  induction o with
  | nil => simp [insB]
  | cons y o ih => simp only [insB]; split <;> (try split) <;> simp <;> omega
def refStep (l : List S34) (o : List ByteArray) (s : S36) : List ByteArray := if unknownS l s then insB s.f0 o else o
def worksR (l : List S34) (js : List S47) : List ByteArray := (js.flatMap (·.f1)).foldl (refStep l) []
theorem worksR_map (l : List S34) (js : List S47) : (worksR l js).map (·.toList) = ((unkV l js).map (·.toList)).foldl (fun o w => insU w o) [] := by
  unfold worksR unkV
  have key : ∀ (ss : List S36) (o : List ByteArray), (ss.foldl (refStep l) o).map (·.toList) = ((ss.filterMap fun s => if unknownS l s then some s.f0 else none).map (·.toList)).foldl (fun o w => insU w o) (o.map (·.toList)) := by
    intro ss
    induction ss with
    | nil => intro o; rfl
    | cons s ss ih =>
      intro o
      rw [List.foldl_cons, ih, List.filterMap_cons]
      unfold refStep
      cases unknownS l s with
      | true => simp [insB_map]
      | false => simp
  exact key _ []
theorem worksR_nil (l : List S34) (js : List S47) : (worksR l js).length = 0 ↔ js.any (fun j => j.f1.any (unknownS l)) = false := by
  have e : (worksR l js).length = ((worksR l js).map (·.toList)).length := by simp
  rw [e, worksR_map]
  obtain ⟨-, h⟩ := foldU ((unkV l js).map (·.toList)) [] List.Pairwise.nil
  rw [List.length_eq_zero_iff, List.eq_nil_iff_forall_not_mem]
  simp only [h, List.not_mem_nil, false_or, List.mem_map]
  constructor
  · intro hh
    rw [List.any_eq_false]
    intro j hj
    simp only [Bool.not_eq_true, List.any_eq_false]
    intro s hs
    cases c : unknownS l s with
    | false => rfl
    | true =>
      refine absurd ⟨s.f0, ?_, rfl⟩ (hh s.f0.toList)
      unfold unkV
      exact List.mem_filterMap.2 ⟨s, List.mem_flatMap.2 ⟨j, hj, hs⟩, by rw [c]; rfl⟩
  · rintro hh x ⟨y, hy, rfl⟩
    unfold unkV at hy
    obtain ⟨s, hs, hc⟩ := List.mem_filterMap.1 hy
    obtain ⟨j, hj, hsj⟩ := List.mem_flatMap.1 hs
    rw [List.any_eq_false] at hh
    have := hh j hj
    simp only [Bool.not_eq_true, List.any_eq_false] at this
    have := this s hsj
    cases c : unknownS l s with
    | true => exact absurd c (by simpa using this)
    | false => rw [c] at hc; cases hc
theorem rdS_at (l : List ByteArray) (i : Nat) (h : i < l.length) : rdOf ByteArray.empty l (i : Int) = l[i] := getD_at l _ i h
def insNext (w : ByteArray) (o : List ByteArray) (i : Nat) : List ByteArray := o.take i ++ insB w (o.drop i)
theorem insNext_zero (w : ByteArray) (o : List ByteArray) : insNext w o 0 = insB w o := by simp [insNext]
theorem insNext_less (w : ByteArray) (o : List ByteArray) (i : Nat) (hi : i < o.length) (h : lessB o[i] w = true) : insNext w o i = insNext w o (i + 1) := by
  unfold insNext
  rw [List.drop_eq_getElem_cons hi, insB, if_pos h, List.take_succ_eq_append_getElem hi, List.append_assoc]; rfl
theorem ref_ins (l : List S34) (js : List S47) (hl : l.length ≤ 1000000) (i n : Nat) (s : S36) (o : List ByteArray) (ho : o.length ≤ 1000000) (hn : n ≤ 1000000) {v : List ByteArray}
    (hnext : Evt (fun k => gangsawref49_Works.l1 k l js (refStep l o s) i ((n + 1 : Nat) : Int)) v) :
    Evt (fun k => gangsawref49_Works.l2 k l js o i n s.f0 0) v := by
  have hw : wrap64 ((n : Int) + 1) = ((n + 1 : Nat) : Int) := by rw [wrap_mid] <;> omega
  have key : ∀ p, p ≤ o.length → refStep l o s = (if unknownS l s then insNext s.f0 o p else o) → Evt (fun k => gangsawref49_Works.l2 k l js o i n s.f0 p) v := by
    refine down ?_ ?_
    · intro hp
      rw [hp] at hnext
      refine Evt.succ (g := fun k => (gangsawref49_Who.f k l s.f0).bind fun t => if (t.length : Int) = 0 then gangsawref49_Works.l1 k l js (o ++ [s.f0]) i ((n + 1 : Nat) : Int) else gangsawref49_Works.l1 k l js o i ((n + 1 : Nat) : Int)) ?_ (fun k => ?_)
      · refine Evt.bind (who_ev l s.f0 hl) ?_
        cases hu : unknownS l s with
        | true =>
          rw [hu] at hnext
          have hu' : (whoV l s.f0 0).length = 0 := by simpa [unknownS] using hu
          have e : insNext s.f0 o o.length = o ++ [s.f0] := by simp [insNext, insB]
          simp only [if_true, e] at hnext
          exact Evt.of_eq hnext (fun k => by rw [if_pos (by omega)])
        | false =>
          rw [hu] at hnext
          have hu' : ¬ (whoV l s.f0 0).length = 0 := by simpa [unknownS] using hu
          simp only [Bool.false_eq_true, if_false] at hnext
          exact Evt.of_eq hnext (fun k => by rw [if_neg (by omega)])
      · simp only [gangsawref49_Works.l2, Int.lt_irrefl, if_false, hw]
        congr 1
        funext t
        by_cases ht : (t.length : Int) = 0
        · rw [if_pos ht, if_pos ht]
          simp only [Option.bind_some, List.nil_append, Int.toNat_natCast, List.take_length, List.drop_length, List.append_nil, List.length_nil, List.length_append, List.length_singleton, if_true]
          rw [if_pos (by omega), if_pos (by omega), if_pos (by omega), if_pos (by omega), if_pos (by omega)]
        · rw [if_neg ht, if_neg ht]
    · intro p hp ih h
      by_cases hless : lessB o[p] s.f0 = true
      · refine Evt.succ (ih (by rw [h, insNext_less _ _ _ hp hless])) (fun k => ?_)
        unfold lessB at hless
        simp only [gangsawref49_Works.l2, rdS_at o p hp]
        rw [if_pos (by omega), if_pos (by omega), if_pos hless, wrap_up p o.length hp (by omega)]
      · have hl2 : ¬ Op.bytesLess o[p].toList s.f0.toList = true := hless
        have hdrop : o.drop p = o[p] :: o.drop (p + 1) := List.drop_eq_getElem_cons hp
        refine Evt.succ (g := fun k => (gangsawref49_Who.f k l s.f0).bind fun t => if (t.length : Int) = 0 then (if o[p].toList = s.f0.toList then gangsawref49_Works.l1 k l js o i ((n + 1 : Nat) : Int) else gangsawref49_Works.l1 k l js (o.take p ++ [s.f0] ++ o.drop p) i ((n + 1 : Nat) : Int)) else gangsawref49_Works.l1 k l js o i ((n + 1 : Nat) : Int)) ?_ (fun k => ?_)
        · refine Evt.bind (who_ev l s.f0 hl) ?_
          rw [h] at hnext
          cases hu : unknownS l s with
          | true =>
            rw [hu] at hnext
            have hu' : (whoV l s.f0 0).length = 0 := by simpa [unknownS] using hu
            simp only [if_true] at hnext
            by_cases heq : o[p].toList = s.f0.toList
            · have e : insNext s.f0 o p = o := by
                unfold insNext
                rw [hdrop, insB, if_neg hless, if_pos heq, ← hdrop, List.take_append_drop]
              rw [e] at hnext
              exact Evt.of_eq hnext (fun k => by rw [if_pos (by omega), if_pos heq])
            · have e : insNext s.f0 o p = o.take p ++ [s.f0] ++ o.drop p := by
                unfold insNext
                rw [hdrop, insB, if_neg hless, if_neg heq, List.append_assoc]; rfl
              rw [e] at hnext
              exact Evt.of_eq hnext (fun k => by rw [if_pos (by omega), if_neg heq])
          | false =>
            rw [hu] at hnext
            have hu' : ¬ (whoV l s.f0 0).length = 0 := by simpa [unknownS] using hu
            simp only [Bool.false_eq_true, if_false] at hnext
            exact Evt.of_eq hnext (fun k => by rw [if_neg (by omega)])
        · simp only [gangsawref49_Works.l2, rdS_at o p hp, hw]
          rw [if_pos (by omega), if_pos (by omega), if_neg hl2]
          congr 1
          funext t
          by_cases ht : (t.length : Int) = 0
          · rw [if_pos ht, if_pos ht, if_neg (by omega)]
            by_cases heq : o[p].toList = s.f0.toList
            · rw [if_pos heq, if_pos heq]
            · rw [if_neg heq, if_neg heq]
              simp only [Option.bind_some, List.nil_append, Int.toNat_natCast, List.length_nil, List.length_append, List.length_singleton, List.length_take, List.length_drop]
              rw [if_pos (by omega), if_pos (by omega), if_pos (by omega), if_pos (by omega)]
          · rw [if_neg ht, if_neg ht]
  exact key 0 (by omega) (by rw [insNext_zero]; rfl)
theorem refStep_len (l : List S34) (o : List ByteArray) (s : S36) : (refStep l o s).length ≤ o.length + 1 := by
  unfold refStep; split
  · exact insB_len _ _
  · omega
theorem rworks_ev (l : List S34) (js : List S47) (hl : l.length ≤ 1000000) (hj : js.length ≤ 900) (hs : ∀ j ∈ js, j.f1.length ≤ 1000) : Evt (fun k => gangsawref49_Works.f k l js) (worksR l js) := by
  unfold gangsawref49_Works.f
  have key : ∀ i, i ≤ js.length → ∀ o : List ByteArray, o.length ≤ 1000 * i → Evt (fun k => gangsawref49_Works.l0 k l js o i) (((js.drop i).flatMap (·.f1)).foldl (refStep l) o) := by
    refine down ?_ ?_
    · intro o _
      rw [List.drop_length]
      exact Evt.succ (g := fun _ => some o) (Evt.pure _) (fun k => by simp only [gangsawref49_Works.l0, Int.lt_irrefl, if_false])
    · intro i hi ih o ho
      have hsl := hs js[i] (List.getElem_mem _)
      rw [List.drop_eq_getElem_cons hi, List.flatMap_cons, List.foldl_append]
      refine Evt.succ (g := fun k => gangsawref49_Works.l1 k l js o i 0) ?_ (fun k => by simp only [gangsawref49_Works.l0]; rw [if_pos (by omega)])
      have inner : ∀ n, n ≤ js[i].f1.length → ∀ o : List ByteArray, o.length ≤ 1000 * i + n → Evt (fun k => gangsawref49_Works.l1 k l js o i n) (((js.drop (i + 1)).flatMap (·.f1)).foldl (refStep l) ((js[i].f1.drop n).foldl (refStep l) o)) := by
        refine down ?_ ?_
        · intro o ho
          rw [List.drop_length, List.foldl_nil]
          refine Evt.succ (ih o (by omega)) (fun k => ?_)
          simp only [gangsawref49_Works.l1, rd47_at js i hi]
          rw [if_pos (by omega), if_pos (by omega), if_neg (by omega), wrap_up i js.length hi (by omega)]
        · intro n hn ih2 o ho
          rw [List.drop_eq_getElem_cons hn, List.foldl_cons]
          have hst := refStep_len l o js[i].f1[n]
          refine Evt.succ (ref_ins l js hl i n js[i].f1[n] o (by omega) (by omega) (ih2 _ (by omega))) (fun k => ?_)
          simp only [gangsawref49_Works.l1, rd47_at js i hi, rd36_at _ n hn]
          rw [if_pos (by omega), if_pos (by omega), if_pos (by omega), if_pos (by omega)]
      have := inner 0 (by omega) o (by omega)
      rw [List.drop_zero] at this
      exact this
  have := key 0 (by omega) [] (by simp)
  rw [List.drop_zero] at this
  exact this
end Go.Proofs.Ytpfggghpkdnppaa.PWorks
