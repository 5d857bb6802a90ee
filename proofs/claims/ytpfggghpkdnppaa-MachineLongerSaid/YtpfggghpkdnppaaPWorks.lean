/-
  The kinds of work that no machine does: sorted and compacted, or inserted one by one: the same list.
-/
import Derived.Test.YtpfggghpkdnppaaPEach
import Derived.Test.YtpfggghpkdnppaaSort
import Derived.Sort.Walk0
import Derived.Test.YtpfggghpkdnppaaPx24
import Derived.Test.YtpfggghpkdnppaaPx16
set_option linter.unusedVariables false
set_option linter.unusedSimpArgs false
namespace Go.Proofs.Ytpfggghpkdnppaa.PWorks
open Go.RowKit Go.Proofs Go.Proofs.YtpfggghpkdnppaaW.PrintWords Go.Proofs.Ytpfggghpkdnppaa.P Go.Proofs.Ytpfggghpkdnppaa.Rnd Go.Proofs.Ytpfggghpkdnppaa.Lex Go.Proofs.Ytpfggghpkdnppaa.PName Go.Proofs.Ytpfggghpkdnppaa.Open Go.Proofs.Ytpfggghpkdnppaa.Ks Go.Proofs.Ytpfggghpkdnppaa.PMach Go.Proofs.Ytpfggghpkdnppaa.PEach Go.Proofs.Ytpfggghpkdnppaa.Sort

def insU (w : List UInt8) : List (List UInt8) → List (List UInt8)
  | [] => [w]
  | y :: l => if y < w then y :: insU w l else if y = w then y :: l else w :: y :: l
theorem mem_insU (w x : List UInt8) (l : List (List UInt8)) : x ∈ insU w l ↔ x = w ∨ x ∈ l := by
  induction l with
  | nil => simp [insU]
  | cons y l ih =>
    simp only [insU]
    split
    · simp only [List.mem_cons, ih]; grind
    · split
      · rename_i c; subst c; simp
      · simp only [List.mem_cons]
theorem lt_of_not {a b : List UInt8} (h1 : ¬ a < b) (h2 : ¬ a = b) : b < a := by
  by_cases h : b < a
  · exact h
  · exact absurd (Std.lt_of_le_of_ne (List.not_lt.1 h) h2) h1
theorem insU_strict (w : List UInt8) (l : List (List UInt8)) (h : l.Pairwise (· < ·)) : (insU w l).Pairwise (· < ·) := by
  induction l with
  | nil => simp [insU]
  | cons y l ih =>
    rw [List.pairwise_cons] at h
    simp only [insU]
    split
    · rename_i c
      rw [List.pairwise_cons]
      refine ⟨fun z hz => ?_, ih h.2⟩
      rcases (mem_insU _ _ _).1 hz with rfl | hz
      · exact c
      · exact h.1 z hz
    · rename_i c
      split
      · rw [List.pairwise_cons]; exact h
      · rename_i c2
        have hw := lt_of_not c c2
        rw [List.pairwise_cons]
        refine ⟨fun z hz => ?_, by rw [List.pairwise_cons]; exact h⟩
        rcases List.mem_cons.1 hz with rfl | hz
        · exact hw
        · exact List.lt_trans hw (h.1 z hz)
theorem foldU (l : List (List UInt8)) : ∀ o : List (List UInt8), o.Pairwise (· < ·) → (l.foldl (fun o w => insU w o) o).Pairwise (· < ·) ∧ ∀ x, x ∈ l.foldl (fun o w => insU w o) o ↔ x ∈ o ∨ x ∈ l := by
  induction l with
  | nil => intro o h; exact ⟨h, by simp⟩
  | cons w l ih =>
    intro o h
    obtain ⟨h1, h2⟩ := ih (insU w o) (insU_strict w o h)
    refine ⟨h1, fun x => ?_⟩
    rw [List.foldl_cons, h2, mem_insU, List.mem_cons]
    grind
theorem strict_unique {a b : List (List UInt8)} (ha : a.Pairwise (· < ·)) (hb : b.Pairwise (· < ·)) (h : ∀ x, x ∈ a ↔ x ∈ b) : a = b := by
  have na : a.Nodup := ha.imp (fun {x y} hxy e => by subst e; exact List.lt_irrefl _ hxy)
  have nb : b.Nodup := hb.imp (fun {x y} hxy e => by subst e; exact List.lt_irrefl _ hxy)
  refine List.Perm.eq_of_pairwise (fun x y _ _ h1 h2 => absurd (List.lt_trans h1 h2) (List.lt_irrefl _)) ha hb ((List.perm_ext_iff_of_nodup na nb).2 h)
theorem get_le {zs : List (List UInt8)} (hs : zs.Pairwise (· ≤ ·)) {i j : Nat} (hij : i ≤ j) (hj : j < zs.length) : zs[i] ≤ zs[j] := by
  rcases Nat.lt_or_ge i j with h | h
  · exact List.pairwise_iff_getElem.1 hs i j (by omega) hj h
  · obtain rfl : i = j := by omega
    exact List.le_refl _
theorem compact_strict (zs : List (List UInt8)) (hs : zs.Pairwise (· ≤ ·)) : (Lib.compact zs).Pairwise (· < ·) ∧ ∀ x, x ∈ Lib.compact zs ↔ x ∈ zs := by
  have hget : ∀ i (h : i < zs.length), zs.toArray[i]! = zs[i] := fun i h => by simp [h]
  unfold Lib.compact Lib.compactUpTo
  constructor
  · rw [List.pairwise_map]
    refine List.Pairwise.imp_of_mem ?_ ((List.pairwise_lt_range (n := zs.length)).filter _)
    intro i j hi hj hij
    have hjl : j < zs.length := List.mem_range.1 (List.mem_filter.1 hj).1
    have hk := (List.mem_filter.1 hj).2
    unfold Lib.keeps at hk
    rw [decide_eq_true_eq] at hk
    rcases hk with h0 | hne
    · omega
    · rw [hget j hjl, hget (j - 1) (by omega)] at hne
      rw [hget i (by omega), hget j hjl]
      have h1 : zs[i] ≤ zs[j - 1] := get_le hs (by omega) (by omega)
      have h2 : zs[j - 1] < zs[j] := Std.lt_of_le_of_ne (get_le hs (by omega) hjl) (Ne.symm hne)
      exact Std.lt_of_le_of_lt h1 h2
  · intro x
    constructor
    · intro h
      obtain ⟨i, hi, rfl⟩ := List.mem_map.1 h
      have hil : i < zs.length := List.mem_range.1 (List.mem_filter.1 hi).1
      rw [hget i hil]
      exact List.getElem_mem _
    · intro h
      obtain ⟨i, hi, rfl⟩ := List.mem_iff_getElem.1 h
      have key : ∀ i (hi : i < zs.length), zs[i] ∈ ((List.range zs.length).filter (Lib.keeps zs.toArray)).map (zs.toArray[·]!) := by
        intro i
        induction i with
        | zero =>
          intro hi
          refine List.mem_map.2 ⟨0, List.mem_filter.2 ⟨List.mem_range.2 hi, by simp [Lib.keeps]⟩, hget 0 hi⟩
        | succ i ih =>
          intro hi
          cases hk : Lib.keeps zs.toArray (i + 1) with
          | true => exact List.mem_map.2 ⟨i + 1, List.mem_filter.2 ⟨List.mem_range.2 hi, hk⟩, hget _ hi⟩
          | false =>
            unfold Lib.keeps at hk
            rw [decide_eq_false_iff_not] at hk
            have e : zs.toArray[i + 1]! = zs.toArray[i + 1 - 1]! := Classical.byContradiction (fun c => hk (.inr c))
            rw [hget _ hi, show i + 1 - 1 = i from rfl, hget i (by omega)] at e
            rw [e]
            exact ih (by omega)
      exact key i hi
theorem isort_le (l : List (List UInt8)) : (isort (fun x y => decide (x ≤ y)) l).Pairwise (· ≤ ·) := by
  have := isort_sorted (le := fun x y : List UInt8 => decide (x ≤ y)) (fun a b c h1 h2 => by simp only [decide_eq_true_eq] at *; exact List.le_trans h1 h2) (fun a b => by simp only [Bool.or_eq_true, decide_eq_true_eq]; exact List.le_total a b) l
  exact this.imp (fun h => by simpa using h)
theorem compact_sort (l : List (List UInt8)) : Lib.compact (isort (fun x y => decide (x ≤ y)) l) = l.foldl (fun o w => insU w o) [] := by
  obtain ⟨h1, h2⟩ := compact_strict _ (isort_le l)
  obtain ⟨h3, h4⟩ := foldU l [] List.Pairwise.nil
  refine strict_unique h1 h3 (fun x => ?_)
  rw [h2, h4, (isort_perm l).mem_iff]
  simp
theorem toList_mk (l : List UInt8) : (⟨l.toArray⟩ : ByteArray).toList = l := by rw [ByteArray.toList_eq]
theorem works_list (l : List ByteArray) : (compactStr (sortStr l)).map (·.toList) = (l.map (·.toList)).foldl (fun o w => insU w o) [] := by
  unfold compactStr sortStr
  rw [List.map_map, List.map_map]
  have e1 : ((·.toList) ∘ fun b : List UInt8 => (⟨b.toArray⟩ : ByteArray)) = id := by funext b; exact toList_mk b
  rw [e1, List.map_id, List.map_id, compact_sort]

def unkV (l : List S34) (js : List S47) : List ByteArray := (js.flatMap (·.f1)).filterMap fun s => if unknownS l s then some s.f0 else none
def insB (w : ByteArray) : List ByteArray → List ByteArray
  | [] => [w]
  | y :: o => if lessB y w then y :: insB w o else if y.toList = w.toList then y :: o else w :: y :: o
theorem insB_map (w : ByteArray) (o : List ByteArray) : (insB w o).map (·.toList) = insU w.toList (o.map (·.toList)) := by
  induction o with
  | nil => rfl
  | cons y o ih =>
    simp only [insB, insU, List.map_cons, lessB, bytesLess_eq, decide_eq_true_eq]
    split
    · rw [List.map_cons, ih]
    · split <;> simp
def refStep (l : List S34) (o : List ByteArray) (s : S36) : List ByteArray := if unknownS l s then insB s.f0 o else o
def worksR (l : List S34) (js : List S47) : List ByteArray := (js.flatMap (·.f1)).foldl (refStep l) []
def worksM (l : List S34) (js : List S47) : List ByteArray := compactStr (sortStr (unkV l js))
theorem worksR_map (l : List S34) (js : List S47) : (worksR l js).map (·.toList) = ((unkV l js).map (·.toList)).foldl (fun o w => insU w o) [] := by
  unfold worksR unkV
  have key : ∀ (ss : List S36) (o : List ByteArray), (ss.foldl (refStep l) o).map (·.toList) = ((ss.filterMap fun s => if unknownS l s then some s.f0 else none).map (·.toList)).foldl (fun o w => insU w o) (o.map (·.toList)) := by
    intro ss
    induction ss with
    | nil => intro o; rfl
    | cons s ss ih =>
      intro o
      rw [List.foldl_cons, ih, List.filterMap_cons]
      unfold refStep
      cases unknownS l s with
      | true => simp [insB_map]
      | false => simp
  exact key _ []
theorem works_same (l : List S34) (js : List S47) : (worksM l js).map (·.toList) = (worksR l js).map (·.toList) := by
  unfold worksM; rw [works_list, worksR_map]
theorem worksR_nil (l : List S34) (js : List S47) : (worksR l js).length = 0 ↔ js.any (fun j => j.f1.any (unknownS l)) = false := by
  have e : (worksR l js).length = ((worksR l js).map (·.toList)).length := by simp
  rw [e, worksR_map]
  obtain ⟨-, h⟩ := foldU ((unkV l js).map (·.toList)) [] List.Pairwise.nil
  rw [List.length_eq_zero_iff, List.eq_nil_iff_forall_not_mem]
  simp only [h, List.not_mem_nil, false_or, List.mem_map]
  constructor
  · intro hh
    rw [List.any_eq_false]
    intro j hj
    simp only [Bool.not_eq_true, List.any_eq_false]
    intro s hs
    cases c : unknownS l s with
    | false => rfl
    | true =>
      refine absurd ⟨s.f0, ?_, rfl⟩ (hh s.f0.toList)
      unfold unkV
      exact List.mem_filterMap.2 ⟨s, List.mem_flatMap.2 ⟨j, hj, hs⟩, by rw [c]; rfl⟩
  · rintro hh x ⟨y, hy, rfl⟩
    unfold unkV at hy
    obtain ⟨s, hs, hc⟩ := List.mem_filterMap.1 hy
    obtain ⟨j, hj, hsj⟩ := List.mem_flatMap.1 hs
    rw [List.any_eq_false] at hh
    have := hh j hj
    simp only [Bool.not_eq_true, List.any_eq_false] at this
    have := this s hsj
    cases c : unknownS l s with
    | true => exact absurd c (by simpa using this)
    | false => rw [c] at hc; cases hc
theorem works_ev (l : List S34) (js : List S47) (hl : l.length ≤ 1000000) (hj : js.length ≤ 1000) (hs : ∀ j ∈ js, j.f1.length ≤ 1000) : Evt (fun k => machine_Works.f k l js) (worksM l js) := by
  unfold machine_Works.f
  have key : ∀ i, i ≤ js.length → ∀ out : List ByteArray, out.length ≤ 1000 * i → Evt (fun k => machine_Works.l0 k l out js (js.length : Int) i) (compactStr (sortStr (out ++ ((js.drop i).flatMap (·.f1)).filterMap fun s => if unknownS l s then some s.f0 else none))) := by
    refine down ?_ ?_
    · intro out hout
      refine Evt.succ (g := fun _ => some _) (Evt.pure _) (fun k => ?_)
      simp only [machine_Works.l0, Int.lt_irrefl, if_false, slices_Sort_string.f, slices_Compact_string.f, List.drop_length, List.flatMap_nil, List.filterMap_nil, List.append_nil]
      rw [if_pos (by omega)]; rfl
    · intro i hi ih out hout
      have hsl := hs js[i] (List.getElem_mem _)
      rw [List.drop_eq_getElem_cons hi, List.flatMap_cons, List.filterMap_append, ← List.append_assoc]
      refine Evt.succ (g := fun k => machine_Works.l1 k l out js (js.length : Int) i js[i].f1 (js[i].f1.length : Int) 0) ?_ (fun k => ?_)
      · have inner : ∀ n, n ≤ js[i].f1.length → ∀ out : List ByteArray, out.length ≤ 1000 * i + n → Evt (fun k => machine_Works.l1 k l out js (js.length : Int) i js[i].f1 (js[i].f1.length : Int) n) (compactStr (sortStr (out ++ ((js[i].f1.drop n).filterMap fun s => if unknownS l s then some s.f0 else none) ++ ((js.drop (i + 1)).flatMap (·.f1)).filterMap fun s => if unknownS l s then some s.f0 else none))) := by
          refine down ?_ ?_
          · intro out hout
            rw [List.drop_length, List.filterMap_nil, List.append_nil]
            refine Evt.succ (ih out (by omega)) (fun k => ?_)
            simp only [machine_Works.l1, Int.lt_irrefl, if_false]
            rw [wrap_up i js.length hi (by omega)]
          · intro n hn ih2 out hout
            rw [List.drop_eq_getElem_cons hn, List.filterMap_cons]
            cases hu : unknownS l js[i].f1[n] with
            | true =>
              simp only [if_true]
              have := ih2 (out ++ [js[i].f1[n].f0]) (by simp; omega)
              rw [List.append_assoc out [_]] at this
              refine Evt.succ this (fun k => ?_)
              have hu' : (whoV l js[i].f1[n].f0 0).length = 0 := by simpa [unknownS] using hu
              simp only [machine_Works.l1, rd36_at _ n hn, can_f l _ hl, Option.bind_some]
              rw [if_pos (by omega), if_pos (by omega), if_pos (by omega), if_pos (by omega), if_pos (by omega), wrap_up n _ hn (by omega)]
            | false =>
              simp only [Bool.false_eq_true, if_false]
              refine Evt.succ (ih2 out (by omega)) (fun k => ?_)
              have hu' : ¬ (whoV l js[i].f1[n].f0 0).length = 0 := by simpa [unknownS] using hu
              simp only [machine_Works.l1, rd36_at _ n hn, can_f l _ hl, Option.bind_some]
              rw [if_pos (by omega), if_pos (by omega), if_pos (by omega), if_neg (by omega), wrap_up n _ hn (by omega)]
        have := inner 0 (by omega) out (by omega)
        rw [List.drop_zero] at this
        exact this
      · simp only [machine_Works.l0, rd47_at js i hi]
        rw [if_pos (by omega), if_pos (by omega), if_pos (by omega)]
  have := key 0 (by omega) [] (by simp)
  rw [List.drop_zero, List.nil_append] at this
  exact this

end Go.Proofs.Ytpfggghpkdnppaa.PWorks
