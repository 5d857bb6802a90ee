/-
  The kinds of work that no machine does: sorted and compacted, or inserted one by one: the same list.
-/
import Derived.Test.YtpfggghpkdnppaaPEach
import Derived.Test.YtpfggghpkdnppaaSort
import Derived.Sort.Walk0
import Derived.Test.YtpfggghpkdnppaaPx24
import Derived.Test.YtpfggghpkdnppaaPx16
set_option linter.unusedVariables false
set_option linter.unusedSimpArgs false
namespace Go.Proofs.Ytpfggghpkdnppaa.PWorks
open Go.RowKit Go.Proofs Go.Proofs.YtpfggghpkdnppaaW.PrintWords Go.Proofs.Ytpfggghpkdnppaa.P Go.Proofs.Ytpfggghpkdnppaa.Rnd Go.Proofs.Ytpfggghpkdnppaa.Lex Go.Proofs.Ytpfggghpkdnppaa.PName Go.Proofs.Ytpfggghpkdnppaa.Open Go.Proofs.Ytpfggghpkdnppaa.Ks Go.Proofs.Ytpfggghpkdnppaa.PMach Go.Proofs.Ytpfggghpkdnppaa.PEach Go.Proofs.Ytpfggghpkdnppaa.Sort

def insU (w : List UInt8) : List (List UInt8) → List (List UInt8)
  | [] => [w]
  | y :: l => if y < w then y :: insU w l else if y = w then y :: l else w :: y :: l
theorem mem_insU (w x : List UInt8) (l : List (List UInt8)) : x ∈ insU w l ↔ x = w ∨ x ∈ l := by
  induction l with
  | nil => simp [insU]
  | cons y l ih =>
    simp only [insU]
    split
    · simp only [List.mem_cons, ih]; grind
    · split
      · rename_i c; subst c; simp
      · simp only [List.mem_cons]
theorem lt_of_not {a b : List UInt8} (h1 : ¬ a < b) (h2 : ¬ a = b) : b < a := by
  by_cases h : b < a
  · exact h
  · exact absurd (Std.lt_of_le_of_ne (List.not_lt.1 h) h2) h1
theorem insU_strict (w : List UInt8) (l : List (List UInt8)) (h : l.Pairwise (· < ·)) : (insU w l).Pairwise (· < ·) := by
  induction l with
  | nil => simp [insU]
  | cons y l ih =>
    rw [List.pairwise_cons] at h
    simp only [insU]
    split
    · rename_i c
      rw [List.pairwise_cons]
      refine ⟨fun z hz => ?_, ih h.2⟩
      rcases (mem_insU _ _ _).1 hz with rfl | hz
      · exact c
      · exact h.1 z hz
    · rename_i c
      split
      · rw [List.pairwise_cons]; exact h
      · rename_i c2
        have hw := lt_of_not c c2
        rw [List.pairwise_cons]
        refine ⟨fun z hz => ?_, by rw [List.pairwise_cons]; exact h⟩
        rcases List.mem_cons.1 hz with rfl | hz
        · exact hw
        · exact List.lt_trans hw (h.1 z hz)
theorem foldU (l : List (List UInt8)) : ∀ o : List (List UInt8), o.Pairwise (· < ·) → (l.foldl (fun o w => insU w o) o).Pairwise (· < ·) ∧ ∀ x, x ∈ l.foldl (fun o w => insU w o) o ↔ x ∈ o ∨ x ∈ l := by
  induction l with
  | nil => intro o h; exact ⟨h, by simp⟩
  | cons w l ih =>
    intro o h
    obtain ⟨h1, h2⟩ := ih (insU w o) (insU_strict w o h)
    refine ⟨h1, fun x => ?_⟩
    rw [List.foldl_cons, h2, mem_insU, List.mem_cons]
    grind
theorem strict_unique {a b : List (List UInt8)} (ha : a.Pairwise (· < ·)) (hb : b.Pairwise (· < ·)) (h : ∀ x, x ∈ a ↔ x ∈ b) : a = b := by
  have na : a.Nodup := ha.imp (fun {x y} hxy e => by subst e; exact List.lt_irrefl _ hxy)
  have nb : b.Nodup := hb.imp (fun {x y} hxy e => by subst e; exact List.lt_irrefl _ hxy)
  refine List.Perm.eq_of_pairwise (fun x y _ _ h1 h2 => absurd (List.lt_trans h1 h2) (List.lt_irrefl _)) ha hb ((List.perm_ext_iff_of_nodup na nb).2 h)
theorem get_le {zs : List (List UInt8)} (hs : zs.Pairwise (· ≤ ·)) {i j : Nat} (hij : i ≤ j) (hj : j < zs.length) : zs[i] ≤ zs[j] := by
  rcases Nat.lt_or_ge i j with h | h
  · exact List.pairwise_iff_getElem.1 hs i j (by omega) hj h
  · obtain rfl : i = j := by omega
    exact List.le_refl _
theorem compact_strict (zs : List (List UInt8)) (hs : zs.Pairwise (· ≤ ·)) : (Lib.compact zs).Pairwise (· < ·) ∧ ∀ x, x ∈ Lib.compact zs ↔ x ∈ zs := by
  have hget : ∀ i (h : i < zs.length), zs.toArray[i]! = zs[i] := fun i h => by simp [h]
  unfold Lib.compact Lib.compactUpTo
  constructor
  · rw [List.pairwise_map]
    refine List.Pairwise.imp_of_mem ?_ ((List.pairwise_lt_range (n := zs.length)).filter _)
    intro i j hi hj hij
    have hjl : j < zs.length := List.mem_range.1 (List.mem_filter.1 hj).1
    have hk := (List.mem_filter.1 hj).2
    unfold Lib.keeps at hk
    rw [decide_eq_true_eq] at hk
    rcases hk with h0 | hne
    · omega
    · rw [hget j hjl, hget (j - 1) (by omega)] at hne
      rw [hget i (by omega), hget j hjl]
      have h1 : zs[i] ≤ zs[j - 1] := get_le hs (by omega) (by omega)
      have h2 : zs[j - 1] < zs[j] := Std.lt_of_le_of_ne (get_le hs (by omega) hjl) (Ne.symm hne)
      exact Std.lt_of_le_of_lt h1 h2
  · intro x
    constructor
    · intro h
      obtain ⟨i, hi, rfl⟩ := List.mem_map.1 h
      have hil : i < zs.length := List.mem_range.1 (List.mem_filter.1 hi).1
      rw [hget i hil]
      exact List.getElem_mem _
    · intro h
      obtain ⟨i, hi, rfl⟩ := List.mem_iff_getElem.1 h
      have key : ∀ i (hi : i < zs.length), zs[i] ∈ ((List.range zs.length).filter (Lib.keeps zs.toArray)).map (zs.toArray[·]!) := by
        intro i
        induction i with
        | zero =>
          intro hi
          refine List.mem_map.2 ⟨0, List.mem_filter.2 ⟨List.mem_range.2 hi, by simp [Lib.keeps]⟩, hget 0 hi⟩
        | succ i ih =>
          intro hi
          cases hk : Lib.keeps zs.toArray (i + 1) with
          | true => exact List.mem_map.2 ⟨i + 1, List.mem_filter.2 ⟨List.mem_range.2 hi, hk⟩, hget _ hi⟩
          | false =>
            unfold Lib.keeps at hk
            rw [decide_eq_false_iff_not] at hk
            have e : zs.toArray[i + 1]! = zs.toArray[i + 1 - 1]! := Classical.byContradiction (fun c => hk (.inr c))
            rw [hget _ hi, show i + 1 - 1 = i from rfl, hget i (by omega)] at e
            rw [e]
            exact ih (by omega)
      exact key i hi
theorem isort_le (l : List (List UInt8)) : (isort (fun x y => decide (x ≤ y)) l).Pairwise (· ≤ ·) := by
  have := isort_sorted (le := fun x y : List UInt8 => decide (x ≤ y)) (fun a b c h1 h2 => by simp only [decide_eq_true_eq] at *; exact List.le_trans h1 h2) (fun a b => by simp only [Bool.or_eq_true, decide_eq_true_eq]; exact List.le_total a b) l
  exact this.imp (fun h => by simpa using h)
theorem compact_sort (l : List (List UInt8)) : Lib.compact (isort (fun x y => decide (x ≤ y)) l) = l.foldl (fun o w => insU w o) [] := by
  obtain ⟨h1, h2⟩ := compact_strict _ (isort_le l)
  obtain ⟨h3, h4⟩ := foldU l [] List.Pairwise.nil
  refine strict_unique h1 h3 (fun x => ?_)
  rw [h2, h4, (isort_perm l).mem_iff]
  simp
theorem toList_mk (l : List UInt8) : (⟨l.toArray⟩ : ByteArray).toList = l := by rw [ByteArray.toList_eq]
theorem works_list (l : List ByteArray) : (compactStr (sortStr l)).map (·.toList) = (l.map (·.toList)).foldl (fun o w => insU w o) [] := by
  unfold compactStr sortStr
  rw [List.map_map, List.map_map]
  have e1 : ((·.toList) ∘ fun b : List UInt8 => (⟨b.toArray⟩ : ByteArray)) = id := by funext b; exact toList_mk b
  rw [e1, List.map_id, List.map_id, compact_sort]

def unkV (l : List S34) (js : List S47) : List ByteArray := (js.flatMap (·.f1)).filterMap fun s => if unknownS l s then some s.f0 else none
def insB (w : ByteArray) : List ByteArray → List ByteArray
  | [] => [w]
  | y :: o => if lessB y w then y :: insB w o else if y.toList = w.toList then y :: o else w :: y :: o
theorem insB_map (w : ByteArray) (o : List ByteArray) : (insB w o).map (·.toList) = insU w.toList (o.map (·.toList)) := by
  induction o with
  | nil => rfl
  | cons y o ih =>
    simp only [insB, insU, List.map_cons, lessB, bytesLess_eq, decide_eq_true_eq]
    split
    · rw [List.map_cons, ih]
    · split <;> simp
theorem insB_len (w : ByteArray) (o : List ByteArray) : (insB w o).length ≤ o.length + 1 := by
  induction o with
  | nil => simp [insB]
  | cons y o ih => simp only [insB]; split <;> (try split) <;> simp <;> omega
def refStep (l : List S34) (o : List ByteArray) (s : S36) : List ByteArray := if unknownS l s then insB s.f0 o else o
def worksR (l : List S34) (js : List S47) : List ByteArray := (js.flatMap (·.f1)).foldl (refStep l) []
def worksM (l : List S34) (js : List S47) : List ByteArray := compactStr (sortStr (unkV l js))
theorem worksR_map (l : List S34) (js : List S47) : (worksR l js).map (·.toList) = ((unkV l js).map (·.toList)).foldl (fun o w => insU w o) [] := by
  unfold worksR unkV
  have key : ∀ (ss : List S36) (o : List ByteArray), (ss.foldl (refStep l) o).map (·.toList) = ((ss.filterMap fun s => if unknownS l s then some s.f0 else none).map (·.toList)).foldl (fun o w => insU w o) (o.map (·.toList)) := by
    intro ss
    induction ss with
    | nil => intro o; rfl
    | cons s ss ih =>
      intro o
      rw [List.foldl_cons, ih, List.filterMap_cons]
      unfold refStep
      cases unknownS l s with
      | true => simp [insB_map]
      | false => simp
  exact key _ []
theorem works_same (l : List S34) (js : List S47) : (worksM l js).map (·.toList) = (worksR l js).map (·.toList) := by
  unfold worksM; rw [works_list, worksR_map]
theorem worksR_nil (l : List S34) (js : List S47) : (worksR l js).length = 0 ↔ js.any (fun j => j.f1.any (unknownS l)) = false := by
  have e : (worksR l js).length = ((worksR l js).map (·.toList)).length := by simp
  rw [e, worksR_map]
  obtain ⟨-, h⟩ := foldU ((unkV l js).map (·.toList)) [] List.Pairwise.nil
  rw [List.length_eq_zero_iff, List.eq_nil_iff_forall_not_mem]
  simp only [h, List.not_mem_nil, false_or, List.mem_map]
  constructor
  · intro hh
    rw [List.any_eq_false]
    intro j hj
    simp only [Bool.not_eq_true, List.any_eq_false]
    intro s hs
    cases c : unknownS l s with
    | false => rfl
    | true =>
      refine absurd ⟨s.f0, ?_, rfl⟩ (hh s.f0.toList)
      unfold unkV
      exact List.mem_filterMap.2 ⟨s, List.mem_flatMap.2 ⟨j, hj, hs⟩, by rw [c]; rfl⟩
  · rintro hh x ⟨y, hy, rfl⟩
    unfold unkV at hy
    obtain ⟨s, hs, hc⟩ := List.mem_filterMap.1 hy
    obtain ⟨j, hj, hsj⟩ := List.mem_flatMap.1 hs
    rw [List.any_eq_false] at hh
    have := hh j hj
    simp only [Bool.not_eq_true, List.any_eq_false] at this
    have := this s hsj
    cases c : unknownS l s with
    | true => exact absurd c (by simpa using this)
    | false => rw [c] at hc; cases hc
theorem rdS_at (l : List ByteArray) (i : Nat) (h : i < l.length) : rdOf ByteArray.empty l (i : Int) = l[i] := getD_at l _ i h
theorem same_names (a b : List ByteArray) (h : a.map (·.toList) = b.map (·.toList)) (ha : a.length ≤ 1000000) : Evt (fun k => gangsawref49_SameNames.f k a b) true := by
  have hlen : a.length = b.length := by simpa using congrArg List.length h
  unfold gangsawref49_SameNames.f
  have key : ∀ i, i ≤ a.length → Evt (fun k => gangsawref49_SameNames.l0 k a b i) true := by
    refine down ?_ ?_
    · exact Evt.succ (g := fun _ => some true) (Evt.pure _) (fun k => by simp only [gangsawref49_SameNames.l0, Int.lt_irrefl, if_false])
    · intro i hi ih
      refine Evt.succ ih (fun k => ?_)
      have e : a[i].toList = b[i].toList := by
        have := congrArg (fun z => z[i]?) h
        simpa [hi, show i < b.length by omega] using this
      simp only [gangsawref49_SameNames.l0, rdS_at a i hi, rdS_at b i (by omega)]
      rw [if_pos (by omega), if_pos (by omega), if_pos (by omega), if_pos e, wrap_up i a.length hi (by omega)]
  exact Evt.of_eq (key 0 (by omega)) (fun k => by rw [if_pos (by omega)]; rfl)
theorem works_ev (l : List S34) (js : List S47) (hl : l.length ≤ 1000000) (hj : js.length ≤ 1000) (hs : ∀ j ∈ js, j.f1.length ≤ 1000) : Evt (fun k => machine_Works.f k l js) (worksM l js) := by
  unfold machine_Works.f
  have key : ∀ i, i ≤ js.length → ∀ out : List ByteArray, out.length ≤ 1000 * i → Evt (fun k => machine_Works.l0 k l out js (js.length : Int) i) (compactStr (sortStr (out ++ ((js.drop i).flatMap (·.f1)).filterMap fun s => if unknownS l s then some s.f0 else none))) := by
    refine down ?_ ?_
    · intro out hout
      refine Evt.succ (g := fun _ => some _) (Evt.pure _) (fun k => ?_)
      simp only [machine_Works.l0, Int.lt_irrefl, if_false, slices_Sort_string.f, slices_Compact_string.f, List.drop_length, List.flatMap_nil, List.filterMap_nil, List.append_nil]
      rw [if_pos (by omega)]; rfl
    · intro i hi ih out hout
      have hsl := hs js[i] (List.getElem_mem _)
      rw [List.drop_eq_getElem_cons hi, List.flatMap_cons, List.filterMap_append, ← List.append_assoc]
      refine Evt.succ (g := fun k => machine_Works.l1 k l out js (js.length : Int) i js[i].f1 (js[i].f1.length : Int) 0) ?_ (fun k => ?_)
      · have inner : ∀ n, n ≤ js[i].f1.length → ∀ out : List ByteArray, out.length ≤ 1000 * i + n → Evt (fun k => machine_Works.l1 k l out js (js.length : Int) i js[i].f1 (js[i].f1.length : Int) n) (compactStr (sortStr (out ++ ((js[i].f1.drop n).filterMap fun s => if unknownS l s then some s.f0 else none) ++ ((js.drop (i + 1)).flatMap (·.f1)).filterMap fun s => if unknownS l s then some s.f0 else none))) := by
          refine down ?_ ?_
          · intro out hout
            rw [List.drop_length, List.filterMap_nil, List.append_nil]
            refine Evt.succ (ih out (by omega)) (fun k => ?_)
            simp only [machine_Works.l1, Int.lt_irrefl, if_false]
            rw [wrap_up i js.length hi (by omega)]
          · intro n hn ih2 out hout
            rw [List.drop_eq_getElem_cons hn, List.filterMap_cons]
            cases hu : unknownS l js[i].f1[n] with
            | true =>
              simp only [if_true]
              have := ih2 (out ++ [js[i].f1[n].f0]) (by simp; omega)
              rw [List.append_assoc out [_]] at this
              refine Evt.succ this (fun k => ?_)
              have hu' : (whoV l js[i].f1[n].f0 0).length = 0 := by simpa [unknownS] using hu
              simp only [machine_Works.l1, rd36_at _ n hn, can_f l _ hl, Option.bind_some]
              rw [if_pos (by omega), if_pos (by omega), if_pos (by omega), if_pos (by omega), if_pos (by omega), wrap_up n _ hn (by omega)]
            | false =>
              simp only [Bool.false_eq_true, if_false]
              refine Evt.succ (ih2 out (by omega)) (fun k => ?_)
              have hu' : ¬ (whoV l js[i].f1[n].f0 0).length = 0 := by simpa [unknownS] using hu
              simp only [machine_Works.l1, rd36_at _ n hn, can_f l _ hl, Option.bind_some]
              rw [if_pos (by omega), if_pos (by omega), if_pos (by omega), if_neg (by omega), wrap_up n _ hn (by omega)]
        have := inner 0 (by omega) out (by omega)
        rw [List.drop_zero] at this
        exact this
      · simp only [machine_Works.l0, rd47_at js i hi]
        rw [if_pos (by omega), if_pos (by omega), if_pos (by omega)]
  have := key 0 (by omega) [] (by simp)
  rw [List.drop_zero, List.nil_append] at this
  exact this

def insNext (w : ByteArray) (o : List ByteArray) (i : Nat) : List ByteArray := o.take i ++ insB w (o.drop i)
theorem insNext_zero (w : ByteArray) (o : List ByteArray) : insNext w o 0 = insB w o := by simp [insNext]
theorem insNext_less (w : ByteArray) (o : List ByteArray) (i : Nat) (hi : i < o.length) (h : lessB o[i] w = true) : insNext w o i = insNext w o (i + 1) := by
  unfold insNext
  rw [List.drop_eq_getElem_cons hi, insB, if_pos h, List.take_succ_eq_append_getElem hi, List.append_assoc]; rfl
theorem ref_ins (l : List S34) (js : List S47) (hl : l.length ≤ 1000000) (i n : Nat) (s : S36) (o : List ByteArray) (ho : o.length ≤ 1000000) (hn : n ≤ 1000000) {v : List ByteArray}
    (hnext : Evt (fun k => gangsawref49_Works.l1 k l js (refStep l o s) i ((n + 1 : Nat) : Int)) v) :
    Evt (fun k => gangsawref49_Works.l2 k l js o i n s.f0 0) v := by
  have hw : wrap64 ((n : Int) + 1) = ((n + 1 : Nat) : Int) := by rw [wrap_mid] <;> omega
  have key : ∀ p, p ≤ o.length → refStep l o s = (if unknownS l s then insNext s.f0 o p else o) → Evt (fun k => gangsawref49_Works.l2 k l js o i n s.f0 p) v := by
    refine down ?_ ?_
    · intro hp
      rw [hp] at hnext
      refine Evt.succ (g := fun k => (gangsawref49_Who.f k l s.f0).bind fun t => if (t.length : Int) = 0 then gangsawref49_Works.l1 k l js (o ++ [s.f0]) i ((n + 1 : Nat) : Int) else gangsawref49_Works.l1 k l js o i ((n + 1 : Nat) : Int)) ?_ (fun k => ?_)
      · refine Evt.bind (who_ev l s.f0 hl) ?_
        cases hu : unknownS l s with
        | true =>
          rw [hu] at hnext
          have hu' : (whoV l s.f0 0).length = 0 := by simpa [unknownS] using hu
          have e : insNext s.f0 o o.length = o ++ [s.f0] := by simp [insNext, insB]
          simp only [if_true, e] at hnext
          exact Evt.of_eq hnext (fun k => by rw [if_pos (by omega)])
        | false =>
          rw [hu] at hnext
          have hu' : ¬ (whoV l s.f0 0).length = 0 := by simpa [unknownS] using hu
          simp only [Bool.false_eq_true, if_false] at hnext
          exact Evt.of_eq hnext (fun k => by rw [if_neg (by omega)])
      · simp only [gangsawref49_Works.l2, Int.lt_irrefl, if_false, hw]
        congr 1
        funext t
        by_cases ht : (t.length : Int) = 0
        · rw [if_pos ht, if_pos ht]
          simp only [Option.bind_some, List.nil_append, Int.toNat_natCast, List.take_length, List.drop_length, List.append_nil, List.length_nil, List.length_append, List.length_singleton, if_true]
          rw [if_pos (by omega), if_pos (by omega), if_pos (by omega), if_pos (by omega), if_pos (by omega)]
        · rw [if_neg ht, if_neg ht]
    · intro p hp ih h
      by_cases hless : lessB o[p] s.f0 = true
      · refine Evt.succ (ih (by rw [h, insNext_less _ _ _ hp hless])) (fun k => ?_)
        unfold lessB at hless
        simp only [gangsawref49_Works.l2, rdS_at o p hp]
        rw [if_pos (by omega), if_pos (by omega), if_pos hless, wrap_up p o.length hp (by omega)]
      · have hl2 : ¬ Op.bytesLess o[p].toList s.f0.toList = true := hless
        have hdrop : o.drop p = o[p] :: o.drop (p + 1) := List.drop_eq_getElem_cons hp
        refine Evt.succ (g := fun k => (gangsawref49_Who.f k l s.f0).bind fun t => if (t.length : Int) = 0 then (if o[p].toList = s.f0.toList then gangsawref49_Works.l1 k l js o i ((n + 1 : Nat) : Int) else gangsawref49_Works.l1 k l js (o.take p ++ [s.f0] ++ o.drop p) i ((n + 1 : Nat) : Int)) else gangsawref49_Works.l1 k l js o i ((n + 1 : Nat) : Int)) ?_ (fun k => ?_)
        · refine Evt.bind (who_ev l s.f0 hl) ?_
          rw [h] at hnext
          cases hu : unknownS l s with
          | true =>
            rw [hu] at hnext
            have hu' : (whoV l s.f0 0).length = 0 := by simpa [unknownS] using hu
            simp only [if_true] at hnext
            by_cases heq : o[p].toList = s.f0.toList
            · have e : insNext s.f0 o p = o := by
                unfold insNext
                rw [hdrop, insB, if_neg hless, if_pos heq, ← hdrop, List.take_append_drop]
              rw [e] at hnext
              exact Evt.of_eq hnext (fun k => by rw [if_pos (by omega), if_pos heq])
            · have e : insNext s.f0 o p = o.take p ++ [s.f0] ++ o.drop p := by
                unfold insNext
                rw [hdrop, insB, if_neg hless, if_neg heq, List.append_assoc]; rfl
              rw [e] at hnext
              exact Evt.of_eq hnext (fun k => by rw [if_pos (by omega), if_neg heq])
          | false =>
            rw [hu] at hnext
            have hu' : ¬ (whoV l s.f0 0).length = 0 := by simpa [unknownS] using hu
            simp only [Bool.false_eq_true, if_false] at hnext
            exact Evt.of_eq hnext (fun k => by rw [if_neg (by omega)])
        · simp only [gangsawref49_Works.l2, rdS_at o p hp, hw]
          rw [if_pos (by omega), if_pos (by omega), if_neg hl2]
          congr 1
          funext t
          by_cases ht : (t.length : Int) = 0
          · rw [if_pos ht, if_pos ht, if_neg (by omega)]
            by_cases heq : o[p].toList = s.f0.toList
            · rw [if_pos heq, if_pos heq]
            · rw [if_neg heq, if_neg heq]
              simp only [Option.bind_some, List.nil_append, Int.toNat_natCast, List.length_nil, List.length_append, List.length_singleton, List.length_take, List.length_drop]
              rw [if_pos (by omega), if_pos (by omega), if_pos (by omega), if_pos (by omega)]
          · rw [if_neg ht, if_neg ht]
  exact key 0 (by omega) (by rw [insNext_zero]; rfl)
theorem refStep_len (l : List S34) (o : List ByteArray) (s : S36) : (refStep l o s).length ≤ o.length + 1 := by
  unfold refStep; split
  · exact insB_len _ _
  · omega
theorem foldl_refLen (l : List S34) (ss : List S36) (o : List ByteArray) : (ss.foldl (refStep l) o).length ≤ o.length + ss.length := by
  induction ss generalizing o with
  | nil => simp
  | cons s ss ih => rw [List.foldl_cons, List.length_cons]; have := ih (refStep l o s); have := refStep_len l o s; omega
theorem rworks_ev (l : List S34) (js : List S47) (hl : l.length ≤ 1000000) (hj : js.length ≤ 900) (hs : ∀ j ∈ js, j.f1.length ≤ 1000) : Evt (fun k => gangsawref49_Works.f k l js) (worksR l js) := by
  unfold gangsawref49_Works.f
  have key : ∀ i, i ≤ js.length → ∀ o : List ByteArray, o.length ≤ 1000 * i → Evt (fun k => gangsawref49_Works.l0 k l js o i) (((js.drop i).flatMap (·.f1)).foldl (refStep l) o) := by
    refine down ?_ ?_
    · intro o _
      rw [List.drop_length]
      exact Evt.succ (g := fun _ => some o) (Evt.pure _) (fun k => by simp only [gangsawref49_Works.l0, Int.lt_irrefl, if_false])
    · intro i hi ih o ho
      have hsl := hs js[i] (List.getElem_mem _)
      rw [List.drop_eq_getElem_cons hi, List.flatMap_cons, List.foldl_append]
      refine Evt.succ (g := fun k => gangsawref49_Works.l1 k l js o i 0) ?_ (fun k => by simp only [gangsawref49_Works.l0]; rw [if_pos (by omega)])
      have inner : ∀ n, n ≤ js[i].f1.length → ∀ o : List ByteArray, o.length ≤ 1000 * i + n → Evt (fun k => gangsawref49_Works.l1 k l js o i n) (((js.drop (i + 1)).flatMap (·.f1)).foldl (refStep l) ((js[i].f1.drop n).foldl (refStep l) o)) := by
        refine down ?_ ?_
        · intro o ho
          rw [List.drop_length, List.foldl_nil]
          refine Evt.succ (ih o (by omega)) (fun k => ?_)
          simp only [gangsawref49_Works.l1, rd47_at js i hi]
          rw [if_pos (by omega), if_pos (by omega), if_neg (by omega), wrap_up i js.length hi (by omega)]
        · intro n hn ih2 o ho
          rw [List.drop_eq_getElem_cons hn, List.foldl_cons]
          have hst := refStep_len l o js[i].f1[n]
          refine Evt.succ (ref_ins l js hl i n js[i].f1[n] o (by omega) (by omega) (ih2 _ (by omega))) (fun k => ?_)
          simp only [gangsawref49_Works.l1, rd47_at js i hi, rd36_at _ n hn]
          rw [if_pos (by omega), if_pos (by omega), if_pos (by omega), if_pos (by omega)]
      have := inner 0 (by omega) o (by omega)
      rw [List.drop_zero] at this
      exact this
  have := key 0 (by omega) [] (by simp)
  rw [List.drop_zero] at this
  exact this
end Go.Proofs.Ytpfggghpkdnppaa.PWorks
