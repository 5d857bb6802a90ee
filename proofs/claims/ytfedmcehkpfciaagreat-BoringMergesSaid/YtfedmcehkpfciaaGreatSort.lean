/-
  slices.Sort at []string and at []int, in the print's own form: the row holds the same elements in order.
-/
import Derived.Test.YtfedmcehkpfciaaGreatLays
import Derived.Test.YtfedmcehkpfciaaGreatM1
import Derived.Shelf.Slices.In.SortNone
import Derived.Shelf.Slices.CompactS
import Derived.Shelf.Slices.CompactI
set_option linter.unusedVariables false
set_option linter.unusedSimpArgs false
namespace Go.Proofs.YtfedmcehkpfciaaGreat.Sort
open Go.RowKit Go.Shelf _root_.Go.Sort Go.Proofs.YtfedmcehkpfciaaGreatW.PrintWords Go.Proofs.YtfedmcehkpfciaaGreatW.PrintMore

theorem putCells_take {β : Type} [Inhabited β] (enc : β → Value) (D : Array β) (cur : Array Value) (h : D.size ≤ cur.size) : (putCells enc 0 D cur).toList.take D.size = D.toList.map enc := by
  apply List.ext_getElem
  · simp [putCells, h]
  · intro i h1 h2
    simp at h2
    simp [putCells, h2]
/-- What a sorted row is, in the world that the sort leaves. -/
theorem sorted_own {α β : Type} [Inhabited β] {enc : α → Value} {enc2 : β → Value} {w w0 : World} {g n cap : Nat} {e : TypeId} {cur : Array Value} (hb : w.heap[g]? = some (.cells cur e (0, 0))) (hn : n ≤ cap) (hc : cap ≤ maxLen) (hs : cur.size = cap * 1) (hg : w0.heap.size ≤ g)
    (hB : Below w0.heap.size w0 w) (D : Array β) (ys : List α) (hD : D.size = n) (hy : D.toList.map enc2 = ys.map enc) (m : Nat) (os : Array Obj) {S : Nat → Prop} (hS : S g) :
    (grow (putRow enc2 (_root_.Go.Sort.ahead w m) g 0 D) os).ownsRow w0.heap.size e 1 (.slice (some ⟨g, 0, none⟩) n cap) ys.length (encs enc ys) ∧ Below w0.heap.size w0 (grow (putRow enc2 (_root_.Go.Sort.ahead w m) g 0 D) os) ∧ Kept w (grow (putRow enc2 (_root_.Go.Sort.ahead w m) g 0 D) os) S := by
  have hlt := blk_lt hb
  have hys : ys.length = n := by
    have := congrArg List.length hy
    simp at this
    omega
  have hh : ∀ k, k < w.heap.size → (grow (putRow enc2 (_root_.Go.Sort.ahead w m) g 0 D) os).heap[k]? = if g = k then some (.cells (putCells enc2 0 D cur) e (0, 0)) else w.heap[k]? := by
    intro k hk
    show ((w.heap.modify g (onCells (putCells enc2 0 D))) ++ os)[k]? = _
    rw [Array.getElem?_append_left (by simpa using hk), Array.getElem?_modify]
    by_cases c : g = k
    · subst c; simp [hb, onCells]
    · simp [c]
  have hsz : w.heap.size ≤ (grow (putRow enc2 (_root_.Go.Sort.ahead w m) g 0 D) os).heap.size := by
    show w.heap.size ≤ ((w.heap.modify g (onCells (putCells enc2 0 D))) ++ os).size
    simp
  refine ⟨⟨by simp [encs], .inr ⟨g, cap, putCells enc2 0 D cur, by rw [hys], hg, by rw [hh g hlt, if_pos rfl], by omega, hc, by simp [putCells, hs], ?_⟩⟩, ⟨hB.os, hB.tape, hB.output, Nat.le_trans hB.size hsz, fun k hk => ?_⟩, ⟨hsz, fun i hi hns => ?_⟩⟩
  · rw [Nat.mul_one, hys, ← hD, putCells_take _ _ _ (by omega)]
    exact hy
  · rw [hh k (Nat.lt_of_lt_of_le hk hB.size), if_neg (by omega)]
    exact hB.block k hk
  · rw [hh i hi, if_neg (fun (c : g = i) => hns (c ▸ hS))]
/-- The same where fewer elements are told than were put. -/
theorem put_own {α β : Type} [Inhabited β] {enc : α → Value} {enc2 : β → Value} {w w0 : World} {g n cap : Nat} {e : TypeId} {cur : Array Value} (hb : w.heap[g]? = some (.cells cur e (0, 0))) (hn : n ≤ cap) (hc : cap ≤ maxLen) (hs : cur.size = cap * 1) (hg : w0.heap.size ≤ g)
    (hB : Below w0.heap.size w0 w) (D : Array β) (ys : List α) (hD : n ≤ D.size) (hDc : D.size ≤ cap) (hy : (D.toList.take n).map enc2 = ys.map enc) (m : Nat) (os : Array Obj) {S : Nat → Prop} (hS : S g) :
    (grow (putRow enc2 (_root_.Go.Sort.ahead w m) g 0 D) os).ownsRow w0.heap.size e 1 (.slice (some ⟨g, 0, none⟩) n cap) ys.length (encs enc ys) ∧ Below w0.heap.size w0 (grow (putRow enc2 (_root_.Go.Sort.ahead w m) g 0 D) os) ∧ Kept w (grow (putRow enc2 (_root_.Go.Sort.ahead w m) g 0 D) os) S := by
  have hlt := blk_lt hb
  have hys : ys.length = n := by
    have := congrArg List.length hy
    simp at this
    omega
  have hh : ∀ k, k < w.heap.size → (grow (putRow enc2 (_root_.Go.Sort.ahead w m) g 0 D) os).heap[k]? = if g = k then some (.cells (putCells enc2 0 D cur) e (0, 0)) else w.heap[k]? := by
    intro k hk
    show ((w.heap.modify g (onCells (putCells enc2 0 D))) ++ os)[k]? = _
    rw [Array.getElem?_append_left (by simpa using hk), Array.getElem?_modify]
    by_cases c : g = k
    · subst c; simp [hb, onCells]
    · simp [c]
  have hsz : w.heap.size ≤ (grow (putRow enc2 (_root_.Go.Sort.ahead w m) g 0 D) os).heap.size := by
    show w.heap.size ≤ ((w.heap.modify g (onCells (putCells enc2 0 D))) ++ os).size
    simp
  refine ⟨⟨by simp [encs], .inr ⟨g, cap, putCells enc2 0 D cur, by rw [hys], hg, by rw [hh g hlt, if_pos rfl], by omega, hc, by simp [putCells, hs], ?_⟩⟩, ⟨hB.os, hB.tape, hB.output, Nat.le_trans hB.size hsz, fun k hk => ?_⟩, ⟨hsz, fun i hi hns => ?_⟩⟩
  · have h1 := putCells_take enc2 D cur (by omega)
    have h2 : (putCells enc2 0 D cur).toList.take n = ((putCells enc2 0 D cur).toList.take D.size).take n := by rw [List.take_take, Nat.min_eq_left hD]
    rw [Nat.mul_one, hys, h2, h1, ← List.map_take]
    exact hy
  · rw [hh k (Nat.lt_of_lt_of_le hk hB.size), if_neg (by omega)]
    exact hB.block k hk
  · rw [hh i hi, if_neg (fun (c : g = i) => hns (c ▸ hS))]
def insL {α : Type} (le : α → α → Bool) (x : α) : List α → List α
  | [] => [x]
  | y :: l => if le y x then y :: insL le x l else x :: y :: l
def isort {α : Type} (le : α → α → Bool) (l : List α) : List α := l.foldl (fun o x => insL le x o) []
section
variable {α : Type} {le : α → α → Bool}
theorem insL_perm (x : α) (l : List α) : (insL le x l).Perm (x :: l) := by
  induction l with
  | nil => exact List.Perm.refl _
  | cons y l ih =>
    simp only [insL]
    split
    · exact (List.Perm.cons y ih).trans (List.Perm.swap x y l)
    · exact List.Perm.refl _
theorem foldl_ins_perm (l o : List α) : (l.foldl (fun o x => insL le x o) o).Perm (o ++ l) := by
  induction l generalizing o with
  | nil => simp
  | cons x l ih =>
    rw [List.foldl_cons]
    refine (ih _).trans ?_
    refine (List.Perm.append_right l (insL_perm x o)).trans ?_
    exact List.perm_middle.symm
theorem isort_perm (l : List α) : (isort le l).Perm l := by simpa [isort] using foldl_ins_perm (le := le) l []
theorem insL_sorted (tr : ∀ a b c, le a b = true → le b c = true → le a c = true) (tot : ∀ a b, (le a b || le b a) = true) (x : α) (l : List α) (h : l.Pairwise (fun a b => le a b = true)) : (insL le x l).Pairwise (fun a b => le a b = true) := by
  induction l with
  | nil => simp [insL]
  | cons y l ih =>
    rw [List.pairwise_cons] at h
    simp only [insL]
    split
    · rename_i c
      rw [List.pairwise_cons]
      refine ⟨fun z hz => ?_, ih h.2⟩
      rcases List.mem_cons.1 ((insL_perm x l).mem_iff.1 hz) with rfl | hz
      · exact c
      · exact h.1 z hz
    · rename_i c
      have c2 : le x y = true := by have := tot x y; simp [c] at this; exact this
      rw [List.pairwise_cons]
      refine ⟨fun z hz => ?_, by rw [List.pairwise_cons]; exact h⟩
      rcases List.mem_cons.1 hz with rfl | hz
      · exact c2
      · exact tr _ _ _ c2 (h.1 z hz)
theorem isort_sorted (tr : ∀ a b c, le a b = true → le b c = true → le a c = true) (tot : ∀ a b, (le a b || le b a) = true) (l : List α) : (isort le l).Pairwise (fun a b => le a b = true) := by
  unfold isort
  have : ∀ o : List α, o.Pairwise (fun a b => le a b = true) → (l.foldl (fun o x => insL le x o) o).Pairwise (fun a b => le a b = true) := by
    induction l with
    | nil => intro o h; exact h
    | cons x l ih => intro o h; rw [List.foldl_cons]; exact ih _ (insL_sorted tr tot x o h)
  exact this [] List.Pairwise.nil
theorem isort_eq (tr : ∀ a b c, le a b = true → le b c = true → le a c = true) (tot : ∀ a b, (le a b || le b a) = true) (anti : ∀ a b, le a b = true → le b a = true → a = b) (l : List α) : l.mergeSort le = isort le l := by
  have h1 := List.pairwise_mergeSort tr tot l
  have h2 := isort_sorted tr tot l
  have h3 : (l.mergeSort le).Perm (isort le l) := (List.mergeSort_perm l le).trans (isort_perm l).symm
  exact List.Perm.eq_of_pairwise (fun a b _ _ ha hb => anti a b ha hb) h1 h2 h3
end
def sortInt (l : List Int) : List Int := isort (fun x y => decide (x ≤ y)) l
theorem sortInt_eq (l : List Int) : (l.mergeSort fun x y => decide (x ≤ y)) = sortInt l :=
  isort_eq (fun a b c h1 h2 => by simp at *; omega) (fun a b => by simp; omega) (fun a b h1 h2 => by simp at *; omega) l
def sortStr (l : List ByteArray) : List ByteArray := (isort (fun x y => decide (x ≤ y)) (l.map (·.toList))).map fun b => ⟨b.toArray⟩
def slices_Sort_string.f (l0 : List ByteArray) : Option (List ByteArray) := if l0.length < 4611686018427387904 then some (sortStr l0) else none
def slices_Sort_int.f (l0 : List Int) : Option (List Int) := if l0.length < 4611686018427387904 then some (sortInt l0) else none
theorem slices_Sort_int.calls (P0_ : Nat → Prop) (u9000_ : Value) (l0 : List Int) (r : List Int) (w0 w : World) (hB : Below w0.heap.size w0 w) (ho0 : Kd.R (Kd.int .i64) 3 w w0.heap.size P0_ u9000_ l0) (h : slices_Sort_int.f l0 = some r) :
    Calls Tryz.prog 57 #[u9000_] w fun e w' => e = .returned (.tuple #[]) ∧ Kd.R (Kd.int .i64) 3 w' w0.heap.size (fun k_ => (P0_ k_ ∨ w.heap.size ≤ k_)) u9000_ r ∧ Below w0.heap.size w0 w' ∧ Kept w w' (fun k_ => P0_ k_) := by
  unfold slices_Sort_int.f at h
  by_cases hsz : l0.length < 4611686018427387904
  · rw [if_pos hsz] at h
    obtain rfl := Option.some.inj h
    have hok := ho0.1
    obtain ⟨hl, ⟨rfl, hn⟩ | ⟨g, cap, cur, rfl, hg, hb, hn, hc, hs, ht⟩⟩ := Kd.own_of_R ho0
    · obtain rfl : l0 = [] := List.length_eq_zero_iff.1 hn
      refine (Any.slices_Sort_int_none Lays.lays189 none 0 w).mono ?_
      rintro e w' ⟨rfl, rfl⟩
      exact ⟨rfl, Kd.R_mono (show Kd.R _ _ _ _ _ _ (sortInt []) from by simpa [sortInt, isort] using ho0) (fun k hk => .inl hk), hB, Kept.refl _ _⟩
    · rw [Nat.mul_one] at ht
      have hcell : ∀ j, j < l0.length → w.cell? ⟨g, j, none⟩ = some (.int .i64 (l0.getD j 0)) := by
        intro j hj
        rw [blk_cell hb, ← Array.getElem?_toList]
        have : (cur.toList.take l0.length)[j]? = cur.toList[j]? := by rw [List.getElem?_take, if_pos hj]
        rw [← this, ht]
        simp [encs, hj]
      have hH : Holds (Value.int .i64) w g 0 l0.toArray := by
        intro j hj
        simp at hj
        refine ⟨?_, by rw [Nat.zero_add]; exact blk_frozen hb j⟩
        rw [Nat.zero_add, hcell j hj]
        simp [hj]
      refine (Any.slices_Sort_int Lays.lays189 g 0 cap l0 w hH (blk_lt hb) hsz).mono ?_
      rintro e w' ⟨rfl, m, os, rfl⟩
      obtain ⟨h1, h2, h3⟩ := sorted_own (enc := Value.int .i64) (enc2 := Value.int .i64) hb hn hc hs hg hB ((l0.mergeSort fun x y => decide (x ≤ y)).toArray) (sortInt l0) (by simp) (by simp [sortInt_eq]) m os (S := fun k_ => P0_ k_) (hok g rfl)
      refine ⟨rfl, ?_, h2, h3⟩
      refine Kd.R_of_own ?_ (fun k hk => .inl (hok k hk))
      exact h1
  · rw [if_neg hsz] at h; cases h
def compactStr (l : List ByteArray) : List ByteArray := (Lib.compact (l.map (·.toList))).map fun b => ⟨b.toArray⟩
def slices_Compact_string.f (l0 : List ByteArray) : Option (List ByteArray) := some (compactStr l0)
theorem compactI_len (zs : List Int) : (Lib.compact zs).length ≤ zs.length := by
  unfold Lib.compact Lib.compactUpTo
  rw [List.length_map]
  exact Nat.le_trans (List.length_filter_le _ _) (by simp)
def slices_Compact_int.f (l0 : List Int) : Option (List Int) := some (Lib.compact l0)
theorem slices_Compact_int.calls (P0_ : Nat → Prop) (u9000_ : Value) (l0 : List Int) (r : List Int) (w0 w : World) (hB : Below w0.heap.size w0 w) (ho0 : Kd.R (Kd.int .i64) 3 w w0.heap.size P0_ u9000_ l0) (h : slices_Compact_int.f l0 = some r) :
    Calls Tryz.prog 58 #[u9000_] w fun e w' => ∃ v0_ : Value, e = .returned (v0_) ∧ Kd.R (Kd.int .i64) 3 w' w0.heap.size (fun k_ => (P0_ k_ ∨ w.heap.size ≤ k_)) v0_ r ∧ Below w0.heap.size w0 w' ∧ Kept w w' (fun k_ => P0_ k_) := by
  obtain rfl := Option.some.inj h
  have hok := ho0.1
  obtain ⟨hl, ⟨rfl, hn⟩ | ⟨g, cap, cur, rfl, hg, hb, hn, hc, hs, ht⟩⟩ := Kd.own_of_R ho0
  · obtain rfl : l0 = [] := List.length_eq_zero_iff.1 hn
    refine (Any.slices_Compact_int_empty Lays.laysS20 none 0 w).mono ?_
    rintro e w' ⟨rfl, rfl⟩
    exact ⟨_, rfl, Kd.R_mono (show Kd.R _ _ _ _ _ _ (Lib.compact []) from by simpa [Lib.compact, Lib.compactUpTo] using ho0) (fun k hk => .inl hk), hB, Kept.refl _ _⟩
  · rw [Nat.mul_one] at ht
    have hcell : ∀ j, j < l0.length → w.cell? ⟨g, j, none⟩ = some (.int .i64 (l0.getD j 0)) := by
      intro j hj
      rw [blk_cell hb, ← Array.getElem?_toList]
      have : (cur.toList.take l0.length)[j]? = cur.toList[j]? := by rw [List.getElem?_take, if_pos hj]
      rw [← this, ht]
      simp [encs, hj]
    have hH : Holds (Value.int .i64) w g 0 l0.toArray := by
      intro j hj
      simp at hj
      refine ⟨?_, by rw [Nat.zero_add]; exact blk_frozen hb j⟩
      rw [Nat.zero_add, hcell j hj]
      simp [hj]
    have hcall := Any.slices_Compact_int Lays.laysS20 g 0 cap l0 w hH (by unfold maxLen at hc; omega) hn
    refine hcall.mono ?_
    rintro e w' ⟨rfl, q, rfl⟩
    have hle := compactI_len l0
    generalize Lib.compact l0 = zs at hle
    have hg0 : ∀ W : World, grow W #[] = W := fun W => by simp [grow]
    obtain ⟨h1, h2, h3⟩ := put_own (enc := Value.int .i64) (enc2 := Value.int .i64) hb (n := zs.length) (by omega) hc hs hg hB ((zs ++ List.replicate (l0.length - zs.length) 0).toArray) zs (by simp) (by simp; omega) (by simp) q #[] (S := fun k_ => P0_ k_) (hok g rfl)
    rw [hg0] at h1 h2 h3
    refine ⟨_, rfl, ?_, h2, h3⟩
    refine Kd.R_of_own ?_ (fun k hk => .inl (hok k hk))
    exact h1
end Go.Proofs.YtfedmcehkpfciaaGreat.Sort
