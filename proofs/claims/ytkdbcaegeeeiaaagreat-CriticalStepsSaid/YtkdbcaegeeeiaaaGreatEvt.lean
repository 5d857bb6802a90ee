/-
  A count of rounds that suffices: what a printed function yields from some count of rounds on. Plain lemmas.
-/
import Derived.Test.YtkdbcaegeeeiaaaGreatM1
import Derived.IntWalk
set_option linter.unusedVariables false
set_option linter.unusedSimpArgs false
namespace Go.Proofs.YtkdbcaegeeeiaaaGreat.Rnd
open Go.RowKit Go.Proofs.YtkdbcaegeeeiaaaGreatW.PrintWords

def Evt {α : Type} (g : Nat → Option α) (v : α) : Prop := ∃ K, ∀ k, K ≤ k → g k = some v
namespace Evt
variable {α β : Type}
theorem pure (v : α) : Evt (fun _ => some v) v := ⟨0, fun _ _ => rfl⟩
theorem const {f : Nat → Option α} {v : α} (e : ∀ k, f k = some v) : Evt f v := ⟨0, fun k _ => e k⟩
theorem succ {f g : Nat → Option α} {v : α} (h : Evt g v) (e : ∀ k, f (k + 1) = g k) : Evt f v := by
  obtain ⟨K, hK⟩ := h
  refine ⟨K + 1, fun k hk => ?_⟩
  obtain ⟨k, rfl⟩ : ∃ j, k = j + 1 := ⟨k - 1, by omega⟩
  rw [e k]
  exact hK k (by omega)
theorem bind {g : Nat → Option α} {h : Nat → α → Option β} {v : α} {r : β} (hg : Evt g v) (hh : Evt (fun k => h k v) r) : Evt (fun k => (g k).bind (h k)) r := by
  obtain ⟨K, hK⟩ := hg
  obtain ⟨L, hL⟩ := hh
  refine ⟨max K L, fun k hk => ?_⟩
  show (g k).bind (h k) = some r
  rw [hK k (by omega)]
  exact hL k (by omega)
theorem bind0 {g : Option α} {h : Nat → α → Option β} {v : α} {r : β} (hg : g = some v) (hh : Evt (fun k => h k v) r) : Evt (fun k => g.bind (h k)) r := by
  subst hg
  exact hh
theorem exists_ {f : Nat → Option α} {v : α} (h : Evt f v) : ∃ k, f k = some v := by
  obtain ⟨K, hK⟩ := h
  exact ⟨K, hK K (Nat.le_refl _)⟩
end Evt
/-- Down from the end. -/
theorem down {P : Nat → Prop} {n : Nat} (h0 : P n) (hs : ∀ i, i < n → P (i + 1) → P i) : ∀ i, i ≤ n → P i := by
  intro i hi
  induction hd : n - i generalizing i with
  | zero =>
    obtain rfl : i = n := by omega
    exact h0
  | succ d ih => exact hs i (by omega) (ih (i + 1) (by omega) (by omega))
theorem wrap_up (i n : Nat) (h : i < n) (hn : n ≤ 9223372036854775807) : wrap64 ((i : Int) + 1) = ((i + 1 : Nat) : Int) := by rw [Go.IntWalk.wrap64_in] <;> omega
theorem wrap_mid (x : Int) (h0 : -9223372036854775808 ≤ x) (h1 : x ≤ 9223372036854775807) : wrap64 x = x := Go.IntWalk.wrap64_in x ⟨h0, h1⟩
theorem getD_nat {α : Type} (l : List α) (d : α) (i : Nat) (h : i < l.length) : l.getD i d = l[i] := by simp [h]
theorem getD_at {α : Type} (l : List α) (d : α) (i : Nat) (h : i < l.length) : l.getD ((i : Nat) : Int).toNat d = l[i] := by simp [h]
/-- 'for i := 0; i < n; i++ { if bad(i) { return r } }', and what follows. -/
theorem Evt.any_up {α : Type} {F : Nat → Int → Option α} {n : Nat} (bad : Nat → Bool) (r : α) {V : α} (hend : Evt (fun k => F k n) V)
    (hbad : ∀ i, i < n → bad i = true → Evt (fun k => F k i) r) (hgo : ∀ i, i < n → bad i = false → ∀ v, Evt (fun k => F k ((i + 1 : Nat) : Int)) v → Evt (fun k => F k i) v) :
    ∀ i, i ≤ n → Evt (fun k => F k i) (if (List.range' i (n - i)).any bad then r else V) := by
  refine down ?_ ?_
  · simpa using hend
  · intro i hi ih
    have e : n - i = (n - (i + 1)) + 1 := by omega
    rw [e, List.range'_succ, List.any_cons]
    cases hb : bad i with
    | true => rw [Bool.true_or, if_pos rfl]; exact hbad i hi hb
    | false => rw [Bool.false_or]; exact hgo i hi hb _ ih
theorem any_range {β : Type} (l : List β) (bad : β → Bool) (p : Nat → Bool) (hp : ∀ i (h : i < l.length), p i = bad l[i]) : (List.range' 0 (l.length - 0)).any p = l.any bad := by
  rw [Bool.eq_iff_iff]
  simp only [List.any_eq_true, List.mem_range'_1, Nat.sub_zero, Nat.zero_add, Nat.zero_le, true_and]
  constructor
  · rintro ⟨i, hi, h⟩
    exact ⟨l[i], List.getElem_mem _, by rw [← hp i hi]; exact h⟩
  · rintro ⟨x, hx, h⟩
    obtain ⟨i, hi, rfl⟩ := List.mem_iff_getElem.1 hx
    exact ⟨i, hi, by rw [hp i hi]; exact h⟩
theorem Evt.any_list {α β : Type} {F : Nat → Int → Option α} {l : List β} (bad : β → Bool) (r : α) {V : α} (hend : Evt (fun k => F k l.length) V)
    (hbad : ∀ i (h : i < l.length), bad l[i] = true → Evt (fun k => F k i) r) (hgo : ∀ i (h : i < l.length), bad l[i] = false → ∀ v, Evt (fun k => F k ((i + 1 : Nat) : Int)) v → Evt (fun k => F k i) v) :
    Evt (fun k => F k 0) (if l.any bad then r else V) := by
  have h := Evt.any_up (F := F) (n := l.length) (fun i => if h : i < l.length then bad l[i] else false) r hend (fun i hi hb => hbad i hi (by simpa [hi] using hb)) (fun i hi hb => hgo i hi (by simpa [hi] using hb)) 0 (by omega)
  rw [any_range l bad _ (fun i hi => by simp [hi])] at h
  exact h
/-- One is bad: what follows isn't asked. -/
theorem Evt.any_bad {α β : Type} {F : Nat → Int → Option α} {l : List β} (bad : β → Bool) (r : α) (hany : l.any bad = true)
    (hbad : ∀ i (h : i < l.length), bad l[i] = true → Evt (fun k => F k i) r) (hgo : ∀ i (h : i < l.length), bad l[i] = false → ∀ v, Evt (fun k => F k ((i + 1 : Nat) : Int)) v → Evt (fun k => F k i) v) :
    Evt (fun k => F k 0) r := by
  have key : ∀ i, i ≤ l.length → (l.drop i).any bad = true → Evt (fun k => F k (i : Nat)) r := by
    refine down ?_ ?_
    · intro h; simp at h
    · intro i hi ih h
      rw [List.drop_eq_getElem_cons hi, List.any_cons] at h
      cases hb : bad l[i] with
      | true => exact hbad i hi hb
      | false =>
        rw [hb, Bool.false_or] at h
        exact hgo i hi hb _ (ih h)
  exact key 0 (by omega) (by simpa using hany)
end Go.Proofs.YtkdbcaegeeeiaaaGreat.Rnd
