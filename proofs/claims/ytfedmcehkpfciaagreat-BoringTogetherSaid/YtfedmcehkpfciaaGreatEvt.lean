/-
  A count of rounds that suffices: what a printed function yields from some count of rounds on. Plain lemmas.
-/
import Derived.Test.YtfedmcehkpfciaaGreatM1
import Derived.IntWalk
set_option linter.unusedVariables false
set_option linter.unusedSimpArgs false
namespace Go.Proofs.YtfedmcehkpfciaaGreat.Rnd
open Go.RowKit Go.Proofs.YtfedmcehkpfciaaGreatW.PrintWords

def Evt {α : Type} (g : Nat → Option α) (v : α) : Prop := ∃ K, ∀ k, K ≤ k → g k = some v
namespace Evt
variable {α β : Type}
theorem pure (v : α) : Evt (fun _ => some v) v := ⟨0, fun _ _ => rfl⟩
theorem succ {f g : Nat → Option α} {v : α} (h : Evt g v) (e : ∀ k, f (k + 1) = g k) : Evt f v := by
  obtain ⟨K, hK⟩ := h
  refine ⟨K + 1, fun k hk => ?_⟩
  obtain ⟨k, rfl⟩ : ∃ j, k = j + 1 := ⟨k - 1, by omega⟩
  rw [e k]
  exact hK k (by omega)
theorem bind {g : Nat → Option α} {h : Nat → α → Option β} {v : α} {r : β} (hg : Evt g v) (hh : Evt (fun k => h k v) r) : Evt (fun k => (g k).bind (h k)) r := by
  obtain ⟨K, hK⟩ := hg
  obtain ⟨L, hL⟩ := hh
  refine ⟨max K L, fun k hk => ?_⟩
  show (g k).bind (h k) = some r
  rw [hK k (by omega)]
  exact hL k (by omega)
theorem bind0 {g : Option α} {h : Nat → α → Option β} {v : α} {r : β} (hg : g = some v) (hh : Evt (fun k => h k v) r) : Evt (fun k => g.bind (h k)) r := by
  subst hg
  exact hh
theorem exists_ {f : Nat → Option α} {v : α} (h : Evt f v) : ∃ k, f k = some v := by
  obtain ⟨K, hK⟩ := h
  exact ⟨K, hK K (Nat.le_refl _)⟩
end Evt
/-- Down from the end. -/
theorem down {P : Nat → Prop} {n : Nat} (h0 : P n) (hs : ∀ i, i < n → P (i + 1) → P i) : ∀ i, i ≤ n → P i := by
  intro i hi
  induction hd : n - i generalizing i with
  | zero =>
    obtain rfl : i = n := by omega
    exact h0
  | succ d ih => exact hs i (by omega) (ih (i + 1) (by omega) (by omega))
theorem wrap_up (i n : Nat) (h : i < n) (hn : n ≤ 9223372036854775807) : wrap64 ((i : Int) + 1) = ((i + 1 : Nat) : Int) := by rw [Go.IntWalk.wrap64_in] <;> omega
theorem wrap_mid (x : Int) (h0 : -9223372036854775808 ≤ x) (h1 : x ≤ 9223372036854775807) : wrap64 x = x := Go.IntWalk.wrap64_in x ⟨h0, h1⟩
theorem getD_at {α : Type} (l : List α) (d : α) (i : Nat) (h : i < l.length) : l.getD ((i : Nat) : Int).toNat d = l[i] := by simp [h]
end Go.Proofs.YtfedmcehkpfciaaGreat.Rnd
