/- strconv.Itoa at 0 to 255, by the runner. -/
import Derived.Test.YtankffbfocaibaaDoorAwk
import Derived.KernelRfl
set_option linter.unusedVariables false
namespace Go.Proofs.YtankffbfocaibaaDoor.Itoa
open Go.RowKit Go.Proofs.YtankffbfocaibaaDoor.Run Go.Proofs.YtankffbfocaibaaDoor.Awk
attribute [local instance] noSyms
/-- the decimal digits of a number below 1000 -/
def decL (n : Nat) : List UInt8 := if n < 10 then [UInt8.ofNat (48 + n)] else if n < 100 then [UInt8.ofNat (48 + n / 10), UInt8.ofNat (48 + n % 10)] else [UInt8.ofNat (48 + n / 100), UInt8.ofNat (48 + n / 10 % 10), UInt8.ofNat (48 + n % 10)]
def dec (n : Nat) : ByteArray := ⟨(decL n).toArray⟩
def eqL : List UInt8 → List UInt8 → Bool
  | [], [] => true
  | a :: r, b :: s => Nat.beq a.toNat b.toNat && eqL r s
  | _, _ => false
theorem eqL_spec : ∀ {a b : List UInt8}, eqL a b = true → a = b
  | [], [], _ => rfl
  | a :: r, b :: s, h => by
    rw [eqL, Bool.and_eq_true] at h
    rw [eqL_spec h.2, UInt8.toNat_inj.1 (Nat.eq_of_beq_eq_true h.1)]
  | [], _ :: _, h => by cases h
  | _ :: _, [], h => by cases h
def isDec (n : Nat) : Option (Value × AH) → Bool
  | some (.string s, _) => eqL s.data.toList (decL n)
  | _ => false
theorem isDec_spec {n : Nat} {r : Option (Value × AH)} (h : isDec n r = true) : ∃ H, r = some (.string (dec n), H) := by
  unfold isDec at h
  split at h
  · rename_i s H
    have := eqL_spec h
    refine ⟨H, ?_⟩
    rw [show s = dec n by cases s; simp [dec, ← this]]
  · cases h
noncomputable def one (n : Nat) : Bool := isDec n (xcall Tryd.prog 2 100000 none1 20 2 (.fn 63) [.int .i64 n] ⟨laidT [(1, powV)], 2⟩)
def upAll (p : Nat → Bool) : Nat → Bool
  | 0 => true
  | n + 1 => p n && upAll p n
theorem upAll_spec {p : Nat → Bool} : ∀ {n : Nat}, upAll p n = true → ∀ i, i < n → p i = true
  | 0, _, i, h => by omega
  | n + 1, h, i, hi => by
    rw [upAll, Bool.and_eq_true] at h
    by_cases c : i = n
    · subst c; exact h.1
    · exact upAll_spec h.2 i (by omega)
set_option maxRecDepth 1000000 in
theorem all_ok : upAll one 256 = true := by kernel_rfl
def strconv_Itoa.f (a : Int) : Option ByteArray := if 0 ≤ a then (if a < 256 then some (dec a.toNat) else none) else none
theorem strconv_Itoa.calls (a : Int) (r : ByteArray) (w : World) {w0 : World} (hf0 : LaidAt w0) (hb0 : Below w0.heap.size w0 w) (h : strconv_Itoa.f a = some r) :
    Calls Tryd.prog 63 #[.int .i64 a] w fun e w' => e = .returned (.string r) ∧ Below w.heap.size w w' := by
  unfold strconv_Itoa.f at h
  by_cases c1 : 0 ≤ a
  · rw [if_pos c1] at h
    by_cases c2 : a < 256
    · rw [if_pos c2] at h
      obtain rfl := Option.some.inj h
      obtain ⟨n, rfl⟩ : ∃ n : Nat, a = n := ⟨a.toNat, by omega⟩
      obtain ⟨H, h1⟩ := isDec_spec (upAll_spec all_ok n (by omega))
      obtain ⟨t, h2⟩ := (hf0.below hb0).2
      refine run_laid_args follows noNum (none1_ok _) h1 (by rfl) rfl ?_ fun x hx => ?_
      · exact lt_of_at h2
      · rw [List.mem_singleton] at hx
        subst hx
        exact ⟨Nat.lt_succ_self 1, by decide, t, h2⟩
    · rw [if_neg c2] at h; cases h
  · rw [if_neg c1] at h; cases h
end Go.Proofs.YtankffbfocaibaaDoor.Itoa
