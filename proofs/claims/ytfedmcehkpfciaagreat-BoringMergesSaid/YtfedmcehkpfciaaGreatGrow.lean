/- slices.Grow of a nil slice: an empty row with room. -/
import Derived.Test.YtfedmcehkpfciaaGreatPx0
import Derived.Test.YtfedmcehkpfciaaGreatM1
import Derived.KernelRfl
set_option linter.unusedVariables false
set_option linter.unusedSimpArgs false
namespace Go.Proofs.YtfedmcehkpfciaaGreat.Grow
open Go.RowKit Go.Proofs.YtfedmcehkpfciaaGreatW.PrintWords Go.Proofs.YtfedmcehkpfciaaGreatW.PrintLast Go.Proofs.YtfedmcehkpfciaaGreatW.PrintMore
open Go.Proofs.YtfedmcehkpfciaaGreat.P
theorem undS_ : Tryz.prog.underlying 31 = some (.slice 48) := by kernel_rfl
theorem undI_ : Tryz.prog.underlying 3 = some (.int .i64) := by kernel_rfl
theorem zero_ (W : World) (base : Nat) : k48.M W base (fun _ => False) z48 (Value.agg #[(.int .i64 0), (.int .i64 0), (.int .i64 0)]).cells.toList := k48_mkM W base _ z48
def slices_Grow_nil.f (n : Int) : Option (List S48) := if 0 ≤ n ∧ n < 5864062014805 then some [] else none
set_option maxHeartbeats 8000000 in
set_option maxRecDepth 100000 in
theorem slices_Grow_nil.calls (n : Int) (r : List S48) (w : World) (h : slices_Grow_nil.f n = some r) :
    Calls Tryz.prog 97 #[.slice none 0 0, .int .i64 n] w fun e w' => ∃ v0_ : Value, e = .returned (v0_) ∧ Kd.R k48 48 w' w.heap.size (fun _ => True) v0_ r ∧ Below w.heap.size w w' := by
  unfold slices_Grow_nil.f at h
  by_cases hc : 0 ≤ n ∧ n < 5864062014805
  · rw [if_pos hc] at h
    obtain rfl := Option.some.inj h
    clear h
    obtain ⟨h0, h1⟩ := hc
    have hw : wrap64 n = n := by unfold wrap64; omega
    have c0 : decide (n < 0) = false := decide_eq_false (by omega)
    by_cases hp : 0 < n
    · have c1 : decide (n > 0) = true := decide_eq_true hp
      have c2 : decide (0 < n) = true := decide_eq_true hp
      have HL : Aside0 ((([] : List S48).length + n.toNat) * 24 ≤ 140737488355328) := ⟨by simp; omega⟩
      have H0 : Aside0 (0 ≤ n) := ⟨h0⟩
      have HW := Aside0.mk hw
      clear h0 h1 hp
      go_enter Tryz.func97, Tryz.ntmps97
      go_wp2_with (first | ((with_reducible refine gate_builtin (b := .append) (xs := #[.tmp 20, .tmp 21]) rfl ?_); at_builtin; refine Kd.R_append_zeros k48 (w0 := w) w.heap.size rfl (.tmp 20) (.tmp 21) 31 3 48 (.agg #[(.int .i64 0), (.int .i64 0), (.int .i64 0)]) 24 rfl undS_ undI_ info48 rfl (by decide) (by decide) (.slice none 0 0) [] z48 n (fun _ => True) rfl (by first | rfl | exact congrArg (Value.int .i64) HW.out | (simp [HW.out]; done)) (zero_ _ _) (fun _ _ => trivial) (Kd.R_nil _ _ _ _ _) H0.out (Below.refl _ _) (Nat.le_refl _) HL.out ?_; intro v1 w1 ho hb hg hat; clear hg hat; obtain ⟨A1, c1_, e1⟩ := Kd.R_slice ho; subst e1; have HO := Aside0.mk ho; have HB := Aside0.mk hb; clear ho hb))
      go_ret
      exact ⟨_, rfl, by have h_ := Kd.R_take (m := 0) HO.out (by simp); simpa using h_, HB.out⟩
    · have c1 : decide (n > 0) = false := decide_eq_false hp
      have c2 : decide (0 < n) = false := decide_eq_false hp
      have HB := Aside0.mk (Below.refl w.heap.size w)
      clear h0 h1 hp
      go_enter Tryz.func97, Tryz.ntmps97
      go_wp2
      go_ret
      exact ⟨_, rfl, Kd.R_nil _ _ _ _ _, HB.out⟩
  · rw [if_neg hc] at h; cases h
end Go.Proofs.YtfedmcehkpfciaaGreat.Grow
