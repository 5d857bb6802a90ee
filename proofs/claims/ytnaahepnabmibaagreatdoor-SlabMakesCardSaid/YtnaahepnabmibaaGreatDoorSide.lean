/- The address of a coordinate, by an axis. -/
import Derived.Test.YtnaahepnabmibaaGreatDoorPx0
import Derived.Test.YtnaahepnabmibaaGreatDoorM1
import Derived.KernelRfl
set_option linter.unusedVariables false
set_option linter.unusedSimpArgs false
namespace Go.Proofs.YtnaahepnabmibaaGreatDoor.Side
open Go.RowKit Go.Proofs.YtnaahepnabmibaaGreatDoorW.PrintWords Go.Proofs.YtnaahepnabmibaaGreatDoorW.PrintLast
open Go.Proofs.YtnaahepnabmibaaGreatDoor.P
theorem ix0_ (a b c : Value) (w : World) : (Instr.index 129 (.agg #[a, b, c]) (.int .i64 0)).run Tryz.prog w = .ok a w := by kernel_rfl
theorem ix1_ (a b c : Value) (w : World) : (Instr.index 129 (.agg #[a, b, c]) (.int .i64 1)).run Tryz.prog w = .ok b w := by kernel_rfl
theorem ix2_ (a b c : Value) (w : World) : (Instr.index 129 (.agg #[a, b, c]) (.int .i64 2)).run Tryz.prog w = .ok c w := by kernel_rfl
attribute [local go_sem] ix0_ ix1_ ix2_
theorem three {j : Nat} (h : j < 3) : j = 0 ∨ j = 1 ∨ j = 2 := by omega
theorem slab_side.calls (g o j : Nat) (jz : Int) (q : Nat) (ax : Int) (r : Value) (w : World) (h1 : ax = jz) (hz : jz = (j : Int) := by decide) (h2 : j < 3 := by decide) (hq : q = o + j := by decide) (hr : r = .pointer (some ⟨g, q, none⟩) := by rfl) :
    Calls Tryz.prog 60 #[.pointer (some ⟨g, o, none⟩), .int .i64 ax] w fun e w' => e = .returned r ∧ Drawn0 w w' := by
  subst hr hq hz
  rcases three h2 with rfl | rfl | rfl <;> obtain rfl := h1
  · go_enter Tryz.func60, Tryz.ntmps60
    go_wp2
    repeat (go_quiet (fail); try go_wp2)
    go_ret
    exact ⟨by first | rfl | (simp; done) | (simp [*]; done), by repeat (first | exact Drawn0.refl _ | apply Drawn0.stepN | apply Drawn0.step)⟩
  · go_enter Tryz.func60, Tryz.ntmps60
    go_wp2
    repeat (go_quiet (fail); try go_wp2)
    go_ret
    exact ⟨by first | rfl | (simp; done) | (simp [*]; done), by repeat (first | exact Drawn0.refl _ | apply Drawn0.stepN | apply Drawn0.step)⟩
  · go_enter Tryz.func60, Tryz.ntmps60
    go_wp2
    repeat (go_quiet (fail); try go_wp2)
    go_ret
    exact ⟨by first | rfl | (simp; done) | (simp [*]; done), by repeat (first | exact Drawn0.refl _ | apply Drawn0.stepN | apply Drawn0.step)⟩
end Go.Proofs.YtnaahepnabmibaaGreatDoor.Side
