/- strconv.Itoa, for every int, wherever the laid variables read as listed: out of the shelf. -/
import Derived.Test.YtnaahepnabmibaaGreatDoorAwk
import Derived.Test.YtnaahepnabmibaaGreatDoorLaid
import Derived.Test.YtnaahepnabmibaaGreatDoorLays
import Derived.Test.YtnaahepnabmibaaGreatDoorM1
import Derived.Test.YtnaahepnabmibaaGreatDoorPx0
import Derived.Lib.AppendIntMem
import Derived.KernelRfl
set_option linter.unusedVariables false
namespace Go.Proofs.YtnaahepnabmibaaGreatDoor.Itoa
open Go.RowKit Go.Proofs.YtnaahepnabmibaaGreatDoorW.PrintWords Go.Proofs.YtnaahepnabmibaaGreatDoor.Awk
def decI (n : Int) : ByteArray := ⟨(Lib.itoa n).toArray⟩
theorem tab {w : World} (h : LaidAt w) : Lib.TabIs Tryz.prog w "internal/strconv.uint64pow10" .u64 Lib.pow10Tab := by
  obtain ⟨t, hc⟩ := h.2
  unfold Lib.TabIs World.var?
  rw [show Tryz.prog.globalNamed "internal/strconv.uint64pow10" = some 2 by kernel_rfl]
  simp only [Option.bind_some, hc]
  rfl
theorem inner (a0 : Int) (h0 : -9223372036854775808 ≤ a0) (h1 : a0 ≤ 9223372036854775807) (w : World) (h : LaidAt w) :
    Calls Tryz.prog 98 #[.int .i64 a0] w fun e w' => e = .returned (.string (decI a0)) ∧ Below w.heap.size w w' := by
  have e : Lays.renM243.f 243 = 98 := by kernel_rfl
  have c := Any.internal_strconv_Itoa Lays.laysM243 a0 h0 h1 w (tab h)
  rw [e] at c
  exact c.mono fun _ _ ⟨h1, k, os, h2⟩ => ⟨h1, by rw [h2]; exact Lib.below_grow _ w (Nat.le_refl _) k os⟩
def strconv_Itoa.f (a0 : Int) : Option ByteArray := if -9223372036854775808 ≤ a0 ∧ a0 ≤ 9223372036854775807 then some (decI a0) else none
theorem strconv_Itoa.calls (a0 : Int) (r : ByteArray) (w : World) {w0 : World} (hf0 : LaidAt w0) (hb0 : Below w0.heap.size w0 w) (h : strconv_Itoa.f a0 = some r) :
    Calls Tryz.prog 61 #[.int .i64 a0] w fun e w' => e = .returned (.string r) ∧ Below w.heap.size w w' := by
  unfold strconv_Itoa.f at h
  by_cases hc : -9223372036854775808 ≤ a0 ∧ a0 ≤ 9223372036854775807
  · rw [if_pos hc] at h
    obtain rfl := Option.some.inj h
    have HI := Aside0.mk (inner a0 hc.1 hc.2 w (hf0.below hb0))
    clear hf0 hb0 h
    go_enter Tryz.func61, Tryz.ntmps61
    go_wp2_with (first | (go_at_call 98; refine HI.out.mono ?_; rintro e w' ⟨rfl, hb⟩; have HB := Aside0.mk hb; clear hb))
    go_ret
    exact ⟨rfl, HB.out⟩
  · rw [if_neg hc] at h
    cases h
end Go.Proofs.YtnaahepnabmibaaGreatDoor.Itoa
