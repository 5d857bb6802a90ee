/- The reference's Turn of a slab: it hands its slices back, swapped. The runner carries it out, the slices being symbols. -/
import Derived.Test.YtnaahepnabmibaaGreatDoorRunC
import Derived.Test.YtnaahepnabmibaaGreatDoorProg
import Derived.KernelRfl
import Derived.Test.YtnaahepnabmibaaGreatDoorM1
set_option linter.unusedVariables false
namespace Go.Proofs.YtnaahepnabmibaaGreatDoor.Turn
open Go.RowKit Go.Proofs.YtnaahepnabmibaaGreatDoorW.PrintWords Go.Proofs.YtnaahepnabmibaaGreatDoorW.PrintMore Go.Proofs.YtnaahepnabmibaaGreatDoor.Run Go.Proofs.YtnaahepnabmibaaGreatDoor.RunC
def gangsawref30_Turn.f (a0_0 : ByteArray) (a0_1 : ByteArray) (a0_2 : Int) (a0_3 : Int) (a0_4 : Int) (a0_5 : Int) (a0_6 : Int) (a0_7 : Int) (a0_8 : Int) (a0_9 : Int) (l0_10 : List Int) (l0_11 : List Int) : Option (ByteArray × ByteArray × Int × Int × Int × Int × Int × Int × Int × Int) := some (a0_0, a0_1, a0_2, a0_3, a0_4, a0_5, a0_6, a0_7, a0_8, a0_9)
noncomputable def run (r : Row) : Bool := saysV (xcall Tryz.prog 0 10000 (orcOf r.1 r.2.1 r.2.2.1) 40 0 (.fn 34) [.agg ⟨[sy 0, sy 1, sy 2, sy 3, sy 4, sy 5, sy 6, sy 7, sy 8, sy 9, sy 10, sy 11]⟩] ⟨.leaf, 0⟩) r.2.2.2
def r0 : Row := ([], [], [], .agg ⟨[sy 0, sy 1, sy 2, sy 3, sy 4, sy 5, sy 6, sy 7, sy 8, sy 9, sy 11, sy 10]⟩)
set_option maxRecDepth 1000000 in
theorem x0 : run r0 = true := by kernel_rfl
theorem gangsawref30_Turn.calls (a0_0 : ByteArray) (a0_1 : ByteArray) (a0_2 : Int) (a0_3 : Int) (a0_4 : Int) (a0_5 : Int) (a0_6 : Int) (a0_7 : Int) (a0_8 : Int) (a0_9 : Int) (A0_10 : Option Addr) (c0_10 : Nat) (l0_10 : List Int) (A0_11 : Option Addr) (c0_11 : Nat) (l0_11 : List Int) (r1 : ByteArray) (r2 : ByteArray) (r3 : Int) (r4 : Int) (r5 : Int) (r6 : Int) (r7 : Int) (r8 : Int) (r9 : Int) (r10 : Int) (w : World) (hr0_10 : Kd.C (Kd.int .i64) w A0_10 l0_10.length l0_10) (hc0_10 : l0_10.length ≤ c0_10) (hr0_11 : Kd.C (Kd.int .i64) w A0_11 l0_11.length l0_11) (hc0_11 : l0_11.length ≤ c0_11) (h : gangsawref30_Turn.f a0_0 a0_1 a0_2 a0_3 a0_4 a0_5 a0_6 a0_7 a0_8 a0_9 l0_10 l0_11 = some (r1, r2, r3, r4, r5, r6, r7, r8, r9, r10)) :
    Calls Tryz.prog 34 #[.agg #[.string a0_0, .string a0_1, .int .i64 a0_2, .int .i64 a0_3, .int .i64 a0_4, .int .i64 a0_5, .int .i64 a0_6, .int .i64 a0_7, .int .i64 a0_8, .int .i64 a0_9, .slice A0_10 l0_10.length c0_10, .slice A0_11 l0_11.length c0_11]] w fun e w' => e = .returned (.agg #[.string r1, .string r2, .int .i64 r3, .int .i64 r4, .int .i64 r5, .int .i64 r6, .int .i64 r7, .int .i64 r8, .int .i64 r9, .int .i64 r10, .slice A0_11 l0_11.length c0_11, .slice A0_10 l0_10.length c0_10]) ∧ Below w.heap.size w w' := by
  simp only [gangsawref30_Turn.f, Option.some.injEq, Prod.mk.injEq] at h
  obtain ⟨rfl, rfl, rfl, rfl, rfl, rfl, rfl, rfl, rfl, rfl⟩ := h
  letI : Syms := symsOf [.string a0_0, .string a0_1, .int .i64 a0_2, .int .i64 a0_3, .int .i64 a0_4, .int .i64 a0_5, .int .i64 a0_6, .int .i64 a0_7, .int .i64 a0_8, .int .i64 a0_9, .slice A0_10 l0_10.length c0_10, .slice A0_11 l0_11.length c0_11] rfl
  exact run_leaf (r := r0) follows noNum x0 trivial trivial trivial rfl rfl w
end Go.Proofs.YtnaahepnabmibaaGreatDoor.Turn
