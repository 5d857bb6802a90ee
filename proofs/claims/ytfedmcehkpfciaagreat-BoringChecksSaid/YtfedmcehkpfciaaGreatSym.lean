/- What functions without slices return: the runner carries them out over symbols, path by path. -/
import Derived.Test.YtfedmcehkpfciaaGreatRunC
import Derived.Test.YtfedmcehkpfciaaGreatProg
import Derived.KernelRfl
import Derived.Test.YtfedmcehkpfciaaGreatM1
import Derived.Test.YtfedmcehkpfciaaGreatPx13
import Derived.Test.YtfedmcehkpfciaaGreatPx4
import Derived.Test.YtfedmcehkpfciaaGreatPx5
set_option linter.unusedVariables false
set_option linter.unusedSimpArgs false
namespace Go.Proofs.YtfedmcehkpfciaaGreat.Sym
open Go.RowKit Go.Proofs.YtfedmcehkpfciaaGreatW.PrintWords Go.Proofs.YtfedmcehkpfciaaGreatW.PrintMore Go.Proofs.YtfedmcehkpfciaaGreat.Run Go.Proofs.YtfedmcehkpfciaaGreat.RunC Go.Proofs.YtfedmcehkpfciaaGreat.P
def boring_formed.f (a0_0 : ByteArray) (a0_1 : Int) (a0_2 : Int) (l0_3 : List S48) : Option (Int) :=
 (boring_checks_1.f a0_0 a0_1 a0_2 l0_3).bind fun t1 => (if t1 = true then ((boring_checks_2.f a0_0 a0_1 a0_2 l0_3).bind fun t2 => (if t2 = true then ((boring_checks_3.f a0_0 a0_1 a0_2 l0_3).bind fun t3 => (if t3 = true then ((boring_formed_1.f a0_0 a0_1 a0_2 l0_3).bind fun t4 => (if t4 = true then ((boring_increasing.f (l0_3.length + 2) a0_0 a0_1 a0_2 l0_3).bind fun t5 => (if t5 = true then (some 0) else (some 11))) else (some 6))) else (some 1))) else (some 7))) else (some 4))
noncomputable def boring_formed.run (r : Row) : Bool := saysV (xcall Tryz.prog 0 10000 (orcOf r.1 r.2.1 r.2.2.1) 40 0 (.fn 46) [.agg ⟨[sy 0, sy 1, sy 2, sy 3]⟩] ⟨.leaf, 0⟩) r.2.2.2
def boring_formed.r1 : Row := ([(52, [.agg ⟨[sy 0, sy 1, sy 2, sy 3]⟩], .bool false), (93, [.agg ⟨[sy 0, sy 1, sy 2, sy 3]⟩], .bool true), (130, [.agg ⟨[sy 0, sy 1, sy 2, sy 3]⟩], .bool true), (129, [.agg ⟨[sy 0, sy 1, sy 2, sy 3]⟩], .bool true), (128, [.agg ⟨[sy 0, sy 1, sy 2, sy 3]⟩], .bool true)], [], [], .int .i64 11)
def boring_formed.r2 : Row := ([(93, [.agg ⟨[sy 0, sy 1, sy 2, sy 3]⟩], .bool false), (130, [.agg ⟨[sy 0, sy 1, sy 2, sy 3]⟩], .bool true), (129, [.agg ⟨[sy 0, sy 1, sy 2, sy 3]⟩], .bool true), (128, [.agg ⟨[sy 0, sy 1, sy 2, sy 3]⟩], .bool true)], [], [], .int .i64 6)
set_option maxRecDepth 1000000 in
theorem boring_formed.x2 : boring_formed.run boring_formed.r2 = true := by kernel_rfl
def boring_formed.r3 : Row := ([(130, [.agg ⟨[sy 0, sy 1, sy 2, sy 3]⟩], .bool false), (129, [.agg ⟨[sy 0, sy 1, sy 2, sy 3]⟩], .bool true), (128, [.agg ⟨[sy 0, sy 1, sy 2, sy 3]⟩], .bool true)], [], [], .int .i64 1)
set_option maxRecDepth 1000000 in
theorem boring_formed.y3 : saysV (xcall Tryz.prog 0 10000 (orcF boring_formed.r3.1 boring_formed.r3.2.1) 40 1 (.fn 46) [.agg ⟨[sy 0, sy 1, sy 2, sy 3]⟩] ⟨Tr.put .leaf 0 .fixed, 1⟩) boring_formed.r3.2.2.2 = true := by kernel_rfl
end Go.Proofs.YtfedmcehkpfciaaGreat.Sym
