/- What functions of the program return: each contract says so of one function, for every input at which its pure function yields. -/
import Derived.Test.YtnaahepnabmibaaGreatDoorProg
import Derived.Below
import Derived.Deep.Draws
import Derived.Deep.AppendLies
import Derived.Maps.AppendAt
import Derived.OwnWalk
import Derived.Laws.BytesArg
import Derived.Laws.MakeOwn
import Derived.Laws.OwnMore
import Derived.Deep.OwnRows
import Derived.Tactics
import Derived.Lib.ConvBytes
import Derived.Laws.Slices
import Derived.WalkKit
import Derived.KernelRfl
import Derived.RowKit3
import Derived.Deep.LoopGhost
import Derived.Deep.QuietTactic
import Derived.BigQuiet
import Derived.WideLaws
import Derived.Deep.DeepCutAuto
import Derived.Deep.CutBlock
import Derived.Deep.RegionHeld3
import Derived.Laws.Rows
import Derived.Lib.AppendStr
import Derived.ArgAppend
import Derived.Laws.IdiomCopy
import Derived.OrdersHeld
import Derived.Laws.BitsLemmas
import Derived.RowKit
import Derived.WalkLawsBesides
import Derived.Laws.EntriesVeiled
import Derived.Test.YtnaahepnabmibaaGreatDoorM1
namespace Go.Proofs.YtnaahepnabmibaaGreatDoor.P
open Go.RowKit Go.Proofs.YtnaahepnabmibaaGreatDoorW.PrintWords Go.Proofs.YtnaahepnabmibaaGreatDoorW.PrintLast Go.Proofs.YtnaahepnabmibaaGreatDoorW.PrintMore
attribute [local go_sem] max2_int min2_int max_two min_two max_three min_three max_four min_four   -- for this text's walks alone
set_option linter.unusedVariables false
set_option linter.unusedSimpArgs false

def errW : Option Int → Value
 | none => .nilIface
 | some c => .iface 0 (.int .i64 c)
theorem errW_none : errW none = .nilIface := rfl
theorem errW_some (c : Int) : errW (some c) = .iface 0 (.int .i64 c) := rfl

theorem info3 : (Tryz.prog.info? 3).map (fun i => (i.zero, i.size, i.bytes)) = some (some (.int .i64 0), 1, 8) := by kernel_rfl
-- the values' own types
structure S47 where
 f0 : Int
 f1 : Int
 f2 : Int
 f3 : Int
structure S30 where
 f0 : Int
 f1 : Int
 f2 : Int
def k30 : Kd S30 := Kd.iso (Kd.pair (Kd.int .i64) (Kd.pair (Kd.int .i64) (Kd.int .i64))) (fun x : S30 => (x.f0, x.f1, x.f2))
theorem k30_open {w : World} {x : S30} {cs : List Value} (h : k30.K w x cs) : cs = [.int .i64 x.f0, .int .i64 x.f1, .int .i64 x.f2] := by
 obtain ⟨_, _, rfl, rfl, ⟨_, _, rfl, rfl, rfl⟩⟩ := h
 exact rfl
structure S32 where
 f0 : S30
 f1 : S30
def k32 : Kd S32 := Kd.iso (Kd.pair k30 k30) (fun x : S32 => (x.f0, x.f1))
theorem k32_open {w : World} {x : S32} {cs : List Value} (h : k32.K w x cs) : cs = [.int .i64 x.f0.f0, .int .i64 x.f0.f1, .int .i64 x.f0.f2, .int .i64 x.f1.f0, .int .i64 x.f1.f1, .int .i64 x.f1.f2] := by
 obtain ⟨_, _, rfl, s0, s3⟩ := h
 obtain rfl := k30_open s0
 obtain rfl := k30_open s3
 exact rfl
structure S35 where
 f0 : ByteArray
 f1 : ByteArray
 f2 : Int
 f3 : S32
 f4 : Int
 f5 : (List Int)
 f6 : (List Int)
def k35 : Kd S35 := Kd.iso (Kd.pair Kd.string (Kd.pair Kd.string (Kd.pair (Kd.int .i64) (Kd.pair k32 (Kd.pair (Kd.int .i64) (Kd.pair (Kd.slice 3 (Kd.int .i64)) (Kd.slice 3 (Kd.int .i64)))))))) (fun x : S35 => (x.f0, x.f1, x.f2, x.f3, x.f4, x.f5, x.f6))
theorem k35_open {w : World} {x : S35} {cs : List Value} (h : k35.K w x cs) : ∃ A10 c10 A11 c11, cs = [.string x.f0, .string x.f1, .int .i64 x.f2, .int .i64 x.f3.f0.f0, .int .i64 x.f3.f0.f1, .int .i64 x.f3.f0.f2, .int .i64 x.f3.f1.f0, .int .i64 x.f3.f1.f1, .int .i64 x.f3.f1.f2, .int .i64 x.f4, .slice A10 x.f5.length c10, .slice A11 x.f6.length c11] ∧ x.f5.length ≤ c10 ∧ (Kd.int .i64).C w A10 x.f5.length x.f5 ∧ x.f6.length ≤ c11 ∧ (Kd.int .i64).C w A11 x.f6.length x.f6 := by
 obtain ⟨_, _, rfl, rfl, ⟨_, _, rfl, rfl, ⟨_, _, rfl, rfl, ⟨_, _, rfl, s3, ⟨_, _, rfl, rfl, ⟨_, _, rfl, ⟨A10, c10, rfl, l10, g10⟩, ⟨A11, c11, rfl, l11, g11⟩⟩⟩⟩⟩⟩⟩ := h
 obtain rfl := k32_open s3
 exact ⟨A10, c10, A11, c11, rfl, l10, g10, l11, g11⟩
end Go.Proofs.YtnaahepnabmibaaGreatDoor.P
