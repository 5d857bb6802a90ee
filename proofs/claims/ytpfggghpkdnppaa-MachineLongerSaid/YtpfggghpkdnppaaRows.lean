/-
  No cell of these rows narrows 'for every input' (looked for: loops, veiled, ifaces, maps, wideKeys, modest, calm, conditions, laid).
  DERIVED. THE GIVEN ROWS OF THIS SEAT. 6 by the template 'for every input the law returns true; each argument reads behind the call as it read before'; 0 by the template 'total and deterministic' (their statements: YtpfggghpkdnppaaTotals.lean).
  GIVEN WITH THE SEED: the statements are not yours to turn. If you find one false, say at which input.
  Laid BY PROGRAM, IN A SANDBOX (cutbox-rows.mjs): the forced cells as the released guide's own fill.sh prints them over the translation 98876736ef24fc46… (all of the seat's roots in one cut). By AI agents, Wed Nov 11 2026. No macro, syntax, notation, axiom, sorry.
-/
import Derived.Test.YtpfggghpkdnppaaChecked
import GoSem.Claim
import GoSem.ClaimJoined
import GoSem.ClaimMapViews
import Derived.JoinedTies
import Derived.KernelRfl
namespace Go.Proofs.Ytpfggghpkdnppaa
/- THE CELL 'sum', in the pinned program and in every row, IS THE sha256 OF THE DUMP (.gsa) THAT YtpfggghpkdnppaaProg.lean LOADS. Nothing in Lean hashes anything: it is a label: what it is worth is what the hold of that sum in a sandbox is worth. -/
noncomputable def Try.pinned : Pinned := { name := "ytpfggghpkdnppaa", sum := "98876736ef24fc46114fd7955cae1d4fe8638a98801793a480bda56a71e2e1bf", checked := Try.checked }
namespace Rows
def none {H : Type} : Left H := { results := [], args := [] }

/-- 'gangsawlaw49.MachineCans': WHATEVER THE INPUT: true; the input reads as it did. -/
def machineCansSpec : ChangeSpec := { name := "machineCans", fn := fun _ => fun
  | [d1, d2] => { results := [.lit (.bool true)], args := [d1, d2] }
  | _ => none }
def machineCansRow : OpenClaim := { program := "ytpfggghpkdnppaa", sum := "98876736ef24fc46114fd7955cae1d4fe8638a98801793a480bda56a71e2e1bf", func := "gangsaw/gangsawlaw49.MachineCans", spec := "machineCans", unfollowed := true, recurses := true, apart := false }
def MachineCansSaid : Prop := machineCansRow.holds Try.pinned (OpenSpec.ofChange machineCansSpec)

/-- ITS FALSE NEIGHBOUR: 'it returns false'. Refute it at one input. -/
def machineCansWrong : ChangeSpec := { name := "machineCans", fn := fun _ => fun
  | [d1, d2] => { results := [.lit (.bool false)], args := [d1, d2] }
  | _ => none }
def MachineCansWrongFalsely : Prop := machineCansRow.holds Try.pinned (OpenSpec.ofChange machineCansWrong)

/-- 'gangsawlaw49.MachineMinutes': WHATEVER THE INPUT: true; the input reads as it did. -/
def machineMinutesSpec : ChangeSpec := { name := "machineMinutes", fn := fun _ => fun
  | [d1, d2] => { results := [.lit (.bool true)], args := [d1, d2] }
  | _ => none }
def machineMinutesRow : OpenClaim := { program := "ytpfggghpkdnppaa", sum := "98876736ef24fc46114fd7955cae1d4fe8638a98801793a480bda56a71e2e1bf", func := "gangsaw/gangsawlaw49.MachineMinutes", spec := "machineMinutes", unfollowed := true, recurses := true, apart := false }
def MachineMinutesSaid : Prop := machineMinutesRow.holds Try.pinned (OpenSpec.ofChange machineMinutesSpec)

/-- ITS FALSE NEIGHBOUR: 'it returns false'. Refute it at one input. -/
def machineMinutesWrong : ChangeSpec := { name := "machineMinutes", fn := fun _ => fun
  | [d1, d2] => { results := [.lit (.bool false)], args := [d1, d2] }
  | _ => none }
def MachineMinutesWrongFalsely : Prop := machineMinutesRow.holds Try.pinned (OpenSpec.ofChange machineMinutesWrong)

/-- 'gangsawlaw49.MachineLoads': WHATEVER THE INPUT: true; the input reads as it did. -/
def machineLoadsSpec : ChangeSpec := { name := "machineLoads", fn := fun _ => fun
  | [d1, d2] => { results := [.lit (.bool true)], args := [d1, d2] }
  | _ => none }
def machineLoadsRow : OpenClaim := { program := "ytpfggghpkdnppaa", sum := "98876736ef24fc46114fd7955cae1d4fe8638a98801793a480bda56a71e2e1bf", func := "gangsaw/gangsawlaw49.MachineLoads", spec := "machineLoads", unfollowed := true, recurses := true, apart := false }
def MachineLoadsSaid : Prop := machineLoadsRow.holds Try.pinned (OpenSpec.ofChange machineLoadsSpec)

/-- ITS FALSE NEIGHBOUR: 'it returns false'. Refute it at one input. -/
def machineLoadsWrong : ChangeSpec := { name := "machineLoads", fn := fun _ => fun
  | [d1, d2] => { results := [.lit (.bool false)], args := [d1, d2] }
  | _ => none }
def MachineLoadsWrongFalsely : Prop := machineLoadsRow.holds Try.pinned (OpenSpec.ofChange machineLoadsWrong)

/-- 'gangsawlaw49.MachineMore': WHATEVER THE INPUT: true; the input reads as it did. -/
def machineMoreSpec : ChangeSpec := { name := "machineMore", fn := fun _ => fun
  | [d1, d2, d3] => { results := [.lit (.bool true)], args := [d1, d2, d3] }
  | _ => none }
def machineMoreRow : OpenClaim := { program := "ytpfggghpkdnppaa", sum := "98876736ef24fc46114fd7955cae1d4fe8638a98801793a480bda56a71e2e1bf", func := "gangsaw/gangsawlaw49.MachineMore", spec := "machineMore", unfollowed := true, recurses := true, apart := false }
def MachineMoreSaid : Prop := machineMoreRow.holds Try.pinned (OpenSpec.ofChange machineMoreSpec)

/-- ITS FALSE NEIGHBOUR: 'it returns false'. Refute it at one input. -/
def machineMoreWrong : ChangeSpec := { name := "machineMore", fn := fun _ => fun
  | [d1, d2, d3] => { results := [.lit (.bool false)], args := [d1, d2, d3] }
  | _ => none }
def MachineMoreWrongFalsely : Prop := machineMoreRow.holds Try.pinned (OpenSpec.ofChange machineMoreWrong)

/-- 'gangsawlaw49.MachineChecks': WHATEVER THE INPUT: true; the input reads as it did. -/
def machineChecksSpec : ChangeSpec := { name := "machineChecks", fn := fun _ => fun
  | [d1, d2] => { results := [.lit (.bool true)], args := [d1, d2] }
  | _ => none }
def machineChecksRow : OpenClaim := { program := "ytpfggghpkdnppaa", sum := "98876736ef24fc46114fd7955cae1d4fe8638a98801793a480bda56a71e2e1bf", func := "gangsaw/gangsawlaw49.MachineChecks", spec := "machineChecks", unfollowed := true, recurses := true, apart := false }
def MachineChecksSaid : Prop := machineChecksRow.holds Try.pinned (OpenSpec.ofChange machineChecksSpec)

/-- ITS FALSE NEIGHBOUR: 'it returns false'. Refute it at one input. -/
def machineChecksWrong : ChangeSpec := { name := "machineChecks", fn := fun _ => fun
  | [d1, d2] => { results := [.lit (.bool false)], args := [d1, d2] }
  | _ => none }
def MachineChecksWrongFalsely : Prop := machineChecksRow.holds Try.pinned (OpenSpec.ofChange machineChecksWrong)

/-- 'gangsawlaw49.MachineLonger': WHATEVER THE INPUT: true; the input reads as it did. -/
def machineLongerSpec : ChangeSpec := { name := "machineLonger", fn := fun _ => fun
  | [d1, d2, d3] => { results := [.lit (.bool true)], args := [d1, d2, d3] }
  | _ => none }
def machineLongerRow : OpenClaim := { program := "ytpfggghpkdnppaa", sum := "98876736ef24fc46114fd7955cae1d4fe8638a98801793a480bda56a71e2e1bf", func := "gangsaw/gangsawlaw49.MachineLonger", spec := "machineLonger", unfollowed := true, recurses := true, apart := false }
def MachineLongerSaid : Prop := machineLongerRow.holds Try.pinned (OpenSpec.ofChange machineLongerSpec)

/-- ITS FALSE NEIGHBOUR: 'it returns false'. Refute it at one input. -/
def machineLongerWrong : ChangeSpec := { name := "machineLonger", fn := fun _ => fun
  | [d1, d2, d3] => { results := [.lit (.bool false)], args := [d1, d2, d3] }
  | _ => none }
def MachineLongerWrongFalsely : Prop := machineLongerRow.holds Try.pinned (OpenSpec.ofChange machineLongerWrong)

/- THE SECOND FORM. 'bulk': how many values and letters a reading holds, each counted each time it is reached (what is shared counts as often as it is met; a slice's spare places count too). A statement '..UptoSaid' is the law's where the arguments, and the package variables that the reading takes, are together of bulk at most 1048576: NARROWER than '..Said'. Prove '..Said' where nothing that the law and all that it calls make is longer than what came in: it says more and counts as full. Else prove '..UptoSaid'. A law counts once. -/
mutual
def uptoBulk {H : Type} : DataW H → Nat
  | .lit (.string bytes) => bytes.length + 1
  | .lit _ => 1
  | .nil => 1
  | .ptr d => uptoBulk d + 1
  | .slice elems spare => uptoBulkAll elems + uptoBulkAll spare + 1
  | .agg parts => uptoBulkAll parts + 1
  | .iface _ d => uptoBulk d + 1
  | .map entries => uptoBulkEntries entries + 1
  | .held _ => 1
def uptoBulkAll {H : Type} : List (DataW H) → Nat
  | [] => 0
  | d :: r => uptoBulk d + uptoBulkAll r
def uptoBulkEntries {H : Type} : List (Lit × DataW H) → Nat
  | [] => 0
  | x :: r => uptoBulkEntry x + uptoBulkEntries r
def uptoBulkEntry {H : Type} : Lit × DataW H → Nat
  | (.string bytes, d) => bytes.length + uptoBulk d + 1
  | (_, d) => uptoBulk d + 1
 end
def uptoSmall : (H : Type) → List (DataW H) → Bool := fun _ ds => decide (uptoBulkAll ds ≤ 1048576)
def OpenSpec.upto (s : _root_.Go.ChangeSpec) : _root_.Go.OpenSpec := { _root_.Go.OpenSpec.ofChange s with cond := some uptoSmall }

/-- 'gangsawlaw49.MachineCans', WHERE WHAT IT READS IS OF BULK AT MOST 1048576: true; the input reads as it did. -/
def machineCansUptoRow : OpenClaim := { program := "ytpfggghpkdnppaa", sum := "98876736ef24fc46114fd7955cae1d4fe8638a98801793a480bda56a71e2e1bf", func := "gangsaw/gangsawlaw49.MachineCans", spec := "machineCans", unfollowed := true, recurses := true, apart := false, narrowed := true }
def MachineCansUptoSaid : Prop := machineCansUptoRow.holds Try.pinned (OpenSpec.upto machineCansSpec)

/-- 'gangsawlaw49.MachineMinutes', WHERE WHAT IT READS IS OF BULK AT MOST 1048576: true; the input reads as it did. -/
def machineMinutesUptoRow : OpenClaim := { program := "ytpfggghpkdnppaa", sum := "98876736ef24fc46114fd7955cae1d4fe8638a98801793a480bda56a71e2e1bf", func := "gangsaw/gangsawlaw49.MachineMinutes", spec := "machineMinutes", unfollowed := true, recurses := true, apart := false, narrowed := true }
def MachineMinutesUptoSaid : Prop := machineMinutesUptoRow.holds Try.pinned (OpenSpec.upto machineMinutesSpec)

/-- 'gangsawlaw49.MachineLoads', WHERE WHAT IT READS IS OF BULK AT MOST 1048576: true; the input reads as it did. -/
def machineLoadsUptoRow : OpenClaim := { program := "ytpfggghpkdnppaa", sum := "98876736ef24fc46114fd7955cae1d4fe8638a98801793a480bda56a71e2e1bf", func := "gangsaw/gangsawlaw49.MachineLoads", spec := "machineLoads", unfollowed := true, recurses := true, apart := false, narrowed := true }
def MachineLoadsUptoSaid : Prop := machineLoadsUptoRow.holds Try.pinned (OpenSpec.upto machineLoadsSpec)

/-- 'gangsawlaw49.MachineMore', WHERE WHAT IT READS IS OF BULK AT MOST 1048576: true; the input reads as it did. -/
def machineMoreUptoRow : OpenClaim := { program := "ytpfggghpkdnppaa", sum := "98876736ef24fc46114fd7955cae1d4fe8638a98801793a480bda56a71e2e1bf", func := "gangsaw/gangsawlaw49.MachineMore", spec := "machineMore", unfollowed := true, recurses := true, apart := false, narrowed := true }
def MachineMoreUptoSaid : Prop := machineMoreUptoRow.holds Try.pinned (OpenSpec.upto machineMoreSpec)

/-- 'gangsawlaw49.MachineChecks', WHERE WHAT IT READS IS OF BULK AT MOST 1048576: true; the input reads as it did. -/
def machineChecksUptoRow : OpenClaim := { program := "ytpfggghpkdnppaa", sum := "98876736ef24fc46114fd7955cae1d4fe8638a98801793a480bda56a71e2e1bf", func := "gangsaw/gangsawlaw49.MachineChecks", spec := "machineChecks", unfollowed := true, recurses := true, apart := false, narrowed := true }
def MachineChecksUptoSaid : Prop := machineChecksUptoRow.holds Try.pinned (OpenSpec.upto machineChecksSpec)

/-- 'gangsawlaw49.MachineLonger', WHERE WHAT IT READS IS OF BULK AT MOST 1048576: true; the input reads as it did. -/
def machineLongerUptoRow : OpenClaim := { program := "ytpfggghpkdnppaa", sum := "98876736ef24fc46114fd7955cae1d4fe8638a98801793a480bda56a71e2e1bf", func := "gangsaw/gangsawlaw49.MachineLonger", spec := "machineLonger", unfollowed := true, recurses := true, apart := false, narrowed := true }
def MachineLongerUptoSaid : Prop := machineLongerUptoRow.holds Try.pinned (OpenSpec.upto machineLongerSpec)

end Rows
end Go.Proofs.Ytpfggghpkdnppaa
