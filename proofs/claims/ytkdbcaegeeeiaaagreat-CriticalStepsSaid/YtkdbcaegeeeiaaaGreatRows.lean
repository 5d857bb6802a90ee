/-
  No cell of these rows narrows 'for every input' (looked for: loops, veiled, ifaces, maps, wideKeys, modest, calm, conditions, laid).
  DERIVED. THE GIVEN ROWS OF THIS SEAT. 14 by the template 'for every input the law returns true; each argument reads behind the call as it read before'; 0 by the template 'total and deterministic' (their statements: YtkdbcaegeeeiaaaGreatTotals.lean).
  GIVEN WITH THE SEED: the statements are not yours to turn. If you find one false, say at which input.
  Laid BY PROGRAM, IN A SANDBOX (cutbox-rows.mjs): the forced cells as the released guide's own fill.sh prints them over the translation a4e71facb006a330… (all of the seat's roots in one cut). By AI agents, Wed Nov 11 2026. No macro, syntax, notation, axiom, sorry.
-/
import Derived.Test.YtkdbcaegeeeiaaaGreatChecked
import GoSem.Claim
import GoSem.ClaimJoined
import GoSem.ClaimMapViews
import Derived.JoinedTies
import Derived.KernelRfl
namespace Go.Proofs.YtkdbcaegeeeiaaaGreat
/- THE CELL 'sum', in the pinned program and in every row, IS THE sha256 OF THE DUMP (.gsa) THAT YtkdbcaegeeeiaaaGreatProg.lean LOADS. Nothing in Lean hashes anything: it is a label: what it is worth is what the hold of that sum in a sandbox is worth. -/
noncomputable def Tryz.pinned : Pinned := { name := "ytkdbcaegeeeiaaagreat", sum := "a4e71facb006a33038485b0d9d519243ede3b0e158c54dc618429dfd2d842382", checked := Tryz.checked }
namespace Rows
def none {H : Type} : Left H := { results := [], args := [] }

/-- 'gangsawlaw50.JobshopChecks': WHATEVER THE INPUT: true; the input reads as it did. -/
def jobshopChecksSpec : ChangeSpec := { name := "jobshopChecks", fn := fun _ => fun
  | [d1, d2, d3] => { results := [.lit (.bool true)], args := [d1, d2, d3] }
  | _ => none }
def jobshopChecksRow : OpenClaim := { program := "ytkdbcaegeeeiaaagreat", sum := "a4e71facb006a33038485b0d9d519243ede3b0e158c54dc618429dfd2d842382", func := "gangsaw/gangsawlaw50.JobshopChecks", spec := "jobshopChecks", inPlace := ["internal/bytealg.abigen_runtime_cmpstring"], unfollowed := true, recurses := true, plainKeys := false, apart := false }
def JobshopChecksSaid : Prop := jobshopChecksRow.holds Tryz.pinned (OpenSpec.ofChange jobshopChecksSpec)

/-- ITS FALSE NEIGHBOUR: 'it returns false'. Refute it at one input. -/
def jobshopChecksWrong : ChangeSpec := { name := "jobshopChecks", fn := fun _ => fun
  | [d1, d2, d3] => { results := [.lit (.bool false)], args := [d1, d2, d3] }
  | _ => none }
def JobshopChecksWrongFalsely : Prop := jobshopChecksRow.holds Tryz.pinned (OpenSpec.ofChange jobshopChecksWrong)

/-- 'gangsawlaw50.JobshopEarliest': WHATEVER THE INPUT: true; the input reads as it did. -/
def jobshopEarliestSpec : ChangeSpec := { name := "jobshopEarliest", fn := fun _ => fun
  | [d1, d2] => { results := [.lit (.bool true)], args := [d1, d2] }
  | _ => none }
def jobshopEarliestRow : OpenClaim := { program := "ytkdbcaegeeeiaaagreat", sum := "a4e71facb006a33038485b0d9d519243ede3b0e158c54dc618429dfd2d842382", func := "gangsaw/gangsawlaw50.JobshopEarliest", spec := "jobshopEarliest", inPlace := ["internal/bytealg.abigen_runtime_cmpstring"], unfollowed := true, recurses := true, plainKeys := false, apart := false }
def JobshopEarliestSaid : Prop := jobshopEarliestRow.holds Tryz.pinned (OpenSpec.ofChange jobshopEarliestSpec)

/-- ITS FALSE NEIGHBOUR: 'it returns false'. Refute it at one input. -/
def jobshopEarliestWrong : ChangeSpec := { name := "jobshopEarliest", fn := fun _ => fun
  | [d1, d2] => { results := [.lit (.bool false)], args := [d1, d2] }
  | _ => none }
def JobshopEarliestWrongFalsely : Prop := jobshopEarliestRow.holds Tryz.pinned (OpenSpec.ofChange jobshopEarliestWrong)

/-- 'gangsawlaw50.JobshopMeasures': WHATEVER THE INPUT: true; the input reads as it did. -/
def jobshopMeasuresSpec : ChangeSpec := { name := "jobshopMeasures", fn := fun _ => fun
  | [d1, d2, d3, d4, d5] => { results := [.lit (.bool true)], args := [d1, d2, d3, d4, d5] }
  | _ => none }
def jobshopMeasuresRow : OpenClaim := { program := "ytkdbcaegeeeiaaagreat", sum := "a4e71facb006a33038485b0d9d519243ede3b0e158c54dc618429dfd2d842382", func := "gangsaw/gangsawlaw50.JobshopMeasures", spec := "jobshopMeasures", inPlace := ["internal/bytealg.abigen_runtime_cmpstring"], unfollowed := true, recurses := true, plainKeys := false, apart := false }
def JobshopMeasuresSaid : Prop := jobshopMeasuresRow.holds Tryz.pinned (OpenSpec.ofChange jobshopMeasuresSpec)

/-- ITS FALSE NEIGHBOUR: 'it returns false'. Refute it at one input. -/
def jobshopMeasuresWrong : ChangeSpec := { name := "jobshopMeasures", fn := fun _ => fun
  | [d1, d2, d3, d4, d5] => { results := [.lit (.bool false)], args := [d1, d2, d3, d4, d5] }
  | _ => none }
def JobshopMeasuresWrongFalsely : Prop := jobshopMeasuresRow.holds Tryz.pinned (OpenSpec.ofChange jobshopMeasuresWrong)

/-- 'gangsawlaw50.JobshopTightens': WHATEVER THE INPUT: true; the input reads as it did. -/
def jobshopTightensSpec : ChangeSpec := { name := "jobshopTightens", fn := fun _ => fun
  | [d1, d2, d3] => { results := [.lit (.bool true)], args := [d1, d2, d3] }
  | _ => none }
def jobshopTightensRow : OpenClaim := { program := "ytkdbcaegeeeiaaagreat", sum := "a4e71facb006a33038485b0d9d519243ede3b0e158c54dc618429dfd2d842382", func := "gangsaw/gangsawlaw50.JobshopTightens", spec := "jobshopTightens", inPlace := ["internal/bytealg.abigen_runtime_cmpstring"], unfollowed := true, recurses := true, plainKeys := false, apart := false }
def JobshopTightensSaid : Prop := jobshopTightensRow.holds Tryz.pinned (OpenSpec.ofChange jobshopTightensSpec)

/-- ITS FALSE NEIGHBOUR: 'it returns false'. Refute it at one input. -/
def jobshopTightensWrong : ChangeSpec := { name := "jobshopTightens", fn := fun _ => fun
  | [d1, d2, d3] => { results := [.lit (.bool false)], args := [d1, d2, d3] }
  | _ => none }
def JobshopTightensWrongFalsely : Prop := jobshopTightensRow.holds Tryz.pinned (OpenSpec.ofChange jobshopTightensWrong)

/-- 'gangsawlaw50.JobshopBest': WHATEVER THE INPUT: true; the input reads as it did. -/
def jobshopBestSpec : ChangeSpec := { name := "jobshopBest", fn := fun _ => fun
  | [d1, d2] => { results := [.lit (.bool true)], args := [d1, d2] }
  | _ => none }
def jobshopBestRow : OpenClaim := { program := "ytkdbcaegeeeiaaagreat", sum := "a4e71facb006a33038485b0d9d519243ede3b0e158c54dc618429dfd2d842382", func := "gangsaw/gangsawlaw50.JobshopBest", spec := "jobshopBest", inPlace := ["internal/bytealg.abigen_runtime_cmpstring"], unfollowed := true, recurses := true, plainKeys := false, apart := false }
def JobshopBestSaid : Prop := jobshopBestRow.holds Tryz.pinned (OpenSpec.ofChange jobshopBestSpec)

/-- ITS FALSE NEIGHBOUR: 'it returns false'. Refute it at one input. -/
def jobshopBestWrong : ChangeSpec := { name := "jobshopBest", fn := fun _ => fun
  | [d1, d2] => { results := [.lit (.bool false)], args := [d1, d2] }
  | _ => none }
def JobshopBestWrongFalsely : Prop := jobshopBestRow.holds Tryz.pinned (OpenSpec.ofChange jobshopBestWrong)

/-- 'gangsawlaw50.JobshopValid': WHATEVER THE INPUT: true; the input reads as it did. -/
def jobshopValidSpec : ChangeSpec := { name := "jobshopValid", fn := fun _ => fun
  | [d1, d2, d3] => { results := [.lit (.bool true)], args := [d1, d2, d3] }
  | _ => none }
def jobshopValidRow : OpenClaim := { program := "ytkdbcaegeeeiaaagreat", sum := "a4e71facb006a33038485b0d9d519243ede3b0e158c54dc618429dfd2d842382", func := "gangsaw/gangsawlaw50.JobshopValid", spec := "jobshopValid", inPlace := ["internal/bytealg.abigen_runtime_cmpstring"], unfollowed := true, recurses := true, plainKeys := false, apart := false }
def JobshopValidSaid : Prop := jobshopValidRow.holds Tryz.pinned (OpenSpec.ofChange jobshopValidSpec)

/-- ITS FALSE NEIGHBOUR: 'it returns false'. Refute it at one input. -/
def jobshopValidWrong : ChangeSpec := { name := "jobshopValid", fn := fun _ => fun
  | [d1, d2, d3] => { results := [.lit (.bool false)], args := [d1, d2, d3] }
  | _ => none }
def JobshopValidWrongFalsely : Prop := jobshopValidRow.holds Tryz.pinned (OpenSpec.ofChange jobshopValidWrong)

/-- 'gangsawlaw50.JobshopAlone': WHATEVER THE INPUT: true; the input reads as it did. -/
def jobshopAloneSpec : ChangeSpec := { name := "jobshopAlone", fn := fun _ => fun
  | [d1, d2, d3] => { results := [.lit (.bool true)], args := [d1, d2, d3] }
  | _ => none }
def jobshopAloneRow : OpenClaim := { program := "ytkdbcaegeeeiaaagreat", sum := "a4e71facb006a33038485b0d9d519243ede3b0e158c54dc618429dfd2d842382", func := "gangsaw/gangsawlaw50.JobshopAlone", spec := "jobshopAlone", inPlace := ["internal/bytealg.abigen_runtime_cmpstring"], unfollowed := true, recurses := true, plainKeys := false, apart := false }
def JobshopAloneSaid : Prop := jobshopAloneRow.holds Tryz.pinned (OpenSpec.ofChange jobshopAloneSpec)

/-- ITS FALSE NEIGHBOUR: 'it returns false'. Refute it at one input. -/
def jobshopAloneWrong : ChangeSpec := { name := "jobshopAlone", fn := fun _ => fun
  | [d1, d2, d3] => { results := [.lit (.bool false)], args := [d1, d2, d3] }
  | _ => none }
def JobshopAloneWrongFalsely : Prop := jobshopAloneRow.holds Tryz.pinned (OpenSpec.ofChange jobshopAloneWrong)

/-- 'gangsawlaw52.CriticalSteps': WHATEVER THE INPUT: true; the input reads as it did. -/
def criticalStepsSpec : ChangeSpec := { name := "criticalSteps", fn := fun _ => fun
  | [d] => { results := [.lit (.bool true)], args := [d] }
  | _ => none }
def criticalStepsRow : OpenClaim := { program := "ytkdbcaegeeeiaaagreat", sum := "a4e71facb006a33038485b0d9d519243ede3b0e158c54dc618429dfd2d842382", func := "gangsaw/gangsawlaw52.CriticalSteps", spec := "criticalSteps", unfollowed := true, recurses := true, plainKeys := false, apart := false }
def CriticalStepsSaid : Prop := criticalStepsRow.holds Tryz.pinned (OpenSpec.ofChange criticalStepsSpec)

/-- ITS FALSE NEIGHBOUR: 'it returns false'. Refute it at one input. -/
def criticalStepsWrong : ChangeSpec := { name := "criticalSteps", fn := fun _ => fun
  | [d] => { results := [.lit (.bool false)], args := [d] }
  | _ => none }
def CriticalStepsWrongFalsely : Prop := criticalStepsRow.holds Tryz.pinned (OpenSpec.ofChange criticalStepsWrong)

/-- 'gangsawlaw52.CriticalLoads': WHATEVER THE INPUT: true; the input reads as it did. -/
def criticalLoadsSpec : ChangeSpec := { name := "criticalLoads", fn := fun _ => fun
  | [d1, d2, d3] => { results := [.lit (.bool true)], args := [d1, d2, d3] }
  | _ => none }
def criticalLoadsRow : OpenClaim := { program := "ytkdbcaegeeeiaaagreat", sum := "a4e71facb006a33038485b0d9d519243ede3b0e158c54dc618429dfd2d842382", func := "gangsaw/gangsawlaw52.CriticalLoads", spec := "criticalLoads", unfollowed := true, recurses := true, plainKeys := false, apart := false }
def CriticalLoadsSaid : Prop := criticalLoadsRow.holds Tryz.pinned (OpenSpec.ofChange criticalLoadsSpec)

/-- ITS FALSE NEIGHBOUR: 'it returns false'. Refute it at one input. -/
def criticalLoadsWrong : ChangeSpec := { name := "criticalLoads", fn := fun _ => fun
  | [d1, d2, d3] => { results := [.lit (.bool false)], args := [d1, d2, d3] }
  | _ => none }
def CriticalLoadsWrongFalsely : Prop := criticalLoadsRow.holds Tryz.pinned (OpenSpec.ofChange criticalLoadsWrong)

/-- 'gangsawlaw52.CriticalVerifies': WHATEVER THE INPUT: true; the input reads as it did. -/
def criticalVerifiesSpec : ChangeSpec := { name := "criticalVerifies", fn := fun _ => fun
  | [d1, d2, d3] => { results := [.lit (.bool true)], args := [d1, d2, d3] }
  | _ => none }
def criticalVerifiesRow : OpenClaim := { program := "ytkdbcaegeeeiaaagreat", sum := "a4e71facb006a33038485b0d9d519243ede3b0e158c54dc618429dfd2d842382", func := "gangsaw/gangsawlaw52.CriticalVerifies", spec := "criticalVerifies", unfollowed := true, recurses := true, plainKeys := false, apart := false }
def CriticalVerifiesSaid : Prop := criticalVerifiesRow.holds Tryz.pinned (OpenSpec.ofChange criticalVerifiesSpec)

/-- ITS FALSE NEIGHBOUR: 'it returns false'. Refute it at one input. -/
def criticalVerifiesWrong : ChangeSpec := { name := "criticalVerifies", fn := fun _ => fun
  | [d1, d2, d3] => { results := [.lit (.bool false)], args := [d1, d2, d3] }
  | _ => none }
def CriticalVerifiesWrongFalsely : Prop := criticalVerifiesRow.holds Tryz.pinned (OpenSpec.ofChange criticalVerifiesWrong)

/-- 'gangsawlaw52.CriticalPaths': WHATEVER THE INPUT: true; the input reads as it did. -/
def criticalPathsSpec : ChangeSpec := { name := "criticalPaths", fn := fun _ => fun
  | [d1, d2, d3] => { results := [.lit (.bool true)], args := [d1, d2, d3] }
  | _ => none }
def criticalPathsRow : OpenClaim := { program := "ytkdbcaegeeeiaaagreat", sum := "a4e71facb006a33038485b0d9d519243ede3b0e158c54dc618429dfd2d842382", func := "gangsaw/gangsawlaw52.CriticalPaths", spec := "criticalPaths", unfollowed := true, recurses := true, plainKeys := false, apart := false }
def CriticalPathsSaid : Prop := criticalPathsRow.holds Tryz.pinned (OpenSpec.ofChange criticalPathsSpec)

/-- ITS FALSE NEIGHBOUR: 'it returns false'. Refute it at one input. -/
def criticalPathsWrong : ChangeSpec := { name := "criticalPaths", fn := fun _ => fun
  | [d1, d2, d3] => { results := [.lit (.bool false)], args := [d1, d2, d3] }
  | _ => none }
def CriticalPathsWrongFalsely : Prop := criticalPathsRow.holds Tryz.pinned (OpenSpec.ofChange criticalPathsWrong)

/-- 'gangsawlaw52.CriticalTight': WHATEVER THE INPUT: true; the input reads as it did. -/
def criticalTightSpec : ChangeSpec := { name := "criticalTight", fn := fun _ => fun
  | [d1, d2, d3] => { results := [.lit (.bool true)], args := [d1, d2, d3] }
  | _ => none }
def criticalTightRow : OpenClaim := { program := "ytkdbcaegeeeiaaagreat", sum := "a4e71facb006a33038485b0d9d519243ede3b0e158c54dc618429dfd2d842382", func := "gangsaw/gangsawlaw52.CriticalTight", spec := "criticalTight", inPlace := ["internal/bytealg.abigen_runtime_cmpstring"], unfollowed := true, recurses := true, plainKeys := false, apart := false }
def CriticalTightSaid : Prop := criticalTightRow.holds Tryz.pinned (OpenSpec.ofChange criticalTightSpec)

/-- ITS FALSE NEIGHBOUR: 'it returns false'. Refute it at one input. -/
def criticalTightWrong : ChangeSpec := { name := "criticalTight", fn := fun _ => fun
  | [d1, d2, d3] => { results := [.lit (.bool false)], args := [d1, d2, d3] }
  | _ => none }
def CriticalTightWrongFalsely : Prop := criticalTightRow.holds Tryz.pinned (OpenSpec.ofChange criticalTightWrong)

/-- 'gangsawlaw52.CriticalBounds': WHATEVER THE INPUT: true; the input reads as it did. -/
def criticalBoundsSpec : ChangeSpec := { name := "criticalBounds", fn := fun _ => fun
  | [d1, d2, d3, d4] => { results := [.lit (.bool true)], args := [d1, d2, d3, d4] }
  | _ => none }
def criticalBoundsRow : OpenClaim := { program := "ytkdbcaegeeeiaaagreat", sum := "a4e71facb006a33038485b0d9d519243ede3b0e158c54dc618429dfd2d842382", func := "gangsaw/gangsawlaw52.CriticalBounds", spec := "criticalBounds", unfollowed := true, recurses := true, plainKeys := false, apart := false }
def CriticalBoundsSaid : Prop := criticalBoundsRow.holds Tryz.pinned (OpenSpec.ofChange criticalBoundsSpec)

/-- ITS FALSE NEIGHBOUR: 'it returns false'. Refute it at one input. -/
def criticalBoundsWrong : ChangeSpec := { name := "criticalBounds", fn := fun _ => fun
  | [d1, d2, d3, d4] => { results := [.lit (.bool false)], args := [d1, d2, d3, d4] }
  | _ => none }
def CriticalBoundsWrongFalsely : Prop := criticalBoundsRow.holds Tryz.pinned (OpenSpec.ofChange criticalBoundsWrong)

/-- 'gangsawlaw52.CriticalAlone': WHATEVER THE INPUT: true; the input reads as it did. -/
def criticalAloneSpec : ChangeSpec := { name := "criticalAlone", fn := fun _ => fun
  | [d1, d2] => { results := [.lit (.bool true)], args := [d1, d2] }
  | _ => none }
def criticalAloneRow : OpenClaim := { program := "ytkdbcaegeeeiaaagreat", sum := "a4e71facb006a33038485b0d9d519243ede3b0e158c54dc618429dfd2d842382", func := "gangsaw/gangsawlaw52.CriticalAlone", spec := "criticalAlone", unfollowed := true, recurses := true, plainKeys := false, apart := false }
def CriticalAloneSaid : Prop := criticalAloneRow.holds Tryz.pinned (OpenSpec.ofChange criticalAloneSpec)

/-- ITS FALSE NEIGHBOUR: 'it returns false'. Refute it at one input. -/
def criticalAloneWrong : ChangeSpec := { name := "criticalAlone", fn := fun _ => fun
  | [d1, d2] => { results := [.lit (.bool false)], args := [d1, d2] }
  | _ => none }
def CriticalAloneWrongFalsely : Prop := criticalAloneRow.holds Tryz.pinned (OpenSpec.ofChange criticalAloneWrong)

/- THE SECOND FORM. 'bulk': how many values and letters a reading holds, each counted each time it is reached (what is shared counts as often as it is met; a slice's spare places count too). A statement '..UptoSaid' is the law's where the arguments, and the package variables that the reading takes, are together of bulk at most 1048576: NARROWER than '..Said'. Prove '..Said' where nothing that the law and all that it calls make is longer than what came in: it says more and counts as full. Else prove '..UptoSaid'. A law counts once. -/
mutual
def uptoBulk {H : Type} : DataW H → Nat
  | .lit (.string bytes) => bytes.length + 1
  | .lit _ => 1
  | .nil => 1
  | .ptr d => uptoBulk d + 1
  | .slice elems spare => uptoBulkAll elems + uptoBulkAll spare + 1
  | .agg parts => uptoBulkAll parts + 1
  | .iface _ d => uptoBulk d + 1
  | .map entries => uptoBulkEntries entries + 1
  | .held _ => 1
def uptoBulkAll {H : Type} : List (DataW H) → Nat
  | [] => 0
  | d :: r => uptoBulk d + uptoBulkAll r
def uptoBulkEntries {H : Type} : List (Lit × DataW H) → Nat
  | [] => 0
  | x :: r => uptoBulkEntry x + uptoBulkEntries r
def uptoBulkEntry {H : Type} : Lit × DataW H → Nat
  | (.string bytes, d) => bytes.length + uptoBulk d + 1
  | (_, d) => uptoBulk d + 1
 end
def uptoSmall : (H : Type) → List (DataW H) → Bool := fun _ ds => decide (uptoBulkAll ds ≤ 1048576)
def OpenSpec.upto (s : _root_.Go.ChangeSpec) : _root_.Go.OpenSpec := { _root_.Go.OpenSpec.ofChange s with cond := some uptoSmall }

/-- 'gangsawlaw50.JobshopChecks', WHERE WHAT IT READS IS OF BULK AT MOST 1048576: true; the input reads as it did. -/
def jobshopChecksUptoRow : OpenClaim := { program := "ytkdbcaegeeeiaaagreat", sum := "a4e71facb006a33038485b0d9d519243ede3b0e158c54dc618429dfd2d842382", func := "gangsaw/gangsawlaw50.JobshopChecks", spec := "jobshopChecks", inPlace := ["internal/bytealg.abigen_runtime_cmpstring"], unfollowed := true, recurses := true, plainKeys := false, apart := false, narrowed := true }
def JobshopChecksUptoSaid : Prop := jobshopChecksUptoRow.holds Tryz.pinned (OpenSpec.upto jobshopChecksSpec)

/-- 'gangsawlaw50.JobshopEarliest', WHERE WHAT IT READS IS OF BULK AT MOST 1048576: true; the input reads as it did. -/
def jobshopEarliestUptoRow : OpenClaim := { program := "ytkdbcaegeeeiaaagreat", sum := "a4e71facb006a33038485b0d9d519243ede3b0e158c54dc618429dfd2d842382", func := "gangsaw/gangsawlaw50.JobshopEarliest", spec := "jobshopEarliest", inPlace := ["internal/bytealg.abigen_runtime_cmpstring"], unfollowed := true, recurses := true, plainKeys := false, apart := false, narrowed := true }
def JobshopEarliestUptoSaid : Prop := jobshopEarliestUptoRow.holds Tryz.pinned (OpenSpec.upto jobshopEarliestSpec)

/-- 'gangsawlaw50.JobshopMeasures', WHERE WHAT IT READS IS OF BULK AT MOST 1048576: true; the input reads as it did. -/
def jobshopMeasuresUptoRow : OpenClaim := { program := "ytkdbcaegeeeiaaagreat", sum := "a4e71facb006a33038485b0d9d519243ede3b0e158c54dc618429dfd2d842382", func := "gangsaw/gangsawlaw50.JobshopMeasures", spec := "jobshopMeasures", inPlace := ["internal/bytealg.abigen_runtime_cmpstring"], unfollowed := true, recurses := true, plainKeys := false, apart := false, narrowed := true }
def JobshopMeasuresUptoSaid : Prop := jobshopMeasuresUptoRow.holds Tryz.pinned (OpenSpec.upto jobshopMeasuresSpec)

/-- 'gangsawlaw50.JobshopTightens', WHERE WHAT IT READS IS OF BULK AT MOST 1048576: true; the input reads as it did. -/
def jobshopTightensUptoRow : OpenClaim := { program := "ytkdbcaegeeeiaaagreat", sum := "a4e71facb006a33038485b0d9d519243ede3b0e158c54dc618429dfd2d842382", func := "gangsaw/gangsawlaw50.JobshopTightens", spec := "jobshopTightens", inPlace := ["internal/bytealg.abigen_runtime_cmpstring"], unfollowed := true, recurses := true, plainKeys := false, apart := false, narrowed := true }
def JobshopTightensUptoSaid : Prop := jobshopTightensUptoRow.holds Tryz.pinned (OpenSpec.upto jobshopTightensSpec)

/-- 'gangsawlaw50.JobshopBest', WHERE WHAT IT READS IS OF BULK AT MOST 1048576: true; the input reads as it did. -/
def jobshopBestUptoRow : OpenClaim := { program := "ytkdbcaegeeeiaaagreat", sum := "a4e71facb006a33038485b0d9d519243ede3b0e158c54dc618429dfd2d842382", func := "gangsaw/gangsawlaw50.JobshopBest", spec := "jobshopBest", inPlace := ["internal/bytealg.abigen_runtime_cmpstring"], unfollowed := true, recurses := true, plainKeys := false, apart := false, narrowed := true }
def JobshopBestUptoSaid : Prop := jobshopBestUptoRow.holds Tryz.pinned (OpenSpec.upto jobshopBestSpec)

/-- 'gangsawlaw50.JobshopValid', WHERE WHAT IT READS IS OF BULK AT MOST 1048576: true; the input reads as it did. -/
def jobshopValidUptoRow : OpenClaim := { program := "ytkdbcaegeeeiaaagreat", sum := "a4e71facb006a33038485b0d9d519243ede3b0e158c54dc618429dfd2d842382", func := "gangsaw/gangsawlaw50.JobshopValid", spec := "jobshopValid", inPlace := ["internal/bytealg.abigen_runtime_cmpstring"], unfollowed := true, recurses := true, plainKeys := false, apart := false, narrowed := true }
def JobshopValidUptoSaid : Prop := jobshopValidUptoRow.holds Tryz.pinned (OpenSpec.upto jobshopValidSpec)

/-- 'gangsawlaw50.JobshopAlone', WHERE WHAT IT READS IS OF BULK AT MOST 1048576: true; the input reads as it did. -/
def jobshopAloneUptoRow : OpenClaim := { program := "ytkdbcaegeeeiaaagreat", sum := "a4e71facb006a33038485b0d9d519243ede3b0e158c54dc618429dfd2d842382", func := "gangsaw/gangsawlaw50.JobshopAlone", spec := "jobshopAlone", inPlace := ["internal/bytealg.abigen_runtime_cmpstring"], unfollowed := true, recurses := true, plainKeys := false, apart := false, narrowed := true }
def JobshopAloneUptoSaid : Prop := jobshopAloneUptoRow.holds Tryz.pinned (OpenSpec.upto jobshopAloneSpec)

/-- 'gangsawlaw52.CriticalSteps', WHERE WHAT IT READS IS OF BULK AT MOST 1048576: true; the input reads as it did. -/
def criticalStepsUptoRow : OpenClaim := { program := "ytkdbcaegeeeiaaagreat", sum := "a4e71facb006a33038485b0d9d519243ede3b0e158c54dc618429dfd2d842382", func := "gangsaw/gangsawlaw52.CriticalSteps", spec := "criticalSteps", unfollowed := true, recurses := true, plainKeys := false, apart := false, narrowed := true }
def CriticalStepsUptoSaid : Prop := criticalStepsUptoRow.holds Tryz.pinned (OpenSpec.upto criticalStepsSpec)

/-- 'gangsawlaw52.CriticalLoads', WHERE WHAT IT READS IS OF BULK AT MOST 1048576: true; the input reads as it did. -/
def criticalLoadsUptoRow : OpenClaim := { program := "ytkdbcaegeeeiaaagreat", sum := "a4e71facb006a33038485b0d9d519243ede3b0e158c54dc618429dfd2d842382", func := "gangsaw/gangsawlaw52.CriticalLoads", spec := "criticalLoads", unfollowed := true, recurses := true, plainKeys := false, apart := false, narrowed := true }
def CriticalLoadsUptoSaid : Prop := criticalLoadsUptoRow.holds Tryz.pinned (OpenSpec.upto criticalLoadsSpec)

/-- 'gangsawlaw52.CriticalVerifies', WHERE WHAT IT READS IS OF BULK AT MOST 1048576: true; the input reads as it did. -/
def criticalVerifiesUptoRow : OpenClaim := { program := "ytkdbcaegeeeiaaagreat", sum := "a4e71facb006a33038485b0d9d519243ede3b0e158c54dc618429dfd2d842382", func := "gangsaw/gangsawlaw52.CriticalVerifies", spec := "criticalVerifies", unfollowed := true, recurses := true, plainKeys := false, apart := false, narrowed := true }
def CriticalVerifiesUptoSaid : Prop := criticalVerifiesUptoRow.holds Tryz.pinned (OpenSpec.upto criticalVerifiesSpec)

/-- 'gangsawlaw52.CriticalPaths', WHERE WHAT IT READS IS OF BULK AT MOST 1048576: true; the input reads as it did. -/
def criticalPathsUptoRow : OpenClaim := { program := "ytkdbcaegeeeiaaagreat", sum := "a4e71facb006a33038485b0d9d519243ede3b0e158c54dc618429dfd2d842382", func := "gangsaw/gangsawlaw52.CriticalPaths", spec := "criticalPaths", unfollowed := true, recurses := true, plainKeys := false, apart := false, narrowed := true }
def CriticalPathsUptoSaid : Prop := criticalPathsUptoRow.holds Tryz.pinned (OpenSpec.upto criticalPathsSpec)

/-- 'gangsawlaw52.CriticalTight', WHERE WHAT IT READS IS OF BULK AT MOST 1048576: true; the input reads as it did. -/
def criticalTightUptoRow : OpenClaim := { program := "ytkdbcaegeeeiaaagreat", sum := "a4e71facb006a33038485b0d9d519243ede3b0e158c54dc618429dfd2d842382", func := "gangsaw/gangsawlaw52.CriticalTight", spec := "criticalTight", inPlace := ["internal/bytealg.abigen_runtime_cmpstring"], unfollowed := true, recurses := true, plainKeys := false, apart := false, narrowed := true }
def CriticalTightUptoSaid : Prop := criticalTightUptoRow.holds Tryz.pinned (OpenSpec.upto criticalTightSpec)

/-- 'gangsawlaw52.CriticalBounds', WHERE WHAT IT READS IS OF BULK AT MOST 1048576: true; the input reads as it did. -/
def criticalBoundsUptoRow : OpenClaim := { program := "ytkdbcaegeeeiaaagreat", sum := "a4e71facb006a33038485b0d9d519243ede3b0e158c54dc618429dfd2d842382", func := "gangsaw/gangsawlaw52.CriticalBounds", spec := "criticalBounds", unfollowed := true, recurses := true, plainKeys := false, apart := false, narrowed := true }
def CriticalBoundsUptoSaid : Prop := criticalBoundsUptoRow.holds Tryz.pinned (OpenSpec.upto criticalBoundsSpec)

/-- 'gangsawlaw52.CriticalAlone', WHERE WHAT IT READS IS OF BULK AT MOST 1048576: true; the input reads as it did. -/
def criticalAloneUptoRow : OpenClaim := { program := "ytkdbcaegeeeiaaagreat", sum := "a4e71facb006a33038485b0d9d519243ede3b0e158c54dc618429dfd2d842382", func := "gangsaw/gangsawlaw52.CriticalAlone", spec := "criticalAlone", unfollowed := true, recurses := true, plainKeys := false, apart := false, narrowed := true }
def CriticalAloneUptoSaid : Prop := criticalAloneUptoRow.holds Tryz.pinned (OpenSpec.upto criticalAloneSpec)

end Rows
end Go.Proofs.YtkdbcaegeeeiaaaGreat
