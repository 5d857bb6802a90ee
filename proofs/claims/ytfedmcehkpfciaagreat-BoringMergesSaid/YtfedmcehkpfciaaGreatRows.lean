/-
  NARROWER THAN 'FOR EVERY INPUT', by the rows' own cells (each row's printed sentence says how): BoringLoads: loops.
  DERIVED. THE GIVEN ROWS OF THIS SEAT. 8 by the template 'for every input the law returns true; each argument reads behind the call as it read before'; 0 by the template 'total and deterministic' (their statements: YtfedmcehkpfciaaGreatTotals.lean).
  GIVEN WITH THE SEED: the statements are not yours to turn. If you find one false, say at which input.
  Laid BY PROGRAM, IN A SANDBOX (cutbox-rows.mjs): the forced cells as the released guide's own fill.sh prints them over the translation 39bbb6687e326fae… (all of the seat's roots in one cut). By AI agents, Wed Nov 11 2026. No macro, syntax, notation, axiom, sorry.
-/
import Derived.Test.YtfedmcehkpfciaaGreatChecked
import GoSem.Claim
import GoSem.ClaimJoined
import GoSem.ClaimMapViews
import Derived.JoinedTies
import Derived.KernelRfl
namespace Go.Proofs.YtfedmcehkpfciaaGreat
/- THE CELL 'sum', in the pinned program and in every row, IS THE sha256 OF THE DUMP (.gsa) THAT YtfedmcehkpfciaaGreatProg.lean LOADS. Nothing in Lean hashes anything: it is a label: what it is worth is what the hold of that sum in a sandbox is worth. -/
noncomputable def Tryz.pinned : Pinned := { name := "ytfedmcehkpfciaagreat", sum := "39bbb6687e326fae57d3697541168a6b56bb6ebb503aedc0d67852d936054790", checked := Tryz.checked }
namespace Rows
def none {H : Type} : Left H := { results := [], args := [] }

/-- 'gangsawlaw14.BoringChecks': WHATEVER THE INPUT: true; the input reads as it did. -/
def boringChecksSpec : ChangeSpec := { name := "boringChecks", fn := fun _ => fun
  | [d1, d2] => { results := [.lit (.bool true)], args := [d1, d2] }
  | _ => none }
def boringChecksRow : OpenClaim := { program := "ytfedmcehkpfciaagreat", sum := "39bbb6687e326fae57d3697541168a6b56bb6ebb503aedc0d67852d936054790", func := "gangsaw/gangsawlaw14.BoringChecks", spec := "boringChecks", unfollowed := true, recurses := true, apart := false }
def BoringChecksSaid : Prop := boringChecksRow.holds Tryz.pinned (OpenSpec.ofChange boringChecksSpec)

/-- ITS FALSE NEIGHBOUR: 'it returns false'. Refute it at one input. -/
def boringChecksWrong : ChangeSpec := { name := "boringChecks", fn := fun _ => fun
  | [d1, d2] => { results := [.lit (.bool false)], args := [d1, d2] }
  | _ => none }
def BoringChecksWrongFalsely : Prop := boringChecksRow.holds Tryz.pinned (OpenSpec.ofChange boringChecksWrong)

/-- 'gangsawlaw14.BoringSays': WHATEVER THE INPUT: true; the input reads as it did. -/
def boringSaysSpec : ChangeSpec := { name := "boringSays", fn := fun _ => fun
  | [d1, d2, d3] => { results := [.lit (.bool true)], args := [d1, d2, d3] }
  | _ => none }
def boringSaysRow : OpenClaim := { program := "ytfedmcehkpfciaagreat", sum := "39bbb6687e326fae57d3697541168a6b56bb6ebb503aedc0d67852d936054790", func := "gangsaw/gangsawlaw14.BoringSays", spec := "boringSays", unfollowed := true, recurses := true, apart := false }
def BoringSaysSaid : Prop := boringSaysRow.holds Tryz.pinned (OpenSpec.ofChange boringSaysSpec)

/-- ITS FALSE NEIGHBOUR: 'it returns false'. Refute it at one input. -/
def boringSaysWrong : ChangeSpec := { name := "boringSays", fn := fun _ => fun
  | [d1, d2, d3] => { results := [.lit (.bool false)], args := [d1, d2, d3] }
  | _ => none }
def BoringSaysWrongFalsely : Prop := boringSaysRow.holds Tryz.pinned (OpenSpec.ofChange boringSaysWrong)

/-- 'gangsawlaw14.BoringMerges': WHATEVER THE INPUT: true; the input reads as it did. -/
def boringMergesSpec : ChangeSpec := { name := "boringMerges", fn := fun _ => fun
  | [d1, d2] => { results := [.lit (.bool true)], args := [d1, d2] }
  | _ => none }
def boringMergesRow : OpenClaim := { program := "ytfedmcehkpfciaagreat", sum := "39bbb6687e326fae57d3697541168a6b56bb6ebb503aedc0d67852d936054790", func := "gangsaw/gangsawlaw14.BoringMerges", spec := "boringMerges", unfollowed := true, recurses := true, apart := false }
def BoringMergesSaid : Prop := boringMergesRow.holds Tryz.pinned (OpenSpec.ofChange boringMergesSpec)

/-- ITS FALSE NEIGHBOUR: 'it returns false'. Refute it at one input. -/
def boringMergesWrong : ChangeSpec := { name := "boringMerges", fn := fun _ => fun
  | [d1, d2] => { results := [.lit (.bool false)], args := [d1, d2] }
  | _ => none }
def BoringMergesWrongFalsely : Prop := boringMergesRow.holds Tryz.pinned (OpenSpec.ofChange boringMergesWrong)

/-- 'gangsawlaw14.BoringConflicts': WHATEVER THE INPUT: true; the input reads as it did. -/
def boringConflictsSpec : ChangeSpec := { name := "boringConflicts", fn := fun _ => fun
  | [d1, d2] => { results := [.lit (.bool true)], args := [d1, d2] }
  | _ => none }
def boringConflictsRow : OpenClaim := { program := "ytfedmcehkpfciaagreat", sum := "39bbb6687e326fae57d3697541168a6b56bb6ebb503aedc0d67852d936054790", func := "gangsaw/gangsawlaw14.BoringConflicts", spec := "boringConflicts", unfollowed := true, recurses := true, apart := false }
def BoringConflictsSaid : Prop := boringConflictsRow.holds Tryz.pinned (OpenSpec.ofChange boringConflictsSpec)

/-- ITS FALSE NEIGHBOUR: 'it returns false'. Refute it at one input. -/
def boringConflictsWrong : ChangeSpec := { name := "boringConflicts", fn := fun _ => fun
  | [d1, d2] => { results := [.lit (.bool false)], args := [d1, d2] }
  | _ => none }
def BoringConflictsWrongFalsely : Prop := boringConflictsRow.holds Tryz.pinned (OpenSpec.ofChange boringConflictsWrong)

/-- 'gangsawlaw14.BoringNearest': WHATEVER THE INPUT: true; the input reads as it did. -/
def boringNearestSpec : ChangeSpec := { name := "boringNearest", fn := fun _ => fun
  | [d1, d2] => { results := [.lit (.bool true)], args := [d1, d2] }
  | _ => none }
def boringNearestRow : OpenClaim := { program := "ytfedmcehkpfciaagreat", sum := "39bbb6687e326fae57d3697541168a6b56bb6ebb503aedc0d67852d936054790", func := "gangsaw/gangsawlaw14.BoringNearest", spec := "boringNearest", unfollowed := true, recurses := true, apart := false }
def BoringNearestSaid : Prop := boringNearestRow.holds Tryz.pinned (OpenSpec.ofChange boringNearestSpec)

/-- ITS FALSE NEIGHBOUR: 'it returns false'. Refute it at one input. -/
def boringNearestWrong : ChangeSpec := { name := "boringNearest", fn := fun _ => fun
  | [d1, d2] => { results := [.lit (.bool false)], args := [d1, d2] }
  | _ => none }
def BoringNearestWrongFalsely : Prop := boringNearestRow.holds Tryz.pinned (OpenSpec.ofChange boringNearestWrong)

/-- 'gangsawlaw14.BoringLoads': WHATEVER THE INPUT: true; the input reads as it did. -/
def boringLoadsSpec : ChangeSpec := { name := "boringLoads", fn := fun _ => fun
  | [d1, d2] => { results := [.lit (.bool true)], args := [d1, d2] }
  | _ => none }
def boringLoadsRow : OpenClaim := { program := "ytfedmcehkpfciaagreat", sum := "39bbb6687e326fae57d3697541168a6b56bb6ebb503aedc0d67852d936054790", func := "gangsaw/gangsawlaw14.BoringLoads", spec := "boringLoads", unfollowed := true, recurses := true, loops := true, apart := false }
def BoringLoadsSaid : Prop := boringLoadsRow.holds Tryz.pinned (OpenSpec.ofChange boringLoadsSpec)

/-- ITS FALSE NEIGHBOUR: 'it returns false'. Refute it at one input. -/
def boringLoadsWrong : ChangeSpec := { name := "boringLoads", fn := fun _ => fun
  | [d1, d2] => { results := [.lit (.bool false)], args := [d1, d2] }
  | _ => none }
def BoringLoadsWrongFalsely : Prop := boringLoadsRow.holds Tryz.pinned (OpenSpec.ofChange boringLoadsWrong)

/-- 'gangsawlaw14.BoringForms': WHATEVER THE INPUT: true; the input reads as it did. -/
def boringFormsSpec : ChangeSpec := { name := "boringForms", fn := fun _ => fun
  | [d1, d2] => { results := [.lit (.bool true)], args := [d1, d2] }
  | _ => none }
def boringFormsRow : OpenClaim := { program := "ytfedmcehkpfciaagreat", sum := "39bbb6687e326fae57d3697541168a6b56bb6ebb503aedc0d67852d936054790", func := "gangsaw/gangsawlaw14.BoringForms", spec := "boringForms", unfollowed := true, recurses := true, apart := false }
def BoringFormsSaid : Prop := boringFormsRow.holds Tryz.pinned (OpenSpec.ofChange boringFormsSpec)

/-- ITS FALSE NEIGHBOUR: 'it returns false'. Refute it at one input. -/
def boringFormsWrong : ChangeSpec := { name := "boringForms", fn := fun _ => fun
  | [d1, d2] => { results := [.lit (.bool false)], args := [d1, d2] }
  | _ => none }
def BoringFormsWrongFalsely : Prop := boringFormsRow.holds Tryz.pinned (OpenSpec.ofChange boringFormsWrong)

/-- 'gangsawlaw14.BoringTogether': WHATEVER THE INPUT: true; the input reads as it did. -/
def boringTogetherSpec : ChangeSpec := { name := "boringTogether", fn := fun _ => fun
  | [d1, d2, d3] => { results := [.lit (.bool true)], args := [d1, d2, d3] }
  | _ => none }
def boringTogetherRow : OpenClaim := { program := "ytfedmcehkpfciaagreat", sum := "39bbb6687e326fae57d3697541168a6b56bb6ebb503aedc0d67852d936054790", func := "gangsaw/gangsawlaw14.BoringTogether", spec := "boringTogether", unfollowed := true, recurses := true, apart := false }
def BoringTogetherSaid : Prop := boringTogetherRow.holds Tryz.pinned (OpenSpec.ofChange boringTogetherSpec)

/-- ITS FALSE NEIGHBOUR: 'it returns false'. Refute it at one input. -/
def boringTogetherWrong : ChangeSpec := { name := "boringTogether", fn := fun _ => fun
  | [d1, d2, d3] => { results := [.lit (.bool false)], args := [d1, d2, d3] }
  | _ => none }
def BoringTogetherWrongFalsely : Prop := boringTogetherRow.holds Tryz.pinned (OpenSpec.ofChange boringTogetherWrong)

/- THE SECOND FORM. 'bulk': how many values and letters a reading holds, each counted each time it is reached (what is shared counts as often as it is met; a slice's spare places count too). A statement '..UptoSaid' is the law's where the arguments, and the package variables that the reading takes, are together of bulk at most 1048576: NARROWER than '..Said'. Prove '..Said' where nothing that the law and all that it calls make is longer than what came in: it says more and counts as full. Else prove '..UptoSaid'. A law counts once. -/
mutual
def uptoBulk {H : Type} : DataW H → Nat
  | .lit (.string bytes) => bytes.length + 1
  | .lit _ => 1
  | .nil => 1
  | .ptr d => uptoBulk d + 1
  | .slice elems spare => uptoBulkAll elems + uptoBulkAll spare + 1
  | .agg parts => uptoBulkAll parts + 1
  | .iface _ d => uptoBulk d + 1
  | .map entries => uptoBulkEntries entries + 1
  | .held _ => 1
def uptoBulkAll {H : Type} : List (DataW H) → Nat
  | [] => 0
  | d :: r => uptoBulk d + uptoBulkAll r
def uptoBulkEntries {H : Type} : List (Lit × DataW H) → Nat
  | [] => 0
  | x :: r => uptoBulkEntry x + uptoBulkEntries r
def uptoBulkEntry {H : Type} : Lit × DataW H → Nat
  | (.string bytes, d) => bytes.length + uptoBulk d + 1
  | (_, d) => uptoBulk d + 1
 end
def uptoSmall : (H : Type) → List (DataW H) → Bool := fun _ ds => decide (uptoBulkAll ds ≤ 1048576)
def OpenSpec.upto (s : _root_.Go.ChangeSpec) : _root_.Go.OpenSpec := { _root_.Go.OpenSpec.ofChange s with cond := some uptoSmall }

/-- 'gangsawlaw14.BoringChecks', WHERE WHAT IT READS IS OF BULK AT MOST 1048576: true; the input reads as it did. -/
def boringChecksUptoRow : OpenClaim := { program := "ytfedmcehkpfciaagreat", sum := "39bbb6687e326fae57d3697541168a6b56bb6ebb503aedc0d67852d936054790", func := "gangsaw/gangsawlaw14.BoringChecks", spec := "boringChecks", unfollowed := true, recurses := true, apart := false, narrowed := true }
def BoringChecksUptoSaid : Prop := boringChecksUptoRow.holds Tryz.pinned (OpenSpec.upto boringChecksSpec)

/-- 'gangsawlaw14.BoringSays', WHERE WHAT IT READS IS OF BULK AT MOST 1048576: true; the input reads as it did. -/
def boringSaysUptoRow : OpenClaim := { program := "ytfedmcehkpfciaagreat", sum := "39bbb6687e326fae57d3697541168a6b56bb6ebb503aedc0d67852d936054790", func := "gangsaw/gangsawlaw14.BoringSays", spec := "boringSays", unfollowed := true, recurses := true, apart := false, narrowed := true }
def BoringSaysUptoSaid : Prop := boringSaysUptoRow.holds Tryz.pinned (OpenSpec.upto boringSaysSpec)

/-- 'gangsawlaw14.BoringMerges', WHERE WHAT IT READS IS OF BULK AT MOST 1048576: true; the input reads as it did. -/
def boringMergesUptoRow : OpenClaim := { program := "ytfedmcehkpfciaagreat", sum := "39bbb6687e326fae57d3697541168a6b56bb6ebb503aedc0d67852d936054790", func := "gangsaw/gangsawlaw14.BoringMerges", spec := "boringMerges", unfollowed := true, recurses := true, apart := false, narrowed := true }
def BoringMergesUptoSaid : Prop := boringMergesUptoRow.holds Tryz.pinned (OpenSpec.upto boringMergesSpec)

/-- 'gangsawlaw14.BoringConflicts', WHERE WHAT IT READS IS OF BULK AT MOST 1048576: true; the input reads as it did. -/
def boringConflictsUptoRow : OpenClaim := { program := "ytfedmcehkpfciaagreat", sum := "39bbb6687e326fae57d3697541168a6b56bb6ebb503aedc0d67852d936054790", func := "gangsaw/gangsawlaw14.BoringConflicts", spec := "boringConflicts", unfollowed := true, recurses := true, apart := false, narrowed := true }
def BoringConflictsUptoSaid : Prop := boringConflictsUptoRow.holds Tryz.pinned (OpenSpec.upto boringConflictsSpec)

/-- 'gangsawlaw14.BoringNearest', WHERE WHAT IT READS IS OF BULK AT MOST 1048576: true; the input reads as it did. -/
def boringNearestUptoRow : OpenClaim := { program := "ytfedmcehkpfciaagreat", sum := "39bbb6687e326fae57d3697541168a6b56bb6ebb503aedc0d67852d936054790", func := "gangsaw/gangsawlaw14.BoringNearest", spec := "boringNearest", unfollowed := true, recurses := true, apart := false, narrowed := true }
def BoringNearestUptoSaid : Prop := boringNearestUptoRow.holds Tryz.pinned (OpenSpec.upto boringNearestSpec)

/-- 'gangsawlaw14.BoringLoads', WHERE WHAT IT READS IS OF BULK AT MOST 1048576: true; the input reads as it did. -/
def boringLoadsUptoRow : OpenClaim := { program := "ytfedmcehkpfciaagreat", sum := "39bbb6687e326fae57d3697541168a6b56bb6ebb503aedc0d67852d936054790", func := "gangsaw/gangsawlaw14.BoringLoads", spec := "boringLoads", unfollowed := true, recurses := true, loops := true, apart := false, narrowed := true }
def BoringLoadsUptoSaid : Prop := boringLoadsUptoRow.holds Tryz.pinned (OpenSpec.upto boringLoadsSpec)

/-- 'gangsawlaw14.BoringForms', WHERE WHAT IT READS IS OF BULK AT MOST 1048576: true; the input reads as it did. -/
def boringFormsUptoRow : OpenClaim := { program := "ytfedmcehkpfciaagreat", sum := "39bbb6687e326fae57d3697541168a6b56bb6ebb503aedc0d67852d936054790", func := "gangsaw/gangsawlaw14.BoringForms", spec := "boringForms", unfollowed := true, recurses := true, apart := false, narrowed := true }
def BoringFormsUptoSaid : Prop := boringFormsUptoRow.holds Tryz.pinned (OpenSpec.upto boringFormsSpec)

/-- 'gangsawlaw14.BoringTogether', WHERE WHAT IT READS IS OF BULK AT MOST 1048576: true; the input reads as it did. -/
def boringTogetherUptoRow : OpenClaim := { program := "ytfedmcehkpfciaagreat", sum := "39bbb6687e326fae57d3697541168a6b56bb6ebb503aedc0d67852d936054790", func := "gangsaw/gangsawlaw14.BoringTogether", spec := "boringTogether", unfollowed := true, recurses := true, apart := false, narrowed := true }
def BoringTogetherUptoSaid : Prop := boringTogetherUptoRow.holds Tryz.pinned (OpenSpec.upto boringTogetherSpec)

end Rows
end Go.Proofs.YtfedmcehkpfciaaGreat
