/-
  No cell of these rows narrows 'for every input' (looked for: loops, veiled, ifaces, maps, wideKeys, modest, calm, conditions, laid).
  DERIVED. THE GIVEN ROWS OF THIS SEAT. 6 by the template 'for every input the law returns true; each argument reads behind the call as it read before'; 0 by the template 'total and deterministic' (their statements: YtpbimdpjhnphgaaGreatTotals.lean).
  GIVEN WITH THE SEED: the statements are not yours to turn. If you find one false, say at which input.
  Laid BY PROGRAM, IN A SANDBOX (cutbox-rows.mjs): the forced cells as the released guide's own fill.sh prints them over the translation 92914c1b5388361b… (all of the seat's roots in one cut). By AI agents, Wed Nov 11 2026. No macro, syntax, notation, axiom, sorry.
-/
import Derived.Test.YtpbimdpjhnphgaaGreatChecked
import GoSem.Claim
import GoSem.ClaimJoined
import GoSem.ClaimMapViews
import Derived.JoinedTies
import Derived.KernelRfl
namespace Go.Proofs.YtpbimdpjhnphgaaGreat
/- THE CELL 'sum', in the pinned program and in every row, IS THE sha256 OF THE DUMP (.gsa) THAT YtpbimdpjhnphgaaGreatProg.lean LOADS. Nothing in Lean hashes anything: it is a label: what it is worth is what the hold of that sum in a sandbox is worth. -/
noncomputable def Tryz.pinned : Pinned := { name := "ytpbimdpjhnphgaagreat", sum := "92914c1b5388361beab92d11ad2334f2c067aa336286e3c08e9e5dbd2fb67234", checked := Tryz.checked }
namespace Rows
def none {H : Type} : Left H := { results := [], args := [] }

/-- 'gangsawlaw17.BenchRows': WHATEVER THE INPUT: true; the input reads as it did. -/
def benchRowsSpec : ChangeSpec := { name := "benchRows", fn := fun _ => fun
  | [d1, d2] => { results := [.lit (.bool true)], args := [d1, d2] }
  | _ => none }
def benchRowsRow : OpenClaim := { program := "ytpbimdpjhnphgaagreat", sum := "92914c1b5388361beab92d11ad2334f2c067aa336286e3c08e9e5dbd2fb67234", func := "gangsaw/gangsawlaw17.BenchRows", spec := "benchRows", unfollowed := true, recurses := true, apart := false }
def BenchRowsSaid : Prop := benchRowsRow.holds Tryz.pinned (OpenSpec.ofChange benchRowsSpec)

/-- ITS FALSE NEIGHBOUR: 'it returns false'. Refute it at one input. -/
def benchRowsWrong : ChangeSpec := { name := "benchRows", fn := fun _ => fun
  | [d1, d2] => { results := [.lit (.bool false)], args := [d1, d2] }
  | _ => none }
def BenchRowsWrongFalsely : Prop := benchRowsRow.holds Tryz.pinned (OpenSpec.ofChange benchRowsWrong)

/-- 'gangsawlaw17.BenchGaps': WHATEVER THE INPUT: true; the input reads as it did. -/
def benchGapsSpec : ChangeSpec := { name := "benchGaps", fn := fun _ => fun
  | [d1, d2, d3] => { results := [.lit (.bool true)], args := [d1, d2, d3] }
  | _ => none }
def benchGapsRow : OpenClaim := { program := "ytpbimdpjhnphgaagreat", sum := "92914c1b5388361beab92d11ad2334f2c067aa336286e3c08e9e5dbd2fb67234", func := "gangsaw/gangsawlaw17.BenchGaps", spec := "benchGaps", unfollowed := true, recurses := true, apart := false }
def BenchGapsSaid : Prop := benchGapsRow.holds Tryz.pinned (OpenSpec.ofChange benchGapsSpec)

/-- ITS FALSE NEIGHBOUR: 'it returns false'. Refute it at one input. -/
def benchGapsWrong : ChangeSpec := { name := "benchGaps", fn := fun _ => fun
  | [d1, d2, d3] => { results := [.lit (.bool false)], args := [d1, d2, d3] }
  | _ => none }
def BenchGapsWrongFalsely : Prop := benchGapsRow.holds Tryz.pinned (OpenSpec.ofChange benchGapsWrong)

/-- 'gangsawlaw17.BenchVolumes': WHATEVER THE INPUT: true; the input reads as it did. -/
def benchVolumesSpec : ChangeSpec := { name := "benchVolumes", fn := fun _ => fun
  | [d] => { results := [.lit (.bool true)], args := [d] }
  | _ => none }
def benchVolumesRow : OpenClaim := { program := "ytpbimdpjhnphgaagreat", sum := "92914c1b5388361beab92d11ad2334f2c067aa336286e3c08e9e5dbd2fb67234", func := "gangsaw/gangsawlaw17.BenchVolumes", spec := "benchVolumes", unfollowed := true, recurses := true, apart := false }
def BenchVolumesSaid : Prop := benchVolumesRow.holds Tryz.pinned (OpenSpec.ofChange benchVolumesSpec)

/-- ITS FALSE NEIGHBOUR: 'it returns false'. Refute it at one input. -/
def benchVolumesWrong : ChangeSpec := { name := "benchVolumes", fn := fun _ => fun
  | [d] => { results := [.lit (.bool false)], args := [d] }
  | _ => none }
def BenchVolumesWrongFalsely : Prop := benchVolumesRow.holds Tryz.pinned (OpenSpec.ofChange benchVolumesWrong)

/-- 'gangsawlaw17.BenchStacks': WHATEVER THE INPUT: true; the input reads as it did. -/
def benchStacksSpec : ChangeSpec := { name := "benchStacks", fn := fun _ => fun
  | [d1, d2, d3] => { results := [.lit (.bool true)], args := [d1, d2, d3] }
  | _ => none }
def benchStacksRow : OpenClaim := { program := "ytpbimdpjhnphgaagreat", sum := "92914c1b5388361beab92d11ad2334f2c067aa336286e3c08e9e5dbd2fb67234", func := "gangsaw/gangsawlaw17.BenchStacks", spec := "benchStacks", unfollowed := true, recurses := true, apart := false }
def BenchStacksSaid : Prop := benchStacksRow.holds Tryz.pinned (OpenSpec.ofChange benchStacksSpec)

/-- ITS FALSE NEIGHBOUR: 'it returns false'. Refute it at one input. -/
def benchStacksWrong : ChangeSpec := { name := "benchStacks", fn := fun _ => fun
  | [d1, d2, d3] => { results := [.lit (.bool false)], args := [d1, d2, d3] }
  | _ => none }
def BenchStacksWrongFalsely : Prop := benchStacksRow.holds Tryz.pinned (OpenSpec.ofChange benchStacksWrong)

/-- 'gangsawlaw17.BenchChecks': WHATEVER THE INPUT: true; the input reads as it did. -/
def benchChecksSpec : ChangeSpec := { name := "benchChecks", fn := fun _ => fun
  | [d] => { results := [.lit (.bool true)], args := [d] }
  | _ => none }
def benchChecksRow : OpenClaim := { program := "ytpbimdpjhnphgaagreat", sum := "92914c1b5388361beab92d11ad2334f2c067aa336286e3c08e9e5dbd2fb67234", func := "gangsaw/gangsawlaw17.BenchChecks", spec := "benchChecks", unfollowed := true, recurses := true, apart := false }
def BenchChecksSaid : Prop := benchChecksRow.holds Tryz.pinned (OpenSpec.ofChange benchChecksSpec)

/-- ITS FALSE NEIGHBOUR: 'it returns false'. Refute it at one input. -/
def benchChecksWrong : ChangeSpec := { name := "benchChecks", fn := fun _ => fun
  | [d] => { results := [.lit (.bool false)], args := [d] }
  | _ => none }
def BenchChecksWrongFalsely : Prop := benchChecksRow.holds Tryz.pinned (OpenSpec.ofChange benchChecksWrong)

/-- 'gangsawlaw17.BenchFinds': WHATEVER THE INPUT: true; the input reads as it did. -/
def benchFindsSpec : ChangeSpec := { name := "benchFinds", fn := fun _ => fun
  | [d1, d2, d3] => { results := [.lit (.bool true)], args := [d1, d2, d3] }
  | _ => none }
def benchFindsRow : OpenClaim := { program := "ytpbimdpjhnphgaagreat", sum := "92914c1b5388361beab92d11ad2334f2c067aa336286e3c08e9e5dbd2fb67234", func := "gangsaw/gangsawlaw17.BenchFinds", spec := "benchFinds", unfollowed := true, recurses := true, apart := false }
def BenchFindsSaid : Prop := benchFindsRow.holds Tryz.pinned (OpenSpec.ofChange benchFindsSpec)

/-- ITS FALSE NEIGHBOUR: 'it returns false'. Refute it at one input. -/
def benchFindsWrong : ChangeSpec := { name := "benchFinds", fn := fun _ => fun
  | [d1, d2, d3] => { results := [.lit (.bool false)], args := [d1, d2, d3] }
  | _ => none }
def BenchFindsWrongFalsely : Prop := benchFindsRow.holds Tryz.pinned (OpenSpec.ofChange benchFindsWrong)

/- THE SECOND FORM. 'bulk': how many values and letters a reading holds, each counted each time it is reached (what is shared counts as often as it is met; a slice's spare places count too). A statement '..UptoSaid' is the law's where the arguments, and the package variables that the reading takes, are together of bulk at most 1048576: NARROWER than '..Said'. Prove '..Said' where nothing that the law and all that it calls make is longer than what came in: it says more and counts as full. Else prove '..UptoSaid'. A law counts once. -/
mutual
def uptoBulk {H : Type} : DataW H → Nat
  | .lit (.string bytes) => bytes.length + 1
  | .lit _ => 1
  | .nil => 1
  | .ptr d => uptoBulk d + 1
  | .slice elems spare => uptoBulkAll elems + uptoBulkAll spare + 1
  | .agg parts => uptoBulkAll parts + 1
  | .iface _ d => uptoBulk d + 1
  | .map entries => uptoBulkEntries entries + 1
  | .held _ => 1
def uptoBulkAll {H : Type} : List (DataW H) → Nat
  | [] => 0
  | d :: r => uptoBulk d + uptoBulkAll r
def uptoBulkEntries {H : Type} : List (Lit × DataW H) → Nat
  | [] => 0
  | x :: r => uptoBulkEntry x + uptoBulkEntries r
def uptoBulkEntry {H : Type} : Lit × DataW H → Nat
  | (.string bytes, d) => bytes.length + uptoBulk d + 1
  | (_, d) => uptoBulk d + 1
 end
def uptoSmall : (H : Type) → List (DataW H) → Bool := fun _ ds => decide (uptoBulkAll ds ≤ 1048576)
def OpenSpec.upto (s : _root_.Go.ChangeSpec) : _root_.Go.OpenSpec := { _root_.Go.OpenSpec.ofChange s with cond := some uptoSmall }

/-- 'gangsawlaw17.BenchRows', WHERE WHAT IT READS IS OF BULK AT MOST 1048576: true; the input reads as it did. -/
def benchRowsUptoRow : OpenClaim := { program := "ytpbimdpjhnphgaagreat", sum := "92914c1b5388361beab92d11ad2334f2c067aa336286e3c08e9e5dbd2fb67234", func := "gangsaw/gangsawlaw17.BenchRows", spec := "benchRows", unfollowed := true, recurses := true, apart := false, narrowed := true }
def BenchRowsUptoSaid : Prop := benchRowsUptoRow.holds Tryz.pinned (OpenSpec.upto benchRowsSpec)

/-- 'gangsawlaw17.BenchGaps', WHERE WHAT IT READS IS OF BULK AT MOST 1048576: true; the input reads as it did. -/
def benchGapsUptoRow : OpenClaim := { program := "ytpbimdpjhnphgaagreat", sum := "92914c1b5388361beab92d11ad2334f2c067aa336286e3c08e9e5dbd2fb67234", func := "gangsaw/gangsawlaw17.BenchGaps", spec := "benchGaps", unfollowed := true, recurses := true, apart := false, narrowed := true }
def BenchGapsUptoSaid : Prop := benchGapsUptoRow.holds Tryz.pinned (OpenSpec.upto benchGapsSpec)

/-- 'gangsawlaw17.BenchVolumes', WHERE WHAT IT READS IS OF BULK AT MOST 1048576: true; the input reads as it did. -/
def benchVolumesUptoRow : OpenClaim := { program := "ytpbimdpjhnphgaagreat", sum := "92914c1b5388361beab92d11ad2334f2c067aa336286e3c08e9e5dbd2fb67234", func := "gangsaw/gangsawlaw17.BenchVolumes", spec := "benchVolumes", unfollowed := true, recurses := true, apart := false, narrowed := true }
def BenchVolumesUptoSaid : Prop := benchVolumesUptoRow.holds Tryz.pinned (OpenSpec.upto benchVolumesSpec)

/-- 'gangsawlaw17.BenchStacks', WHERE WHAT IT READS IS OF BULK AT MOST 1048576: true; the input reads as it did. -/
def benchStacksUptoRow : OpenClaim := { program := "ytpbimdpjhnphgaagreat", sum := "92914c1b5388361beab92d11ad2334f2c067aa336286e3c08e9e5dbd2fb67234", func := "gangsaw/gangsawlaw17.BenchStacks", spec := "benchStacks", unfollowed := true, recurses := true, apart := false, narrowed := true }
def BenchStacksUptoSaid : Prop := benchStacksUptoRow.holds Tryz.pinned (OpenSpec.upto benchStacksSpec)

/-- 'gangsawlaw17.BenchChecks', WHERE WHAT IT READS IS OF BULK AT MOST 1048576: true; the input reads as it did. -/
def benchChecksUptoRow : OpenClaim := { program := "ytpbimdpjhnphgaagreat", sum := "92914c1b5388361beab92d11ad2334f2c067aa336286e3c08e9e5dbd2fb67234", func := "gangsaw/gangsawlaw17.BenchChecks", spec := "benchChecks", unfollowed := true, recurses := true, apart := false, narrowed := true }
def BenchChecksUptoSaid : Prop := benchChecksUptoRow.holds Tryz.pinned (OpenSpec.upto benchChecksSpec)

/-- 'gangsawlaw17.BenchFinds', WHERE WHAT IT READS IS OF BULK AT MOST 1048576: true; the input reads as it did. -/
def benchFindsUptoRow : OpenClaim := { program := "ytpbimdpjhnphgaagreat", sum := "92914c1b5388361beab92d11ad2334f2c067aa336286e3c08e9e5dbd2fb67234", func := "gangsaw/gangsawlaw17.BenchFinds", spec := "benchFinds", unfollowed := true, recurses := true, apart := false, narrowed := true }
def BenchFindsUptoSaid : Prop := benchFindsUptoRow.holds Tryz.pinned (OpenSpec.upto benchFindsSpec)

end Rows
end Go.Proofs.YtpbimdpjhnphgaaGreat
