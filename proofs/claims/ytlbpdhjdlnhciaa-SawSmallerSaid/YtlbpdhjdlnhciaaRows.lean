/-
  No cell of these rows narrows 'for every input' (looked for: loops, veiled, ifaces, maps, wideKeys, modest, calm, conditions, laid).
  DERIVED. THE GIVEN ROWS OF THIS SEAT. 5 by the template 'for every input the law returns true; each argument reads behind the call as it read before'; 0 by the template 'total and deterministic' (their statements: YtlbpdhjdlnhciaaTotals.lean).
  GIVEN WITH THE SEED: the statements are not yours to turn. If you find one false, say at which input.
  Laid BY PROGRAM, IN A SANDBOX (cutbox-rows.mjs): the forced cells as the released guide's own fill.sh prints them over the translation 1a5dd717a7087340… (all of the seat's roots in one cut). By AI agents, Wed Nov 11 2026. No macro, syntax, notation, axiom, sorry.
-/
import Derived.Test.YtlbpdhjdlnhciaaChecked
import GoSem.Claim
import GoSem.ClaimJoined
import GoSem.ClaimMapViews
import Derived.JoinedTies
import Derived.KernelRfl
namespace Go.Proofs.Ytlbpdhjdlnhciaa
/- THE CELL 'sum', in the pinned program and in every row, IS THE sha256 OF THE DUMP (.gsa) THAT YtlbpdhjdlnhciaaProg.lean LOADS. Nothing in Lean hashes anything: it is a label: what it is worth is what the hold of that sum in a sandbox is worth. -/
noncomputable def Try.pinned : Pinned := { name := "ytlbpdhjdlnhciaa", sum := "1a5dd717a7087340b0b6bfd73191c86781c0577862494525c25186b920ccb22c", checked := Try.checked }
namespace Rows
def none {H : Type} : Left H := { results := [], args := [] }

/-- 'gangsawlaw29.SawChecks': WHATEVER THE INPUT: true; the input reads as it did. -/
def sawChecksSpec : ChangeSpec := { name := "sawChecks", fn := fun _ => fun
  | [d] => { results := [.lit (.bool true)], args := [d] }
  | _ => none }
def sawChecksRow : OpenClaim := { program := "ytlbpdhjdlnhciaa", sum := "1a5dd717a7087340b0b6bfd73191c86781c0577862494525c25186b920ccb22c", func := "gangsaw/gangsawlaw29.SawChecks", spec := "sawChecks", unfollowed := true, recurses := true, apart := false }
def SawChecksSaid : Prop := sawChecksRow.holds Try.pinned (OpenSpec.ofChange sawChecksSpec)

/-- ITS FALSE NEIGHBOUR: 'it returns false'. Refute it at one input. -/
def sawChecksWrong : ChangeSpec := { name := "sawChecks", fn := fun _ => fun
  | [d] => { results := [.lit (.bool false)], args := [d] }
  | _ => none }
def SawChecksWrongFalsely : Prop := sawChecksRow.holds Try.pinned (OpenSpec.ofChange sawChecksWrong)

/-- 'gangsawlaw29.SawChoices': WHATEVER THE INPUT: true; the input reads as it did. -/
def sawChoicesSpec : ChangeSpec := { name := "sawChoices", fn := fun _ => fun
  | [d1, d2, d3, d4] => { results := [.lit (.bool true)], args := [d1, d2, d3, d4] }
  | _ => none }
def sawChoicesRow : OpenClaim := { program := "ytlbpdhjdlnhciaa", sum := "1a5dd717a7087340b0b6bfd73191c86781c0577862494525c25186b920ccb22c", func := "gangsaw/gangsawlaw29.SawChoices", spec := "sawChoices", unfollowed := true, recurses := true, apart := false }
def SawChoicesSaid : Prop := sawChoicesRow.holds Try.pinned (OpenSpec.ofChange sawChoicesSpec)

/-- ITS FALSE NEIGHBOUR: 'it returns false'. Refute it at one input. -/
def sawChoicesWrong : ChangeSpec := { name := "sawChoices", fn := fun _ => fun
  | [d1, d2, d3, d4] => { results := [.lit (.bool false)], args := [d1, d2, d3, d4] }
  | _ => none }
def SawChoicesWrongFalsely : Prop := sawChoicesRow.holds Try.pinned (OpenSpec.ofChange sawChoicesWrong)

/-- 'gangsawlaw29.SawCuts': WHATEVER THE INPUT: true; the input reads as it did. -/
def sawCutsSpec : ChangeSpec := { name := "sawCuts", fn := fun _ => fun
  | [d1, d2, d3, d4, d5] => { results := [.lit (.bool true)], args := [d1, d2, d3, d4, d5] }
  | _ => none }
def sawCutsRow : OpenClaim := { program := "ytlbpdhjdlnhciaa", sum := "1a5dd717a7087340b0b6bfd73191c86781c0577862494525c25186b920ccb22c", func := "gangsaw/gangsawlaw29.SawCuts", spec := "sawCuts", unfollowed := true, recurses := true, apart := false }
def SawCutsSaid : Prop := sawCutsRow.holds Try.pinned (OpenSpec.ofChange sawCutsSpec)

/-- ITS FALSE NEIGHBOUR: 'it returns false'. Refute it at one input. -/
def sawCutsWrong : ChangeSpec := { name := "sawCuts", fn := fun _ => fun
  | [d1, d2, d3, d4, d5] => { results := [.lit (.bool false)], args := [d1, d2, d3, d4, d5] }
  | _ => none }
def SawCutsWrongFalsely : Prop := sawCutsRow.holds Try.pinned (OpenSpec.ofChange sawCutsWrong)

/-- 'gangsawlaw29.SawSmaller': WHATEVER THE INPUT: true; the input reads as it did. -/
def sawSmallerSpec : ChangeSpec := { name := "sawSmaller", fn := fun _ => fun
  | [d1, d2, d3, d4, d5] => { results := [.lit (.bool true)], args := [d1, d2, d3, d4, d5] }
  | _ => none }
def sawSmallerRow : OpenClaim := { program := "ytlbpdhjdlnhciaa", sum := "1a5dd717a7087340b0b6bfd73191c86781c0577862494525c25186b920ccb22c", func := "gangsaw/gangsawlaw29.SawSmaller", spec := "sawSmaller", unfollowed := true, recurses := true, apart := false }
def SawSmallerSaid : Prop := sawSmallerRow.holds Try.pinned (OpenSpec.ofChange sawSmallerSpec)

/-- ITS FALSE NEIGHBOUR: 'it returns false'. Refute it at one input. -/
def sawSmallerWrong : ChangeSpec := { name := "sawSmaller", fn := fun _ => fun
  | [d1, d2, d3, d4, d5] => { results := [.lit (.bool false)], args := [d1, d2, d3, d4, d5] }
  | _ => none }
def SawSmallerWrongFalsely : Prop := sawSmallerRow.holds Try.pinned (OpenSpec.ofChange sawSmallerWrong)

/-- 'gangsawlaw29.SawMore': WHATEVER THE INPUT: true; the input reads as it did. -/
def sawMoreSpec : ChangeSpec := { name := "sawMore", fn := fun _ => fun
  | [d1, d2, d3, d4] => { results := [.lit (.bool true)], args := [d1, d2, d3, d4] }
  | _ => none }
def sawMoreRow : OpenClaim := { program := "ytlbpdhjdlnhciaa", sum := "1a5dd717a7087340b0b6bfd73191c86781c0577862494525c25186b920ccb22c", func := "gangsaw/gangsawlaw29.SawMore", spec := "sawMore", unfollowed := true, recurses := true, apart := false }
def SawMoreSaid : Prop := sawMoreRow.holds Try.pinned (OpenSpec.ofChange sawMoreSpec)

/-- ITS FALSE NEIGHBOUR: 'it returns false'. Refute it at one input. -/
def sawMoreWrong : ChangeSpec := { name := "sawMore", fn := fun _ => fun
  | [d1, d2, d3, d4] => { results := [.lit (.bool false)], args := [d1, d2, d3, d4] }
  | _ => none }
def SawMoreWrongFalsely : Prop := sawMoreRow.holds Try.pinned (OpenSpec.ofChange sawMoreWrong)

/- THE SECOND FORM. 'bulk': how many values and letters a reading holds, each counted each time it is reached (what is shared counts as often as it is met; a slice's spare places count too). A statement '..UptoSaid' is the law's where the arguments, and the package variables that the reading takes, are together of bulk at most 1048576: NARROWER than '..Said'. Prove '..Said' where nothing that the law and all that it calls make is longer than what came in: it says more and counts as full. Else prove '..UptoSaid'. A law counts once. -/
mutual
def uptoBulk {H : Type} : DataW H → Nat
  | .lit (.string bytes) => bytes.length + 1
  | .lit _ => 1
  | .nil => 1
  | .ptr d => uptoBulk d + 1
  | .slice elems spare => uptoBulkAll elems + uptoBulkAll spare + 1
  | .agg parts => uptoBulkAll parts + 1
  | .iface _ d => uptoBulk d + 1
  | .map entries => uptoBulkEntries entries + 1
  | .held _ => 1
def uptoBulkAll {H : Type} : List (DataW H) → Nat
  | [] => 0
  | d :: r => uptoBulk d + uptoBulkAll r
def uptoBulkEntries {H : Type} : List (Lit × DataW H) → Nat
  | [] => 0
  | x :: r => uptoBulkEntry x + uptoBulkEntries r
def uptoBulkEntry {H : Type} : Lit × DataW H → Nat
  | (.string bytes, d) => bytes.length + uptoBulk d + 1
  | (_, d) => uptoBulk d + 1
 end
def uptoSmall : (H : Type) → List (DataW H) → Bool := fun _ ds => decide (uptoBulkAll ds ≤ 1048576)
def OpenSpec.upto (s : _root_.Go.ChangeSpec) : _root_.Go.OpenSpec := { _root_.Go.OpenSpec.ofChange s with cond := some uptoSmall }

/-- 'gangsawlaw29.SawChecks', WHERE WHAT IT READS IS OF BULK AT MOST 1048576: true; the input reads as it did. -/
def sawChecksUptoRow : OpenClaim := { program := "ytlbpdhjdlnhciaa", sum := "1a5dd717a7087340b0b6bfd73191c86781c0577862494525c25186b920ccb22c", func := "gangsaw/gangsawlaw29.SawChecks", spec := "sawChecks", unfollowed := true, recurses := true, apart := false, narrowed := true }
def SawChecksUptoSaid : Prop := sawChecksUptoRow.holds Try.pinned (OpenSpec.upto sawChecksSpec)

/-- 'gangsawlaw29.SawChoices', WHERE WHAT IT READS IS OF BULK AT MOST 1048576: true; the input reads as it did. -/
def sawChoicesUptoRow : OpenClaim := { program := "ytlbpdhjdlnhciaa", sum := "1a5dd717a7087340b0b6bfd73191c86781c0577862494525c25186b920ccb22c", func := "gangsaw/gangsawlaw29.SawChoices", spec := "sawChoices", unfollowed := true, recurses := true, apart := false, narrowed := true }
def SawChoicesUptoSaid : Prop := sawChoicesUptoRow.holds Try.pinned (OpenSpec.upto sawChoicesSpec)

/-- 'gangsawlaw29.SawCuts', WHERE WHAT IT READS IS OF BULK AT MOST 1048576: true; the input reads as it did. -/
def sawCutsUptoRow : OpenClaim := { program := "ytlbpdhjdlnhciaa", sum := "1a5dd717a7087340b0b6bfd73191c86781c0577862494525c25186b920ccb22c", func := "gangsaw/gangsawlaw29.SawCuts", spec := "sawCuts", unfollowed := true, recurses := true, apart := false, narrowed := true }
def SawCutsUptoSaid : Prop := sawCutsUptoRow.holds Try.pinned (OpenSpec.upto sawCutsSpec)

/-- 'gangsawlaw29.SawSmaller', WHERE WHAT IT READS IS OF BULK AT MOST 1048576: true; the input reads as it did. -/
def sawSmallerUptoRow : OpenClaim := { program := "ytlbpdhjdlnhciaa", sum := "1a5dd717a7087340b0b6bfd73191c86781c0577862494525c25186b920ccb22c", func := "gangsaw/gangsawlaw29.SawSmaller", spec := "sawSmaller", unfollowed := true, recurses := true, apart := false, narrowed := true }
def SawSmallerUptoSaid : Prop := sawSmallerUptoRow.holds Try.pinned (OpenSpec.upto sawSmallerSpec)

/-- 'gangsawlaw29.SawMore', WHERE WHAT IT READS IS OF BULK AT MOST 1048576: true; the input reads as it did. -/
def sawMoreUptoRow : OpenClaim := { program := "ytlbpdhjdlnhciaa", sum := "1a5dd717a7087340b0b6bfd73191c86781c0577862494525c25186b920ccb22c", func := "gangsaw/gangsawlaw29.SawMore", spec := "sawMore", unfollowed := true, recurses := true, apart := false, narrowed := true }
def SawMoreUptoSaid : Prop := sawMoreUptoRow.holds Try.pinned (OpenSpec.upto sawMoreSpec)

end Rows
end Go.Proofs.Ytlbpdhjdlnhciaa
