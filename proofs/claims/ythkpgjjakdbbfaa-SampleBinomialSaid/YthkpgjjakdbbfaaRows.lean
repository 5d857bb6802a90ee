/-
  No cell of these rows narrows 'for every input' (looked for: loops, veiled, ifaces, maps, wideKeys, modest, calm, conditions, laid).
  DERIVED. THE GIVEN ROWS OF THIS SEAT. 7 by the template 'for every input the law returns true; each argument reads behind the call as it read before'; 0 by the template 'total and deterministic' (their statements: YthkpgjjakdbbfaaTotals.lean).
  GIVEN WITH THE SEED: the statements are not yours to turn. If you find one false, say at which input.
  Laid BY PROGRAM, IN A SANDBOX (cutbox-rows.mjs): the forced cells as the released guide's own fill.sh prints them over the translation b5225fd23b651930… (all of the seat's roots in one cut). By AI agents, Wed Nov 11 2026. No macro, syntax, notation, axiom, sorry.
-/
import Derived.Test.YthkpgjjakdbbfaaChecked
import GoSem.Claim
import GoSem.ClaimJoined
import GoSem.ClaimMapViews
import Derived.JoinedTies
import Derived.KernelRfl
namespace Go.Proofs.Ythkpgjjakdbbfaa
/- THE CELL 'sum', in the pinned program and in every row, IS THE sha256 OF THE DUMP (.gsa) THAT YthkpgjjakdbbfaaProg.lean LOADS. Nothing in Lean hashes anything: it is a label: what it is worth is what the hold of that sum in a sandbox is worth. -/
noncomputable def Try.pinned : Pinned := { name := "ythkpgjjakdbbfaa", sum := "b5225fd23b6519300c8639fdd667d39cccd8750fb7f7e248b7930822a6c4add2", checked := Try.checked }
namespace Rows
def none {H : Type} : Left H := { results := [], args := [] }

/-- 'gangsawlaw33.SampleOrders': WHATEVER THE INPUT: true; the input reads as it did. -/
def sampleOrdersSpec : ChangeSpec := { name := "sampleOrders", fn := fun _ => fun
  | [d1, d2, d3] => { results := [.lit (.bool true)], args := [d1, d2, d3] }
  | _ => none }
def sampleOrdersRow : OpenClaim := { program := "ythkpgjjakdbbfaa", sum := "b5225fd23b6519300c8639fdd667d39cccd8750fb7f7e248b7930822a6c4add2", func := "gangsaw/gangsawlaw33.SampleOrders", spec := "sampleOrders", unfollowed := true, recurses := true, apart := false }
def SampleOrdersSaid : Prop := sampleOrdersRow.holds Try.pinned (OpenSpec.ofChange sampleOrdersSpec)

/-- ITS FALSE NEIGHBOUR: 'it returns false'. Refute it at one input. -/
def sampleOrdersWrong : ChangeSpec := { name := "sampleOrders", fn := fun _ => fun
  | [d1, d2, d3] => { results := [.lit (.bool false)], args := [d1, d2, d3] }
  | _ => none }
def SampleOrdersWrongFalsely : Prop := sampleOrdersRow.holds Try.pinned (OpenSpec.ofChange sampleOrdersWrong)

/-- 'gangsawlaw33.SampleRanks': WHATEVER THE INPUT: true; the input reads as it did. -/
def sampleRanksSpec : ChangeSpec := { name := "sampleRanks", fn := fun _ => fun
  | [d1, d2] => { results := [.lit (.bool true)], args := [d1, d2] }
  | _ => none }
def sampleRanksRow : OpenClaim := { program := "ythkpgjjakdbbfaa", sum := "b5225fd23b6519300c8639fdd667d39cccd8750fb7f7e248b7930822a6c4add2", func := "gangsaw/gangsawlaw33.SampleRanks", spec := "sampleRanks", unfollowed := true, recurses := true, apart := false }
def SampleRanksSaid : Prop := sampleRanksRow.holds Try.pinned (OpenSpec.ofChange sampleRanksSpec)

/-- ITS FALSE NEIGHBOUR: 'it returns false'. Refute it at one input. -/
def sampleRanksWrong : ChangeSpec := { name := "sampleRanks", fn := fun _ => fun
  | [d1, d2] => { results := [.lit (.bool false)], args := [d1, d2] }
  | _ => none }
def SampleRanksWrongFalsely : Prop := sampleRanksRow.holds Try.pinned (OpenSpec.ofChange sampleRanksWrong)

/-- 'gangsawlaw33.SampleConfidences': WHATEVER THE INPUT: true; the input reads as it did. -/
def sampleConfidencesSpec : ChangeSpec := { name := "sampleConfidences", fn := fun _ => fun
  | [d1, d2, d3] => { results := [.lit (.bool true)], args := [d1, d2, d3] }
  | _ => none }
def sampleConfidencesRow : OpenClaim := { program := "ythkpgjjakdbbfaa", sum := "b5225fd23b6519300c8639fdd667d39cccd8750fb7f7e248b7930822a6c4add2", func := "gangsaw/gangsawlaw33.SampleConfidences", spec := "sampleConfidences", inPlace := ["math/bits.Add64", "math/bits.Sub64"], unfollowed := true, recurses := true, apart := false }
def SampleConfidencesSaid : Prop := sampleConfidencesRow.holds Try.pinned (OpenSpec.ofChange sampleConfidencesSpec)

/-- ITS FALSE NEIGHBOUR: 'it returns false'. Refute it at one input. -/
def sampleConfidencesWrong : ChangeSpec := { name := "sampleConfidences", fn := fun _ => fun
  | [d1, d2, d3] => { results := [.lit (.bool false)], args := [d1, d2, d3] }
  | _ => none }
def SampleConfidencesWrongFalsely : Prop := sampleConfidencesRow.holds Try.pinned (OpenSpec.ofChange sampleConfidencesWrong)

/-- 'gangsawlaw33.SampleLeast': WHATEVER THE INPUT: true; the input reads as it did. -/
def sampleLeastSpec : ChangeSpec := { name := "sampleLeast", fn := fun _ => fun
  | [d1, d2, d3] => { results := [.lit (.bool true)], args := [d1, d2, d3] }
  | _ => none }
def sampleLeastRow : OpenClaim := { program := "ythkpgjjakdbbfaa", sum := "b5225fd23b6519300c8639fdd667d39cccd8750fb7f7e248b7930822a6c4add2", func := "gangsaw/gangsawlaw33.SampleLeast", spec := "sampleLeast", inPlace := ["math/bits.Add64", "math/bits.Sub64"], unfollowed := true, recurses := true, apart := false }
def SampleLeastSaid : Prop := sampleLeastRow.holds Try.pinned (OpenSpec.ofChange sampleLeastSpec)

/-- ITS FALSE NEIGHBOUR: 'it returns false'. Refute it at one input. -/
def sampleLeastWrong : ChangeSpec := { name := "sampleLeast", fn := fun _ => fun
  | [d1, d2, d3] => { results := [.lit (.bool false)], args := [d1, d2, d3] }
  | _ => none }
def SampleLeastWrongFalsely : Prop := sampleLeastRow.holds Try.pinned (OpenSpec.ofChange sampleLeastWrong)

/-- 'gangsawlaw33.SampleUnordered': WHATEVER THE INPUT: true; the input reads as it did. -/
def sampleUnorderedSpec : ChangeSpec := { name := "sampleUnordered", fn := fun _ => fun
  | [d1, d2, d3] => { results := [.lit (.bool true)], args := [d1, d2, d3] }
  | _ => none }
def sampleUnorderedRow : OpenClaim := { program := "ythkpgjjakdbbfaa", sum := "b5225fd23b6519300c8639fdd667d39cccd8750fb7f7e248b7930822a6c4add2", func := "gangsaw/gangsawlaw33.SampleUnordered", spec := "sampleUnordered", unfollowed := true, recurses := true, apart := false }
def SampleUnorderedSaid : Prop := sampleUnorderedRow.holds Try.pinned (OpenSpec.ofChange sampleUnorderedSpec)

/-- ITS FALSE NEIGHBOUR: 'it returns false'. Refute it at one input. -/
def sampleUnorderedWrong : ChangeSpec := { name := "sampleUnordered", fn := fun _ => fun
  | [d1, d2, d3] => { results := [.lit (.bool false)], args := [d1, d2, d3] }
  | _ => none }
def SampleUnorderedWrongFalsely : Prop := sampleUnorderedRow.holds Try.pinned (OpenSpec.ofChange sampleUnorderedWrong)

/-- 'gangsawlaw33.SampleMiddles': WHATEVER THE INPUT: true; the input reads as it did. -/
def sampleMiddlesSpec : ChangeSpec := { name := "sampleMiddles", fn := fun _ => fun
  | [d] => { results := [.lit (.bool true)], args := [d] }
  | _ => none }
def sampleMiddlesRow : OpenClaim := { program := "ythkpgjjakdbbfaa", sum := "b5225fd23b6519300c8639fdd667d39cccd8750fb7f7e248b7930822a6c4add2", func := "gangsaw/gangsawlaw33.SampleMiddles", spec := "sampleMiddles", unfollowed := true, recurses := true, apart := false }
def SampleMiddlesSaid : Prop := sampleMiddlesRow.holds Try.pinned (OpenSpec.ofChange sampleMiddlesSpec)

/-- ITS FALSE NEIGHBOUR: 'it returns false'. Refute it at one input. -/
def sampleMiddlesWrong : ChangeSpec := { name := "sampleMiddles", fn := fun _ => fun
  | [d] => { results := [.lit (.bool false)], args := [d] }
  | _ => none }
def SampleMiddlesWrongFalsely : Prop := sampleMiddlesRow.holds Try.pinned (OpenSpec.ofChange sampleMiddlesWrong)

/-- 'gangsawlaw33.SampleBinomial': WHATEVER THE INPUT: true; the input reads as it did. -/
def sampleBinomialSpec : ChangeSpec := { name := "sampleBinomial", fn := fun _ => fun
  | [d1, d2, d3] => { results := [.lit (.bool true)], args := [d1, d2, d3] }
  | _ => none }
def sampleBinomialRow : OpenClaim := { program := "ythkpgjjakdbbfaa", sum := "b5225fd23b6519300c8639fdd667d39cccd8750fb7f7e248b7930822a6c4add2", func := "gangsaw/gangsawlaw33.SampleBinomial", spec := "sampleBinomial", inPlace := ["math/bits.Add64", "math/bits.Sub64"], unfollowed := true, recurses := true, named := ["math/bits.divideError", "math/bits.overflowError"], apart := false }
def SampleBinomialSaid : Prop := sampleBinomialRow.holds Try.pinned (OpenSpec.ofChange sampleBinomialSpec)

/-- ITS FALSE NEIGHBOUR: 'it returns false'. Refute it at one input. -/
def sampleBinomialWrong : ChangeSpec := { name := "sampleBinomial", fn := fun _ => fun
  | [d1, d2, d3] => { results := [.lit (.bool false)], args := [d1, d2, d3] }
  | _ => none }
def SampleBinomialWrongFalsely : Prop := sampleBinomialRow.holds Try.pinned (OpenSpec.ofChange sampleBinomialWrong)

/- THE SECOND FORM. 'bulk': how many values and letters a reading holds, each counted each time it is reached (what is shared counts as often as it is met; a slice's spare places count too). A statement '..UptoSaid' is the law's where the arguments, and the package variables that the reading takes, are together of bulk at most 1048576: NARROWER than '..Said'. Prove '..Said' where nothing that the law and all that it calls make is longer than what came in: it says more and counts as full. Else prove '..UptoSaid'. A law counts once. -/
mutual
def uptoBulk {H : Type} : DataW H → Nat
  | .lit (.string bytes) => bytes.length + 1
  | .lit _ => 1
  | .nil => 1
  | .ptr d => uptoBulk d + 1
  | .slice elems spare => uptoBulkAll elems + uptoBulkAll spare + 1
  | .agg parts => uptoBulkAll parts + 1
  | .iface _ d => uptoBulk d + 1
  | .map entries => uptoBulkEntries entries + 1
  | .held _ => 1
def uptoBulkAll {H : Type} : List (DataW H) → Nat
  | [] => 0
  | d :: r => uptoBulk d + uptoBulkAll r
def uptoBulkEntries {H : Type} : List (Lit × DataW H) → Nat
  | [] => 0
  | x :: r => uptoBulkEntry x + uptoBulkEntries r
def uptoBulkEntry {H : Type} : Lit × DataW H → Nat
  | (.string bytes, d) => bytes.length + uptoBulk d + 1
  | (_, d) => uptoBulk d + 1
 end
def uptoSmall : (H : Type) → List (DataW H) → Bool := fun _ ds => decide (uptoBulkAll ds ≤ 1048576)
def OpenSpec.upto (s : _root_.Go.ChangeSpec) : _root_.Go.OpenSpec := { _root_.Go.OpenSpec.ofChange s with cond := some uptoSmall }

/-- 'gangsawlaw33.SampleOrders', WHERE WHAT IT READS IS OF BULK AT MOST 1048576: true; the input reads as it did. -/
def sampleOrdersUptoRow : OpenClaim := { program := "ythkpgjjakdbbfaa", sum := "b5225fd23b6519300c8639fdd667d39cccd8750fb7f7e248b7930822a6c4add2", func := "gangsaw/gangsawlaw33.SampleOrders", spec := "sampleOrders", unfollowed := true, recurses := true, apart := false, narrowed := true }
def SampleOrdersUptoSaid : Prop := sampleOrdersUptoRow.holds Try.pinned (OpenSpec.upto sampleOrdersSpec)

/-- 'gangsawlaw33.SampleRanks', WHERE WHAT IT READS IS OF BULK AT MOST 1048576: true; the input reads as it did. -/
def sampleRanksUptoRow : OpenClaim := { program := "ythkpgjjakdbbfaa", sum := "b5225fd23b6519300c8639fdd667d39cccd8750fb7f7e248b7930822a6c4add2", func := "gangsaw/gangsawlaw33.SampleRanks", spec := "sampleRanks", unfollowed := true, recurses := true, apart := false, narrowed := true }
def SampleRanksUptoSaid : Prop := sampleRanksUptoRow.holds Try.pinned (OpenSpec.upto sampleRanksSpec)

/-- 'gangsawlaw33.SampleConfidences', WHERE WHAT IT READS IS OF BULK AT MOST 1048576: true; the input reads as it did. -/
def sampleConfidencesUptoRow : OpenClaim := { program := "ythkpgjjakdbbfaa", sum := "b5225fd23b6519300c8639fdd667d39cccd8750fb7f7e248b7930822a6c4add2", func := "gangsaw/gangsawlaw33.SampleConfidences", spec := "sampleConfidences", inPlace := ["math/bits.Add64", "math/bits.Sub64"], unfollowed := true, recurses := true, apart := false, narrowed := true }
def SampleConfidencesUptoSaid : Prop := sampleConfidencesUptoRow.holds Try.pinned (OpenSpec.upto sampleConfidencesSpec)

/-- 'gangsawlaw33.SampleLeast', WHERE WHAT IT READS IS OF BULK AT MOST 1048576: true; the input reads as it did. -/
def sampleLeastUptoRow : OpenClaim := { program := "ythkpgjjakdbbfaa", sum := "b5225fd23b6519300c8639fdd667d39cccd8750fb7f7e248b7930822a6c4add2", func := "gangsaw/gangsawlaw33.SampleLeast", spec := "sampleLeast", inPlace := ["math/bits.Add64", "math/bits.Sub64"], unfollowed := true, recurses := true, apart := false, narrowed := true }
def SampleLeastUptoSaid : Prop := sampleLeastUptoRow.holds Try.pinned (OpenSpec.upto sampleLeastSpec)

/-- 'gangsawlaw33.SampleUnordered', WHERE WHAT IT READS IS OF BULK AT MOST 1048576: true; the input reads as it did. -/
def sampleUnorderedUptoRow : OpenClaim := { program := "ythkpgjjakdbbfaa", sum := "b5225fd23b6519300c8639fdd667d39cccd8750fb7f7e248b7930822a6c4add2", func := "gangsaw/gangsawlaw33.SampleUnordered", spec := "sampleUnordered", unfollowed := true, recurses := true, apart := false, narrowed := true }
def SampleUnorderedUptoSaid : Prop := sampleUnorderedUptoRow.holds Try.pinned (OpenSpec.upto sampleUnorderedSpec)

/-- 'gangsawlaw33.SampleMiddles', WHERE WHAT IT READS IS OF BULK AT MOST 1048576: true; the input reads as it did. -/
def sampleMiddlesUptoRow : OpenClaim := { program := "ythkpgjjakdbbfaa", sum := "b5225fd23b6519300c8639fdd667d39cccd8750fb7f7e248b7930822a6c4add2", func := "gangsaw/gangsawlaw33.SampleMiddles", spec := "sampleMiddles", unfollowed := true, recurses := true, apart := false, narrowed := true }
def SampleMiddlesUptoSaid : Prop := sampleMiddlesUptoRow.holds Try.pinned (OpenSpec.upto sampleMiddlesSpec)

/-- 'gangsawlaw33.SampleBinomial', WHERE WHAT IT READS IS OF BULK AT MOST 1048576: true; the input reads as it did. -/
def sampleBinomialUptoRow : OpenClaim := { program := "ythkpgjjakdbbfaa", sum := "b5225fd23b6519300c8639fdd667d39cccd8750fb7f7e248b7930822a6c4add2", func := "gangsaw/gangsawlaw33.SampleBinomial", spec := "sampleBinomial", inPlace := ["math/bits.Add64", "math/bits.Sub64"], unfollowed := true, recurses := true, named := ["math/bits.divideError", "math/bits.overflowError"], apart := false, narrowed := true }
def SampleBinomialUptoSaid : Prop := sampleBinomialUptoRow.holds Try.pinned (OpenSpec.upto sampleBinomialSpec)

end Rows
end Go.Proofs.Ythkpgjjakdbbfaa
