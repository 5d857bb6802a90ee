/-
  NARROWER THAN 'FOR EVERY INPUT', by the rows' own cells (each row's printed sentence says how): SlabRuns: laid · SlabBack: laid · SlabMakes: laid · SlabOrders: laid · SlabFaces: laid · SlabCodes: laid · SlabParts: laid · SlabFits: laid.
  DERIVED. THE GIVEN ROWS OF THIS SEAT. 8 by the template 'for every input the law returns true; each argument reads behind the call as it read before'; 0 by the template 'total and deterministic' (their statements: YtnaahepnabmibaaGreatDoorTotals.lean).
  GIVEN WITH THE SEED: the statements are not yours to turn. If you find one false, say at which input.
  Laid BY PROGRAM, IN A SANDBOX (cutbox-rows.mjs): the forced cells as the released guide's own fill.sh prints them over the translation 3d744d4c7ee8a0b2… (all of the seat's roots in one cut). By AI agents, Wed Nov 11 2026. No macro, syntax, notation, axiom, sorry.
-/
import Derived.Test.YtnaahepnabmibaaGreatDoorChecked
import GoSem.Claim
import GoSem.ClaimJoined
import GoSem.ClaimMapViews
import Derived.JoinedTies
import Derived.KernelRfl
namespace Go.Proofs.YtnaahepnabmibaaGreatDoor
/- THE CELL 'sum', in the pinned program and in every row, IS THE sha256 OF THE DUMP (.gsa) THAT YtnaahepnabmibaaGreatDoorProg.lean LOADS. Nothing in Lean hashes anything: it is a label: what it is worth is what the hold of that sum in a sandbox is worth. -/
noncomputable def Tryz.pinned : Pinned := { name := "ytnaahepnabmibaagreatdoor", sum := "3d744d4c7ee8a0b2a84bfbc3adabc4363d2ff6947f5c8d797f352da0d5b47b9b", checked := Tryz.checked }
namespace Rows
def none {H : Type} : Left H := { results := [], args := [] }

/- WHAT THE LISTED PACKAGE-LEVEL VARIABLES READ AS WHEN THE CALL BEGINS. Each datum BY PROGRAM (the guide's laid-datum.mjs) off the statement by which the dump's own 'gosem.cut.vars' lays the variable. In a bare row this is a premise. The card (YtnaahepnabmibaaGreatDoorCards.lean) ties it to the program's text. -/
def laid_math_bits_deBruijn32tab {H : Type} : DataW H := .agg [.lit (.int .u8 0), .lit (.int .u8 1), .lit (.int .u8 28), .lit (.int .u8 2), .lit (.int .u8 29), .lit (.int .u8 14), .lit (.int .u8 24), .lit (.int .u8 3), .lit (.int .u8 30), .lit (.int .u8 22), .lit (.int .u8 20), .lit (.int .u8 15), .lit (.int .u8 25), .lit (.int .u8 17), .lit (.int .u8 4), .lit (.int .u8 8), .lit (.int .u8 31), .lit (.int .u8 27), .lit (.int .u8 13), .lit (.int .u8 23), .lit (.int .u8 21), .lit (.int .u8 19), .lit (.int .u8 16), .lit (.int .u8 7), .lit (.int .u8 26), .lit (.int .u8 12), .lit (.int .u8 18), .lit (.int .u8 6), .lit (.int .u8 11), .lit (.int .u8 5), .lit (.int .u8 10), .lit (.int .u8 9)]
def laid_math_bits_deBruijn64tab {H : Type} : DataW H := .agg [.lit (.int .u8 0), .lit (.int .u8 1), .lit (.int .u8 56), .lit (.int .u8 2), .lit (.int .u8 57), .lit (.int .u8 49), .lit (.int .u8 28), .lit (.int .u8 3), .lit (.int .u8 61), .lit (.int .u8 58), .lit (.int .u8 42), .lit (.int .u8 50), .lit (.int .u8 38), .lit (.int .u8 29), .lit (.int .u8 17), .lit (.int .u8 4), .lit (.int .u8 62), .lit (.int .u8 47), .lit (.int .u8 59), .lit (.int .u8 36), .lit (.int .u8 45), .lit (.int .u8 43), .lit (.int .u8 51), .lit (.int .u8 22), .lit (.int .u8 53), .lit (.int .u8 39), .lit (.int .u8 33), .lit (.int .u8 30), .lit (.int .u8 24), .lit (.int .u8 18), .lit (.int .u8 12), .lit (.int .u8 5), .lit (.int .u8 63), .lit (.int .u8 55), .lit (.int .u8 48), .lit (.int .u8 27), .lit (.int .u8 60), .lit (.int .u8 41), .lit (.int .u8 37), .lit (.int .u8 16), .lit (.int .u8 46), .lit (.int .u8 35), .lit (.int .u8 44), .lit (.int .u8 21), .lit (.int .u8 52), .lit (.int .u8 32), .lit (.int .u8 23), .lit (.int .u8 11), .lit (.int .u8 54), .lit (.int .u8 26), .lit (.int .u8 40), .lit (.int .u8 15), .lit (.int .u8 34), .lit (.int .u8 20), .lit (.int .u8 31), .lit (.int .u8 10), .lit (.int .u8 25), .lit (.int .u8 14), .lit (.int .u8 19), .lit (.int .u8 9), .lit (.int .u8 13), .lit (.int .u8 8), .lit (.int .u8 7), .lit (.int .u8 6)]
def laid_internal_strconv_uint64pow10 {H : Type} : DataW H := .agg [.lit (.int .u64 1), .lit (.int .u64 10), .lit (.int .u64 100), .lit (.int .u64 1000), .lit (.int .u64 10000), .lit (.int .u64 100000), .lit (.int .u64 1000000), .lit (.int .u64 10000000), .lit (.int .u64 100000000), .lit (.int .u64 1000000000), .lit (.int .u64 10000000000), .lit (.int .u64 100000000000), .lit (.int .u64 1000000000000), .lit (.int .u64 10000000000000), .lit (.int .u64 100000000000000), .lit (.int .u64 1000000000000000), .lit (.int .u64 10000000000000000), .lit (.int .u64 100000000000000000), .lit (.int .u64 1000000000000000000), .lit (.int .u64 10000000000000000000)]
def laid_gangsaw_slab_kinds {H : Type} : DataW H := .agg [.lit (.int .i64 2), .lit (.int .i64 2), .lit (.int .i64 1), .lit (.int .i64 3), .lit (.int .i64 1), .lit (.int .i64 3), .lit (.int .i64 3)]

/-- 'gangsawlaw30.SlabRuns': WHATEVER THE INPUT: true; the input reads as it did. -/
def slabRunsSpec : ChangeSpec := { name := "slabRuns", fn := fun _ => fun
  | [d] => { results := [.lit (.bool true)], args := [d] }
  | _ => none }
def slabRunsRow : OpenClaim := { program := "ytnaahepnabmibaagreatdoor", sum := "3d744d4c7ee8a0b2a84bfbc3adabc4363d2ff6947f5c8d797f352da0d5b47b9b", func := "gangsaw/gangsawlaw30.SlabRuns", spec := "slabRuns", inPlace := ["internal/bytealg.abigen_runtime_cmpstring"], unfollowed := true, recurses := true, named := ["internal/strconv.uint64pow10", "math/bits.deBruijn32tab", "math/bits.deBruijn64tab", "gangsaw/slab.kinds"], apart := false, laid := [("math/bits.deBruijn32tab", laid_math_bits_deBruijn32tab), ("math/bits.deBruijn64tab", laid_math_bits_deBruijn64tab), ("internal/strconv.uint64pow10", laid_internal_strconv_uint64pow10), ("gangsaw/slab.kinds", laid_gangsaw_slab_kinds)] }
def SlabRunsSaid : Prop := slabRunsRow.holds Tryz.pinned (OpenSpec.ofChange slabRunsSpec)

/-- ITS FALSE NEIGHBOUR: 'it returns false'. Refute it at one input. -/
def slabRunsWrong : ChangeSpec := { name := "slabRuns", fn := fun _ => fun
  | [d] => { results := [.lit (.bool false)], args := [d] }
  | _ => none }
def SlabRunsWrongFalsely : Prop := slabRunsRow.holds Tryz.pinned (OpenSpec.ofChange slabRunsWrong)

/-- 'gangsawlaw30.SlabBack': WHATEVER THE INPUT: true; the input reads as it did. -/
def slabBackSpec : ChangeSpec := { name := "slabBack", fn := fun _ => fun
  | [d1, d2] => { results := [.lit (.bool true)], args := [d1, d2] }
  | _ => none }
def slabBackRow : OpenClaim := { program := "ytnaahepnabmibaagreatdoor", sum := "3d744d4c7ee8a0b2a84bfbc3adabc4363d2ff6947f5c8d797f352da0d5b47b9b", func := "gangsaw/gangsawlaw30.SlabBack", spec := "slabBack", inPlace := ["internal/bytealg.abigen_runtime_cmpstring"], unfollowed := true, recurses := true, named := ["internal/strconv.uint64pow10", "math/bits.deBruijn32tab", "math/bits.deBruijn64tab", "gangsaw/slab.kinds"], apart := false, laid := [("math/bits.deBruijn32tab", laid_math_bits_deBruijn32tab), ("math/bits.deBruijn64tab", laid_math_bits_deBruijn64tab), ("internal/strconv.uint64pow10", laid_internal_strconv_uint64pow10), ("gangsaw/slab.kinds", laid_gangsaw_slab_kinds)] }
def SlabBackSaid : Prop := slabBackRow.holds Tryz.pinned (OpenSpec.ofChange slabBackSpec)

/-- ITS FALSE NEIGHBOUR: 'it returns false'. Refute it at one input. -/
def slabBackWrong : ChangeSpec := { name := "slabBack", fn := fun _ => fun
  | [d1, d2] => { results := [.lit (.bool false)], args := [d1, d2] }
  | _ => none }
def SlabBackWrongFalsely : Prop := slabBackRow.holds Tryz.pinned (OpenSpec.ofChange slabBackWrong)

/-- 'gangsawlaw30.SlabMakes': WHATEVER THE INPUT: true; the input reads as it did. -/
def slabMakesSpec : ChangeSpec := { name := "slabMakes", fn := fun _ => fun
  | [d1, d2, d3] => { results := [.lit (.bool true)], args := [d1, d2, d3] }
  | _ => none }
def slabMakesRow : OpenClaim := { program := "ytnaahepnabmibaagreatdoor", sum := "3d744d4c7ee8a0b2a84bfbc3adabc4363d2ff6947f5c8d797f352da0d5b47b9b", func := "gangsaw/gangsawlaw30.SlabMakes", spec := "slabMakes", inPlace := ["internal/bytealg.abigen_runtime_cmpstring"], unfollowed := true, recurses := true, named := ["internal/strconv.uint64pow10", "math/bits.deBruijn32tab", "math/bits.deBruijn64tab", "gangsaw/slab.kinds"], apart := false, laid := [("math/bits.deBruijn32tab", laid_math_bits_deBruijn32tab), ("math/bits.deBruijn64tab", laid_math_bits_deBruijn64tab), ("internal/strconv.uint64pow10", laid_internal_strconv_uint64pow10), ("gangsaw/slab.kinds", laid_gangsaw_slab_kinds)] }
def SlabMakesSaid : Prop := slabMakesRow.holds Tryz.pinned (OpenSpec.ofChange slabMakesSpec)

/-- ITS FALSE NEIGHBOUR: 'it returns false'. Refute it at one input. -/
def slabMakesWrong : ChangeSpec := { name := "slabMakes", fn := fun _ => fun
  | [d1, d2, d3] => { results := [.lit (.bool false)], args := [d1, d2, d3] }
  | _ => none }
def SlabMakesWrongFalsely : Prop := slabMakesRow.holds Tryz.pinned (OpenSpec.ofChange slabMakesWrong)

/-- 'gangsawlaw30.SlabOrders': WHATEVER THE INPUT: true; the input reads as it did. -/
def slabOrdersSpec : ChangeSpec := { name := "slabOrders", fn := fun _ => fun
  | [d1, d2] => { results := [.lit (.bool true)], args := [d1, d2] }
  | _ => none }
def slabOrdersRow : OpenClaim := { program := "ytnaahepnabmibaagreatdoor", sum := "3d744d4c7ee8a0b2a84bfbc3adabc4363d2ff6947f5c8d797f352da0d5b47b9b", func := "gangsaw/gangsawlaw30.SlabOrders", spec := "slabOrders", inPlace := ["internal/bytealg.abigen_runtime_cmpstring"], unfollowed := true, recurses := true, named := ["internal/strconv.uint64pow10", "math/bits.deBruijn32tab", "math/bits.deBruijn64tab", "gangsaw/slab.kinds"], apart := false, laid := [("math/bits.deBruijn32tab", laid_math_bits_deBruijn32tab), ("math/bits.deBruijn64tab", laid_math_bits_deBruijn64tab), ("internal/strconv.uint64pow10", laid_internal_strconv_uint64pow10), ("gangsaw/slab.kinds", laid_gangsaw_slab_kinds)] }
def SlabOrdersSaid : Prop := slabOrdersRow.holds Tryz.pinned (OpenSpec.ofChange slabOrdersSpec)

/-- ITS FALSE NEIGHBOUR: 'it returns false'. Refute it at one input. -/
def slabOrdersWrong : ChangeSpec := { name := "slabOrders", fn := fun _ => fun
  | [d1, d2] => { results := [.lit (.bool false)], args := [d1, d2] }
  | _ => none }
def SlabOrdersWrongFalsely : Prop := slabOrdersRow.holds Tryz.pinned (OpenSpec.ofChange slabOrdersWrong)

/-- 'gangsawlaw30.SlabFaces': WHATEVER THE INPUT: true; the input reads as it did. -/
def slabFacesSpec : ChangeSpec := { name := "slabFaces", fn := fun _ => fun
  | [d] => { results := [.lit (.bool true)], args := [d] }
  | _ => none }
def slabFacesRow : OpenClaim := { program := "ytnaahepnabmibaagreatdoor", sum := "3d744d4c7ee8a0b2a84bfbc3adabc4363d2ff6947f5c8d797f352da0d5b47b9b", func := "gangsaw/gangsawlaw30.SlabFaces", spec := "slabFaces", inPlace := ["internal/bytealg.abigen_runtime_cmpstring"], unfollowed := true, recurses := true, named := ["internal/strconv.uint64pow10", "math/bits.deBruijn32tab", "math/bits.deBruijn64tab", "gangsaw/slab.kinds"], apart := false, laid := [("math/bits.deBruijn32tab", laid_math_bits_deBruijn32tab), ("math/bits.deBruijn64tab", laid_math_bits_deBruijn64tab), ("internal/strconv.uint64pow10", laid_internal_strconv_uint64pow10), ("gangsaw/slab.kinds", laid_gangsaw_slab_kinds)] }
def SlabFacesSaid : Prop := slabFacesRow.holds Tryz.pinned (OpenSpec.ofChange slabFacesSpec)

/-- ITS FALSE NEIGHBOUR: 'it returns false'. Refute it at one input. -/
def slabFacesWrong : ChangeSpec := { name := "slabFaces", fn := fun _ => fun
  | [d] => { results := [.lit (.bool false)], args := [d] }
  | _ => none }
def SlabFacesWrongFalsely : Prop := slabFacesRow.holds Tryz.pinned (OpenSpec.ofChange slabFacesWrong)

/-- 'gangsawlaw30.SlabCodes': WHATEVER THE INPUT: true; the input reads as it did. -/
def slabCodesSpec : ChangeSpec := { name := "slabCodes", fn := fun _ => fun
  | [d1, d2] => { results := [.lit (.bool true)], args := [d1, d2] }
  | _ => none }
def slabCodesRow : OpenClaim := { program := "ytnaahepnabmibaagreatdoor", sum := "3d744d4c7ee8a0b2a84bfbc3adabc4363d2ff6947f5c8d797f352da0d5b47b9b", func := "gangsaw/gangsawlaw30.SlabCodes", spec := "slabCodes", inPlace := ["internal/bytealg.abigen_runtime_cmpstring"], unfollowed := true, recurses := true, named := ["internal/strconv.uint64pow10", "math/bits.deBruijn32tab", "math/bits.deBruijn64tab", "gangsaw/slab.kinds"], apart := false, laid := [("math/bits.deBruijn32tab", laid_math_bits_deBruijn32tab), ("math/bits.deBruijn64tab", laid_math_bits_deBruijn64tab), ("internal/strconv.uint64pow10", laid_internal_strconv_uint64pow10), ("gangsaw/slab.kinds", laid_gangsaw_slab_kinds)] }
def SlabCodesSaid : Prop := slabCodesRow.holds Tryz.pinned (OpenSpec.ofChange slabCodesSpec)

/-- ITS FALSE NEIGHBOUR: 'it returns false'. Refute it at one input. -/
def slabCodesWrong : ChangeSpec := { name := "slabCodes", fn := fun _ => fun
  | [d1, d2] => { results := [.lit (.bool false)], args := [d1, d2] }
  | _ => none }
def SlabCodesWrongFalsely : Prop := slabCodesRow.holds Tryz.pinned (OpenSpec.ofChange slabCodesWrong)

/-- 'gangsawlaw30.SlabParts': WHATEVER THE INPUT: true; the input reads as it did. -/
def slabPartsSpec : ChangeSpec := { name := "slabParts", fn := fun _ => fun
  | [d1, d2] => { results := [.lit (.bool true)], args := [d1, d2] }
  | _ => none }
def slabPartsRow : OpenClaim := { program := "ytnaahepnabmibaagreatdoor", sum := "3d744d4c7ee8a0b2a84bfbc3adabc4363d2ff6947f5c8d797f352da0d5b47b9b", func := "gangsaw/gangsawlaw30.SlabParts", spec := "slabParts", inPlace := ["internal/bytealg.abigen_runtime_cmpstring"], unfollowed := true, recurses := true, named := ["internal/strconv.uint64pow10", "math/bits.deBruijn32tab", "math/bits.deBruijn64tab", "gangsaw/slab.kinds"], apart := false, laid := [("math/bits.deBruijn32tab", laid_math_bits_deBruijn32tab), ("math/bits.deBruijn64tab", laid_math_bits_deBruijn64tab), ("internal/strconv.uint64pow10", laid_internal_strconv_uint64pow10), ("gangsaw/slab.kinds", laid_gangsaw_slab_kinds)] }
def SlabPartsSaid : Prop := slabPartsRow.holds Tryz.pinned (OpenSpec.ofChange slabPartsSpec)

/-- ITS FALSE NEIGHBOUR: 'it returns false'. Refute it at one input. -/
def slabPartsWrong : ChangeSpec := { name := "slabParts", fn := fun _ => fun
  | [d1, d2] => { results := [.lit (.bool false)], args := [d1, d2] }
  | _ => none }
def SlabPartsWrongFalsely : Prop := slabPartsRow.holds Tryz.pinned (OpenSpec.ofChange slabPartsWrong)

/-- 'gangsawlaw30.SlabFits': WHATEVER THE INPUT: true; the input reads as it did. -/
def slabFitsSpec : ChangeSpec := { name := "slabFits", fn := fun _ => fun
  | [d1, d2, d3] => { results := [.lit (.bool true)], args := [d1, d2, d3] }
  | _ => none }
def slabFitsRow : OpenClaim := { program := "ytnaahepnabmibaagreatdoor", sum := "3d744d4c7ee8a0b2a84bfbc3adabc4363d2ff6947f5c8d797f352da0d5b47b9b", func := "gangsaw/gangsawlaw30.SlabFits", spec := "slabFits", inPlace := ["internal/bytealg.abigen_runtime_cmpstring"], unfollowed := true, recurses := true, named := ["internal/strconv.uint64pow10", "math/bits.deBruijn32tab", "math/bits.deBruijn64tab", "gangsaw/slab.kinds"], apart := false, laid := [("math/bits.deBruijn32tab", laid_math_bits_deBruijn32tab), ("math/bits.deBruijn64tab", laid_math_bits_deBruijn64tab), ("internal/strconv.uint64pow10", laid_internal_strconv_uint64pow10), ("gangsaw/slab.kinds", laid_gangsaw_slab_kinds)] }
def SlabFitsSaid : Prop := slabFitsRow.holds Tryz.pinned (OpenSpec.ofChange slabFitsSpec)

/-- ITS FALSE NEIGHBOUR: 'it returns false'. Refute it at one input. -/
def slabFitsWrong : ChangeSpec := { name := "slabFits", fn := fun _ => fun
  | [d1, d2, d3] => { results := [.lit (.bool false)], args := [d1, d2, d3] }
  | _ => none }
def SlabFitsWrongFalsely : Prop := slabFitsRow.holds Tryz.pinned (OpenSpec.ofChange slabFitsWrong)

/- THE SECOND FORM. 'bulk': how many values and letters a reading holds, each counted each time it is reached (what is shared counts as often as it is met; a slice's spare places count too). A statement '..UptoSaid' is the law's where the arguments, and the package variables that the reading takes, are together of bulk at most 1048576: NARROWER than '..Said'. Prove '..Said' where nothing that the law and all that it calls make is longer than what came in: it says more and counts as full. Else prove '..UptoSaid'. A law counts once. -/
mutual
def uptoBulk {H : Type} : DataW H → Nat
  | .lit (.string bytes) => bytes.length + 1
  | .lit _ => 1
  | .nil => 1
  | .ptr d => uptoBulk d + 1
  | .slice elems spare => uptoBulkAll elems + uptoBulkAll spare + 1
  | .agg parts => uptoBulkAll parts + 1
  | .iface _ d => uptoBulk d + 1
  | .map entries => uptoBulkEntries entries + 1
  | .held _ => 1
def uptoBulkAll {H : Type} : List (DataW H) → Nat
  | [] => 0
  | d :: r => uptoBulk d + uptoBulkAll r
def uptoBulkEntries {H : Type} : List (Lit × DataW H) → Nat
  | [] => 0
  | x :: r => uptoBulkEntry x + uptoBulkEntries r
def uptoBulkEntry {H : Type} : Lit × DataW H → Nat
  | (.string bytes, d) => bytes.length + uptoBulk d + 1
  | (_, d) => uptoBulk d + 1
 end
def uptoSmall : (H : Type) → List (DataW H) → Bool := fun _ ds => decide (uptoBulkAll ds ≤ 1048576)
def OpenSpec.upto (s : _root_.Go.ChangeSpec) : _root_.Go.OpenSpec := { _root_.Go.OpenSpec.ofChange s with cond := some uptoSmall }

/-- 'gangsawlaw30.SlabRuns', WHERE WHAT IT READS IS OF BULK AT MOST 1048576: true; the input reads as it did. -/
def slabRunsUptoRow : OpenClaim := { program := "ytnaahepnabmibaagreatdoor", sum := "3d744d4c7ee8a0b2a84bfbc3adabc4363d2ff6947f5c8d797f352da0d5b47b9b", func := "gangsaw/gangsawlaw30.SlabRuns", spec := "slabRuns", inPlace := ["internal/bytealg.abigen_runtime_cmpstring"], unfollowed := true, recurses := true, named := ["internal/strconv.uint64pow10", "math/bits.deBruijn32tab", "math/bits.deBruijn64tab", "gangsaw/slab.kinds"], apart := false, laid := [("math/bits.deBruijn32tab", laid_math_bits_deBruijn32tab), ("math/bits.deBruijn64tab", laid_math_bits_deBruijn64tab), ("internal/strconv.uint64pow10", laid_internal_strconv_uint64pow10), ("gangsaw/slab.kinds", laid_gangsaw_slab_kinds)], narrowed := true }
def SlabRunsUptoSaid : Prop := slabRunsUptoRow.holds Tryz.pinned (OpenSpec.upto slabRunsSpec)

/-- 'gangsawlaw30.SlabBack', WHERE WHAT IT READS IS OF BULK AT MOST 1048576: true; the input reads as it did. -/
def slabBackUptoRow : OpenClaim := { program := "ytnaahepnabmibaagreatdoor", sum := "3d744d4c7ee8a0b2a84bfbc3adabc4363d2ff6947f5c8d797f352da0d5b47b9b", func := "gangsaw/gangsawlaw30.SlabBack", spec := "slabBack", inPlace := ["internal/bytealg.abigen_runtime_cmpstring"], unfollowed := true, recurses := true, named := ["internal/strconv.uint64pow10", "math/bits.deBruijn32tab", "math/bits.deBruijn64tab", "gangsaw/slab.kinds"], apart := false, laid := [("math/bits.deBruijn32tab", laid_math_bits_deBruijn32tab), ("math/bits.deBruijn64tab", laid_math_bits_deBruijn64tab), ("internal/strconv.uint64pow10", laid_internal_strconv_uint64pow10), ("gangsaw/slab.kinds", laid_gangsaw_slab_kinds)], narrowed := true }
def SlabBackUptoSaid : Prop := slabBackUptoRow.holds Tryz.pinned (OpenSpec.upto slabBackSpec)

/-- 'gangsawlaw30.SlabMakes', WHERE WHAT IT READS IS OF BULK AT MOST 1048576: true; the input reads as it did. -/
def slabMakesUptoRow : OpenClaim := { program := "ytnaahepnabmibaagreatdoor", sum := "3d744d4c7ee8a0b2a84bfbc3adabc4363d2ff6947f5c8d797f352da0d5b47b9b", func := "gangsaw/gangsawlaw30.SlabMakes", spec := "slabMakes", inPlace := ["internal/bytealg.abigen_runtime_cmpstring"], unfollowed := true, recurses := true, named := ["internal/strconv.uint64pow10", "math/bits.deBruijn32tab", "math/bits.deBruijn64tab", "gangsaw/slab.kinds"], apart := false, laid := [("math/bits.deBruijn32tab", laid_math_bits_deBruijn32tab), ("math/bits.deBruijn64tab", laid_math_bits_deBruijn64tab), ("internal/strconv.uint64pow10", laid_internal_strconv_uint64pow10), ("gangsaw/slab.kinds", laid_gangsaw_slab_kinds)], narrowed := true }
def SlabMakesUptoSaid : Prop := slabMakesUptoRow.holds Tryz.pinned (OpenSpec.upto slabMakesSpec)

/-- 'gangsawlaw30.SlabOrders', WHERE WHAT IT READS IS OF BULK AT MOST 1048576: true; the input reads as it did. -/
def slabOrdersUptoRow : OpenClaim := { program := "ytnaahepnabmibaagreatdoor", sum := "3d744d4c7ee8a0b2a84bfbc3adabc4363d2ff6947f5c8d797f352da0d5b47b9b", func := "gangsaw/gangsawlaw30.SlabOrders", spec := "slabOrders", inPlace := ["internal/bytealg.abigen_runtime_cmpstring"], unfollowed := true, recurses := true, named := ["internal/strconv.uint64pow10", "math/bits.deBruijn32tab", "math/bits.deBruijn64tab", "gangsaw/slab.kinds"], apart := false, laid := [("math/bits.deBruijn32tab", laid_math_bits_deBruijn32tab), ("math/bits.deBruijn64tab", laid_math_bits_deBruijn64tab), ("internal/strconv.uint64pow10", laid_internal_strconv_uint64pow10), ("gangsaw/slab.kinds", laid_gangsaw_slab_kinds)], narrowed := true }
def SlabOrdersUptoSaid : Prop := slabOrdersUptoRow.holds Tryz.pinned (OpenSpec.upto slabOrdersSpec)

/-- 'gangsawlaw30.SlabFaces', WHERE WHAT IT READS IS OF BULK AT MOST 1048576: true; the input reads as it did. -/
def slabFacesUptoRow : OpenClaim := { program := "ytnaahepnabmibaagreatdoor", sum := "3d744d4c7ee8a0b2a84bfbc3adabc4363d2ff6947f5c8d797f352da0d5b47b9b", func := "gangsaw/gangsawlaw30.SlabFaces", spec := "slabFaces", inPlace := ["internal/bytealg.abigen_runtime_cmpstring"], unfollowed := true, recurses := true, named := ["internal/strconv.uint64pow10", "math/bits.deBruijn32tab", "math/bits.deBruijn64tab", "gangsaw/slab.kinds"], apart := false, laid := [("math/bits.deBruijn32tab", laid_math_bits_deBruijn32tab), ("math/bits.deBruijn64tab", laid_math_bits_deBruijn64tab), ("internal/strconv.uint64pow10", laid_internal_strconv_uint64pow10), ("gangsaw/slab.kinds", laid_gangsaw_slab_kinds)], narrowed := true }
def SlabFacesUptoSaid : Prop := slabFacesUptoRow.holds Tryz.pinned (OpenSpec.upto slabFacesSpec)

/-- 'gangsawlaw30.SlabCodes', WHERE WHAT IT READS IS OF BULK AT MOST 1048576: true; the input reads as it did. -/
def slabCodesUptoRow : OpenClaim := { program := "ytnaahepnabmibaagreatdoor", sum := "3d744d4c7ee8a0b2a84bfbc3adabc4363d2ff6947f5c8d797f352da0d5b47b9b", func := "gangsaw/gangsawlaw30.SlabCodes", spec := "slabCodes", inPlace := ["internal/bytealg.abigen_runtime_cmpstring"], unfollowed := true, recurses := true, named := ["internal/strconv.uint64pow10", "math/bits.deBruijn32tab", "math/bits.deBruijn64tab", "gangsaw/slab.kinds"], apart := false, laid := [("math/bits.deBruijn32tab", laid_math_bits_deBruijn32tab), ("math/bits.deBruijn64tab", laid_math_bits_deBruijn64tab), ("internal/strconv.uint64pow10", laid_internal_strconv_uint64pow10), ("gangsaw/slab.kinds", laid_gangsaw_slab_kinds)], narrowed := true }
def SlabCodesUptoSaid : Prop := slabCodesUptoRow.holds Tryz.pinned (OpenSpec.upto slabCodesSpec)

/-- 'gangsawlaw30.SlabParts', WHERE WHAT IT READS IS OF BULK AT MOST 1048576: true; the input reads as it did. -/
def slabPartsUptoRow : OpenClaim := { program := "ytnaahepnabmibaagreatdoor", sum := "3d744d4c7ee8a0b2a84bfbc3adabc4363d2ff6947f5c8d797f352da0d5b47b9b", func := "gangsaw/gangsawlaw30.SlabParts", spec := "slabParts", inPlace := ["internal/bytealg.abigen_runtime_cmpstring"], unfollowed := true, recurses := true, named := ["internal/strconv.uint64pow10", "math/bits.deBruijn32tab", "math/bits.deBruijn64tab", "gangsaw/slab.kinds"], apart := false, laid := [("math/bits.deBruijn32tab", laid_math_bits_deBruijn32tab), ("math/bits.deBruijn64tab", laid_math_bits_deBruijn64tab), ("internal/strconv.uint64pow10", laid_internal_strconv_uint64pow10), ("gangsaw/slab.kinds", laid_gangsaw_slab_kinds)], narrowed := true }
def SlabPartsUptoSaid : Prop := slabPartsUptoRow.holds Tryz.pinned (OpenSpec.upto slabPartsSpec)

/-- 'gangsawlaw30.SlabFits', WHERE WHAT IT READS IS OF BULK AT MOST 1048576: true; the input reads as it did. -/
def slabFitsUptoRow : OpenClaim := { program := "ytnaahepnabmibaagreatdoor", sum := "3d744d4c7ee8a0b2a84bfbc3adabc4363d2ff6947f5c8d797f352da0d5b47b9b", func := "gangsaw/gangsawlaw30.SlabFits", spec := "slabFits", inPlace := ["internal/bytealg.abigen_runtime_cmpstring"], unfollowed := true, recurses := true, named := ["internal/strconv.uint64pow10", "math/bits.deBruijn32tab", "math/bits.deBruijn64tab", "gangsaw/slab.kinds"], apart := false, laid := [("math/bits.deBruijn32tab", laid_math_bits_deBruijn32tab), ("math/bits.deBruijn64tab", laid_math_bits_deBruijn64tab), ("internal/strconv.uint64pow10", laid_internal_strconv_uint64pow10), ("gangsaw/slab.kinds", laid_gangsaw_slab_kinds)], narrowed := true }
def SlabFitsUptoSaid : Prop := slabFitsUptoRow.holds Tryz.pinned (OpenSpec.upto slabFitsSpec)

end Rows
end Go.Proofs.YtnaahepnabmibaaGreatDoor
