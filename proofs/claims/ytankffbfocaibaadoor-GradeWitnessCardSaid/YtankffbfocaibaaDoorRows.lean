/-
  NARROWER THAN 'FOR EVERY INPUT', by the rows' own cells (each row's printed sentence says how): GradeChecks: laid · GradeMargins: laid · GradeImplies: laid · GradeWitness: laid · GradeImproves: laid · GradeOrder: laid.
  DERIVED. THE GIVEN ROWS OF THIS SEAT. 6 by the template 'for every input the law returns true; each argument reads behind the call as it read before'; 0 by the template 'total and deterministic' (their statements: YtankffbfocaibaaDoorTotals.lean).
  GIVEN WITH THE SEED: the statements are not yours to turn. If you find one false, say at which input.
  Laid BY PROGRAM, IN A SANDBOX (cutbox-rows.mjs): the forced cells as the released guide's own fill.sh prints them over the translation 88ca3d54863f2ecb… (all of the seat's roots in one cut). By AI agents, Wed Nov 11 2026. No macro, syntax, notation, axiom, sorry.
-/
import Derived.Test.YtankffbfocaibaaDoorChecked
import GoSem.Claim
import GoSem.ClaimJoined
import GoSem.ClaimMapViews
import Derived.JoinedTies
import Derived.KernelRfl
namespace Go.Proofs.YtankffbfocaibaaDoor
/- THE CELL 'sum', in the pinned program and in every row, IS THE sha256 OF THE DUMP (.gsa) THAT YtankffbfocaibaaDoorProg.lean LOADS. Nothing in Lean hashes anything: it is a label: what it is worth is what the hold of that sum in a sandbox is worth. -/
noncomputable def Tryd.pinned : Pinned := { name := "ytankffbfocaibaadoor", sum := "88ca3d54863f2ecbc9aa5e64678d448cf921d422f565fd113971308f004cbe7e", checked := Tryd.checked }
namespace Rows
def none {H : Type} : Left H := { results := [], args := [] }

/- WHAT THE LISTED PACKAGE-LEVEL VARIABLES READ AS WHEN THE CALL BEGINS. Each datum BY PROGRAM (the guide's laid-datum.mjs) off the statement by which the dump's own 'gosem.cut.vars' lays the variable. In a bare row this is a premise. The card (YtankffbfocaibaaDoorCards.lean) ties it to the program's text. -/
def laid_math_bits_deBruijn32tab {H : Type} : DataW H := .agg [.lit (.int .u8 0), .lit (.int .u8 1), .lit (.int .u8 28), .lit (.int .u8 2), .lit (.int .u8 29), .lit (.int .u8 14), .lit (.int .u8 24), .lit (.int .u8 3), .lit (.int .u8 30), .lit (.int .u8 22), .lit (.int .u8 20), .lit (.int .u8 15), .lit (.int .u8 25), .lit (.int .u8 17), .lit (.int .u8 4), .lit (.int .u8 8), .lit (.int .u8 31), .lit (.int .u8 27), .lit (.int .u8 13), .lit (.int .u8 23), .lit (.int .u8 21), .lit (.int .u8 19), .lit (.int .u8 16), .lit (.int .u8 7), .lit (.int .u8 26), .lit (.int .u8 12), .lit (.int .u8 18), .lit (.int .u8 6), .lit (.int .u8 11), .lit (.int .u8 5), .lit (.int .u8 10), .lit (.int .u8 9)]
def laid_math_bits_deBruijn64tab {H : Type} : DataW H := .agg [.lit (.int .u8 0), .lit (.int .u8 1), .lit (.int .u8 56), .lit (.int .u8 2), .lit (.int .u8 57), .lit (.int .u8 49), .lit (.int .u8 28), .lit (.int .u8 3), .lit (.int .u8 61), .lit (.int .u8 58), .lit (.int .u8 42), .lit (.int .u8 50), .lit (.int .u8 38), .lit (.int .u8 29), .lit (.int .u8 17), .lit (.int .u8 4), .lit (.int .u8 62), .lit (.int .u8 47), .lit (.int .u8 59), .lit (.int .u8 36), .lit (.int .u8 45), .lit (.int .u8 43), .lit (.int .u8 51), .lit (.int .u8 22), .lit (.int .u8 53), .lit (.int .u8 39), .lit (.int .u8 33), .lit (.int .u8 30), .lit (.int .u8 24), .lit (.int .u8 18), .lit (.int .u8 12), .lit (.int .u8 5), .lit (.int .u8 63), .lit (.int .u8 55), .lit (.int .u8 48), .lit (.int .u8 27), .lit (.int .u8 60), .lit (.int .u8 41), .lit (.int .u8 37), .lit (.int .u8 16), .lit (.int .u8 46), .lit (.int .u8 35), .lit (.int .u8 44), .lit (.int .u8 21), .lit (.int .u8 52), .lit (.int .u8 32), .lit (.int .u8 23), .lit (.int .u8 11), .lit (.int .u8 54), .lit (.int .u8 26), .lit (.int .u8 40), .lit (.int .u8 15), .lit (.int .u8 34), .lit (.int .u8 20), .lit (.int .u8 31), .lit (.int .u8 10), .lit (.int .u8 25), .lit (.int .u8 14), .lit (.int .u8 19), .lit (.int .u8 9), .lit (.int .u8 13), .lit (.int .u8 8), .lit (.int .u8 7), .lit (.int .u8 6)]
def laid_internal_strconv_uint64pow10 {H : Type} : DataW H := .agg [.lit (.int .u64 1), .lit (.int .u64 10), .lit (.int .u64 100), .lit (.int .u64 1000), .lit (.int .u64 10000), .lit (.int .u64 100000), .lit (.int .u64 1000000), .lit (.int .u64 10000000), .lit (.int .u64 100000000), .lit (.int .u64 1000000000), .lit (.int .u64 10000000000), .lit (.int .u64 100000000000), .lit (.int .u64 1000000000000), .lit (.int .u64 10000000000000), .lit (.int .u64 100000000000000), .lit (.int .u64 1000000000000000), .lit (.int .u64 10000000000000000), .lit (.int .u64 100000000000000000), .lit (.int .u64 1000000000000000000), .lit (.int .u64 10000000000000000000)]
def laid_gangsaw_grade_form {H : Type} : DataW H := .agg [.lit (.string [103, 114, 97, 100, 101]), .lit (.string [78, 65, 77, 69]), .lit (.string [114, 97, 110, 107]), .lit (.string [78, 85, 77, 66, 69, 82]), .lit (.string [115, 116, 114, 101, 110, 103, 116, 104]), .lit (.string [78, 85, 77, 66, 69, 82]), .lit (.string [97, 98, 115, 111, 114, 112, 116, 105, 111, 110]), .lit (.string [78, 85, 77, 66, 69, 82])]

/-- 'gangsawlaw34.GradeChecks': WHATEVER THE INPUT: true; the input reads as it did. -/
def gradeChecksSpec : ChangeSpec := { name := "gradeChecks", fn := fun _ => fun
  | [d1, d2] => { results := [.lit (.bool true)], args := [d1, d2] }
  | _ => none }
def gradeChecksRow : OpenClaim := { program := "ytankffbfocaibaadoor", sum := "88ca3d54863f2ecbc9aa5e64678d448cf921d422f565fd113971308f004cbe7e", func := "gangsaw/gangsawlaw34.GradeChecks", spec := "gradeChecks", unfollowed := true, recurses := true, named := ["internal/strconv.uint64pow10", "math/bits.deBruijn32tab", "math/bits.deBruijn64tab", "gangsaw/grade.form"], apart := false, laid := [("math/bits.deBruijn32tab", laid_math_bits_deBruijn32tab), ("math/bits.deBruijn64tab", laid_math_bits_deBruijn64tab), ("internal/strconv.uint64pow10", laid_internal_strconv_uint64pow10), ("gangsaw/grade.form", laid_gangsaw_grade_form)] }
def GradeChecksSaid : Prop := gradeChecksRow.holds Tryd.pinned (OpenSpec.ofChange gradeChecksSpec)

/-- ITS FALSE NEIGHBOUR: 'it returns false'. Refute it at one input. -/
def gradeChecksWrong : ChangeSpec := { name := "gradeChecks", fn := fun _ => fun
  | [d1, d2] => { results := [.lit (.bool false)], args := [d1, d2] }
  | _ => none }
def GradeChecksWrongFalsely : Prop := gradeChecksRow.holds Tryd.pinned (OpenSpec.ofChange gradeChecksWrong)

/-- 'gangsawlaw34.GradeMargins': WHATEVER THE INPUT: true; the input reads as it did. -/
def gradeMarginsSpec : ChangeSpec := { name := "gradeMargins", fn := fun _ => fun
  | [d1, d2] => { results := [.lit (.bool true)], args := [d1, d2] }
  | _ => none }
def gradeMarginsRow : OpenClaim := { program := "ytankffbfocaibaadoor", sum := "88ca3d54863f2ecbc9aa5e64678d448cf921d422f565fd113971308f004cbe7e", func := "gangsaw/gangsawlaw34.GradeMargins", spec := "gradeMargins", unfollowed := true, recurses := true, named := ["internal/strconv.uint64pow10", "math/bits.deBruijn32tab", "math/bits.deBruijn64tab", "gangsaw/grade.form"], apart := false, laid := [("math/bits.deBruijn32tab", laid_math_bits_deBruijn32tab), ("math/bits.deBruijn64tab", laid_math_bits_deBruijn64tab), ("internal/strconv.uint64pow10", laid_internal_strconv_uint64pow10), ("gangsaw/grade.form", laid_gangsaw_grade_form)] }
def GradeMarginsSaid : Prop := gradeMarginsRow.holds Tryd.pinned (OpenSpec.ofChange gradeMarginsSpec)

/-- ITS FALSE NEIGHBOUR: 'it returns false'. Refute it at one input. -/
def gradeMarginsWrong : ChangeSpec := { name := "gradeMargins", fn := fun _ => fun
  | [d1, d2] => { results := [.lit (.bool false)], args := [d1, d2] }
  | _ => none }
def GradeMarginsWrongFalsely : Prop := gradeMarginsRow.holds Tryd.pinned (OpenSpec.ofChange gradeMarginsWrong)

/-- 'gangsawlaw34.GradeImplies': WHATEVER THE INPUT: true; the input reads as it did. -/
def gradeImpliesSpec : ChangeSpec := { name := "gradeImplies", fn := fun _ => fun
  | [d1, d2, d3] => { results := [.lit (.bool true)], args := [d1, d2, d3] }
  | _ => none }
def gradeImpliesRow : OpenClaim := { program := "ytankffbfocaibaadoor", sum := "88ca3d54863f2ecbc9aa5e64678d448cf921d422f565fd113971308f004cbe7e", func := "gangsaw/gangsawlaw34.GradeImplies", spec := "gradeImplies", unfollowed := true, recurses := true, named := ["internal/strconv.uint64pow10", "math/bits.deBruijn32tab", "math/bits.deBruijn64tab", "gangsaw/grade.form"], apart := false, laid := [("math/bits.deBruijn32tab", laid_math_bits_deBruijn32tab), ("math/bits.deBruijn64tab", laid_math_bits_deBruijn64tab), ("internal/strconv.uint64pow10", laid_internal_strconv_uint64pow10), ("gangsaw/grade.form", laid_gangsaw_grade_form)] }
def GradeImpliesSaid : Prop := gradeImpliesRow.holds Tryd.pinned (OpenSpec.ofChange gradeImpliesSpec)

/-- ITS FALSE NEIGHBOUR: 'it returns false'. Refute it at one input. -/
def gradeImpliesWrong : ChangeSpec := { name := "gradeImplies", fn := fun _ => fun
  | [d1, d2, d3] => { results := [.lit (.bool false)], args := [d1, d2, d3] }
  | _ => none }
def GradeImpliesWrongFalsely : Prop := gradeImpliesRow.holds Tryd.pinned (OpenSpec.ofChange gradeImpliesWrong)

/-- 'gangsawlaw34.GradeWitness': WHATEVER THE INPUT: true; the input reads as it did. -/
def gradeWitnessSpec : ChangeSpec := { name := "gradeWitness", fn := fun _ => fun
  | [d1, d2, d3] => { results := [.lit (.bool true)], args := [d1, d2, d3] }
  | _ => none }
def gradeWitnessRow : OpenClaim := { program := "ytankffbfocaibaadoor", sum := "88ca3d54863f2ecbc9aa5e64678d448cf921d422f565fd113971308f004cbe7e", func := "gangsaw/gangsawlaw34.GradeWitness", spec := "gradeWitness", unfollowed := true, recurses := true, named := ["internal/strconv.uint64pow10", "math/bits.deBruijn32tab", "math/bits.deBruijn64tab", "gangsaw/grade.form"], apart := false, laid := [("math/bits.deBruijn32tab", laid_math_bits_deBruijn32tab), ("math/bits.deBruijn64tab", laid_math_bits_deBruijn64tab), ("internal/strconv.uint64pow10", laid_internal_strconv_uint64pow10), ("gangsaw/grade.form", laid_gangsaw_grade_form)] }
def GradeWitnessSaid : Prop := gradeWitnessRow.holds Tryd.pinned (OpenSpec.ofChange gradeWitnessSpec)

/-- ITS FALSE NEIGHBOUR: 'it returns false'. Refute it at one input. -/
def gradeWitnessWrong : ChangeSpec := { name := "gradeWitness", fn := fun _ => fun
  | [d1, d2, d3] => { results := [.lit (.bool false)], args := [d1, d2, d3] }
  | _ => none }
def GradeWitnessWrongFalsely : Prop := gradeWitnessRow.holds Tryd.pinned (OpenSpec.ofChange gradeWitnessWrong)

/-- 'gangsawlaw34.GradeImproves': WHATEVER THE INPUT: true; the input reads as it did. -/
def gradeImprovesSpec : ChangeSpec := { name := "gradeImproves", fn := fun _ => fun
  | [d1, d2, d3, d4, d5] => { results := [.lit (.bool true)], args := [d1, d2, d3, d4, d5] }
  | _ => none }
def gradeImprovesRow : OpenClaim := { program := "ytankffbfocaibaadoor", sum := "88ca3d54863f2ecbc9aa5e64678d448cf921d422f565fd113971308f004cbe7e", func := "gangsaw/gangsawlaw34.GradeImproves", spec := "gradeImproves", unfollowed := true, recurses := true, named := ["internal/strconv.uint64pow10", "math/bits.deBruijn32tab", "math/bits.deBruijn64tab", "gangsaw/grade.form"], apart := false, laid := [("math/bits.deBruijn32tab", laid_math_bits_deBruijn32tab), ("math/bits.deBruijn64tab", laid_math_bits_deBruijn64tab), ("internal/strconv.uint64pow10", laid_internal_strconv_uint64pow10), ("gangsaw/grade.form", laid_gangsaw_grade_form)] }
def GradeImprovesSaid : Prop := gradeImprovesRow.holds Tryd.pinned (OpenSpec.ofChange gradeImprovesSpec)

/-- ITS FALSE NEIGHBOUR: 'it returns false'. Refute it at one input. -/
def gradeImprovesWrong : ChangeSpec := { name := "gradeImproves", fn := fun _ => fun
  | [d1, d2, d3, d4, d5] => { results := [.lit (.bool false)], args := [d1, d2, d3, d4, d5] }
  | _ => none }
def GradeImprovesWrongFalsely : Prop := gradeImprovesRow.holds Tryd.pinned (OpenSpec.ofChange gradeImprovesWrong)

/-- 'gangsawlaw34.GradeOrder': WHATEVER THE INPUT: true; the input reads as it did. -/
def gradeOrderSpec : ChangeSpec := { name := "gradeOrder", fn := fun _ => fun
  | [d1, d2, d3] => { results := [.lit (.bool true)], args := [d1, d2, d3] }
  | _ => none }
def gradeOrderRow : OpenClaim := { program := "ytankffbfocaibaadoor", sum := "88ca3d54863f2ecbc9aa5e64678d448cf921d422f565fd113971308f004cbe7e", func := "gangsaw/gangsawlaw34.GradeOrder", spec := "gradeOrder", unfollowed := true, recurses := true, named := ["internal/strconv.uint64pow10", "math/bits.deBruijn32tab", "math/bits.deBruijn64tab", "gangsaw/grade.form"], apart := false, laid := [("math/bits.deBruijn32tab", laid_math_bits_deBruijn32tab), ("math/bits.deBruijn64tab", laid_math_bits_deBruijn64tab), ("internal/strconv.uint64pow10", laid_internal_strconv_uint64pow10), ("gangsaw/grade.form", laid_gangsaw_grade_form)] }
def GradeOrderSaid : Prop := gradeOrderRow.holds Tryd.pinned (OpenSpec.ofChange gradeOrderSpec)

/-- ITS FALSE NEIGHBOUR: 'it returns false'. Refute it at one input. -/
def gradeOrderWrong : ChangeSpec := { name := "gradeOrder", fn := fun _ => fun
  | [d1, d2, d3] => { results := [.lit (.bool false)], args := [d1, d2, d3] }
  | _ => none }
def GradeOrderWrongFalsely : Prop := gradeOrderRow.holds Tryd.pinned (OpenSpec.ofChange gradeOrderWrong)

/- THE SECOND FORM. 'bulk': how many values and letters a reading holds, each counted each time it is reached (what is shared counts as often as it is met; a slice's spare places count too). A statement '..UptoSaid' is the law's where the arguments, and the package variables that the reading takes, are together of bulk at most 1048576: NARROWER than '..Said'. Prove '..Said' where nothing that the law and all that it calls make is longer than what came in: it says more and counts as full. Else prove '..UptoSaid'. A law counts once. -/
mutual
def uptoBulk {H : Type} : DataW H → Nat
  | .lit (.string bytes) => bytes.length + 1
  | .lit _ => 1
  | .nil => 1
  | .ptr d => uptoBulk d + 1
  | .slice elems spare => uptoBulkAll elems + uptoBulkAll spare + 1
  | .agg parts => uptoBulkAll parts + 1
  | .iface _ d => uptoBulk d + 1
  | .map entries => uptoBulkEntries entries + 1
  | .held _ => 1
def uptoBulkAll {H : Type} : List (DataW H) → Nat
  | [] => 0
  | d :: r => uptoBulk d + uptoBulkAll r
def uptoBulkEntries {H : Type} : List (Lit × DataW H) → Nat
  | [] => 0
  | x :: r => uptoBulkEntry x + uptoBulkEntries r
def uptoBulkEntry {H : Type} : Lit × DataW H → Nat
  | (.string bytes, d) => bytes.length + uptoBulk d + 1
  | (_, d) => uptoBulk d + 1
 end
def uptoSmall : (H : Type) → List (DataW H) → Bool := fun _ ds => decide (uptoBulkAll ds ≤ 1048576)
def OpenSpec.upto (s : _root_.Go.ChangeSpec) : _root_.Go.OpenSpec := { _root_.Go.OpenSpec.ofChange s with cond := some uptoSmall }

/-- 'gangsawlaw34.GradeChecks', WHERE WHAT IT READS IS OF BULK AT MOST 1048576: true; the input reads as it did. -/
def gradeChecksUptoRow : OpenClaim := { program := "ytankffbfocaibaadoor", sum := "88ca3d54863f2ecbc9aa5e64678d448cf921d422f565fd113971308f004cbe7e", func := "gangsaw/gangsawlaw34.GradeChecks", spec := "gradeChecks", unfollowed := true, recurses := true, named := ["internal/strconv.uint64pow10", "math/bits.deBruijn32tab", "math/bits.deBruijn64tab", "gangsaw/grade.form"], apart := false, laid := [("math/bits.deBruijn32tab", laid_math_bits_deBruijn32tab), ("math/bits.deBruijn64tab", laid_math_bits_deBruijn64tab), ("internal/strconv.uint64pow10", laid_internal_strconv_uint64pow10), ("gangsaw/grade.form", laid_gangsaw_grade_form)], narrowed := true }
def GradeChecksUptoSaid : Prop := gradeChecksUptoRow.holds Tryd.pinned (OpenSpec.upto gradeChecksSpec)

/-- 'gangsawlaw34.GradeMargins', WHERE WHAT IT READS IS OF BULK AT MOST 1048576: true; the input reads as it did. -/
def gradeMarginsUptoRow : OpenClaim := { program := "ytankffbfocaibaadoor", sum := "88ca3d54863f2ecbc9aa5e64678d448cf921d422f565fd113971308f004cbe7e", func := "gangsaw/gangsawlaw34.GradeMargins", spec := "gradeMargins", unfollowed := true, recurses := true, named := ["internal/strconv.uint64pow10", "math/bits.deBruijn32tab", "math/bits.deBruijn64tab", "gangsaw/grade.form"], apart := false, laid := [("math/bits.deBruijn32tab", laid_math_bits_deBruijn32tab), ("math/bits.deBruijn64tab", laid_math_bits_deBruijn64tab), ("internal/strconv.uint64pow10", laid_internal_strconv_uint64pow10), ("gangsaw/grade.form", laid_gangsaw_grade_form)], narrowed := true }
def GradeMarginsUptoSaid : Prop := gradeMarginsUptoRow.holds Tryd.pinned (OpenSpec.upto gradeMarginsSpec)

/-- 'gangsawlaw34.GradeImplies', WHERE WHAT IT READS IS OF BULK AT MOST 1048576: true; the input reads as it did. -/
def gradeImpliesUptoRow : OpenClaim := { program := "ytankffbfocaibaadoor", sum := "88ca3d54863f2ecbc9aa5e64678d448cf921d422f565fd113971308f004cbe7e", func := "gangsaw/gangsawlaw34.GradeImplies", spec := "gradeImplies", unfollowed := true, recurses := true, named := ["internal/strconv.uint64pow10", "math/bits.deBruijn32tab", "math/bits.deBruijn64tab", "gangsaw/grade.form"], apart := false, laid := [("math/bits.deBruijn32tab", laid_math_bits_deBruijn32tab), ("math/bits.deBruijn64tab", laid_math_bits_deBruijn64tab), ("internal/strconv.uint64pow10", laid_internal_strconv_uint64pow10), ("gangsaw/grade.form", laid_gangsaw_grade_form)], narrowed := true }
def GradeImpliesUptoSaid : Prop := gradeImpliesUptoRow.holds Tryd.pinned (OpenSpec.upto gradeImpliesSpec)

/-- 'gangsawlaw34.GradeWitness', WHERE WHAT IT READS IS OF BULK AT MOST 1048576: true; the input reads as it did. -/
def gradeWitnessUptoRow : OpenClaim := { program := "ytankffbfocaibaadoor", sum := "88ca3d54863f2ecbc9aa5e64678d448cf921d422f565fd113971308f004cbe7e", func := "gangsaw/gangsawlaw34.GradeWitness", spec := "gradeWitness", unfollowed := true, recurses := true, named := ["internal/strconv.uint64pow10", "math/bits.deBruijn32tab", "math/bits.deBruijn64tab", "gangsaw/grade.form"], apart := false, laid := [("math/bits.deBruijn32tab", laid_math_bits_deBruijn32tab), ("math/bits.deBruijn64tab", laid_math_bits_deBruijn64tab), ("internal/strconv.uint64pow10", laid_internal_strconv_uint64pow10), ("gangsaw/grade.form", laid_gangsaw_grade_form)], narrowed := true }
def GradeWitnessUptoSaid : Prop := gradeWitnessUptoRow.holds Tryd.pinned (OpenSpec.upto gradeWitnessSpec)

/-- 'gangsawlaw34.GradeImproves', WHERE WHAT IT READS IS OF BULK AT MOST 1048576: true; the input reads as it did. -/
def gradeImprovesUptoRow : OpenClaim := { program := "ytankffbfocaibaadoor", sum := "88ca3d54863f2ecbc9aa5e64678d448cf921d422f565fd113971308f004cbe7e", func := "gangsaw/gangsawlaw34.GradeImproves", spec := "gradeImproves", unfollowed := true, recurses := true, named := ["internal/strconv.uint64pow10", "math/bits.deBruijn32tab", "math/bits.deBruijn64tab", "gangsaw/grade.form"], apart := false, laid := [("math/bits.deBruijn32tab", laid_math_bits_deBruijn32tab), ("math/bits.deBruijn64tab", laid_math_bits_deBruijn64tab), ("internal/strconv.uint64pow10", laid_internal_strconv_uint64pow10), ("gangsaw/grade.form", laid_gangsaw_grade_form)], narrowed := true }
def GradeImprovesUptoSaid : Prop := gradeImprovesUptoRow.holds Tryd.pinned (OpenSpec.upto gradeImprovesSpec)

/-- 'gangsawlaw34.GradeOrder', WHERE WHAT IT READS IS OF BULK AT MOST 1048576: true; the input reads as it did. -/
def gradeOrderUptoRow : OpenClaim := { program := "ytankffbfocaibaadoor", sum := "88ca3d54863f2ecbc9aa5e64678d448cf921d422f565fd113971308f004cbe7e", func := "gangsaw/gangsawlaw34.GradeOrder", spec := "gradeOrder", unfollowed := true, recurses := true, named := ["internal/strconv.uint64pow10", "math/bits.deBruijn32tab", "math/bits.deBruijn64tab", "gangsaw/grade.form"], apart := false, laid := [("math/bits.deBruijn32tab", laid_math_bits_deBruijn32tab), ("math/bits.deBruijn64tab", laid_math_bits_deBruijn64tab), ("internal/strconv.uint64pow10", laid_internal_strconv_uint64pow10), ("gangsaw/grade.form", laid_gangsaw_grade_form)], narrowed := true }
def GradeOrderUptoSaid : Prop := gradeOrderUptoRow.holds Tryd.pinned (OpenSpec.upto gradeOrderSpec)

end Rows
end Go.Proofs.YtankffbfocaibaaDoor
