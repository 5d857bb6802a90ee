/-
  DERIVED. GIVEN WITH THE SEED: THE CARDS: each row of YtankffbfocaibaaDoorRows.lean that lists a variable, with what it lists TIED to the program's text (the seventh form; the later family's looks); each row that meets fmt, with fmt's text TOLD by the authors' own Lean function (tested against real Go, not proved from fmt's source: count such statements apart). THE CARD IS WHAT COUNTS. Prove the row's statement (the work); the ties are given (YtankffbfocaibaaDoorTie.lean); close each card by the builder's one call (the guide's Derived/Test/ToyasCard.lean, 'card_holds'). Laid BY PROGRAM, IN A SANDBOX (cutbox-door.mjs). By AI agents, Wed Nov 11 2026. No macro, syntax, notation, axiom, sorry.
-/
import Derived.Test.YtankffbfocaibaaDoorRows
import GoSem.ClaimSeven
namespace Go.Proofs.YtankffbfocaibaaDoor
namespace Rows

/-- THE TIED CARD OF 'gangsawlaw34.GradeChecks'. -/
def gradeChecksCard : Claim7 := { stood := { row := gradeChecksRow, standIns := [], harness := (true, "86a8491efdc908c4af7f2bf03822af197147a7e38b826828663a96b2175c3b8d"), looks := false }, kinds := [], alts := [], laidByText := true, laidKinds := [.data, .data, .data, .widerDeep], laidTests := true, laidLooks := .later }
def GradeChecksCardSaid : Prop := Claim7.holds Tryd.pinned (.plain (OpenSpec.ofChange gradeChecksSpec)) gradeChecksCard

/-- THE TIED CARD OF 'gangsawlaw34.GradeMargins'. -/
def gradeMarginsCard : Claim7 := { stood := { row := gradeMarginsRow, standIns := [], harness := (true, "86a8491efdc908c4af7f2bf03822af197147a7e38b826828663a96b2175c3b8d"), looks := false }, kinds := [], alts := [], laidByText := true, laidKinds := [.data, .data, .data, .widerDeep], laidTests := true, laidLooks := .later }
def GradeMarginsCardSaid : Prop := Claim7.holds Tryd.pinned (.plain (OpenSpec.ofChange gradeMarginsSpec)) gradeMarginsCard

/-- THE TIED CARD OF 'gangsawlaw34.GradeImplies'. -/
def gradeImpliesCard : Claim7 := { stood := { row := gradeImpliesRow, standIns := [], harness := (true, "86a8491efdc908c4af7f2bf03822af197147a7e38b826828663a96b2175c3b8d"), looks := false }, kinds := [], alts := [], laidByText := true, laidKinds := [.data, .data, .data, .widerDeep], laidTests := true, laidLooks := .later }
def GradeImpliesCardSaid : Prop := Claim7.holds Tryd.pinned (.plain (OpenSpec.ofChange gradeImpliesSpec)) gradeImpliesCard

/-- THE TIED CARD OF 'gangsawlaw34.GradeWitness'. -/
def gradeWitnessCard : Claim7 := { stood := { row := gradeWitnessRow, standIns := [], harness := (true, "86a8491efdc908c4af7f2bf03822af197147a7e38b826828663a96b2175c3b8d"), looks := false }, kinds := [], alts := [], laidByText := true, laidKinds := [.data, .data, .data, .widerDeep], laidTests := true, laidLooks := .later }
def GradeWitnessCardSaid : Prop := Claim7.holds Tryd.pinned (.plain (OpenSpec.ofChange gradeWitnessSpec)) gradeWitnessCard

/-- THE TIED CARD OF 'gangsawlaw34.GradeImproves'. -/
def gradeImprovesCard : Claim7 := { stood := { row := gradeImprovesRow, standIns := [], harness := (true, "86a8491efdc908c4af7f2bf03822af197147a7e38b826828663a96b2175c3b8d"), looks := false }, kinds := [], alts := [], laidByText := true, laidKinds := [.data, .data, .data, .widerDeep], laidTests := true, laidLooks := .later }
def GradeImprovesCardSaid : Prop := Claim7.holds Tryd.pinned (.plain (OpenSpec.ofChange gradeImprovesSpec)) gradeImprovesCard

/-- THE TIED CARD OF 'gangsawlaw34.GradeOrder'. -/
def gradeOrderCard : Claim7 := { stood := { row := gradeOrderRow, standIns := [], harness := (true, "86a8491efdc908c4af7f2bf03822af197147a7e38b826828663a96b2175c3b8d"), looks := false }, kinds := [], alts := [], laidByText := true, laidKinds := [.data, .data, .data, .widerDeep], laidTests := true, laidLooks := .later }
def GradeOrderCardSaid : Prop := Claim7.holds Tryd.pinned (.plain (OpenSpec.ofChange gradeOrderSpec)) gradeOrderCard

/-- THE SECOND FORM's CARD OF 'gangsawlaw34.GradeChecks'. -/
def gradeChecksUptoCard : Claim7 := { stood := { row := gradeChecksUptoRow, standIns := [], harness := (true, "86a8491efdc908c4af7f2bf03822af197147a7e38b826828663a96b2175c3b8d"), looks := false }, kinds := [], alts := [], laidByText := true, laidKinds := [.data, .data, .data, .widerDeep], laidTests := true, laidLooks := .later }
def GradeChecksUptoCardSaid : Prop := Claim7.holds Tryd.pinned (.plain (OpenSpec.upto gradeChecksSpec)) gradeChecksUptoCard

/-- THE SECOND FORM's CARD OF 'gangsawlaw34.GradeMargins'. -/
def gradeMarginsUptoCard : Claim7 := { stood := { row := gradeMarginsUptoRow, standIns := [], harness := (true, "86a8491efdc908c4af7f2bf03822af197147a7e38b826828663a96b2175c3b8d"), looks := false }, kinds := [], alts := [], laidByText := true, laidKinds := [.data, .data, .data, .widerDeep], laidTests := true, laidLooks := .later }
def GradeMarginsUptoCardSaid : Prop := Claim7.holds Tryd.pinned (.plain (OpenSpec.upto gradeMarginsSpec)) gradeMarginsUptoCard

/-- THE SECOND FORM's CARD OF 'gangsawlaw34.GradeImplies'. -/
def gradeImpliesUptoCard : Claim7 := { stood := { row := gradeImpliesUptoRow, standIns := [], harness := (true, "86a8491efdc908c4af7f2bf03822af197147a7e38b826828663a96b2175c3b8d"), looks := false }, kinds := [], alts := [], laidByText := true, laidKinds := [.data, .data, .data, .widerDeep], laidTests := true, laidLooks := .later }
def GradeImpliesUptoCardSaid : Prop := Claim7.holds Tryd.pinned (.plain (OpenSpec.upto gradeImpliesSpec)) gradeImpliesUptoCard

/-- THE SECOND FORM's CARD OF 'gangsawlaw34.GradeWitness'. -/
def gradeWitnessUptoCard : Claim7 := { stood := { row := gradeWitnessUptoRow, standIns := [], harness := (true, "86a8491efdc908c4af7f2bf03822af197147a7e38b826828663a96b2175c3b8d"), looks := false }, kinds := [], alts := [], laidByText := true, laidKinds := [.data, .data, .data, .widerDeep], laidTests := true, laidLooks := .later }
def GradeWitnessUptoCardSaid : Prop := Claim7.holds Tryd.pinned (.plain (OpenSpec.upto gradeWitnessSpec)) gradeWitnessUptoCard

/-- THE SECOND FORM's CARD OF 'gangsawlaw34.GradeImproves'. -/
def gradeImprovesUptoCard : Claim7 := { stood := { row := gradeImprovesUptoRow, standIns := [], harness := (true, "86a8491efdc908c4af7f2bf03822af197147a7e38b826828663a96b2175c3b8d"), looks := false }, kinds := [], alts := [], laidByText := true, laidKinds := [.data, .data, .data, .widerDeep], laidTests := true, laidLooks := .later }
def GradeImprovesUptoCardSaid : Prop := Claim7.holds Tryd.pinned (.plain (OpenSpec.upto gradeImprovesSpec)) gradeImprovesUptoCard

/-- THE SECOND FORM's CARD OF 'gangsawlaw34.GradeOrder'. -/
def gradeOrderUptoCard : Claim7 := { stood := { row := gradeOrderUptoRow, standIns := [], harness := (true, "86a8491efdc908c4af7f2bf03822af197147a7e38b826828663a96b2175c3b8d"), looks := false }, kinds := [], alts := [], laidByText := true, laidKinds := [.data, .data, .data, .widerDeep], laidTests := true, laidLooks := .later }
def GradeOrderUptoCardSaid : Prop := Claim7.holds Tryd.pinned (.plain (OpenSpec.upto gradeOrderSpec)) gradeOrderUptoCard
end Rows
end Go.Proofs.YtankffbfocaibaaDoor
