/-
  DERIVED. GIVEN WITH THE SEED: THE CARDS: each row of YtnaahepnabmibaaGreatDoorRows.lean that lists a variable, with what it lists TIED to the program's text (the seventh form; the later family's looks); each row that meets fmt, with fmt's text TOLD by the authors' own Lean function (tested against real Go, not proved from fmt's source: count such statements apart). THE CARD IS WHAT COUNTS. Prove the row's statement (the work); the ties are given (YtnaahepnabmibaaGreatDoorTie.lean); close each card by the builder's one call (the guide's Derived/Test/ToyasCard.lean, 'card_holds'). Laid BY PROGRAM, IN A SANDBOX (cutbox-door.mjs). By AI agents, Wed Nov 11 2026. No macro, syntax, notation, axiom, sorry.
-/
import Derived.Test.YtnaahepnabmibaaGreatDoorRows
import GoSem.ClaimSeven
namespace Go.Proofs.YtnaahepnabmibaaGreatDoor
namespace Rows

/-- THE TIED CARD OF 'gangsawlaw30.SlabRuns'. -/
def slabRunsCard : Claim7 := { stood := { row := slabRunsRow, standIns := [], harness := (true, "7b83f0fe048740f8542a99dbed83f76ede5c1cca200d08a6834e958cac9493c7"), looks := false }, kinds := [], alts := [], laidByText := true, laidKinds := [.data, .data, .data, .data], laidTests := true, laidLooks := .later }
def SlabRunsCardSaid : Prop := Claim7.holds Tryz.pinned (.plain (OpenSpec.ofChange slabRunsSpec)) slabRunsCard

/-- THE TIED CARD OF 'gangsawlaw30.SlabBack'. -/
def slabBackCard : Claim7 := { stood := { row := slabBackRow, standIns := [], harness := (true, "7b83f0fe048740f8542a99dbed83f76ede5c1cca200d08a6834e958cac9493c7"), looks := false }, kinds := [], alts := [], laidByText := true, laidKinds := [.data, .data, .data, .data], laidTests := true, laidLooks := .later }
def SlabBackCardSaid : Prop := Claim7.holds Tryz.pinned (.plain (OpenSpec.ofChange slabBackSpec)) slabBackCard

/-- THE TIED CARD OF 'gangsawlaw30.SlabMakes'. -/
def slabMakesCard : Claim7 := { stood := { row := slabMakesRow, standIns := [], harness := (true, "7b83f0fe048740f8542a99dbed83f76ede5c1cca200d08a6834e958cac9493c7"), looks := false }, kinds := [], alts := [], laidByText := true, laidKinds := [.data, .data, .data, .data], laidTests := true, laidLooks := .later }
def SlabMakesCardSaid : Prop := Claim7.holds Tryz.pinned (.plain (OpenSpec.ofChange slabMakesSpec)) slabMakesCard

/-- THE TIED CARD OF 'gangsawlaw30.SlabOrders'. -/
def slabOrdersCard : Claim7 := { stood := { row := slabOrdersRow, standIns := [], harness := (true, "7b83f0fe048740f8542a99dbed83f76ede5c1cca200d08a6834e958cac9493c7"), looks := false }, kinds := [], alts := [], laidByText := true, laidKinds := [.data, .data, .data, .data], laidTests := true, laidLooks := .later }
def SlabOrdersCardSaid : Prop := Claim7.holds Tryz.pinned (.plain (OpenSpec.ofChange slabOrdersSpec)) slabOrdersCard

/-- THE TIED CARD OF 'gangsawlaw30.SlabFaces'. -/
def slabFacesCard : Claim7 := { stood := { row := slabFacesRow, standIns := [], harness := (true, "7b83f0fe048740f8542a99dbed83f76ede5c1cca200d08a6834e958cac9493c7"), looks := false }, kinds := [], alts := [], laidByText := true, laidKinds := [.data, .data, .data, .data], laidTests := true, laidLooks := .later }
def SlabFacesCardSaid : Prop := Claim7.holds Tryz.pinned (.plain (OpenSpec.ofChange slabFacesSpec)) slabFacesCard

/-- THE TIED CARD OF 'gangsawlaw30.SlabCodes'. -/
def slabCodesCard : Claim7 := { stood := { row := slabCodesRow, standIns := [], harness := (true, "7b83f0fe048740f8542a99dbed83f76ede5c1cca200d08a6834e958cac9493c7"), looks := false }, kinds := [], alts := [], laidByText := true, laidKinds := [.data, .data, .data, .data], laidTests := true, laidLooks := .later }
def SlabCodesCardSaid : Prop := Claim7.holds Tryz.pinned (.plain (OpenSpec.ofChange slabCodesSpec)) slabCodesCard

/-- THE TIED CARD OF 'gangsawlaw30.SlabParts'. -/
def slabPartsCard : Claim7 := { stood := { row := slabPartsRow, standIns := [], harness := (true, "7b83f0fe048740f8542a99dbed83f76ede5c1cca200d08a6834e958cac9493c7"), looks := false }, kinds := [], alts := [], laidByText := true, laidKinds := [.data, .data, .data, .data], laidTests := true, laidLooks := .later }
def SlabPartsCardSaid : Prop := Claim7.holds Tryz.pinned (.plain (OpenSpec.ofChange slabPartsSpec)) slabPartsCard

/-- THE TIED CARD OF 'gangsawlaw30.SlabFits'. -/
def slabFitsCard : Claim7 := { stood := { row := slabFitsRow, standIns := [], harness := (true, "7b83f0fe048740f8542a99dbed83f76ede5c1cca200d08a6834e958cac9493c7"), looks := false }, kinds := [], alts := [], laidByText := true, laidKinds := [.data, .data, .data, .data], laidTests := true, laidLooks := .later }
def SlabFitsCardSaid : Prop := Claim7.holds Tryz.pinned (.plain (OpenSpec.ofChange slabFitsSpec)) slabFitsCard

/-- THE SECOND FORM's CARD OF 'gangsawlaw30.SlabRuns'. -/
def slabRunsUptoCard : Claim7 := { stood := { row := slabRunsUptoRow, standIns := [], harness := (true, "7b83f0fe048740f8542a99dbed83f76ede5c1cca200d08a6834e958cac9493c7"), looks := false }, kinds := [], alts := [], laidByText := true, laidKinds := [.data, .data, .data, .data], laidTests := true, laidLooks := .later }
def SlabRunsUptoCardSaid : Prop := Claim7.holds Tryz.pinned (.plain (OpenSpec.upto slabRunsSpec)) slabRunsUptoCard

/-- THE SECOND FORM's CARD OF 'gangsawlaw30.SlabBack'. -/
def slabBackUptoCard : Claim7 := { stood := { row := slabBackUptoRow, standIns := [], harness := (true, "7b83f0fe048740f8542a99dbed83f76ede5c1cca200d08a6834e958cac9493c7"), looks := false }, kinds := [], alts := [], laidByText := true, laidKinds := [.data, .data, .data, .data], laidTests := true, laidLooks := .later }
def SlabBackUptoCardSaid : Prop := Claim7.holds Tryz.pinned (.plain (OpenSpec.upto slabBackSpec)) slabBackUptoCard

/-- THE SECOND FORM's CARD OF 'gangsawlaw30.SlabMakes'. -/
def slabMakesUptoCard : Claim7 := { stood := { row := slabMakesUptoRow, standIns := [], harness := (true, "7b83f0fe048740f8542a99dbed83f76ede5c1cca200d08a6834e958cac9493c7"), looks := false }, kinds := [], alts := [], laidByText := true, laidKinds := [.data, .data, .data, .data], laidTests := true, laidLooks := .later }
def SlabMakesUptoCardSaid : Prop := Claim7.holds Tryz.pinned (.plain (OpenSpec.upto slabMakesSpec)) slabMakesUptoCard

/-- THE SECOND FORM's CARD OF 'gangsawlaw30.SlabOrders'. -/
def slabOrdersUptoCard : Claim7 := { stood := { row := slabOrdersUptoRow, standIns := [], harness := (true, "7b83f0fe048740f8542a99dbed83f76ede5c1cca200d08a6834e958cac9493c7"), looks := false }, kinds := [], alts := [], laidByText := true, laidKinds := [.data, .data, .data, .data], laidTests := true, laidLooks := .later }
def SlabOrdersUptoCardSaid : Prop := Claim7.holds Tryz.pinned (.plain (OpenSpec.upto slabOrdersSpec)) slabOrdersUptoCard

/-- THE SECOND FORM's CARD OF 'gangsawlaw30.SlabFaces'. -/
def slabFacesUptoCard : Claim7 := { stood := { row := slabFacesUptoRow, standIns := [], harness := (true, "7b83f0fe048740f8542a99dbed83f76ede5c1cca200d08a6834e958cac9493c7"), looks := false }, kinds := [], alts := [], laidByText := true, laidKinds := [.data, .data, .data, .data], laidTests := true, laidLooks := .later }
def SlabFacesUptoCardSaid : Prop := Claim7.holds Tryz.pinned (.plain (OpenSpec.upto slabFacesSpec)) slabFacesUptoCard

/-- THE SECOND FORM's CARD OF 'gangsawlaw30.SlabCodes'. -/
def slabCodesUptoCard : Claim7 := { stood := { row := slabCodesUptoRow, standIns := [], harness := (true, "7b83f0fe048740f8542a99dbed83f76ede5c1cca200d08a6834e958cac9493c7"), looks := false }, kinds := [], alts := [], laidByText := true, laidKinds := [.data, .data, .data, .data], laidTests := true, laidLooks := .later }
def SlabCodesUptoCardSaid : Prop := Claim7.holds Tryz.pinned (.plain (OpenSpec.upto slabCodesSpec)) slabCodesUptoCard

/-- THE SECOND FORM's CARD OF 'gangsawlaw30.SlabParts'. -/
def slabPartsUptoCard : Claim7 := { stood := { row := slabPartsUptoRow, standIns := [], harness := (true, "7b83f0fe048740f8542a99dbed83f76ede5c1cca200d08a6834e958cac9493c7"), looks := false }, kinds := [], alts := [], laidByText := true, laidKinds := [.data, .data, .data, .data], laidTests := true, laidLooks := .later }
def SlabPartsUptoCardSaid : Prop := Claim7.holds Tryz.pinned (.plain (OpenSpec.upto slabPartsSpec)) slabPartsUptoCard

/-- THE SECOND FORM's CARD OF 'gangsawlaw30.SlabFits'. -/
def slabFitsUptoCard : Claim7 := { stood := { row := slabFitsUptoRow, standIns := [], harness := (true, "7b83f0fe048740f8542a99dbed83f76ede5c1cca200d08a6834e958cac9493c7"), looks := false }, kinds := [], alts := [], laidByText := true, laidKinds := [.data, .data, .data, .data], laidTests := true, laidLooks := .later }
def SlabFitsUptoCardSaid : Prop := Claim7.holds Tryz.pinned (.plain (OpenSpec.upto slabFitsSpec)) slabFitsUptoCard
end Rows
end Go.Proofs.YtnaahepnabmibaaGreatDoor
