/-
  DERIVED. GIVEN WITH THE SEED: THE CARDS: each row of YtejoahlpbckbeaaGreatDoorRows.lean that lists a variable, with what it lists TIED to the program's text (the seventh form; the later family's looks); each row that meets fmt, with fmt's text TOLD by the authors' own Lean function (tested against real Go, not proved from fmt's source: count such statements apart). THE CARD IS WHAT COUNTS. Prove the row's statement (the work); the ties are given (YtejoahlpbckbeaaGreatDoorTie.lean); close each card by the builder's one call (the guide's Derived/Test/ToyasCard.lean, 'card_holds'). Laid BY PROGRAM, IN A SANDBOX (cutbox-door.mjs). By AI agents, Wed Nov 11 2026. No macro, syntax, notation, axiom, sorry.
-/
import Derived.Test.YtejoahlpbckbeaaGreatDoorRows
import GoSem.ClaimSeven
namespace Go.Proofs.YtejoahlpbckbeaaGreatDoor
namespace Rows

/-- THE TIED CARD OF 'stanzakeeplaw31.PatchMakes'. -/
def patchMakesCard : Claim7 := { stood := { row := patchMakesRow, standIns := [], harness := (true, "133459cc101e6c604e267b6c6fdfb517283a81d56a6d2edd2b57a7fc99632eed"), looks := true }, kinds := [], alts := [], laidByText := true, laidKinds := [.data, .handle, .pinned], laidTests := true, laidLooks := .later }
def PatchMakesCardSaid : Prop := Claim7.holds Tryz.pinned (.plain (OpenSpec.ofChange patchMakesSpec)) patchMakesCard

/-- THE TIED CARD OF 'stanzakeeplaw31.PatchApplies'. -/
def patchAppliesCard : Claim7 := { stood := { row := patchAppliesRow, standIns := [], harness := (true, "133459cc101e6c604e267b6c6fdfb517283a81d56a6d2edd2b57a7fc99632eed"), looks := true }, kinds := [], alts := [], laidByText := true, laidKinds := [.data, .handle, .pinned], laidTests := true, laidLooks := .later }
def PatchAppliesCardSaid : Prop := Claim7.holds Tryz.pinned (.plain (OpenSpec.ofChange patchAppliesSpec)) patchAppliesCard

/-- THE TIED CARD OF 'stanzakeeplaw31.PatchGoes'. -/
def patchGoesCard : Claim7 := { stood := { row := patchGoesRow, standIns := [], harness := (true, "133459cc101e6c604e267b6c6fdfb517283a81d56a6d2edd2b57a7fc99632eed"), looks := true }, kinds := [], alts := [], laidByText := true, laidKinds := [.data, .handle, .pinned], laidTests := true, laidLooks := .later }
def PatchGoesCardSaid : Prop := Claim7.holds Tryz.pinned (.plain (OpenSpec.ofChange patchGoesSpec)) patchGoesCard

/-- THE TIED CARD OF 'stanzakeeplaw31.PatchPrints'. -/
def patchPrintsCard : Claim7 := { stood := { row := patchPrintsRow, standIns := [], harness := (true, "133459cc101e6c604e267b6c6fdfb517283a81d56a6d2edd2b57a7fc99632eed"), looks := true }, kinds := [], alts := [], laidByText := true, laidKinds := [.data, .data, .data, .data, .handle, .sentinel, .sentinel, .pinned], laidTests := true, laidLooks := .later }
def PatchPrintsCardSaid : Prop := Claim7.holds Tryz.pinned (.plain (OpenSpec.ofChange patchPrintsSpec)) patchPrintsCard

/-- THE TIED CARD OF 'stanzakeeplaw31.PatchParses'. -/
def patchParsesCard : Claim7 := { stood := { row := patchParsesRow, standIns := [], harness := (true, "133459cc101e6c604e267b6c6fdfb517283a81d56a6d2edd2b57a7fc99632eed"), looks := true }, kinds := [], alts := [], laidByText := true, laidKinds := [.data, .data, .data, .data, .handle, .sentinel, .sentinel, .pinned], laidTests := true, laidLooks := .later }
def PatchParsesCardSaid : Prop := Claim7.holds Tryz.pinned (.plain (OpenSpec.ofChange patchParsesSpec)) patchParsesCard

/-- THE TIED CARD OF 'stanzakeeplaw10.AmendEncodes'. -/
def amendEncodesCard : Claim7 := { stood := { row := amendEncodesRow, standIns := [], harness := (true, "133459cc101e6c604e267b6c6fdfb517283a81d56a6d2edd2b57a7fc99632eed"), looks := true }, kinds := [], alts := [], laidByText := true, laidKinds := [.data, .data, .data, .data, .handle, .sentinel, .sentinel, .pinned], laidTests := true, laidLooks := .later }
def AmendEncodesCardSaid : Prop := Claim7.holds Tryz.pinned (.plain (OpenSpec.ofChange amendEncodesSpec)) amendEncodesCard

/-- THE TIED CARD OF 'stanzakeeplaw13.BookReads'. -/
def bookReadsCard : Claim7 := { stood := { row := bookReadsRow, standIns := [], harness := (true, "133459cc101e6c604e267b6c6fdfb517283a81d56a6d2edd2b57a7fc99632eed"), looks := true }, kinds := [], alts := [], laidByText := true, laidKinds := [.data, .data, .data, .data, .handle, .sentinel, .sentinel, .pinned], laidTests := true, laidLooks := .later }
def BookReadsCardSaid : Prop := Claim7.holds Tryz.pinned (.plain (OpenSpec.ofChange bookReadsSpec)) bookReadsCard

/-- THE SECOND FORM's CARD OF 'stanzakeeplaw31.PatchMakes'. -/
def patchMakesUptoCard : Claim7 := { stood := { row := patchMakesUptoRow, standIns := [], harness := (true, "133459cc101e6c604e267b6c6fdfb517283a81d56a6d2edd2b57a7fc99632eed"), looks := true }, kinds := [], alts := [], laidByText := true, laidKinds := [.data, .handle, .pinned], laidTests := true, laidLooks := .later }
def PatchMakesUptoCardSaid : Prop := Claim7.holds Tryz.pinned (.plain (OpenSpec.upto patchMakesSpec)) patchMakesUptoCard

/-- THE SECOND FORM's CARD OF 'stanzakeeplaw31.PatchApplies'. -/
def patchAppliesUptoCard : Claim7 := { stood := { row := patchAppliesUptoRow, standIns := [], harness := (true, "133459cc101e6c604e267b6c6fdfb517283a81d56a6d2edd2b57a7fc99632eed"), looks := true }, kinds := [], alts := [], laidByText := true, laidKinds := [.data, .handle, .pinned], laidTests := true, laidLooks := .later }
def PatchAppliesUptoCardSaid : Prop := Claim7.holds Tryz.pinned (.plain (OpenSpec.upto patchAppliesSpec)) patchAppliesUptoCard

/-- THE SECOND FORM's CARD OF 'stanzakeeplaw31.PatchGoes'. -/
def patchGoesUptoCard : Claim7 := { stood := { row := patchGoesUptoRow, standIns := [], harness := (true, "133459cc101e6c604e267b6c6fdfb517283a81d56a6d2edd2b57a7fc99632eed"), looks := true }, kinds := [], alts := [], laidByText := true, laidKinds := [.data, .handle, .pinned], laidTests := true, laidLooks := .later }
def PatchGoesUptoCardSaid : Prop := Claim7.holds Tryz.pinned (.plain (OpenSpec.upto patchGoesSpec)) patchGoesUptoCard

/-- THE SECOND FORM's CARD OF 'stanzakeeplaw31.PatchPrints'. -/
def patchPrintsUptoCard : Claim7 := { stood := { row := patchPrintsUptoRow, standIns := [], harness := (true, "133459cc101e6c604e267b6c6fdfb517283a81d56a6d2edd2b57a7fc99632eed"), looks := true }, kinds := [], alts := [], laidByText := true, laidKinds := [.data, .data, .data, .data, .handle, .sentinel, .sentinel, .pinned], laidTests := true, laidLooks := .later }
def PatchPrintsUptoCardSaid : Prop := Claim7.holds Tryz.pinned (.plain (OpenSpec.upto patchPrintsSpec)) patchPrintsUptoCard

/-- THE SECOND FORM's CARD OF 'stanzakeeplaw31.PatchParses'. -/
def patchParsesUptoCard : Claim7 := { stood := { row := patchParsesUptoRow, standIns := [], harness := (true, "133459cc101e6c604e267b6c6fdfb517283a81d56a6d2edd2b57a7fc99632eed"), looks := true }, kinds := [], alts := [], laidByText := true, laidKinds := [.data, .data, .data, .data, .handle, .sentinel, .sentinel, .pinned], laidTests := true, laidLooks := .later }
def PatchParsesUptoCardSaid : Prop := Claim7.holds Tryz.pinned (.plain (OpenSpec.upto patchParsesSpec)) patchParsesUptoCard

/-- THE SECOND FORM's CARD OF 'stanzakeeplaw10.AmendEncodes'. -/
def amendEncodesUptoCard : Claim7 := { stood := { row := amendEncodesUptoRow, standIns := [], harness := (true, "133459cc101e6c604e267b6c6fdfb517283a81d56a6d2edd2b57a7fc99632eed"), looks := true }, kinds := [], alts := [], laidByText := true, laidKinds := [.data, .data, .data, .data, .handle, .sentinel, .sentinel, .pinned], laidTests := true, laidLooks := .later }
def AmendEncodesUptoCardSaid : Prop := Claim7.holds Tryz.pinned (.plain (OpenSpec.upto amendEncodesSpec)) amendEncodesUptoCard

/-- THE SECOND FORM's CARD OF 'stanzakeeplaw13.BookReads'. -/
def bookReadsUptoCard : Claim7 := { stood := { row := bookReadsUptoRow, standIns := [], harness := (true, "133459cc101e6c604e267b6c6fdfb517283a81d56a6d2edd2b57a7fc99632eed"), looks := true }, kinds := [], alts := [], laidByText := true, laidKinds := [.data, .data, .data, .data, .handle, .sentinel, .sentinel, .pinned], laidTests := true, laidLooks := .later }
def BookReadsUptoCardSaid : Prop := Claim7.holds Tryz.pinned (.plain (OpenSpec.upto bookReadsSpec)) bookReadsUptoCard
end Rows
end Go.Proofs.YtejoahlpbckbeaaGreatDoor
