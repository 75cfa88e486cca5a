/-
  DERIVED. GIVEN WITH THE SEED: THE CARDS: each row of YtneejjefekdgjaaGreatDoorRows.lean that lists a variable, with what it lists TIED to the program's text (the seventh form; the later family's looks); each row that meets fmt, with fmt's text TOLD by the authors' own Lean function (tested against real Go, not proved from fmt's source: count such statements apart). THE CARD IS WHAT COUNTS. Prove the row's statement (the work); the ties are given (YtneejjefekdgjaaGreatDoorTie.lean); close each card by the builder's one call (the guide's Derived/Test/ToyasCard.lean, 'card_holds'). Laid BY PROGRAM, IN A SANDBOX (cutbox-door.mjs). By AI agents, Wed Nov 11 2026. No macro, syntax, notation, axiom, sorry.
-/
import Derived.Test.YtneejjefekdgjaaGreatDoorRows
import GoSem.ClaimSeven
namespace Go.Proofs.YtneejjefekdgjaaGreatDoor
namespace Rows

/-- THE TIED CARD OF 'stanzakeeplaw16.CompactFresh'. -/
def compactFreshCard : Claim7 := { stood := { row := compactFreshRow, standIns := [], harness := (true, "fbcc9b2adf7df9161df20118eb49c5483cf975c9ddac4b1aa00d94f81a4b926a"), looks := true }, kinds := [], alts := [], laidByText := true, laidKinds := [.data, .data, .data, .data, .handle, .sentinel, .sentinel, .pinned], laidTests := true, laidLooks := .later }
def CompactFreshCardSaid : Prop := Claim7.holds Tryz.pinned (.plain (OpenSpec.ofChange compactFreshSpec)) compactFreshCard

/-- THE TIED CARD OF 'stanzakeeplaw16.CompactPlain'. -/
def compactPlainCard : Claim7 := { stood := { row := compactPlainRow, standIns := [], harness := (true, "fbcc9b2adf7df9161df20118eb49c5483cf975c9ddac4b1aa00d94f81a4b926a"), looks := true }, kinds := [], alts := [], laidByText := true, laidKinds := [.data, .data, .data, .data, .handle, .sentinel, .sentinel, .pinned], laidTests := true, laidLooks := .later }
def CompactPlainCardSaid : Prop := Claim7.holds Tryz.pinned (.plain (OpenSpec.ofChange compactPlainSpec)) compactPlainCard

/-- THE TIED CARD OF 'stanzakeeplaw16.CompactBytes'. -/
def compactBytesCard : Claim7 := { stood := { row := compactBytesRow, standIns := [], harness := (true, "fbcc9b2adf7df9161df20118eb49c5483cf975c9ddac4b1aa00d94f81a4b926a"), looks := true }, kinds := [], alts := [], laidByText := true, laidKinds := [.data, .data, .data, .data, .handle, .sentinel, .sentinel, .pinned], laidTests := true, laidLooks := .later }
def CompactBytesCardSaid : Prop := Claim7.holds Tryz.pinned (.plain (OpenSpec.ofChange compactBytesSpec)) compactBytesCard

/-- THE TIED CARD OF 'stanzakeeplaw24.SchemaFlaws'. -/
def schemaFlawsCard : Claim7 := { stood := { row := schemaFlawsRow, standIns := [], harness := (true, "fbcc9b2adf7df9161df20118eb49c5483cf975c9ddac4b1aa00d94f81a4b926a"), looks := true }, kinds := [], alts := [], laidByText := true, laidKinds := [.data, .data, .data, .data, .sentinel, .sentinel, .pinned], laidTests := true, laidLooks := .later }
def SchemaFlawsCardSaid : Prop := Claim7.holds Tryz.pinned (.plain (OpenSpec.ofChange schemaFlawsSpec)) schemaFlawsCard

/-- THE TIED CARD OF 'stanzakeeplaw24.SchemaAlone'. -/
def schemaAloneCard : Claim7 := { stood := { row := schemaAloneRow, standIns := [], harness := (true, "fbcc9b2adf7df9161df20118eb49c5483cf975c9ddac4b1aa00d94f81a4b926a"), looks := true }, kinds := [], alts := [], laidByText := true, laidKinds := [.data, .data, .data, .data, .sentinel, .sentinel, .pinned], laidTests := true, laidLooks := .later }
def SchemaAloneCardSaid : Prop := Claim7.holds Tryz.pinned (.plain (OpenSpec.ofChange schemaAloneSpec)) schemaAloneCard

/-- THE TIED CARD OF 'stanzakeeplaw24.SchemaAllows'. -/
def schemaAllowsCard : Claim7 := { stood := { row := schemaAllowsRow, standIns := [], harness := (true, "fbcc9b2adf7df9161df20118eb49c5483cf975c9ddac4b1aa00d94f81a4b926a"), looks := true }, kinds := [], alts := [], laidByText := true, laidKinds := [.data, .data, .data, .data, .handle, .sentinel, .sentinel, .pinned], laidTests := true, laidLooks := .later }
def SchemaAllowsCardSaid : Prop := Claim7.holds Tryz.pinned (.plain (OpenSpec.ofChange schemaAllowsSpec)) schemaAllowsCard

/-- THE TIED CARD OF 'stanzakeeplaw24.SchemaStays'. -/
def schemaStaysCard : Claim7 := { stood := { row := schemaStaysRow, standIns := [], harness := (true, "fbcc9b2adf7df9161df20118eb49c5483cf975c9ddac4b1aa00d94f81a4b926a"), looks := true }, kinds := [], alts := [], laidByText := true, laidKinds := [.data, .data, .data, .data, .handle, .sentinel, .sentinel, .pinned], laidTests := true, laidLooks := .later }
def SchemaStaysCardSaid : Prop := Claim7.holds Tryz.pinned (.plain (OpenSpec.ofChange schemaStaysSpec)) schemaStaysCard

/-- THE TIED CARD OF 'stanzakeeplaw13.BookAppends'. -/
def bookAppendsCard : Claim7 := { stood := { row := bookAppendsRow, standIns := [], harness := (true, "fbcc9b2adf7df9161df20118eb49c5483cf975c9ddac4b1aa00d94f81a4b926a"), looks := true }, kinds := [], alts := [], laidByText := true, laidKinds := [.data, .data, .data, .data, .handle, .sentinel, .sentinel, .pinned], laidTests := true, laidLooks := .later }
def BookAppendsCardSaid : Prop := Claim7.holds Tryz.pinned (.plain (OpenSpec.ofChange bookAppendsSpec)) bookAppendsCard

/-- THE SECOND FORM's CARD OF 'stanzakeeplaw16.CompactFresh'. -/
def compactFreshUptoCard : Claim7 := { stood := { row := compactFreshUptoRow, standIns := [], harness := (true, "fbcc9b2adf7df9161df20118eb49c5483cf975c9ddac4b1aa00d94f81a4b926a"), looks := true }, kinds := [], alts := [], laidByText := true, laidKinds := [.data, .data, .data, .data, .handle, .sentinel, .sentinel, .pinned], laidTests := true, laidLooks := .later }
def CompactFreshUptoCardSaid : Prop := Claim7.holds Tryz.pinned (.plain (OpenSpec.upto compactFreshSpec)) compactFreshUptoCard

/-- THE SECOND FORM's CARD OF 'stanzakeeplaw16.CompactPlain'. -/
def compactPlainUptoCard : Claim7 := { stood := { row := compactPlainUptoRow, standIns := [], harness := (true, "fbcc9b2adf7df9161df20118eb49c5483cf975c9ddac4b1aa00d94f81a4b926a"), looks := true }, kinds := [], alts := [], laidByText := true, laidKinds := [.data, .data, .data, .data, .handle, .sentinel, .sentinel, .pinned], laidTests := true, laidLooks := .later }
def CompactPlainUptoCardSaid : Prop := Claim7.holds Tryz.pinned (.plain (OpenSpec.upto compactPlainSpec)) compactPlainUptoCard

/-- THE SECOND FORM's CARD OF 'stanzakeeplaw16.CompactBytes'. -/
def compactBytesUptoCard : Claim7 := { stood := { row := compactBytesUptoRow, standIns := [], harness := (true, "fbcc9b2adf7df9161df20118eb49c5483cf975c9ddac4b1aa00d94f81a4b926a"), looks := true }, kinds := [], alts := [], laidByText := true, laidKinds := [.data, .data, .data, .data, .handle, .sentinel, .sentinel, .pinned], laidTests := true, laidLooks := .later }
def CompactBytesUptoCardSaid : Prop := Claim7.holds Tryz.pinned (.plain (OpenSpec.upto compactBytesSpec)) compactBytesUptoCard

/-- THE SECOND FORM's CARD OF 'stanzakeeplaw24.SchemaFlaws'. -/
def schemaFlawsUptoCard : Claim7 := { stood := { row := schemaFlawsUptoRow, standIns := [], harness := (true, "fbcc9b2adf7df9161df20118eb49c5483cf975c9ddac4b1aa00d94f81a4b926a"), looks := true }, kinds := [], alts := [], laidByText := true, laidKinds := [.data, .data, .data, .data, .sentinel, .sentinel, .pinned], laidTests := true, laidLooks := .later }
def SchemaFlawsUptoCardSaid : Prop := Claim7.holds Tryz.pinned (.plain (OpenSpec.upto schemaFlawsSpec)) schemaFlawsUptoCard

/-- THE SECOND FORM's CARD OF 'stanzakeeplaw24.SchemaAlone'. -/
def schemaAloneUptoCard : Claim7 := { stood := { row := schemaAloneUptoRow, standIns := [], harness := (true, "fbcc9b2adf7df9161df20118eb49c5483cf975c9ddac4b1aa00d94f81a4b926a"), looks := true }, kinds := [], alts := [], laidByText := true, laidKinds := [.data, .data, .data, .data, .sentinel, .sentinel, .pinned], laidTests := true, laidLooks := .later }
def SchemaAloneUptoCardSaid : Prop := Claim7.holds Tryz.pinned (.plain (OpenSpec.upto schemaAloneSpec)) schemaAloneUptoCard

/-- THE SECOND FORM's CARD OF 'stanzakeeplaw24.SchemaAllows'. -/
def schemaAllowsUptoCard : Claim7 := { stood := { row := schemaAllowsUptoRow, standIns := [], harness := (true, "fbcc9b2adf7df9161df20118eb49c5483cf975c9ddac4b1aa00d94f81a4b926a"), looks := true }, kinds := [], alts := [], laidByText := true, laidKinds := [.data, .data, .data, .data, .handle, .sentinel, .sentinel, .pinned], laidTests := true, laidLooks := .later }
def SchemaAllowsUptoCardSaid : Prop := Claim7.holds Tryz.pinned (.plain (OpenSpec.upto schemaAllowsSpec)) schemaAllowsUptoCard

/-- THE SECOND FORM's CARD OF 'stanzakeeplaw24.SchemaStays'. -/
def schemaStaysUptoCard : Claim7 := { stood := { row := schemaStaysUptoRow, standIns := [], harness := (true, "fbcc9b2adf7df9161df20118eb49c5483cf975c9ddac4b1aa00d94f81a4b926a"), looks := true }, kinds := [], alts := [], laidByText := true, laidKinds := [.data, .data, .data, .data, .handle, .sentinel, .sentinel, .pinned], laidTests := true, laidLooks := .later }
def SchemaStaysUptoCardSaid : Prop := Claim7.holds Tryz.pinned (.plain (OpenSpec.upto schemaStaysSpec)) schemaStaysUptoCard

/-- THE SECOND FORM's CARD OF 'stanzakeeplaw13.BookAppends'. -/
def bookAppendsUptoCard : Claim7 := { stood := { row := bookAppendsUptoRow, standIns := [], harness := (true, "fbcc9b2adf7df9161df20118eb49c5483cf975c9ddac4b1aa00d94f81a4b926a"), looks := true }, kinds := [], alts := [], laidByText := true, laidKinds := [.data, .data, .data, .data, .handle, .sentinel, .sentinel, .pinned], laidTests := true, laidLooks := .later }
def BookAppendsUptoCardSaid : Prop := Claim7.holds Tryz.pinned (.plain (OpenSpec.upto bookAppendsSpec)) bookAppendsUptoCard
end Rows
end Go.Proofs.YtneejjefekdgjaaGreatDoor
