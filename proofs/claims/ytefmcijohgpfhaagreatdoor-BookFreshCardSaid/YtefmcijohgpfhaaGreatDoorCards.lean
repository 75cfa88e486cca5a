/-
  DERIVED. GIVEN WITH THE SEED: THE CARDS: each row of YtefmcijohgpfhaaGreatDoorRows.lean that lists a variable, with what it lists TIED to the program's text (the seventh form; the later family's looks); each row that meets fmt, with fmt's text TOLD by the authors' own Lean function (tested against real Go, not proved from fmt's source: count such statements apart). THE CARD IS WHAT COUNTS. Prove the row's statement (the work); the ties are given (YtefmcijohgpfhaaGreatDoorTie.lean); close each card by the builder's one call (the guide's Derived/Test/ToyasCard.lean, 'card_holds'). Laid BY PROGRAM, IN A SANDBOX (cutbox-door.mjs). By AI agents, Wed Nov 11 2026. No macro, syntax, notation, axiom, sorry.
-/
import Derived.Test.YtefmcijohgpfhaaGreatDoorRows
import GoSem.ClaimSeven
namespace Go.Proofs.YtefmcijohgpfhaaGreatDoor
namespace Rows

/-- THE TIED CARD OF 'stanzakeeplaw10.AmendDecodes'. -/
def amendDecodesCard : Claim7 := { stood := { row := amendDecodesRow, standIns := [], harness := (true, "3d2ada2d2e1d78833944924583a6cebd388fdb99b3bdd5689364478233bec80b"), looks := true }, kinds := [], alts := [], laidByText := true, laidKinds := [.data, .data, .data, .data, .handle, .sentinel, .sentinel, .pinned], laidTests := true, laidLooks := .later }
def AmendDecodesCardSaid : Prop := Claim7.holds Tryz.pinned (.plain (OpenSpec.ofChange amendDecodesSpec)) amendDecodesCard

/-- THE TIED CARD OF 'stanzakeeplaw10.AmendEncodes'. -/
def amendEncodesCard : Claim7 := { stood := { row := amendEncodesRow, standIns := [], harness := (true, "3d2ada2d2e1d78833944924583a6cebd388fdb99b3bdd5689364478233bec80b"), looks := true }, kinds := [], alts := [], laidByText := true, laidKinds := [.data, .data, .data, .data, .handle, .sentinel, .sentinel, .pinned], laidTests := true, laidLooks := .later }
def AmendEncodesCardSaid : Prop := Claim7.holds Tryz.pinned (.plain (OpenSpec.ofChange amendEncodesSpec)) amendEncodesCard

/-- THE TIED CARD OF 'stanzakeeplaw13.BookFresh'. -/
def bookFreshCard : Claim7 := { stood := { row := bookFreshRow, standIns := [], harness := (true, "3d2ada2d2e1d78833944924583a6cebd388fdb99b3bdd5689364478233bec80b"), looks := true }, kinds := [], alts := [], laidByText := true, laidKinds := [.data, .data, .data, .data, .handle, .sentinel, .sentinel, .pinned], laidTests := true, laidLooks := .later }
def BookFreshCardSaid : Prop := Claim7.holds Tryz.pinned (.plain (OpenSpec.ofChange bookFreshSpec)) bookFreshCard

/-- THE TIED CARD OF 'stanzakeeplaw13.BookTails'. -/
def bookTailsCard : Claim7 := { stood := { row := bookTailsRow, standIns := [], harness := (true, "3d2ada2d2e1d78833944924583a6cebd388fdb99b3bdd5689364478233bec80b"), looks := true }, kinds := [], alts := [], laidByText := true, laidKinds := [.data, .data, .data, .data, .handle, .sentinel, .sentinel, .pinned], laidTests := true, laidLooks := .later }
def BookTailsCardSaid : Prop := Claim7.holds Tryz.pinned (.plain (OpenSpec.ofChange bookTailsSpec)) bookTailsCard

/-- THE TIED CARD OF 'stanzakeeplaw13.BookAppends'. -/
def bookAppendsCard : Claim7 := { stood := { row := bookAppendsRow, standIns := [], harness := (true, "3d2ada2d2e1d78833944924583a6cebd388fdb99b3bdd5689364478233bec80b"), looks := true }, kinds := [], alts := [], laidByText := true, laidKinds := [.data, .data, .data, .data, .handle, .sentinel, .sentinel, .pinned], laidTests := true, laidLooks := .later }
def BookAppendsCardSaid : Prop := Claim7.holds Tryz.pinned (.plain (OpenSpec.ofChange bookAppendsSpec)) bookAppendsCard

/-- THE TIED CARD OF 'stanzakeeplaw13.BookCuts'. -/
def bookCutsCard : Claim7 := { stood := { row := bookCutsRow, standIns := [], harness := (true, "3d2ada2d2e1d78833944924583a6cebd388fdb99b3bdd5689364478233bec80b"), looks := true }, kinds := [], alts := [], laidByText := true, laidKinds := [.data, .data, .data, .data, .handle, .sentinel, .sentinel, .pinned], laidTests := true, laidLooks := .later }
def BookCutsCardSaid : Prop := Claim7.holds Tryz.pinned (.plain (OpenSpec.ofChange bookCutsSpec)) bookCutsCard

/-- THE TIED CARD OF 'stanzakeeplaw13.BookReads'. -/
def bookReadsCard : Claim7 := { stood := { row := bookReadsRow, standIns := [], harness := (true, "3d2ada2d2e1d78833944924583a6cebd388fdb99b3bdd5689364478233bec80b"), looks := true }, kinds := [], alts := [], laidByText := true, laidKinds := [.data, .data, .data, .data, .handle, .sentinel, .sentinel, .pinned], laidTests := true, laidLooks := .later }
def BookReadsCardSaid : Prop := Claim7.holds Tryz.pinned (.plain (OpenSpec.ofChange bookReadsSpec)) bookReadsCard

/-- THE SECOND FORM's CARD OF 'stanzakeeplaw10.AmendDecodes'. -/
def amendDecodesUptoCard : Claim7 := { stood := { row := amendDecodesUptoRow, standIns := [], harness := (true, "3d2ada2d2e1d78833944924583a6cebd388fdb99b3bdd5689364478233bec80b"), looks := true }, kinds := [], alts := [], laidByText := true, laidKinds := [.data, .data, .data, .data, .handle, .sentinel, .sentinel, .pinned], laidTests := true, laidLooks := .later }
def AmendDecodesUptoCardSaid : Prop := Claim7.holds Tryz.pinned (.plain (OpenSpec.upto amendDecodesSpec)) amendDecodesUptoCard

/-- THE SECOND FORM's CARD OF 'stanzakeeplaw10.AmendEncodes'. -/
def amendEncodesUptoCard : Claim7 := { stood := { row := amendEncodesUptoRow, standIns := [], harness := (true, "3d2ada2d2e1d78833944924583a6cebd388fdb99b3bdd5689364478233bec80b"), looks := true }, kinds := [], alts := [], laidByText := true, laidKinds := [.data, .data, .data, .data, .handle, .sentinel, .sentinel, .pinned], laidTests := true, laidLooks := .later }
def AmendEncodesUptoCardSaid : Prop := Claim7.holds Tryz.pinned (.plain (OpenSpec.upto amendEncodesSpec)) amendEncodesUptoCard

/-- THE SECOND FORM's CARD OF 'stanzakeeplaw13.BookFresh'. -/
def bookFreshUptoCard : Claim7 := { stood := { row := bookFreshUptoRow, standIns := [], harness := (true, "3d2ada2d2e1d78833944924583a6cebd388fdb99b3bdd5689364478233bec80b"), looks := true }, kinds := [], alts := [], laidByText := true, laidKinds := [.data, .data, .data, .data, .handle, .sentinel, .sentinel, .pinned], laidTests := true, laidLooks := .later }
def BookFreshUptoCardSaid : Prop := Claim7.holds Tryz.pinned (.plain (OpenSpec.upto bookFreshSpec)) bookFreshUptoCard

/-- THE SECOND FORM's CARD OF 'stanzakeeplaw13.BookTails'. -/
def bookTailsUptoCard : Claim7 := { stood := { row := bookTailsUptoRow, standIns := [], harness := (true, "3d2ada2d2e1d78833944924583a6cebd388fdb99b3bdd5689364478233bec80b"), looks := true }, kinds := [], alts := [], laidByText := true, laidKinds := [.data, .data, .data, .data, .handle, .sentinel, .sentinel, .pinned], laidTests := true, laidLooks := .later }
def BookTailsUptoCardSaid : Prop := Claim7.holds Tryz.pinned (.plain (OpenSpec.upto bookTailsSpec)) bookTailsUptoCard

/-- THE SECOND FORM's CARD OF 'stanzakeeplaw13.BookAppends'. -/
def bookAppendsUptoCard : Claim7 := { stood := { row := bookAppendsUptoRow, standIns := [], harness := (true, "3d2ada2d2e1d78833944924583a6cebd388fdb99b3bdd5689364478233bec80b"), looks := true }, kinds := [], alts := [], laidByText := true, laidKinds := [.data, .data, .data, .data, .handle, .sentinel, .sentinel, .pinned], laidTests := true, laidLooks := .later }
def BookAppendsUptoCardSaid : Prop := Claim7.holds Tryz.pinned (.plain (OpenSpec.upto bookAppendsSpec)) bookAppendsUptoCard

/-- THE SECOND FORM's CARD OF 'stanzakeeplaw13.BookCuts'. -/
def bookCutsUptoCard : Claim7 := { stood := { row := bookCutsUptoRow, standIns := [], harness := (true, "3d2ada2d2e1d78833944924583a6cebd388fdb99b3bdd5689364478233bec80b"), looks := true }, kinds := [], alts := [], laidByText := true, laidKinds := [.data, .data, .data, .data, .handle, .sentinel, .sentinel, .pinned], laidTests := true, laidLooks := .later }
def BookCutsUptoCardSaid : Prop := Claim7.holds Tryz.pinned (.plain (OpenSpec.upto bookCutsSpec)) bookCutsUptoCard

/-- THE SECOND FORM's CARD OF 'stanzakeeplaw13.BookReads'. -/
def bookReadsUptoCard : Claim7 := { stood := { row := bookReadsUptoRow, standIns := [], harness := (true, "3d2ada2d2e1d78833944924583a6cebd388fdb99b3bdd5689364478233bec80b"), looks := true }, kinds := [], alts := [], laidByText := true, laidKinds := [.data, .data, .data, .data, .handle, .sentinel, .sentinel, .pinned], laidTests := true, laidLooks := .later }
def BookReadsUptoCardSaid : Prop := Claim7.holds Tryz.pinned (.plain (OpenSpec.upto bookReadsSpec)) bookReadsUptoCard
end Rows
end Go.Proofs.YtefmcijohgpfhaaGreatDoor
