/-
  DERIVED. GIVEN WITH THE SEED: THE CARDS: each row of YthnbabbhpeebbaaGreatDoorRows.lean that lists a variable, with what it lists TIED to the program's text (the seventh form; the later family's looks); each row that meets fmt, with fmt's text TOLD by the authors' own Lean function (tested against real Go, not proved from fmt's source: count such statements apart). THE CARD IS WHAT COUNTS. Prove the row's statement (the work); the ties are given (YthnbabbhpeebbaaGreatDoorTie.lean); close each card by the builder's one call (the guide's Derived/Test/ToyasCard.lean, 'card_holds'). Laid BY PROGRAM, IN A SANDBOX (cutbox-door.mjs). By AI agents, Wed Nov 11 2026. No macro, syntax, notation, axiom, sorry.
-/
import Derived.Test.YthnbabbhpeebbaaGreatDoorRows
import GoSem.ClaimSeven
namespace Go.Proofs.YthnbabbhpeebbaaGreatDoor
namespace Rows

/-- THE TIED CARD OF 'stanzakeeplaw15.FileAgain'. -/
def fileAgainCard : Claim7 := { stood := { row := fileAgainRow, standIns := [], harness := (true, "4a0ddd6ffc236c9fa9af1c224d5263fcd5a85cb0c7b2f755da215b99c0c0a1ad"), looks := true }, kinds := [], alts := [], laidByText := true, laidKinds := [.data, .data, .data, .data, .handle, .sentinel, .sentinel, .pinned], laidTests := true, laidLooks := .later }
def FileAgainCardSaid : Prop := Claim7.holds Tryz.pinned (.plain (OpenSpec.ofChange fileAgainSpec)) fileAgainCard

/-- THE TIED CARD OF 'stanzakeeplaw15.FileNames'. -/
def fileNamesCard : Claim7 := { stood := { row := fileNamesRow, standIns := [], harness := (true, "4a0ddd6ffc236c9fa9af1c224d5263fcd5a85cb0c7b2f755da215b99c0c0a1ad"), looks := true }, kinds := [], alts := [], laidByText := true, laidKinds := [.data, .data, .data, .data, .handle, .sentinel, .sentinel, .pinned], laidTests := true, laidLooks := .later }
def FileNamesCardSaid : Prop := Claim7.holds Tryz.pinned (.plain (OpenSpec.ofChange fileNamesSpec)) fileNamesCard

/-- THE TIED CARD OF 'stanzakeeplaw15.FileKeeps'. -/
def fileKeepsCard : Claim7 := { stood := { row := fileKeepsRow, standIns := [], harness := (true, "4a0ddd6ffc236c9fa9af1c224d5263fcd5a85cb0c7b2f755da215b99c0c0a1ad"), looks := true }, kinds := [], alts := [], laidByText := true, laidKinds := [.data, .data, .data, .data, .handle, .sentinel, .sentinel, .pinned], laidTests := true, laidLooks := .later }
def FileKeepsCardSaid : Prop := Claim7.holds Tryz.pinned (.plain (OpenSpec.ofChange fileKeepsSpec)) fileKeepsCard

/-- THE TIED CARD OF 'stanzakeeplaw16.CompactDoes'. -/
def compactDoesCard : Claim7 := { stood := { row := compactDoesRow, standIns := [], harness := (true, "4a0ddd6ffc236c9fa9af1c224d5263fcd5a85cb0c7b2f755da215b99c0c0a1ad"), looks := true }, kinds := [], alts := [], laidByText := true, laidKinds := [.data, .data, .data, .data, .handle, .sentinel, .sentinel, .pinned], laidTests := true, laidLooks := .later }
def CompactDoesCardSaid : Prop := Claim7.holds Tryz.pinned (.plain (OpenSpec.ofChange compactDoesSpec)) compactDoesCard

/-- THE SECOND FORM's CARD OF 'stanzakeeplaw15.FileAgain'. -/
def fileAgainUptoCard : Claim7 := { stood := { row := fileAgainUptoRow, standIns := [], harness := (true, "4a0ddd6ffc236c9fa9af1c224d5263fcd5a85cb0c7b2f755da215b99c0c0a1ad"), looks := true }, kinds := [], alts := [], laidByText := true, laidKinds := [.data, .data, .data, .data, .handle, .sentinel, .sentinel, .pinned], laidTests := true, laidLooks := .later }
def FileAgainUptoCardSaid : Prop := Claim7.holds Tryz.pinned (.plain (OpenSpec.upto fileAgainSpec)) fileAgainUptoCard

/-- THE SECOND FORM's CARD OF 'stanzakeeplaw15.FileNames'. -/
def fileNamesUptoCard : Claim7 := { stood := { row := fileNamesUptoRow, standIns := [], harness := (true, "4a0ddd6ffc236c9fa9af1c224d5263fcd5a85cb0c7b2f755da215b99c0c0a1ad"), looks := true }, kinds := [], alts := [], laidByText := true, laidKinds := [.data, .data, .data, .data, .handle, .sentinel, .sentinel, .pinned], laidTests := true, laidLooks := .later }
def FileNamesUptoCardSaid : Prop := Claim7.holds Tryz.pinned (.plain (OpenSpec.upto fileNamesSpec)) fileNamesUptoCard

/-- THE SECOND FORM's CARD OF 'stanzakeeplaw15.FileKeeps'. -/
def fileKeepsUptoCard : Claim7 := { stood := { row := fileKeepsUptoRow, standIns := [], harness := (true, "4a0ddd6ffc236c9fa9af1c224d5263fcd5a85cb0c7b2f755da215b99c0c0a1ad"), looks := true }, kinds := [], alts := [], laidByText := true, laidKinds := [.data, .data, .data, .data, .handle, .sentinel, .sentinel, .pinned], laidTests := true, laidLooks := .later }
def FileKeepsUptoCardSaid : Prop := Claim7.holds Tryz.pinned (.plain (OpenSpec.upto fileKeepsSpec)) fileKeepsUptoCard

/-- THE SECOND FORM's CARD OF 'stanzakeeplaw16.CompactDoes'. -/
def compactDoesUptoCard : Claim7 := { stood := { row := compactDoesUptoRow, standIns := [], harness := (true, "4a0ddd6ffc236c9fa9af1c224d5263fcd5a85cb0c7b2f755da215b99c0c0a1ad"), looks := true }, kinds := [], alts := [], laidByText := true, laidKinds := [.data, .data, .data, .data, .handle, .sentinel, .sentinel, .pinned], laidTests := true, laidLooks := .later }
def CompactDoesUptoCardSaid : Prop := Claim7.holds Tryz.pinned (.plain (OpenSpec.upto compactDoesSpec)) compactDoesUptoCard
end Rows
end Go.Proofs.YthnbabbhpeebbaaGreatDoor
