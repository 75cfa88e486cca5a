/-
  DERIVED. GIVEN WITH THE SEED: THE CARDS: each row of YtihlchbgjdkmpaaGreatDoorRows.lean that lists a variable, with what it lists TIED to the program's text (the seventh form; the later family's looks); each row that meets fmt, with fmt's text TOLD by the authors' own Lean function (tested against real Go, not proved from fmt's source: count such statements apart). THE CARD IS WHAT COUNTS. Prove the row's statement (the work); the ties are given (YtihlchbgjdkmpaaGreatDoorTie.lean); close each card by the builder's one call (the guide's Derived/Test/ToyasCard.lean, 'card_holds'). Laid BY PROGRAM, IN A SANDBOX (cutbox-door.mjs). By AI agents, Wed Nov 11 2026. No macro, syntax, notation, axiom, sorry.
-/
import Derived.Test.YtihlchbgjdkmpaaGreatDoorRows
import GoSem.ClaimSeven
namespace Go.Proofs.YtihlchbgjdkmpaaGreatDoor
namespace Rows

/-- THE TIED CARD OF 'stanzakeeplaw26.HistoryTwice'. -/
def historyTwiceCard : Claim7 := { stood := { row := historyTwiceRow, standIns := [], harness := (true, "6543b4a676fa094c5fecbb1b9b7d84e2743def9007464ff1d58b285643b17ef9"), looks := true }, kinds := [], alts := [], laidByText := true, laidKinds := [.data, .data, .data, .data, .handle, .sentinel, .sentinel, .pinned], laidTests := true, laidLooks := .later }
def HistoryTwiceCardSaid : Prop := Claim7.holds Tryz.pinned (.plain (OpenSpec.ofChange historyTwiceSpec)) historyTwiceCard

/-- THE TIED CARD OF 'stanzakeeplaw26.HistoryUndoes'. -/
def historyUndoesCard : Claim7 := { stood := { row := historyUndoesRow, standIns := [], harness := (true, "6543b4a676fa094c5fecbb1b9b7d84e2743def9007464ff1d58b285643b17ef9"), looks := true }, kinds := [], alts := [], laidByText := true, laidKinds := [.data, .data, .data, .data, .handle, .sentinel, .sentinel, .pinned], laidTests := true, laidLooks := .later }
def HistoryUndoesCardSaid : Prop := Claim7.holds Tryz.pinned (.plain (OpenSpec.ofChange historyUndoesSpec)) historyUndoesCard

/-- THE TIED CARD OF 'stanzakeeplaw26.HistoryBefore'. -/
def historyBeforeCard : Claim7 := { stood := { row := historyBeforeRow, standIns := [], harness := (true, "6543b4a676fa094c5fecbb1b9b7d84e2743def9007464ff1d58b285643b17ef9"), looks := true }, kinds := [], alts := [], laidByText := true, laidKinds := [.data, .data, .data, .data, .handle, .sentinel, .sentinel, .pinned], laidTests := true, laidLooks := .later }
def HistoryBeforeCardSaid : Prop := Claim7.holds Tryz.pinned (.plain (OpenSpec.ofChange historyBeforeSpec)) historyBeforeCard

/-- THE TIED CARD OF 'stanzakeeplaw26.HistoryLogs'. -/
def historyLogsCard : Claim7 := { stood := { row := historyLogsRow, standIns := [], harness := (true, "6543b4a676fa094c5fecbb1b9b7d84e2743def9007464ff1d58b285643b17ef9"), looks := true }, kinds := [], alts := [], laidByText := true, laidKinds := [.data, .data, .data, .data, .handle, .sentinel, .sentinel, .pinned], laidTests := true, laidLooks := .later }
def HistoryLogsCardSaid : Prop := Claim7.holds Tryz.pinned (.plain (OpenSpec.ofChange historyLogsSpec)) historyLogsCard

/-- THE TIED CARD OF 'stanzakeeplaw26.HistoryTrails'. -/
def historyTrailsCard : Claim7 := { stood := { row := historyTrailsRow, standIns := [], harness := (true, "6543b4a676fa094c5fecbb1b9b7d84e2743def9007464ff1d58b285643b17ef9"), looks := true }, kinds := [], alts := [], laidByText := true, laidKinds := [.data, .data, .data, .data, .handle, .sentinel, .sentinel, .pinned], laidTests := true, laidLooks := .later }
def HistoryTrailsCardSaid : Prop := Claim7.holds Tryz.pinned (.plain (OpenSpec.ofChange historyTrailsSpec)) historyTrailsCard

/-- THE SECOND FORM's CARD OF 'stanzakeeplaw26.HistoryTwice'. -/
def historyTwiceUptoCard : Claim7 := { stood := { row := historyTwiceUptoRow, standIns := [], harness := (true, "6543b4a676fa094c5fecbb1b9b7d84e2743def9007464ff1d58b285643b17ef9"), looks := true }, kinds := [], alts := [], laidByText := true, laidKinds := [.data, .data, .data, .data, .handle, .sentinel, .sentinel, .pinned], laidTests := true, laidLooks := .later }
def HistoryTwiceUptoCardSaid : Prop := Claim7.holds Tryz.pinned (.plain (OpenSpec.upto historyTwiceSpec)) historyTwiceUptoCard

/-- THE SECOND FORM's CARD OF 'stanzakeeplaw26.HistoryUndoes'. -/
def historyUndoesUptoCard : Claim7 := { stood := { row := historyUndoesUptoRow, standIns := [], harness := (true, "6543b4a676fa094c5fecbb1b9b7d84e2743def9007464ff1d58b285643b17ef9"), looks := true }, kinds := [], alts := [], laidByText := true, laidKinds := [.data, .data, .data, .data, .handle, .sentinel, .sentinel, .pinned], laidTests := true, laidLooks := .later }
def HistoryUndoesUptoCardSaid : Prop := Claim7.holds Tryz.pinned (.plain (OpenSpec.upto historyUndoesSpec)) historyUndoesUptoCard

/-- THE SECOND FORM's CARD OF 'stanzakeeplaw26.HistoryBefore'. -/
def historyBeforeUptoCard : Claim7 := { stood := { row := historyBeforeUptoRow, standIns := [], harness := (true, "6543b4a676fa094c5fecbb1b9b7d84e2743def9007464ff1d58b285643b17ef9"), looks := true }, kinds := [], alts := [], laidByText := true, laidKinds := [.data, .data, .data, .data, .handle, .sentinel, .sentinel, .pinned], laidTests := true, laidLooks := .later }
def HistoryBeforeUptoCardSaid : Prop := Claim7.holds Tryz.pinned (.plain (OpenSpec.upto historyBeforeSpec)) historyBeforeUptoCard

/-- THE SECOND FORM's CARD OF 'stanzakeeplaw26.HistoryLogs'. -/
def historyLogsUptoCard : Claim7 := { stood := { row := historyLogsUptoRow, standIns := [], harness := (true, "6543b4a676fa094c5fecbb1b9b7d84e2743def9007464ff1d58b285643b17ef9"), looks := true }, kinds := [], alts := [], laidByText := true, laidKinds := [.data, .data, .data, .data, .handle, .sentinel, .sentinel, .pinned], laidTests := true, laidLooks := .later }
def HistoryLogsUptoCardSaid : Prop := Claim7.holds Tryz.pinned (.plain (OpenSpec.upto historyLogsSpec)) historyLogsUptoCard

/-- THE SECOND FORM's CARD OF 'stanzakeeplaw26.HistoryTrails'. -/
def historyTrailsUptoCard : Claim7 := { stood := { row := historyTrailsUptoRow, standIns := [], harness := (true, "6543b4a676fa094c5fecbb1b9b7d84e2743def9007464ff1d58b285643b17ef9"), looks := true }, kinds := [], alts := [], laidByText := true, laidKinds := [.data, .data, .data, .data, .handle, .sentinel, .sentinel, .pinned], laidTests := true, laidLooks := .later }
def HistoryTrailsUptoCardSaid : Prop := Claim7.holds Tryz.pinned (.plain (OpenSpec.upto historyTrailsSpec)) historyTrailsUptoCard
end Rows
end Go.Proofs.YtihlchbgjdkmpaaGreatDoor
