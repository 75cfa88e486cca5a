/-
  DERIVED. GIVEN WITH THE SEED: THE CARDS: each row of YtlekheifonaipaaGreatDoorRows.lean that lists a variable, with what it lists TIED to the program's text (the seventh form; the later family's looks); each row that meets fmt, with fmt's text TOLD by the authors' own Lean function (tested against real Go, not proved from fmt's source: count such statements apart). THE CARD IS WHAT COUNTS. Prove the row's statement (the work); the ties are given (YtlekheifonaipaaGreatDoorTie.lean); close each card by the builder's one call (the guide's Derived/Test/ToyasCard.lean, 'card_holds'). Laid BY PROGRAM, IN A SANDBOX (cutbox-door.mjs). By AI agents, Wed Nov 11 2026. No macro, syntax, notation, axiom, sorry.
-/
import Derived.Test.YtlekheifonaipaaGreatDoorRows
import GoSem.ClaimSeven
namespace Go.Proofs.YtlekheifonaipaaGreatDoor
namespace Rows

/-- THE TIED CARD OF 'stanzakeeplaw26.HistoryUndoes'. -/
def historyUndoesCard : Claim7 := { stood := { row := historyUndoesRow, standIns := [], harness := (true, "46a50d16f037abbacbb27e541e456ee40e31c036867123a2c85230d3006888e4"), looks := true }, kinds := [], alts := [], laidByText := true, laidKinds := [.data, .data, .data, .data, .handle, .sentinel, .sentinel, .pinned], laidTests := true, laidLooks := .later }
def HistoryUndoesCardSaid : Prop := Claim7.holds Tryz.pinned (.plain (OpenSpec.ofChange historyUndoesSpec)) historyUndoesCard

/-- THE SECOND FORM's CARD OF 'stanzakeeplaw26.HistoryUndoes'. -/
def historyUndoesUptoCard : Claim7 := { stood := { row := historyUndoesUptoRow, standIns := [], harness := (true, "46a50d16f037abbacbb27e541e456ee40e31c036867123a2c85230d3006888e4"), looks := true }, kinds := [], alts := [], laidByText := true, laidKinds := [.data, .data, .data, .data, .handle, .sentinel, .sentinel, .pinned], laidTests := true, laidLooks := .later }
def HistoryUndoesUptoCardSaid : Prop := Claim7.holds Tryz.pinned (.plain (OpenSpec.upto historyUndoesSpec)) historyUndoesUptoCard
end Rows
end Go.Proofs.YtlekheifonaipaaGreatDoor
