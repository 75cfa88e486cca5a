/-
  DERIVED. GIVEN WITH THE SEED: THE CARDS: each row of YtopmpdoigmenmaaGreatDoorRows.lean that lists a variable, with what it lists TIED to the program's text (the seventh form; the later family's looks); each row that meets fmt, with fmt's text TOLD by the authors' own Lean function (tested against real Go, not proved from fmt's source: count such statements apart). THE CARD IS WHAT COUNTS. Prove the row's statement (the work); the ties are given (YtopmpdoigmenmaaGreatDoorTie.lean); close each card by the builder's one call (the guide's Derived/Test/ToyasCard.lean, 'card_holds'). Laid BY PROGRAM, IN A SANDBOX (cutbox-door.mjs). By AI agents, Wed Nov 11 2026. No macro, syntax, notation, axiom, sorry.
-/
import Derived.Test.YtopmpdoigmenmaaGreatDoorRows
import GoSem.ClaimSeven
namespace Go.Proofs.YtopmpdoigmenmaaGreatDoor
namespace Rows

/-- THE TIED CARD OF 'stanzakeeplaw11.FrameRecords'. -/
def frameRecordsCard : Claim7 := { stood := { row := frameRecordsRow, standIns := [], harness := (true, "8ec79c7ae2cc9acea4dd5c7d8e8225029b14ea8ffada33e2d925d32250245e6e"), looks := true }, kinds := [], alts := [], laidByText := true, laidKinds := [.data, .data, .data, .data, .sentinel, .sentinel, .pinned], laidTests := true, laidLooks := .later }
def FrameRecordsCardSaid : Prop := Claim7.holds Tryz.pinned (.plain (OpenSpec.ofChange frameRecordsSpec)) frameRecordsCard

/-- THE TIED CARD OF 'stanzakeeplaw11.FrameReads'. -/
def frameReadsCard : Claim7 := { stood := { row := frameReadsRow, standIns := [], harness := (true, "8ec79c7ae2cc9acea4dd5c7d8e8225029b14ea8ffada33e2d925d32250245e6e"), looks := true }, kinds := [], alts := [], laidByText := true, laidKinds := [.data, .data, .data, .data, .sentinel, .sentinel, .pinned], laidTests := true, laidLooks := .later }
def FrameReadsCardSaid : Prop := Claim7.holds Tryz.pinned (.plain (OpenSpec.ofChange frameReadsSpec)) frameReadsCard

/-- THE TIED CARD OF 'stanzakeeplaw11.FrameParts'. -/
def framePartsCard : Claim7 := { stood := { row := framePartsRow, standIns := [], harness := (true, "8ec79c7ae2cc9acea4dd5c7d8e8225029b14ea8ffada33e2d925d32250245e6e"), looks := true }, kinds := [], alts := [], laidByText := true, laidKinds := [.data, .data, .data, .data, .sentinel, .sentinel, .pinned], laidTests := true, laidLooks := .later }
def FramePartsCardSaid : Prop := Claim7.holds Tryz.pinned (.plain (OpenSpec.ofChange framePartsSpec)) framePartsCard

/-- THE TIED CARD OF 'stanzakeeplaw11.FrameTurns'. -/
def frameTurnsCard : Claim7 := { stood := { row := frameTurnsRow, standIns := [], harness := (true, "8ec79c7ae2cc9acea4dd5c7d8e8225029b14ea8ffada33e2d925d32250245e6e"), looks := true }, kinds := [], alts := [], laidByText := true, laidKinds := [.data, .data, .data, .data, .sentinel, .sentinel, .pinned], laidTests := true, laidLooks := .later }
def FrameTurnsCardSaid : Prop := Claim7.holds Tryz.pinned (.plain (OpenSpec.ofChange frameTurnsSpec)) frameTurnsCard

/-- THE TIED CARD OF 'stanzakeeplaw11.FrameNumbers'. -/
def frameNumbersCard : Claim7 := { stood := { row := frameNumbersRow, standIns := [], harness := (true, "8ec79c7ae2cc9acea4dd5c7d8e8225029b14ea8ffada33e2d925d32250245e6e"), looks := true }, kinds := [], alts := [], laidByText := true, laidKinds := [.data, .data, .data, .data, .sentinel, .sentinel, .pinned], laidTests := true, laidLooks := .later }
def FrameNumbersCardSaid : Prop := Claim7.holds Tryz.pinned (.plain (OpenSpec.ofChange frameNumbersSpec)) frameNumbersCard

/-- THE SECOND FORM's CARD OF 'stanzakeeplaw11.FrameRecords'. -/
def frameRecordsUptoCard : Claim7 := { stood := { row := frameRecordsUptoRow, standIns := [], harness := (true, "8ec79c7ae2cc9acea4dd5c7d8e8225029b14ea8ffada33e2d925d32250245e6e"), looks := true }, kinds := [], alts := [], laidByText := true, laidKinds := [.data, .data, .data, .data, .sentinel, .sentinel, .pinned], laidTests := true, laidLooks := .later }
def FrameRecordsUptoCardSaid : Prop := Claim7.holds Tryz.pinned (.plain (OpenSpec.upto frameRecordsSpec)) frameRecordsUptoCard

/-- THE SECOND FORM's CARD OF 'stanzakeeplaw11.FrameReads'. -/
def frameReadsUptoCard : Claim7 := { stood := { row := frameReadsUptoRow, standIns := [], harness := (true, "8ec79c7ae2cc9acea4dd5c7d8e8225029b14ea8ffada33e2d925d32250245e6e"), looks := true }, kinds := [], alts := [], laidByText := true, laidKinds := [.data, .data, .data, .data, .sentinel, .sentinel, .pinned], laidTests := true, laidLooks := .later }
def FrameReadsUptoCardSaid : Prop := Claim7.holds Tryz.pinned (.plain (OpenSpec.upto frameReadsSpec)) frameReadsUptoCard

/-- THE SECOND FORM's CARD OF 'stanzakeeplaw11.FrameParts'. -/
def framePartsUptoCard : Claim7 := { stood := { row := framePartsUptoRow, standIns := [], harness := (true, "8ec79c7ae2cc9acea4dd5c7d8e8225029b14ea8ffada33e2d925d32250245e6e"), looks := true }, kinds := [], alts := [], laidByText := true, laidKinds := [.data, .data, .data, .data, .sentinel, .sentinel, .pinned], laidTests := true, laidLooks := .later }
def FramePartsUptoCardSaid : Prop := Claim7.holds Tryz.pinned (.plain (OpenSpec.upto framePartsSpec)) framePartsUptoCard

/-- THE SECOND FORM's CARD OF 'stanzakeeplaw11.FrameTurns'. -/
def frameTurnsUptoCard : Claim7 := { stood := { row := frameTurnsUptoRow, standIns := [], harness := (true, "8ec79c7ae2cc9acea4dd5c7d8e8225029b14ea8ffada33e2d925d32250245e6e"), looks := true }, kinds := [], alts := [], laidByText := true, laidKinds := [.data, .data, .data, .data, .sentinel, .sentinel, .pinned], laidTests := true, laidLooks := .later }
def FrameTurnsUptoCardSaid : Prop := Claim7.holds Tryz.pinned (.plain (OpenSpec.upto frameTurnsSpec)) frameTurnsUptoCard

/-- THE SECOND FORM's CARD OF 'stanzakeeplaw11.FrameNumbers'. -/
def frameNumbersUptoCard : Claim7 := { stood := { row := frameNumbersUptoRow, standIns := [], harness := (true, "8ec79c7ae2cc9acea4dd5c7d8e8225029b14ea8ffada33e2d925d32250245e6e"), looks := true }, kinds := [], alts := [], laidByText := true, laidKinds := [.data, .data, .data, .data, .sentinel, .sentinel, .pinned], laidTests := true, laidLooks := .later }
def FrameNumbersUptoCardSaid : Prop := Claim7.holds Tryz.pinned (.plain (OpenSpec.upto frameNumbersSpec)) frameNumbersUptoCard
end Rows
end Go.Proofs.YtopmpdoigmenmaaGreatDoor
