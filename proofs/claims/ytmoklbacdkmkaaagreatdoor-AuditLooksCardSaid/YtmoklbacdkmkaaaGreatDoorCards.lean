/-
  DERIVED. GIVEN WITH THE SEED: THE CARDS: each row of YtmoklbacdkmkaaaGreatDoorRows.lean that lists a variable, with what it lists TIED to the program's text (the seventh form; the later family's looks); each row that meets fmt, with fmt's text TOLD by the authors' own Lean function (tested against real Go, not proved from fmt's source: count such statements apart). THE CARD IS WHAT COUNTS. Prove the row's statement (the work); the ties are given (YtmoklbacdkmkaaaGreatDoorTie.lean); close each card by the builder's one call (the guide's Derived/Test/ToyasCard.lean, 'card_holds'). Laid BY PROGRAM, IN A SANDBOX (cutbox-door.mjs). By AI agents, Wed Nov 11 2026. No macro, syntax, notation, axiom, sorry.
-/
import Derived.Test.YtmoklbacdkmkaaaGreatDoorRows
import GoSem.ClaimSeven
namespace Go.Proofs.YtmoklbacdkmkaaaGreatDoor
namespace Rows

/-- THE TIED CARD OF 'stanzakeeplaw14.ReplayTexts'. -/
def replayTextsCard : Claim7 := { stood := { row := replayTextsRow, standIns := [], harness := (true, "909a6cef558e78f1cd3e17fe877a0afb9e630ebda0c76215a8234ad98b2329cd"), looks := true }, kinds := [], alts := [], laidByText := true, laidKinds := [.data, .data, .data, .data, .handle, .sentinel, .sentinel, .pinned], laidTests := true, laidLooks := .later }
def ReplayTextsCardSaid : Prop := Claim7.holds Tryz.pinned (.plain (OpenSpec.ofChange replayTextsSpec)) replayTextsCard

/-- THE TIED CARD OF 'stanzakeeplaw14.ReplayBase'. -/
def replayBaseCard : Claim7 := { stood := { row := replayBaseRow, standIns := [], harness := (true, "909a6cef558e78f1cd3e17fe877a0afb9e630ebda0c76215a8234ad98b2329cd"), looks := true }, kinds := [], alts := [], laidByText := true, laidKinds := [.data, .data, .data, .data, .handle, .sentinel, .sentinel, .pinned], laidTests := true, laidLooks := .later }
def ReplayBaseCardSaid : Prop := Claim7.holds Tryz.pinned (.plain (OpenSpec.ofChange replayBaseSpec)) replayBaseCard

/-- THE TIED CARD OF 'stanzakeeplaw14.ReplayGrows'. -/
def replayGrowsCard : Claim7 := { stood := { row := replayGrowsRow, standIns := [], harness := (true, "909a6cef558e78f1cd3e17fe877a0afb9e630ebda0c76215a8234ad98b2329cd"), looks := true }, kinds := [], alts := [], laidByText := true, laidKinds := [.data, .data, .data, .data, .handle, .sentinel, .sentinel, .pinned], laidTests := true, laidLooks := .later }
def ReplayGrowsCardSaid : Prop := Claim7.holds Tryz.pinned (.plain (OpenSpec.ofChange replayGrowsSpec)) replayGrowsCard

/-- THE TIED CARD OF 'stanzakeeplaw14.ReplayBooks'. -/
def replayBooksCard : Claim7 := { stood := { row := replayBooksRow, standIns := [], harness := (true, "909a6cef558e78f1cd3e17fe877a0afb9e630ebda0c76215a8234ad98b2329cd"), looks := true }, kinds := [], alts := [], laidByText := true, laidKinds := [.data, .data, .data, .data, .handle, .sentinel, .sentinel, .pinned], laidTests := true, laidLooks := .later }
def ReplayBooksCardSaid : Prop := Claim7.holds Tryz.pinned (.plain (OpenSpec.ofChange replayBooksSpec)) replayBooksCard

/-- THE TIED CARD OF 'stanzakeeplaw27.AuditLeft'. -/
def auditLeftCard : Claim7 := { stood := { row := auditLeftRow, standIns := [], harness := (true, "909a6cef558e78f1cd3e17fe877a0afb9e630ebda0c76215a8234ad98b2329cd"), looks := true }, kinds := [], alts := [], laidByText := true, laidKinds := [.data, .data, .data, .data, .handle, .sentinel, .sentinel, .pinned], laidTests := true, laidLooks := .later }
def AuditLeftCardSaid : Prop := Claim7.holds Tryz.pinned (.plain (OpenSpec.ofChange auditLeftSpec)) auditLeftCard

/-- THE TIED CARD OF 'stanzakeeplaw27.AuditTurns'. -/
def auditTurnsCard : Claim7 := { stood := { row := auditTurnsRow, standIns := [], harness := (true, "909a6cef558e78f1cd3e17fe877a0afb9e630ebda0c76215a8234ad98b2329cd"), looks := true }, kinds := [], alts := [], laidByText := true, laidKinds := [.data, .data, .data, .data, .handle, .sentinel, .sentinel, .pinned], laidTests := true, laidLooks := .later }
def AuditTurnsCardSaid : Prop := Claim7.holds Tryz.pinned (.plain (OpenSpec.ofChange auditTurnsSpec)) auditTurnsCard

/-- THE TIED CARD OF 'stanzakeeplaw27.AuditLines'. -/
def auditLinesCard : Claim7 := { stood := { row := auditLinesRow, standIns := [], harness := (true, "909a6cef558e78f1cd3e17fe877a0afb9e630ebda0c76215a8234ad98b2329cd"), looks := true }, kinds := [], alts := [], laidByText := true, laidKinds := [.data, .data, .data, .data, .handle, .sentinel, .sentinel, .pinned], laidTests := true, laidLooks := .later }
def AuditLinesCardSaid : Prop := Claim7.holds Tryz.pinned (.plain (OpenSpec.ofChange auditLinesSpec)) auditLinesCard

/-- THE TIED CARD OF 'stanzakeeplaw27.AuditLooks'. -/
def auditLooksCard : Claim7 := { stood := { row := auditLooksRow, standIns := [], harness := (true, "909a6cef558e78f1cd3e17fe877a0afb9e630ebda0c76215a8234ad98b2329cd"), looks := true }, kinds := [], alts := [], laidByText := true, laidKinds := [.data, .data, .data, .data, .handle, .sentinel, .sentinel, .pinned], laidTests := true, laidLooks := .later }
def AuditLooksCardSaid : Prop := Claim7.holds Tryz.pinned (.plain (OpenSpec.ofChange auditLooksSpec)) auditLooksCard

/-- THE SECOND FORM's CARD OF 'stanzakeeplaw14.ReplayTexts'. -/
def replayTextsUptoCard : Claim7 := { stood := { row := replayTextsUptoRow, standIns := [], harness := (true, "909a6cef558e78f1cd3e17fe877a0afb9e630ebda0c76215a8234ad98b2329cd"), looks := true }, kinds := [], alts := [], laidByText := true, laidKinds := [.data, .data, .data, .data, .handle, .sentinel, .sentinel, .pinned], laidTests := true, laidLooks := .later }
def ReplayTextsUptoCardSaid : Prop := Claim7.holds Tryz.pinned (.plain (OpenSpec.upto replayTextsSpec)) replayTextsUptoCard

/-- THE SECOND FORM's CARD OF 'stanzakeeplaw14.ReplayBase'. -/
def replayBaseUptoCard : Claim7 := { stood := { row := replayBaseUptoRow, standIns := [], harness := (true, "909a6cef558e78f1cd3e17fe877a0afb9e630ebda0c76215a8234ad98b2329cd"), looks := true }, kinds := [], alts := [], laidByText := true, laidKinds := [.data, .data, .data, .data, .handle, .sentinel, .sentinel, .pinned], laidTests := true, laidLooks := .later }
def ReplayBaseUptoCardSaid : Prop := Claim7.holds Tryz.pinned (.plain (OpenSpec.upto replayBaseSpec)) replayBaseUptoCard

/-- THE SECOND FORM's CARD OF 'stanzakeeplaw14.ReplayGrows'. -/
def replayGrowsUptoCard : Claim7 := { stood := { row := replayGrowsUptoRow, standIns := [], harness := (true, "909a6cef558e78f1cd3e17fe877a0afb9e630ebda0c76215a8234ad98b2329cd"), looks := true }, kinds := [], alts := [], laidByText := true, laidKinds := [.data, .data, .data, .data, .handle, .sentinel, .sentinel, .pinned], laidTests := true, laidLooks := .later }
def ReplayGrowsUptoCardSaid : Prop := Claim7.holds Tryz.pinned (.plain (OpenSpec.upto replayGrowsSpec)) replayGrowsUptoCard

/-- THE SECOND FORM's CARD OF 'stanzakeeplaw14.ReplayBooks'. -/
def replayBooksUptoCard : Claim7 := { stood := { row := replayBooksUptoRow, standIns := [], harness := (true, "909a6cef558e78f1cd3e17fe877a0afb9e630ebda0c76215a8234ad98b2329cd"), looks := true }, kinds := [], alts := [], laidByText := true, laidKinds := [.data, .data, .data, .data, .handle, .sentinel, .sentinel, .pinned], laidTests := true, laidLooks := .later }
def ReplayBooksUptoCardSaid : Prop := Claim7.holds Tryz.pinned (.plain (OpenSpec.upto replayBooksSpec)) replayBooksUptoCard

/-- THE SECOND FORM's CARD OF 'stanzakeeplaw27.AuditLeft'. -/
def auditLeftUptoCard : Claim7 := { stood := { row := auditLeftUptoRow, standIns := [], harness := (true, "909a6cef558e78f1cd3e17fe877a0afb9e630ebda0c76215a8234ad98b2329cd"), looks := true }, kinds := [], alts := [], laidByText := true, laidKinds := [.data, .data, .data, .data, .handle, .sentinel, .sentinel, .pinned], laidTests := true, laidLooks := .later }
def AuditLeftUptoCardSaid : Prop := Claim7.holds Tryz.pinned (.plain (OpenSpec.upto auditLeftSpec)) auditLeftUptoCard

/-- THE SECOND FORM's CARD OF 'stanzakeeplaw27.AuditTurns'. -/
def auditTurnsUptoCard : Claim7 := { stood := { row := auditTurnsUptoRow, standIns := [], harness := (true, "909a6cef558e78f1cd3e17fe877a0afb9e630ebda0c76215a8234ad98b2329cd"), looks := true }, kinds := [], alts := [], laidByText := true, laidKinds := [.data, .data, .data, .data, .handle, .sentinel, .sentinel, .pinned], laidTests := true, laidLooks := .later }
def AuditTurnsUptoCardSaid : Prop := Claim7.holds Tryz.pinned (.plain (OpenSpec.upto auditTurnsSpec)) auditTurnsUptoCard

/-- THE SECOND FORM's CARD OF 'stanzakeeplaw27.AuditLines'. -/
def auditLinesUptoCard : Claim7 := { stood := { row := auditLinesUptoRow, standIns := [], harness := (true, "909a6cef558e78f1cd3e17fe877a0afb9e630ebda0c76215a8234ad98b2329cd"), looks := true }, kinds := [], alts := [], laidByText := true, laidKinds := [.data, .data, .data, .data, .handle, .sentinel, .sentinel, .pinned], laidTests := true, laidLooks := .later }
def AuditLinesUptoCardSaid : Prop := Claim7.holds Tryz.pinned (.plain (OpenSpec.upto auditLinesSpec)) auditLinesUptoCard

/-- THE SECOND FORM's CARD OF 'stanzakeeplaw27.AuditLooks'. -/
def auditLooksUptoCard : Claim7 := { stood := { row := auditLooksUptoRow, standIns := [], harness := (true, "909a6cef558e78f1cd3e17fe877a0afb9e630ebda0c76215a8234ad98b2329cd"), looks := true }, kinds := [], alts := [], laidByText := true, laidKinds := [.data, .data, .data, .data, .handle, .sentinel, .sentinel, .pinned], laidTests := true, laidLooks := .later }
def AuditLooksUptoCardSaid : Prop := Claim7.holds Tryz.pinned (.plain (OpenSpec.upto auditLooksSpec)) auditLooksUptoCard
end Rows
end Go.Proofs.YtmoklbacdkmkaaaGreatDoor
