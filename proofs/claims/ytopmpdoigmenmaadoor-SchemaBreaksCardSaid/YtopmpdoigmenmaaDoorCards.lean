/-
  DERIVED. GIVEN WITH THE SEED: THE CARDS: each row of YtopmpdoigmenmaaDoorRows.lean that lists a variable, with what it lists TIED to the program's text (the seventh form; the later family's looks); each row that meets fmt, with fmt's text TOLD by the authors' own Lean function (tested against real Go, not proved from fmt's source: count such statements apart). THE CARD IS WHAT COUNTS. Prove the row's statement (the work); the ties are given (YtopmpdoigmenmaaDoorTie.lean); close each card by the builder's one call (the guide's Derived/Test/ToyasCard.lean, 'card_holds'). Laid BY PROGRAM, IN A SANDBOX (cutbox-door.mjs). By AI agents, Wed Nov 11 2026. No macro, syntax, notation, axiom, sorry.
-/
import Derived.Test.YtopmpdoigmenmaaDoorRows
import GoSem.ClaimSeven
namespace Go.Proofs.YtopmpdoigmenmaaDoor
namespace Rows

/-- THE TIED CARD OF 'stanzakeeplaw24.SchemaBreaks'. -/
def schemaBreaksCard : Claim7 := { stood := { row := schemaBreaksRow, standIns := [], harness := (true, "b7c7971957007672e14f2d5223b179a2c497b679f3acd2898ad0095f36834479"), looks := true }, kinds := [], alts := [], laidByText := true, laidKinds := [.data, .data, .data, .data, .sentinel, .sentinel, .pinned], laidTests := true, laidLooks := .later }
def SchemaBreaksCardSaid : Prop := Claim7.holds Tryd.pinned (.plain (OpenSpec.ofChange schemaBreaksSpec)) schemaBreaksCard

/-- THE SECOND FORM's CARD OF 'stanzakeeplaw24.SchemaBreaks'. -/
def schemaBreaksUptoCard : Claim7 := { stood := { row := schemaBreaksUptoRow, standIns := [], harness := (true, "b7c7971957007672e14f2d5223b179a2c497b679f3acd2898ad0095f36834479"), looks := true }, kinds := [], alts := [], laidByText := true, laidKinds := [.data, .data, .data, .data, .sentinel, .sentinel, .pinned], laidTests := true, laidLooks := .later }
def SchemaBreaksUptoCardSaid : Prop := Claim7.holds Tryd.pinned (.plain (OpenSpec.upto schemaBreaksSpec)) schemaBreaksUptoCard
end Rows
end Go.Proofs.YtopmpdoigmenmaaDoor
