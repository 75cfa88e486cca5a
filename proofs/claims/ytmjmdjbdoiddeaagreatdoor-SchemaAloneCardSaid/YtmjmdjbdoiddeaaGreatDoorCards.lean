/-
  DERIVED. GIVEN WITH THE SEED: THE CARDS: each row of YtmjmdjbdoiddeaaGreatDoorRows.lean that lists a variable, with what it lists TIED to the program's text (the seventh form; the later family's looks); each row that meets fmt, with fmt's text TOLD by the authors' own Lean function (tested against real Go, not proved from fmt's source: count such statements apart). THE CARD IS WHAT COUNTS. Prove the row's statement (the work); the ties are given (YtmjmdjbdoiddeaaGreatDoorTie.lean); close each card by the builder's one call (the guide's Derived/Test/ToyasCard.lean, 'card_holds'). Laid BY PROGRAM, IN A SANDBOX (cutbox-door.mjs). By AI agents, Wed Nov 11 2026. No macro, syntax, notation, axiom, sorry.
-/
import Derived.Test.YtmjmdjbdoiddeaaGreatDoorRows
import GoSem.ClaimSeven
namespace Go.Proofs.YtmjmdjbdoiddeaaGreatDoor
namespace Rows

/-- THE TIED CARD OF 'stanzakeeplaw24.SchemaFlaws'. -/
def schemaFlawsCard : Claim7 := { stood := { row := schemaFlawsRow, standIns := [], harness := (true, "78d71330c294628539f3d12e61f6e41a1e4a4798b2efc85a196a5a3ba289ec91"), looks := true }, kinds := [], alts := [], laidByText := true, laidKinds := [.data, .data, .data, .data, .sentinel, .sentinel, .pinned], laidTests := true, laidLooks := .later }
def SchemaFlawsCardSaid : Prop := Claim7.holds Tryz.pinned (.plain (OpenSpec.ofChange schemaFlawsSpec)) schemaFlawsCard

/-- THE TIED CARD OF 'stanzakeeplaw24.SchemaAlone'. -/
def schemaAloneCard : Claim7 := { stood := { row := schemaAloneRow, standIns := [], harness := (true, "78d71330c294628539f3d12e61f6e41a1e4a4798b2efc85a196a5a3ba289ec91"), looks := true }, kinds := [], alts := [], laidByText := true, laidKinds := [.data, .data, .data, .data, .sentinel, .sentinel, .pinned], laidTests := true, laidLooks := .later }
def SchemaAloneCardSaid : Prop := Claim7.holds Tryz.pinned (.plain (OpenSpec.ofChange schemaAloneSpec)) schemaAloneCard

/-- THE SECOND FORM's CARD OF 'stanzakeeplaw24.SchemaFlaws'. -/
def schemaFlawsUptoCard : Claim7 := { stood := { row := schemaFlawsUptoRow, standIns := [], harness := (true, "78d71330c294628539f3d12e61f6e41a1e4a4798b2efc85a196a5a3ba289ec91"), looks := true }, kinds := [], alts := [], laidByText := true, laidKinds := [.data, .data, .data, .data, .sentinel, .sentinel, .pinned], laidTests := true, laidLooks := .later }
def SchemaFlawsUptoCardSaid : Prop := Claim7.holds Tryz.pinned (.plain (OpenSpec.upto schemaFlawsSpec)) schemaFlawsUptoCard

/-- THE SECOND FORM's CARD OF 'stanzakeeplaw24.SchemaAlone'. -/
def schemaAloneUptoCard : Claim7 := { stood := { row := schemaAloneUptoRow, standIns := [], harness := (true, "78d71330c294628539f3d12e61f6e41a1e4a4798b2efc85a196a5a3ba289ec91"), looks := true }, kinds := [], alts := [], laidByText := true, laidKinds := [.data, .data, .data, .data, .sentinel, .sentinel, .pinned], laidTests := true, laidLooks := .later }
def SchemaAloneUptoCardSaid : Prop := Claim7.holds Tryz.pinned (.plain (OpenSpec.upto schemaAloneSpec)) schemaAloneUptoCard
end Rows
end Go.Proofs.YtmjmdjbdoiddeaaGreatDoor
