/-
  DERIVED. GIVEN WITH THE SEED: THE CARDS: each row of YtapblfabkbdgcaaGreatDoorRows.lean that lists a variable, with what it lists TIED to the program's text (the seventh form; the later family's looks); each row that meets fmt, with fmt's text TOLD by the authors' own Lean function (tested against real Go, not proved from fmt's source: count such statements apart). THE CARD IS WHAT COUNTS. Prove the row's statement (the work); the ties are given (YtapblfabkbdgcaaGreatDoorTie.lean); close each card by the builder's one call (the guide's Derived/Test/ToyasCard.lean, 'card_holds'). Laid BY PROGRAM, IN A SANDBOX (cutbox-door.mjs). By AI agents, Wed Nov 11 2026. No macro, syntax, notation, axiom, sorry.
-/
import Derived.Test.YtapblfabkbdgcaaGreatDoorRows
import GoSem.ClaimSeven
namespace Go.Proofs.YtapblfabkbdgcaaGreatDoor
namespace Rows

/-- THE TIED CARD OF 'stanzakeeplaw31.PatchApplies'. -/
def patchAppliesCard : Claim7 := { stood := { row := patchAppliesRow, standIns := [], harness := (true, "a1429c0067a9ae1a9122df1d75c52550cb851398b013450fd1e102c57fb8ba96"), looks := true }, kinds := [], alts := [], laidByText := true, laidKinds := [.data, .handle, .pinned], laidTests := true, laidLooks := .later }
def PatchAppliesCardSaid : Prop := Claim7.holds Tryz.pinned (.plain (OpenSpec.ofChange patchAppliesSpec)) patchAppliesCard

/-- THE TIED CARD OF 'stanzakeeplaw31.PatchPrints'. -/
def patchPrintsCard : Claim7 := { stood := { row := patchPrintsRow, standIns := [], harness := (true, "a1429c0067a9ae1a9122df1d75c52550cb851398b013450fd1e102c57fb8ba96"), looks := true }, kinds := [], alts := [], laidByText := true, laidKinds := [.data, .data, .data, .data, .handle, .sentinel, .sentinel, .pinned], laidTests := true, laidLooks := .later }
def PatchPrintsCardSaid : Prop := Claim7.holds Tryz.pinned (.plain (OpenSpec.ofChange patchPrintsSpec)) patchPrintsCard

/-- THE TIED CARD OF 'stanzakeeplaw31.PatchParses'. -/
def patchParsesCard : Claim7 := { stood := { row := patchParsesRow, standIns := [], harness := (true, "a1429c0067a9ae1a9122df1d75c52550cb851398b013450fd1e102c57fb8ba96"), looks := true }, kinds := [], alts := [], laidByText := true, laidKinds := [.data, .data, .data, .data, .handle, .sentinel, .sentinel, .pinned], laidTests := true, laidLooks := .later }
def PatchParsesCardSaid : Prop := Claim7.holds Tryz.pinned (.plain (OpenSpec.ofChange patchParsesSpec)) patchParsesCard

/-- THE SECOND FORM's CARD OF 'stanzakeeplaw31.PatchApplies'. -/
def patchAppliesUptoCard : Claim7 := { stood := { row := patchAppliesUptoRow, standIns := [], harness := (true, "a1429c0067a9ae1a9122df1d75c52550cb851398b013450fd1e102c57fb8ba96"), looks := true }, kinds := [], alts := [], laidByText := true, laidKinds := [.data, .handle, .pinned], laidTests := true, laidLooks := .later }
def PatchAppliesUptoCardSaid : Prop := Claim7.holds Tryz.pinned (.plain (OpenSpec.upto patchAppliesSpec)) patchAppliesUptoCard

/-- THE SECOND FORM's CARD OF 'stanzakeeplaw31.PatchPrints'. -/
def patchPrintsUptoCard : Claim7 := { stood := { row := patchPrintsUptoRow, standIns := [], harness := (true, "a1429c0067a9ae1a9122df1d75c52550cb851398b013450fd1e102c57fb8ba96"), looks := true }, kinds := [], alts := [], laidByText := true, laidKinds := [.data, .data, .data, .data, .handle, .sentinel, .sentinel, .pinned], laidTests := true, laidLooks := .later }
def PatchPrintsUptoCardSaid : Prop := Claim7.holds Tryz.pinned (.plain (OpenSpec.upto patchPrintsSpec)) patchPrintsUptoCard

/-- THE SECOND FORM's CARD OF 'stanzakeeplaw31.PatchParses'. -/
def patchParsesUptoCard : Claim7 := { stood := { row := patchParsesUptoRow, standIns := [], harness := (true, "a1429c0067a9ae1a9122df1d75c52550cb851398b013450fd1e102c57fb8ba96"), looks := true }, kinds := [], alts := [], laidByText := true, laidKinds := [.data, .data, .data, .data, .handle, .sentinel, .sentinel, .pinned], laidTests := true, laidLooks := .later }
def PatchParsesUptoCardSaid : Prop := Claim7.holds Tryz.pinned (.plain (OpenSpec.upto patchParsesSpec)) patchParsesUptoCard
end Rows
end Go.Proofs.YtapblfabkbdgcaaGreatDoor
