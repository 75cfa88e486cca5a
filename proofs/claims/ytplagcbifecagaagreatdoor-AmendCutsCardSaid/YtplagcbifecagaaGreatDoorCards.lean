/-
  DERIVED. GIVEN WITH THE SEED: THE CARDS: each row of YtplagcbifecagaaGreatDoorRows.lean that lists a variable, with what it lists TIED to the program's text (the seventh form; the later family's looks); each row that meets fmt, with fmt's text TOLD by the authors' own Lean function (tested against real Go, not proved from fmt's source: count such statements apart). THE CARD IS WHAT COUNTS. Prove the row's statement (the work); the ties are given (YtplagcbifecagaaGreatDoorTie.lean); close each card by the builder's one call (the guide's Derived/Test/ToyasCard.lean, 'card_holds'). Laid BY PROGRAM, IN A SANDBOX (cutbox-door.mjs). By AI agents, Wed Nov 11 2026. No macro, syntax, notation, axiom, sorry.
-/
import Derived.Test.YtplagcbifecagaaGreatDoorRows
import GoSem.ClaimSeven
namespace Go.Proofs.YtplagcbifecagaaGreatDoor
namespace Rows

/-- THE TIED CARD OF 'stanzakeeplaw10.AmendDecodes'. -/
def amendDecodesCard : Claim7 := { stood := { row := amendDecodesRow, standIns := [], harness := (true, "47430414b72888e713e17469644ab22900ebc8095515dcae863174a797db795c"), looks := true }, kinds := [], alts := [], laidByText := true, laidKinds := [.data, .data, .data, .data, .handle, .sentinel, .sentinel, .pinned], laidTests := true, laidLooks := .later }
def AmendDecodesCardSaid : Prop := Claim7.holds Tryz.pinned (.plain (OpenSpec.ofChange amendDecodesSpec)) amendDecodesCard

/-- THE TIED CARD OF 'stanzakeeplaw10.AmendEncodes'. -/
def amendEncodesCard : Claim7 := { stood := { row := amendEncodesRow, standIns := [], harness := (true, "47430414b72888e713e17469644ab22900ebc8095515dcae863174a797db795c"), looks := true }, kinds := [], alts := [], laidByText := true, laidKinds := [.data, .data, .data, .data, .handle, .sentinel, .sentinel, .pinned], laidTests := true, laidLooks := .later }
def AmendEncodesCardSaid : Prop := Claim7.holds Tryz.pinned (.plain (OpenSpec.ofChange amendEncodesSpec)) amendEncodesCard

/-- THE TIED CARD OF 'stanzakeeplaw10.AmendLines'. -/
def amendLinesCard : Claim7 := { stood := { row := amendLinesRow, standIns := [], harness := (true, "47430414b72888e713e17469644ab22900ebc8095515dcae863174a797db795c"), looks := true }, kinds := [], alts := [], laidByText := true, laidKinds := [.data, .data, .data, .data, .handle, .sentinel, .sentinel, .pinned], laidTests := true, laidLooks := .later }
def AmendLinesCardSaid : Prop := Claim7.holds Tryz.pinned (.plain (OpenSpec.ofChange amendLinesSpec)) amendLinesCard

/-- THE TIED CARD OF 'stanzakeeplaw11.FrameAmends'. -/
def frameAmendsCard : Claim7 := { stood := { row := frameAmendsRow, standIns := [], harness := (true, "47430414b72888e713e17469644ab22900ebc8095515dcae863174a797db795c"), looks := true }, kinds := [], alts := [], laidByText := true, laidKinds := [.data, .data, .data, .data, .handle, .sentinel, .sentinel, .pinned], laidTests := true, laidLooks := .later }
def FrameAmendsCardSaid : Prop := Claim7.holds Tryz.pinned (.plain (OpenSpec.ofChange frameAmendsSpec)) frameAmendsCard

/-- THE TIED CARD OF 'stanzakeeplaw10.AmendCuts'. -/
def amendCutsCard : Claim7 := { stood := { row := amendCutsRow, standIns := [], harness := (true, "47430414b72888e713e17469644ab22900ebc8095515dcae863174a797db795c"), looks := true }, kinds := [], alts := [], laidByText := true, laidKinds := [.data, .data, .data, .data, .handle, .sentinel, .sentinel, .pinned], laidTests := true, laidLooks := .later }
def AmendCutsCardSaid : Prop := Claim7.holds Tryz.pinned (.plain (OpenSpec.ofChange amendCutsSpec)) amendCutsCard

/-- THE SECOND FORM's CARD OF 'stanzakeeplaw10.AmendDecodes'. -/
def amendDecodesUptoCard : Claim7 := { stood := { row := amendDecodesUptoRow, standIns := [], harness := (true, "47430414b72888e713e17469644ab22900ebc8095515dcae863174a797db795c"), looks := true }, kinds := [], alts := [], laidByText := true, laidKinds := [.data, .data, .data, .data, .handle, .sentinel, .sentinel, .pinned], laidTests := true, laidLooks := .later }
def AmendDecodesUptoCardSaid : Prop := Claim7.holds Tryz.pinned (.plain (OpenSpec.upto amendDecodesSpec)) amendDecodesUptoCard

/-- THE SECOND FORM's CARD OF 'stanzakeeplaw10.AmendEncodes'. -/
def amendEncodesUptoCard : Claim7 := { stood := { row := amendEncodesUptoRow, standIns := [], harness := (true, "47430414b72888e713e17469644ab22900ebc8095515dcae863174a797db795c"), looks := true }, kinds := [], alts := [], laidByText := true, laidKinds := [.data, .data, .data, .data, .handle, .sentinel, .sentinel, .pinned], laidTests := true, laidLooks := .later }
def AmendEncodesUptoCardSaid : Prop := Claim7.holds Tryz.pinned (.plain (OpenSpec.upto amendEncodesSpec)) amendEncodesUptoCard

/-- THE SECOND FORM's CARD OF 'stanzakeeplaw10.AmendLines'. -/
def amendLinesUptoCard : Claim7 := { stood := { row := amendLinesUptoRow, standIns := [], harness := (true, "47430414b72888e713e17469644ab22900ebc8095515dcae863174a797db795c"), looks := true }, kinds := [], alts := [], laidByText := true, laidKinds := [.data, .data, .data, .data, .handle, .sentinel, .sentinel, .pinned], laidTests := true, laidLooks := .later }
def AmendLinesUptoCardSaid : Prop := Claim7.holds Tryz.pinned (.plain (OpenSpec.upto amendLinesSpec)) amendLinesUptoCard

/-- THE SECOND FORM's CARD OF 'stanzakeeplaw11.FrameAmends'. -/
def frameAmendsUptoCard : Claim7 := { stood := { row := frameAmendsUptoRow, standIns := [], harness := (true, "47430414b72888e713e17469644ab22900ebc8095515dcae863174a797db795c"), looks := true }, kinds := [], alts := [], laidByText := true, laidKinds := [.data, .data, .data, .data, .handle, .sentinel, .sentinel, .pinned], laidTests := true, laidLooks := .later }
def FrameAmendsUptoCardSaid : Prop := Claim7.holds Tryz.pinned (.plain (OpenSpec.upto frameAmendsSpec)) frameAmendsUptoCard

/-- THE SECOND FORM's CARD OF 'stanzakeeplaw10.AmendCuts'. -/
def amendCutsUptoCard : Claim7 := { stood := { row := amendCutsUptoRow, standIns := [], harness := (true, "47430414b72888e713e17469644ab22900ebc8095515dcae863174a797db795c"), looks := true }, kinds := [], alts := [], laidByText := true, laidKinds := [.data, .data, .data, .data, .handle, .sentinel, .sentinel, .pinned], laidTests := true, laidLooks := .later }
def AmendCutsUptoCardSaid : Prop := Claim7.holds Tryz.pinned (.plain (OpenSpec.upto amendCutsSpec)) amendCutsUptoCard
end Rows
end Go.Proofs.YtplagcbifecagaaGreatDoor
