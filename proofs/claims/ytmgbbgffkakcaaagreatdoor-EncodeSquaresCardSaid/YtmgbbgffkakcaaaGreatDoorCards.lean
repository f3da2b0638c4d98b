/-
  DERIVED. GIVEN WITH THE SEED: THE CARDS: each row of YtmgbbgffkakcaaaGreatDoorRows.lean that lists a variable, with what it lists TIED to the program's text (the seventh form; the later family's looks); each row that meets fmt, with fmt's text TOLD by the authors' own Lean function (tested against real Go, not proved from fmt's source: count such statements apart). THE CARD IS WHAT COUNTS. Prove the row's statement (the work); the ties are given (YtmgbbgffkakcaaaGreatDoorTie.lean); close each card by the builder's one call (the guide's Derived/Test/ToyasCard.lean, 'card_holds'). Laid BY PROGRAM, IN A SANDBOX (cutbox-door.mjs). By AI agents, Wed Nov 11 2026. No macro, syntax, notation, axiom, sorry.
-/
import Derived.Test.YtmgbbgffkakcaaaGreatDoorRows
import GoSem.ClaimSeven
namespace Go.Proofs.YtmgbbgffkakcaaaGreatDoor
namespace Rows

/-- THE TIED CARD OF 'kinlaw22.EncodeFrames'. -/
def encodeFramesCard : Claim7 := { stood := { row := encodeFramesRow, standIns := [], harness := (true, "0d2ab75f09796f2d89a10b10e7c6105d9d5749e7e8d9a85e4175bb587b8513bb"), looks := true }, kinds := [], alts := [], laidByText := true, laidKinds := [.handle], laidTests := true, laidLooks := .later }
def EncodeFramesCardSaid : Prop := Claim7.holds Tryz.pinned (.plain (OpenSpec.ofChange encodeFramesSpec)) encodeFramesCard

/-- THE TIED CARD OF 'kinlaw22.EncodeFits'. -/
def encodeFitsCard : Claim7 := { stood := { row := encodeFitsRow, standIns := [], harness := (true, "0d2ab75f09796f2d89a10b10e7c6105d9d5749e7e8d9a85e4175bb587b8513bb"), looks := true }, kinds := [], alts := [], laidByText := true, laidKinds := [.handle], laidTests := true, laidLooks := .later }
def EncodeFitsCardSaid : Prop := Claim7.holds Tryz.pinned (.plain (OpenSpec.ofChange encodeFitsSpec)) encodeFitsCard

/-- THE TIED CARD OF 'kinlaw22.EncodeCosts'. -/
def encodeCostsCard : Claim7 := { stood := { row := encodeCostsRow, standIns := [], harness := (true, "0d2ab75f09796f2d89a10b10e7c6105d9d5749e7e8d9a85e4175bb587b8513bb"), looks := true }, kinds := [], alts := [], laidByText := true, laidKinds := [.handle], laidTests := true, laidLooks := .later }
def EncodeCostsCardSaid : Prop := Claim7.holds Tryz.pinned (.plain (OpenSpec.ofChange encodeCostsSpec)) encodeCostsCard

/-- THE TIED CARD OF 'kinlaw22.EncodeStill'. -/
def encodeStillCard : Claim7 := { stood := { row := encodeStillRow, standIns := [], harness := (true, "0d2ab75f09796f2d89a10b10e7c6105d9d5749e7e8d9a85e4175bb587b8513bb"), looks := true }, kinds := [], alts := [], laidByText := true, laidKinds := [.handle], laidTests := true, laidLooks := .later }
def EncodeStillCardSaid : Prop := Claim7.holds Tryz.pinned (.plain (OpenSpec.ofChange encodeStillSpec)) encodeStillCard

/-- THE TIED CARD OF 'kinlaw22.EncodeKeys'. -/
def encodeKeysCard : Claim7 := { stood := { row := encodeKeysRow, standIns := [], harness := (true, "0d2ab75f09796f2d89a10b10e7c6105d9d5749e7e8d9a85e4175bb587b8513bb"), looks := true }, kinds := [], alts := [], laidByText := true, laidKinds := [.handle], laidTests := true, laidLooks := .later }
def EncodeKeysCardSaid : Prop := Claim7.holds Tryz.pinned (.plain (OpenSpec.ofChange encodeKeysSpec)) encodeKeysCard

/-- THE TIED CARD OF 'kinlaw22.EncodeSquares'. -/
def encodeSquaresCard : Claim7 := { stood := { row := encodeSquaresRow, standIns := [], harness := (true, "0d2ab75f09796f2d89a10b10e7c6105d9d5749e7e8d9a85e4175bb587b8513bb"), looks := true }, kinds := [], alts := [], laidByText := true, laidKinds := [.handle], laidTests := true, laidLooks := .later }
def EncodeSquaresCardSaid : Prop := Claim7.holds Tryz.pinned (.plain (OpenSpec.ofChange encodeSquaresSpec)) encodeSquaresCard

/-- THE TIED CARD OF 'kinlaw22.EncodePeaks'. -/
def encodePeaksCard : Claim7 := { stood := { row := encodePeaksRow, standIns := [], harness := (true, "0d2ab75f09796f2d89a10b10e7c6105d9d5749e7e8d9a85e4175bb587b8513bb"), looks := true }, kinds := [], alts := [], laidByText := true, laidKinds := [.handle], laidTests := true, laidLooks := .later }
def EncodePeaksCardSaid : Prop := Claim7.holds Tryz.pinned (.plain (OpenSpec.ofChange encodePeaksSpec)) encodePeaksCard

/-- THE TIED CARD OF 'kinlaw22.EncodeDrifts'. -/
def encodeDriftsCard : Claim7 := { stood := { row := encodeDriftsRow, standIns := [], harness := (true, "0d2ab75f09796f2d89a10b10e7c6105d9d5749e7e8d9a85e4175bb587b8513bb"), looks := true }, kinds := [], alts := [], laidByText := true, laidKinds := [.handle], laidTests := true, laidLooks := .later }
def EncodeDriftsCardSaid : Prop := Claim7.holds Tryz.pinned (.plain (OpenSpec.ofChange encodeDriftsSpec)) encodeDriftsCard

/-- THE SECOND FORM's CARD OF 'kinlaw22.EncodeFrames'. -/
def encodeFramesUptoCard : Claim7 := { stood := { row := encodeFramesUptoRow, standIns := [], harness := (true, "0d2ab75f09796f2d89a10b10e7c6105d9d5749e7e8d9a85e4175bb587b8513bb"), looks := true }, kinds := [], alts := [], laidByText := true, laidKinds := [.handle], laidTests := true, laidLooks := .later }
def EncodeFramesUptoCardSaid : Prop := Claim7.holds Tryz.pinned (.plain (OpenSpec.upto encodeFramesSpec)) encodeFramesUptoCard

/-- THE SECOND FORM's CARD OF 'kinlaw22.EncodeFits'. -/
def encodeFitsUptoCard : Claim7 := { stood := { row := encodeFitsUptoRow, standIns := [], harness := (true, "0d2ab75f09796f2d89a10b10e7c6105d9d5749e7e8d9a85e4175bb587b8513bb"), looks := true }, kinds := [], alts := [], laidByText := true, laidKinds := [.handle], laidTests := true, laidLooks := .later }
def EncodeFitsUptoCardSaid : Prop := Claim7.holds Tryz.pinned (.plain (OpenSpec.upto encodeFitsSpec)) encodeFitsUptoCard

/-- THE SECOND FORM's CARD OF 'kinlaw22.EncodeCosts'. -/
def encodeCostsUptoCard : Claim7 := { stood := { row := encodeCostsUptoRow, standIns := [], harness := (true, "0d2ab75f09796f2d89a10b10e7c6105d9d5749e7e8d9a85e4175bb587b8513bb"), looks := true }, kinds := [], alts := [], laidByText := true, laidKinds := [.handle], laidTests := true, laidLooks := .later }
def EncodeCostsUptoCardSaid : Prop := Claim7.holds Tryz.pinned (.plain (OpenSpec.upto encodeCostsSpec)) encodeCostsUptoCard

/-- THE SECOND FORM's CARD OF 'kinlaw22.EncodeStill'. -/
def encodeStillUptoCard : Claim7 := { stood := { row := encodeStillUptoRow, standIns := [], harness := (true, "0d2ab75f09796f2d89a10b10e7c6105d9d5749e7e8d9a85e4175bb587b8513bb"), looks := true }, kinds := [], alts := [], laidByText := true, laidKinds := [.handle], laidTests := true, laidLooks := .later }
def EncodeStillUptoCardSaid : Prop := Claim7.holds Tryz.pinned (.plain (OpenSpec.upto encodeStillSpec)) encodeStillUptoCard

/-- THE SECOND FORM's CARD OF 'kinlaw22.EncodeKeys'. -/
def encodeKeysUptoCard : Claim7 := { stood := { row := encodeKeysUptoRow, standIns := [], harness := (true, "0d2ab75f09796f2d89a10b10e7c6105d9d5749e7e8d9a85e4175bb587b8513bb"), looks := true }, kinds := [], alts := [], laidByText := true, laidKinds := [.handle], laidTests := true, laidLooks := .later }
def EncodeKeysUptoCardSaid : Prop := Claim7.holds Tryz.pinned (.plain (OpenSpec.upto encodeKeysSpec)) encodeKeysUptoCard

/-- THE SECOND FORM's CARD OF 'kinlaw22.EncodeSquares'. -/
def encodeSquaresUptoCard : Claim7 := { stood := { row := encodeSquaresUptoRow, standIns := [], harness := (true, "0d2ab75f09796f2d89a10b10e7c6105d9d5749e7e8d9a85e4175bb587b8513bb"), looks := true }, kinds := [], alts := [], laidByText := true, laidKinds := [.handle], laidTests := true, laidLooks := .later }
def EncodeSquaresUptoCardSaid : Prop := Claim7.holds Tryz.pinned (.plain (OpenSpec.upto encodeSquaresSpec)) encodeSquaresUptoCard

/-- THE SECOND FORM's CARD OF 'kinlaw22.EncodePeaks'. -/
def encodePeaksUptoCard : Claim7 := { stood := { row := encodePeaksUptoRow, standIns := [], harness := (true, "0d2ab75f09796f2d89a10b10e7c6105d9d5749e7e8d9a85e4175bb587b8513bb"), looks := true }, kinds := [], alts := [], laidByText := true, laidKinds := [.handle], laidTests := true, laidLooks := .later }
def EncodePeaksUptoCardSaid : Prop := Claim7.holds Tryz.pinned (.plain (OpenSpec.upto encodePeaksSpec)) encodePeaksUptoCard

/-- THE SECOND FORM's CARD OF 'kinlaw22.EncodeDrifts'. -/
def encodeDriftsUptoCard : Claim7 := { stood := { row := encodeDriftsUptoRow, standIns := [], harness := (true, "0d2ab75f09796f2d89a10b10e7c6105d9d5749e7e8d9a85e4175bb587b8513bb"), looks := true }, kinds := [], alts := [], laidByText := true, laidKinds := [.handle], laidTests := true, laidLooks := .later }
def EncodeDriftsUptoCardSaid : Prop := Claim7.holds Tryz.pinned (.plain (OpenSpec.upto encodeDriftsSpec)) encodeDriftsUptoCard
end Rows
end Go.Proofs.YtmgbbgffkakcaaaGreatDoor
