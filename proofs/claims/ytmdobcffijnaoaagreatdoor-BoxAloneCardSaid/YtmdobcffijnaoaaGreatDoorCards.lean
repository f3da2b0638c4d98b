/-
  DERIVED. GIVEN WITH THE SEED: THE CARDS: each row of YtmdobcffijnaoaaGreatDoorRows.lean that lists a variable, with what it lists TIED to the program's text (the seventh form; the later family's looks); each row that meets fmt, with fmt's text TOLD by the authors' own Lean function (tested against real Go, not proved from fmt's source: count such statements apart). THE CARD IS WHAT COUNTS. Prove the row's statement (the work); the ties are given (YtmdobcffijnaoaaGreatDoorTie.lean); close each card by the builder's one call (the guide's Derived/Test/ToyasCard.lean, 'card_holds'). Laid BY PROGRAM, IN A SANDBOX (cutbox-door.mjs). By AI agents, Wed Nov 11 2026. No macro, syntax, notation, axiom, sorry.
-/
import Derived.Test.YtmdobcffijnaoaaGreatDoorRows
import GoSem.ClaimSeven
namespace Go.Proofs.YtmdobcffijnaoaaGreatDoor
namespace Rows

/-- THE TIED CARD OF 'kinlaw24.BoxFrames'. -/
def boxFramesCard : Claim7 := { stood := { row := boxFramesRow, standIns := [], harness := (true, "451cc3d223941e86d4806eb34ebca9e5d0ac177ac87f1aba13bf4212ec65fb47"), looks := true }, kinds := [], alts := [], laidByText := true, laidKinds := [.handle], laidTests := true, laidLooks := .later }
def BoxFramesCardSaid : Prop := Claim7.holds Tryz.pinned (.plain (OpenSpec.ofChange boxFramesSpec)) boxFramesCard

/-- THE TIED CARD OF 'kinlaw24.BoxAlone'. -/
def boxAloneCard : Claim7 := { stood := { row := boxAloneRow, standIns := [], harness := (true, "451cc3d223941e86d4806eb34ebca9e5d0ac177ac87f1aba13bf4212ec65fb47"), looks := true }, kinds := [], alts := [], laidByText := true, laidKinds := [.handle], laidTests := true, laidLooks := .later }
def BoxAloneCardSaid : Prop := Claim7.holds Tryz.pinned (.plain (OpenSpec.ofChange boxAloneSpec)) boxAloneCard

/-- THE SECOND FORM's CARD OF 'kinlaw24.BoxFrames'. -/
def boxFramesUptoCard : Claim7 := { stood := { row := boxFramesUptoRow, standIns := [], harness := (true, "451cc3d223941e86d4806eb34ebca9e5d0ac177ac87f1aba13bf4212ec65fb47"), looks := true }, kinds := [], alts := [], laidByText := true, laidKinds := [.handle], laidTests := true, laidLooks := .later }
def BoxFramesUptoCardSaid : Prop := Claim7.holds Tryz.pinned (.plain (OpenSpec.upto boxFramesSpec)) boxFramesUptoCard

/-- THE SECOND FORM's CARD OF 'kinlaw24.BoxAlone'. -/
def boxAloneUptoCard : Claim7 := { stood := { row := boxAloneUptoRow, standIns := [], harness := (true, "451cc3d223941e86d4806eb34ebca9e5d0ac177ac87f1aba13bf4212ec65fb47"), looks := true }, kinds := [], alts := [], laidByText := true, laidKinds := [.handle], laidTests := true, laidLooks := .later }
def BoxAloneUptoCardSaid : Prop := Claim7.holds Tryz.pinned (.plain (OpenSpec.upto boxAloneSpec)) boxAloneUptoCard
end Rows
end Go.Proofs.YtmdobcffijnaoaaGreatDoor
