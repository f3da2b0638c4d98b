/-
  DERIVED. GIVEN WITH THE SEED: THE CARDS: each row of YthcafdfdglfabaaGreatDoorRows.lean that lists a variable, with what it lists TIED to the program's text (the seventh form; the later family's looks); each row that meets fmt, with fmt's text TOLD by the authors' own Lean function (tested against real Go, not proved from fmt's source: count such statements apart). THE CARD IS WHAT COUNTS. Prove the row's statement (the work); the ties are given (YthcafdfdglfabaaGreatDoorTie.lean); close each card by the builder's one call (the guide's Derived/Test/ToyasCard.lean, 'card_holds'). Laid BY PROGRAM, IN A SANDBOX (cutbox-door.mjs). By AI agents, Wed Nov 11 2026. No macro, syntax, notation, axiom, sorry.
-/
import Derived.Test.YthcafdfdglfabaaGreatDoorRows
import GoSem.ClaimSeven
namespace Go.Proofs.YthcafdfdglfabaaGreatDoor
namespace Rows

/-- THE TIED CARD OF 'kinlaw22.EncodeFrames'. -/
def encodeFramesCard : Claim7 := { stood := { row := encodeFramesRow, standIns := [], harness := (true, "afaa0f2a573b84851c9288b6cd0b6d4a078d72e989936113a1ed3edaa071b813"), looks := true }, kinds := [], alts := [], laidByText := true, laidKinds := [.handle], laidTests := true, laidLooks := .later }
def EncodeFramesCardSaid : Prop := Claim7.holds Tryz.pinned (.plain (OpenSpec.ofChange encodeFramesSpec)) encodeFramesCard

/-- THE TIED CARD OF 'kinlaw22.EncodeFits'. -/
def encodeFitsCard : Claim7 := { stood := { row := encodeFitsRow, standIns := [], harness := (true, "afaa0f2a573b84851c9288b6cd0b6d4a078d72e989936113a1ed3edaa071b813"), looks := true }, kinds := [], alts := [], laidByText := true, laidKinds := [.handle], laidTests := true, laidLooks := .later }
def EncodeFitsCardSaid : Prop := Claim7.holds Tryz.pinned (.plain (OpenSpec.ofChange encodeFitsSpec)) encodeFitsCard

/-- THE TIED CARD OF 'kinlaw23.GopEncodes'. -/
def gopEncodesCard : Claim7 := { stood := { row := gopEncodesRow, standIns := [], harness := (true, "afaa0f2a573b84851c9288b6cd0b6d4a078d72e989936113a1ed3edaa071b813"), looks := true }, kinds := [], alts := [], laidByText := true, laidKinds := [.handle], laidTests := true, laidLooks := .later }
def GopEncodesCardSaid : Prop := Claim7.holds Tryz.pinned (.plain (OpenSpec.ofChange gopEncodesSpec)) gopEncodesCard

/-- THE SECOND FORM's CARD OF 'kinlaw22.EncodeFrames'. -/
def encodeFramesUptoCard : Claim7 := { stood := { row := encodeFramesUptoRow, standIns := [], harness := (true, "afaa0f2a573b84851c9288b6cd0b6d4a078d72e989936113a1ed3edaa071b813"), looks := true }, kinds := [], alts := [], laidByText := true, laidKinds := [.handle], laidTests := true, laidLooks := .later }
def EncodeFramesUptoCardSaid : Prop := Claim7.holds Tryz.pinned (.plain (OpenSpec.upto encodeFramesSpec)) encodeFramesUptoCard

/-- THE SECOND FORM's CARD OF 'kinlaw22.EncodeFits'. -/
def encodeFitsUptoCard : Claim7 := { stood := { row := encodeFitsUptoRow, standIns := [], harness := (true, "afaa0f2a573b84851c9288b6cd0b6d4a078d72e989936113a1ed3edaa071b813"), looks := true }, kinds := [], alts := [], laidByText := true, laidKinds := [.handle], laidTests := true, laidLooks := .later }
def EncodeFitsUptoCardSaid : Prop := Claim7.holds Tryz.pinned (.plain (OpenSpec.upto encodeFitsSpec)) encodeFitsUptoCard

/-- THE SECOND FORM's CARD OF 'kinlaw23.GopEncodes'. -/
def gopEncodesUptoCard : Claim7 := { stood := { row := gopEncodesUptoRow, standIns := [], harness := (true, "afaa0f2a573b84851c9288b6cd0b6d4a078d72e989936113a1ed3edaa071b813"), looks := true }, kinds := [], alts := [], laidByText := true, laidKinds := [.handle], laidTests := true, laidLooks := .later }
def GopEncodesUptoCardSaid : Prop := Claim7.holds Tryz.pinned (.plain (OpenSpec.upto gopEncodesSpec)) gopEncodesUptoCard
end Rows
end Go.Proofs.YthcafdfdglfabaaGreatDoor
