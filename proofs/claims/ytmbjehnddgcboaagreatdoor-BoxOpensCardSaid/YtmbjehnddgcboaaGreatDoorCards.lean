/-
  DERIVED. GIVEN WITH THE SEED: THE CARDS: each row of YtmbjehnddgcboaaGreatDoorRows.lean that lists a variable, with what it lists TIED to the program's text (the seventh form; the later family's looks); each row that meets fmt, with fmt's text TOLD by the authors' own Lean function (tested against real Go, not proved from fmt's source: count such statements apart). THE CARD IS WHAT COUNTS. Prove the row's statement (the work); the ties are given (YtmbjehnddgcboaaGreatDoorTie.lean); close each card by the builder's one call (the guide's Derived/Test/ToyasCard.lean, 'card_holds'). Laid BY PROGRAM, IN A SANDBOX (cutbox-door.mjs). By AI agents, Wed Nov 11 2026. No macro, syntax, notation, axiom, sorry.
-/
import Derived.Test.YtmbjehnddgcboaaGreatDoorRows
import GoSem.ClaimSeven
namespace Go.Proofs.YtmbjehnddgcboaaGreatDoor
namespace Rows

/-- THE TIED CARD OF 'kinlaw24.BoxOpens'. -/
def boxOpensCard : Claim7 := { stood := { row := boxOpensRow, standIns := [], harness := (true, "3bdd7165cec58042e75a0bd931e68917c4dffc89a55969aa7d8306d029bdc916"), looks := true }, kinds := [], alts := [], laidByText := true, laidKinds := [.handle], laidTests := true, laidLooks := .later }
def BoxOpensCardSaid : Prop := Claim7.holds Tryz.pinned (.plain (OpenSpec.ofChange boxOpensSpec)) boxOpensCard

/-- THE SECOND FORM's CARD OF 'kinlaw24.BoxOpens'. -/
def boxOpensUptoCard : Claim7 := { stood := { row := boxOpensUptoRow, standIns := [], harness := (true, "3bdd7165cec58042e75a0bd931e68917c4dffc89a55969aa7d8306d029bdc916"), looks := true }, kinds := [], alts := [], laidByText := true, laidKinds := [.handle], laidTests := true, laidLooks := .later }
def BoxOpensUptoCardSaid : Prop := Claim7.holds Tryz.pinned (.plain (OpenSpec.upto boxOpensSpec)) boxOpensUptoCard
end Rows
end Go.Proofs.YtmbjehnddgcboaaGreatDoor
