/-
  DERIVED. GIVEN WITH THE SEED: THE CARDS: each row of YtjpbnboaonnfgaaDoorRows.lean that lists a variable, with what it lists TIED to the program's text (the seventh form; the later family's looks); each row that meets fmt, with fmt's text TOLD by the authors' own Lean function (tested against real Go, not proved from fmt's source: count such statements apart). THE CARD IS WHAT COUNTS. Prove the row's statement (the work); the ties are given (YtjpbnboaonnfgaaDoorTie.lean); close each card by the builder's one call (the guide's Derived/Test/ToyasCard.lean, 'card_holds'). Laid BY PROGRAM, IN A SANDBOX (cutbox-door.mjs). By AI agents, Wed Nov 11 2026. No macro, syntax, notation, axiom, sorry.
-/
import Derived.Test.YtjpbnboaonnfgaaDoorRows
import GoSem.ClaimSeven
namespace Go.Proofs.YtjpbnboaonnfgaaDoor
namespace Rows

/-- THE TIED CARD OF 'kinlaw24.BoxTurned'. -/
def boxTurnedCard : Claim7 := { stood := { row := boxTurnedRow, standIns := [], harness := (true, "9665c65107eb1d6147cded99a4a943cb792c244457abc9143aff7e09d0a36860"), looks := true }, kinds := [], alts := [], laidByText := true, laidKinds := [.handle], laidTests := true, laidLooks := .later }
def BoxTurnedCardSaid : Prop := Claim7.holds Tryd.pinned (.plain (OpenSpec.ofChange boxTurnedSpec)) boxTurnedCard

/-- THE TIED CARD OF 'kinlaw24.BoxSums'. -/
def boxSumsCard : Claim7 := { stood := { row := boxSumsRow, standIns := [], harness := (true, "9665c65107eb1d6147cded99a4a943cb792c244457abc9143aff7e09d0a36860"), looks := true }, kinds := [], alts := [], laidByText := true, laidKinds := [.handle], laidTests := true, laidLooks := .later }
def BoxSumsCardSaid : Prop := Claim7.holds Tryd.pinned (.plain (OpenSpec.ofChange boxSumsSpec)) boxSumsCard

/-- THE TIED CARD OF 'kinlaw24.BoxTotal'. -/
def boxTotalCard : Claim7 := { stood := { row := boxTotalRow, standIns := [], harness := (true, "9665c65107eb1d6147cded99a4a943cb792c244457abc9143aff7e09d0a36860"), looks := true }, kinds := [], alts := [], laidByText := true, laidKinds := [.handle], laidTests := true, laidLooks := .later }
def BoxTotalCardSaid : Prop := Claim7.holds Tryd.pinned (.plain (OpenSpec.ofChange boxTotalSpec)) boxTotalCard

/-- THE TIED CARD OF 'kinlaw24.BoxBack'. -/
def boxBackCard : Claim7 := { stood := { row := boxBackRow, standIns := [], harness := (true, "9665c65107eb1d6147cded99a4a943cb792c244457abc9143aff7e09d0a36860"), looks := true }, kinds := [], alts := [], laidByText := true, laidKinds := [.handle], laidTests := true, laidLooks := .later }
def BoxBackCardSaid : Prop := Claim7.holds Tryd.pinned (.plain (OpenSpec.ofChange boxBackSpec)) boxBackCard

/-- THE SECOND FORM's CARD OF 'kinlaw24.BoxTurned'. -/
def boxTurnedUptoCard : Claim7 := { stood := { row := boxTurnedUptoRow, standIns := [], harness := (true, "9665c65107eb1d6147cded99a4a943cb792c244457abc9143aff7e09d0a36860"), looks := true }, kinds := [], alts := [], laidByText := true, laidKinds := [.handle], laidTests := true, laidLooks := .later }
def BoxTurnedUptoCardSaid : Prop := Claim7.holds Tryd.pinned (.plain (OpenSpec.upto boxTurnedSpec)) boxTurnedUptoCard

/-- THE SECOND FORM's CARD OF 'kinlaw24.BoxSums'. -/
def boxSumsUptoCard : Claim7 := { stood := { row := boxSumsUptoRow, standIns := [], harness := (true, "9665c65107eb1d6147cded99a4a943cb792c244457abc9143aff7e09d0a36860"), looks := true }, kinds := [], alts := [], laidByText := true, laidKinds := [.handle], laidTests := true, laidLooks := .later }
def BoxSumsUptoCardSaid : Prop := Claim7.holds Tryd.pinned (.plain (OpenSpec.upto boxSumsSpec)) boxSumsUptoCard

/-- THE SECOND FORM's CARD OF 'kinlaw24.BoxTotal'. -/
def boxTotalUptoCard : Claim7 := { stood := { row := boxTotalUptoRow, standIns := [], harness := (true, "9665c65107eb1d6147cded99a4a943cb792c244457abc9143aff7e09d0a36860"), looks := true }, kinds := [], alts := [], laidByText := true, laidKinds := [.handle], laidTests := true, laidLooks := .later }
def BoxTotalUptoCardSaid : Prop := Claim7.holds Tryd.pinned (.plain (OpenSpec.upto boxTotalSpec)) boxTotalUptoCard

/-- THE SECOND FORM's CARD OF 'kinlaw24.BoxBack'. -/
def boxBackUptoCard : Claim7 := { stood := { row := boxBackUptoRow, standIns := [], harness := (true, "9665c65107eb1d6147cded99a4a943cb792c244457abc9143aff7e09d0a36860"), looks := true }, kinds := [], alts := [], laidByText := true, laidKinds := [.handle], laidTests := true, laidLooks := .later }
def BoxBackUptoCardSaid : Prop := Claim7.holds Tryd.pinned (.plain (OpenSpec.upto boxBackSpec)) boxBackUptoCard
end Rows
end Go.Proofs.YtjpbnboaonnfgaaDoor
