/-
  DERIVED. GIVEN WITH THE SEED: THE CARDS: each row of YtkigikallkpbcaaGreatDoorRows.lean that lists a variable, with what it lists TIED to the program's text (the seventh form; the later family's looks); each row that meets fmt, with fmt's text TOLD by the authors' own Lean function (tested against real Go, not proved from fmt's source: count such statements apart). THE CARD IS WHAT COUNTS. Prove the row's statement (the work); the ties are given (YtkigikallkpbcaaGreatDoorTie.lean); close each card by the builder's one call (the guide's Derived/Test/ToyasCard.lean, 'card_holds'). Laid BY PROGRAM, IN A SANDBOX (cutbox-door.mjs). By AI agents, Wed Nov 11 2026. No macro, syntax, notation, axiom, sorry.
-/
import Derived.Test.YtkigikallkpbcaaGreatDoorRows
import GoSem.ClaimSeven
namespace Go.Proofs.YtkigikallkpbcaaGreatDoor
namespace Rows

/-- THE TIED CARD OF 'kinlaw23.GopPacks'. -/
def gopPacksCard : Claim7 := { stood := { row := gopPacksRow, standIns := [], harness := (true, "14b5d5b2953cfcbf92d1e8a3a2747b8ca71389b957ea3604a1ae8acf6f49541b"), looks := true }, kinds := [], alts := [], laidByText := true, laidKinds := [.handle], laidTests := true, laidLooks := .later }
def GopPacksCardSaid : Prop := Claim7.holds Tryz.pinned (.plain (OpenSpec.ofChange gopPacksSpec)) gopPacksCard

/-- THE TIED CARD OF 'kinlaw23.GopParses'. -/
def gopParsesCard : Claim7 := { stood := { row := gopParsesRow, standIns := [], harness := (true, "14b5d5b2953cfcbf92d1e8a3a2747b8ca71389b957ea3604a1ae8acf6f49541b"), looks := true }, kinds := [], alts := [], laidByText := true, laidKinds := [.handle], laidTests := true, laidLooks := .later }
def GopParsesCardSaid : Prop := Claim7.holds Tryz.pinned (.plain (OpenSpec.ofChange gopParsesSpec)) gopParsesCard

/-- THE TIED CARD OF 'kinlaw23.GopBack'. -/
def gopBackCard : Claim7 := { stood := { row := gopBackRow, standIns := [], harness := (true, "14b5d5b2953cfcbf92d1e8a3a2747b8ca71389b957ea3604a1ae8acf6f49541b"), looks := true }, kinds := [], alts := [], laidByText := true, laidKinds := [.handle], laidTests := true, laidLooks := .later }
def GopBackCardSaid : Prop := Claim7.holds Tryz.pinned (.plain (OpenSpec.ofChange gopBackSpec)) gopBackCard

/-- THE TIED CARD OF 'kinlaw23.GopAlone'. -/
def gopAloneCard : Claim7 := { stood := { row := gopAloneRow, standIns := [], harness := (true, "14b5d5b2953cfcbf92d1e8a3a2747b8ca71389b957ea3604a1ae8acf6f49541b"), looks := true }, kinds := [], alts := [], laidByText := true, laidKinds := [.handle], laidTests := true, laidLooks := .later }
def GopAloneCardSaid : Prop := Claim7.holds Tryz.pinned (.plain (OpenSpec.ofChange gopAloneSpec)) gopAloneCard

/-- THE TIED CARD OF 'kinlaw23.GopSums'. -/
def gopSumsCard : Claim7 := { stood := { row := gopSumsRow, standIns := [], harness := (true, "14b5d5b2953cfcbf92d1e8a3a2747b8ca71389b957ea3604a1ae8acf6f49541b"), looks := true }, kinds := [], alts := [], laidByText := true, laidKinds := [.handle], laidTests := true, laidLooks := .later }
def GopSumsCardSaid : Prop := Claim7.holds Tryz.pinned (.plain (OpenSpec.ofChange gopSumsSpec)) gopSumsCard

/-- THE TIED CARD OF 'kinlaw23.GopWhole'. -/
def gopWholeCard : Claim7 := { stood := { row := gopWholeRow, standIns := [], harness := (true, "14b5d5b2953cfcbf92d1e8a3a2747b8ca71389b957ea3604a1ae8acf6f49541b"), looks := true }, kinds := [], alts := [], laidByText := true, laidKinds := [.handle], laidTests := true, laidLooks := .later }
def GopWholeCardSaid : Prop := Claim7.holds Tryz.pinned (.plain (OpenSpec.ofChange gopWholeSpec)) gopWholeCard

/-- THE SECOND FORM's CARD OF 'kinlaw23.GopPacks'. -/
def gopPacksUptoCard : Claim7 := { stood := { row := gopPacksUptoRow, standIns := [], harness := (true, "14b5d5b2953cfcbf92d1e8a3a2747b8ca71389b957ea3604a1ae8acf6f49541b"), looks := true }, kinds := [], alts := [], laidByText := true, laidKinds := [.handle], laidTests := true, laidLooks := .later }
def GopPacksUptoCardSaid : Prop := Claim7.holds Tryz.pinned (.plain (OpenSpec.upto gopPacksSpec)) gopPacksUptoCard

/-- THE SECOND FORM's CARD OF 'kinlaw23.GopParses'. -/
def gopParsesUptoCard : Claim7 := { stood := { row := gopParsesUptoRow, standIns := [], harness := (true, "14b5d5b2953cfcbf92d1e8a3a2747b8ca71389b957ea3604a1ae8acf6f49541b"), looks := true }, kinds := [], alts := [], laidByText := true, laidKinds := [.handle], laidTests := true, laidLooks := .later }
def GopParsesUptoCardSaid : Prop := Claim7.holds Tryz.pinned (.plain (OpenSpec.upto gopParsesSpec)) gopParsesUptoCard

/-- THE SECOND FORM's CARD OF 'kinlaw23.GopBack'. -/
def gopBackUptoCard : Claim7 := { stood := { row := gopBackUptoRow, standIns := [], harness := (true, "14b5d5b2953cfcbf92d1e8a3a2747b8ca71389b957ea3604a1ae8acf6f49541b"), looks := true }, kinds := [], alts := [], laidByText := true, laidKinds := [.handle], laidTests := true, laidLooks := .later }
def GopBackUptoCardSaid : Prop := Claim7.holds Tryz.pinned (.plain (OpenSpec.upto gopBackSpec)) gopBackUptoCard

/-- THE SECOND FORM's CARD OF 'kinlaw23.GopAlone'. -/
def gopAloneUptoCard : Claim7 := { stood := { row := gopAloneUptoRow, standIns := [], harness := (true, "14b5d5b2953cfcbf92d1e8a3a2747b8ca71389b957ea3604a1ae8acf6f49541b"), looks := true }, kinds := [], alts := [], laidByText := true, laidKinds := [.handle], laidTests := true, laidLooks := .later }
def GopAloneUptoCardSaid : Prop := Claim7.holds Tryz.pinned (.plain (OpenSpec.upto gopAloneSpec)) gopAloneUptoCard

/-- THE SECOND FORM's CARD OF 'kinlaw23.GopSums'. -/
def gopSumsUptoCard : Claim7 := { stood := { row := gopSumsUptoRow, standIns := [], harness := (true, "14b5d5b2953cfcbf92d1e8a3a2747b8ca71389b957ea3604a1ae8acf6f49541b"), looks := true }, kinds := [], alts := [], laidByText := true, laidKinds := [.handle], laidTests := true, laidLooks := .later }
def GopSumsUptoCardSaid : Prop := Claim7.holds Tryz.pinned (.plain (OpenSpec.upto gopSumsSpec)) gopSumsUptoCard

/-- THE SECOND FORM's CARD OF 'kinlaw23.GopWhole'. -/
def gopWholeUptoCard : Claim7 := { stood := { row := gopWholeUptoRow, standIns := [], harness := (true, "14b5d5b2953cfcbf92d1e8a3a2747b8ca71389b957ea3604a1ae8acf6f49541b"), looks := true }, kinds := [], alts := [], laidByText := true, laidKinds := [.handle], laidTests := true, laidLooks := .later }
def GopWholeUptoCardSaid : Prop := Claim7.holds Tryz.pinned (.plain (OpenSpec.upto gopWholeSpec)) gopWholeUptoCard
end Rows
end Go.Proofs.YtkigikallkpbcaaGreatDoor
