/-
  NARROWER THAN 'FOR EVERY INPUT', by the rows' own cells (each row's printed sentence says how): GopPacks: laid · GopParses: laid · GopBack: laid · GopAlone: laid · GopSums: laid · GopWhole: laid.
  DERIVED. THE GIVEN ROWS OF THIS SEAT. 6 by the template 'for every input the law returns true; each argument reads behind the call as it read before'; 0 by the template 'total and deterministic' (their statements: YtkigikallkpbcaaGreatDoorTotals.lean).
  GIVEN WITH THE SEED: the statements are not yours to turn. If you find one false, say at which input.
  Laid BY PROGRAM, IN A SANDBOX (cutbox-rows.mjs): the forced cells as the released guide's own fill.sh prints them over the translation 6303bffa5b8c5698… (all of the seat's roots in one cut). By AI agents, Wed Nov 11 2026. No macro, syntax, notation, axiom, sorry.
-/
import Derived.Test.YtkigikallkpbcaaGreatDoorChecked
import GoSem.Claim
import GoSem.ClaimJoined
import GoSem.ClaimMapViews
import Derived.JoinedTies
import Derived.KernelRfl
namespace Go.Proofs.YtkigikallkpbcaaGreatDoor
/- THE CELL 'sum', in the pinned program and in every row, IS THE sha256 OF THE DUMP (.gsa) THAT YtkigikallkpbcaaGreatDoorProg.lean LOADS. Nothing in Lean hashes anything: it is a label: what it is worth is what the hold of that sum in a sandbox is worth. -/
noncomputable def Tryz.pinned : Pinned := { name := "ytkigikallkpbcaagreatdoor", sum := "6303bffa5b8c569849fd02e45e11d76b8cd40b335ac372d3376d14e461be0be1", checked := Tryz.checked }
namespace Rows
def none {H : Type} : Left H := { results := [], args := [] }

/- WHAT THE LISTED PACKAGE-LEVEL VARIABLES READ AS WHEN THE CALL BEGINS. Each datum BY PROGRAM (the guide's laid-datum.mjs) off the statement by which the dump's own 'gosem.cut.vars' lays the variable. In a bare row this is a premise. The card (YtkigikallkpbcaaGreatDoorCards.lean) ties it to the program's text. -/
def laid_errors_errorType {H : Type} : DataW H := .iface "internal/reflectlite.rtype" (.agg [.ptr (.lit (.string [101, 114, 114, 111, 114]))])

/-- 'kinlaw23.GopPacks': WHATEVER THE INPUT: true; the input reads as it did. -/
def gopPacksSpec : ChangeSpec := { name := "gopPacks", fn := fun _ => fun
  | [d] => { results := [.lit (.bool true)], args := [d] }
  | _ => none }
def gopPacksRow : OpenClaim := { program := "ytkigikallkpbcaagreatdoor", sum := "6303bffa5b8c569849fd02e45e11d76b8cd40b335ac372d3376d14e461be0be1", func := "kinescope/kinlaw23.GopPacks", spec := "gopPacks", inPlace := ["internal/reflectlite.ValueOf", "(internal/reflectlite.Value).Type", "(internal/reflectlite.Value).IsNil", "internal/reflectlite.TypeOf", "(internal/reflectlite.Value).Elem", "(internal/reflectlite.Value).Set"], unfollowed := true, recurses := true, named := ["errors.errorType"], apart := false, laid := [("errors.errorType", laid_errors_errorType)] }
def GopPacksSaid : Prop := gopPacksRow.holds Tryz.pinned (OpenSpec.ofChange gopPacksSpec)

/-- ITS FALSE NEIGHBOUR: 'it returns false'. Refute it at one input. -/
def gopPacksWrong : ChangeSpec := { name := "gopPacks", fn := fun _ => fun
  | [d] => { results := [.lit (.bool false)], args := [d] }
  | _ => none }
def GopPacksWrongFalsely : Prop := gopPacksRow.holds Tryz.pinned (OpenSpec.ofChange gopPacksWrong)

/-- 'kinlaw23.GopParses': WHATEVER THE INPUT: true; the input reads as it did. -/
def gopParsesSpec : ChangeSpec := { name := "gopParses", fn := fun _ => fun
  | [d] => { results := [.lit (.bool true)], args := [d] }
  | _ => none }
def gopParsesRow : OpenClaim := { program := "ytkigikallkpbcaagreatdoor", sum := "6303bffa5b8c569849fd02e45e11d76b8cd40b335ac372d3376d14e461be0be1", func := "kinescope/kinlaw23.GopParses", spec := "gopParses", inPlace := ["internal/reflectlite.ValueOf", "(internal/reflectlite.Value).Type", "(internal/reflectlite.Value).IsNil", "internal/reflectlite.TypeOf", "(internal/reflectlite.Value).Elem", "(internal/reflectlite.Value).Set"], unfollowed := true, recurses := true, named := ["errors.errorType"], apart := false, laid := [("errors.errorType", laid_errors_errorType)] }
def GopParsesSaid : Prop := gopParsesRow.holds Tryz.pinned (OpenSpec.ofChange gopParsesSpec)

/-- ITS FALSE NEIGHBOUR: 'it returns false'. Refute it at one input. -/
def gopParsesWrong : ChangeSpec := { name := "gopParses", fn := fun _ => fun
  | [d] => { results := [.lit (.bool false)], args := [d] }
  | _ => none }
def GopParsesWrongFalsely : Prop := gopParsesRow.holds Tryz.pinned (OpenSpec.ofChange gopParsesWrong)

/-- 'kinlaw23.GopBack': WHATEVER THE INPUT: true; the input reads as it did. -/
def gopBackSpec : ChangeSpec := { name := "gopBack", fn := fun _ => fun
  | [d1, d2] => { results := [.lit (.bool true)], args := [d1, d2] }
  | _ => none }
def gopBackRow : OpenClaim := { program := "ytkigikallkpbcaagreatdoor", sum := "6303bffa5b8c569849fd02e45e11d76b8cd40b335ac372d3376d14e461be0be1", func := "kinescope/kinlaw23.GopBack", spec := "gopBack", inPlace := ["internal/reflectlite.ValueOf", "(internal/reflectlite.Value).Type", "(internal/reflectlite.Value).IsNil", "internal/reflectlite.TypeOf", "(internal/reflectlite.Value).Elem", "(internal/reflectlite.Value).Set"], unfollowed := true, recurses := true, named := ["errors.errorType"], apart := false, laid := [("errors.errorType", laid_errors_errorType)] }
def GopBackSaid : Prop := gopBackRow.holds Tryz.pinned (OpenSpec.ofChange gopBackSpec)

/-- ITS FALSE NEIGHBOUR: 'it returns false'. Refute it at one input. -/
def gopBackWrong : ChangeSpec := { name := "gopBack", fn := fun _ => fun
  | [d1, d2] => { results := [.lit (.bool false)], args := [d1, d2] }
  | _ => none }
def GopBackWrongFalsely : Prop := gopBackRow.holds Tryz.pinned (OpenSpec.ofChange gopBackWrong)

/-- 'kinlaw23.GopAlone': WHATEVER THE INPUT: true; the input reads as it did. -/
def gopAloneSpec : ChangeSpec := { name := "gopAlone", fn := fun _ => fun
  | [d1, d2, d3, d4] => { results := [.lit (.bool true)], args := [d1, d2, d3, d4] }
  | _ => none }
def gopAloneRow : OpenClaim := { program := "ytkigikallkpbcaagreatdoor", sum := "6303bffa5b8c569849fd02e45e11d76b8cd40b335ac372d3376d14e461be0be1", func := "kinescope/kinlaw23.GopAlone", spec := "gopAlone", inPlace := ["internal/reflectlite.ValueOf", "(internal/reflectlite.Value).Type", "(internal/reflectlite.Value).IsNil", "internal/reflectlite.TypeOf", "(internal/reflectlite.Value).Elem", "(internal/reflectlite.Value).Set"], unfollowed := true, recurses := true, named := ["errors.errorType"], apart := false, laid := [("errors.errorType", laid_errors_errorType)] }
def GopAloneSaid : Prop := gopAloneRow.holds Tryz.pinned (OpenSpec.ofChange gopAloneSpec)

/-- ITS FALSE NEIGHBOUR: 'it returns false'. Refute it at one input. -/
def gopAloneWrong : ChangeSpec := { name := "gopAlone", fn := fun _ => fun
  | [d1, d2, d3, d4] => { results := [.lit (.bool false)], args := [d1, d2, d3, d4] }
  | _ => none }
def GopAloneWrongFalsely : Prop := gopAloneRow.holds Tryz.pinned (OpenSpec.ofChange gopAloneWrong)

/-- 'kinlaw23.GopSums': WHATEVER THE INPUT: true; the input reads as it did. -/
def gopSumsSpec : ChangeSpec := { name := "gopSums", fn := fun _ => fun
  | [d] => { results := [.lit (.bool true)], args := [d] }
  | _ => none }
def gopSumsRow : OpenClaim := { program := "ytkigikallkpbcaagreatdoor", sum := "6303bffa5b8c569849fd02e45e11d76b8cd40b335ac372d3376d14e461be0be1", func := "kinescope/kinlaw23.GopSums", spec := "gopSums", inPlace := ["internal/reflectlite.ValueOf", "(internal/reflectlite.Value).Type", "(internal/reflectlite.Value).IsNil", "internal/reflectlite.TypeOf", "(internal/reflectlite.Value).Elem", "(internal/reflectlite.Value).Set"], unfollowed := true, recurses := true, named := ["errors.errorType"], apart := false, laid := [("errors.errorType", laid_errors_errorType)] }
def GopSumsSaid : Prop := gopSumsRow.holds Tryz.pinned (OpenSpec.ofChange gopSumsSpec)

/-- ITS FALSE NEIGHBOUR: 'it returns false'. Refute it at one input. -/
def gopSumsWrong : ChangeSpec := { name := "gopSums", fn := fun _ => fun
  | [d] => { results := [.lit (.bool false)], args := [d] }
  | _ => none }
def GopSumsWrongFalsely : Prop := gopSumsRow.holds Tryz.pinned (OpenSpec.ofChange gopSumsWrong)

/-- 'kinlaw23.GopWhole': WHATEVER THE INPUT: true; the input reads as it did. -/
def gopWholeSpec : ChangeSpec := { name := "gopWhole", fn := fun _ => fun
  | [d1, d2, d3] => { results := [.lit (.bool true)], args := [d1, d2, d3] }
  | _ => none }
def gopWholeRow : OpenClaim := { program := "ytkigikallkpbcaagreatdoor", sum := "6303bffa5b8c569849fd02e45e11d76b8cd40b335ac372d3376d14e461be0be1", func := "kinescope/kinlaw23.GopWhole", spec := "gopWhole", inPlace := ["internal/reflectlite.ValueOf", "(internal/reflectlite.Value).Type", "(internal/reflectlite.Value).IsNil", "internal/reflectlite.TypeOf", "(internal/reflectlite.Value).Elem", "(internal/reflectlite.Value).Set"], unfollowed := true, recurses := true, named := ["errors.errorType"], apart := false, laid := [("errors.errorType", laid_errors_errorType)] }
def GopWholeSaid : Prop := gopWholeRow.holds Tryz.pinned (OpenSpec.ofChange gopWholeSpec)

/-- ITS FALSE NEIGHBOUR: 'it returns false'. Refute it at one input. -/
def gopWholeWrong : ChangeSpec := { name := "gopWhole", fn := fun _ => fun
  | [d1, d2, d3] => { results := [.lit (.bool false)], args := [d1, d2, d3] }
  | _ => none }
def GopWholeWrongFalsely : Prop := gopWholeRow.holds Tryz.pinned (OpenSpec.ofChange gopWholeWrong)

/- THE SECOND FORM. 'bulk': how many values and letters a reading holds, each counted each time it is reached (what is shared counts as often as it is met; a slice's spare places count too). A statement '..UptoSaid' is the law's where the arguments, and the package variables that the reading takes, are together of bulk at most 1048576: NARROWER than '..Said'. Prove '..Said' where nothing that the law and all that it calls make is longer than what came in: it says more and counts as full. Else prove '..UptoSaid'. A law counts once. -/
mutual
def uptoBulk {H : Type} : DataW H → Nat
  | .lit (.string bytes) => bytes.length + 1
  | .lit _ => 1
  | .nil => 1
  | .ptr d => uptoBulk d + 1
  | .slice elems spare => uptoBulkAll elems + uptoBulkAll spare + 1
  | .agg parts => uptoBulkAll parts + 1
  | .iface _ d => uptoBulk d + 1
  | .map entries => uptoBulkEntries entries + 1
  | .held _ => 1
def uptoBulkAll {H : Type} : List (DataW H) → Nat
  | [] => 0
  | d :: r => uptoBulk d + uptoBulkAll r
def uptoBulkEntries {H : Type} : List (Lit × DataW H) → Nat
  | [] => 0
  | x :: r => uptoBulkEntry x + uptoBulkEntries r
def uptoBulkEntry {H : Type} : Lit × DataW H → Nat
  | (.string bytes, d) => bytes.length + uptoBulk d + 1
  | (_, d) => uptoBulk d + 1
 end
def uptoSmall : (H : Type) → List (DataW H) → Bool := fun _ ds => decide (uptoBulkAll ds ≤ 1048576)
def OpenSpec.upto (s : _root_.Go.ChangeSpec) : _root_.Go.OpenSpec := { _root_.Go.OpenSpec.ofChange s with cond := some uptoSmall }

/-- 'kinlaw23.GopPacks', WHERE WHAT IT READS IS OF BULK AT MOST 1048576: true; the input reads as it did. -/
def gopPacksUptoRow : OpenClaim := { program := "ytkigikallkpbcaagreatdoor", sum := "6303bffa5b8c569849fd02e45e11d76b8cd40b335ac372d3376d14e461be0be1", func := "kinescope/kinlaw23.GopPacks", spec := "gopPacks", inPlace := ["internal/reflectlite.ValueOf", "(internal/reflectlite.Value).Type", "(internal/reflectlite.Value).IsNil", "internal/reflectlite.TypeOf", "(internal/reflectlite.Value).Elem", "(internal/reflectlite.Value).Set"], unfollowed := true, recurses := true, named := ["errors.errorType"], apart := false, laid := [("errors.errorType", laid_errors_errorType)], narrowed := true }
def GopPacksUptoSaid : Prop := gopPacksUptoRow.holds Tryz.pinned (OpenSpec.upto gopPacksSpec)

/-- 'kinlaw23.GopParses', WHERE WHAT IT READS IS OF BULK AT MOST 1048576: true; the input reads as it did. -/
def gopParsesUptoRow : OpenClaim := { program := "ytkigikallkpbcaagreatdoor", sum := "6303bffa5b8c569849fd02e45e11d76b8cd40b335ac372d3376d14e461be0be1", func := "kinescope/kinlaw23.GopParses", spec := "gopParses", inPlace := ["internal/reflectlite.ValueOf", "(internal/reflectlite.Value).Type", "(internal/reflectlite.Value).IsNil", "internal/reflectlite.TypeOf", "(internal/reflectlite.Value).Elem", "(internal/reflectlite.Value).Set"], unfollowed := true, recurses := true, named := ["errors.errorType"], apart := false, laid := [("errors.errorType", laid_errors_errorType)], narrowed := true }
def GopParsesUptoSaid : Prop := gopParsesUptoRow.holds Tryz.pinned (OpenSpec.upto gopParsesSpec)

/-- 'kinlaw23.GopBack', WHERE WHAT IT READS IS OF BULK AT MOST 1048576: true; the input reads as it did. -/
def gopBackUptoRow : OpenClaim := { program := "ytkigikallkpbcaagreatdoor", sum := "6303bffa5b8c569849fd02e45e11d76b8cd40b335ac372d3376d14e461be0be1", func := "kinescope/kinlaw23.GopBack", spec := "gopBack", inPlace := ["internal/reflectlite.ValueOf", "(internal/reflectlite.Value).Type", "(internal/reflectlite.Value).IsNil", "internal/reflectlite.TypeOf", "(internal/reflectlite.Value).Elem", "(internal/reflectlite.Value).Set"], unfollowed := true, recurses := true, named := ["errors.errorType"], apart := false, laid := [("errors.errorType", laid_errors_errorType)], narrowed := true }
def GopBackUptoSaid : Prop := gopBackUptoRow.holds Tryz.pinned (OpenSpec.upto gopBackSpec)

/-- 'kinlaw23.GopAlone', WHERE WHAT IT READS IS OF BULK AT MOST 1048576: true; the input reads as it did. -/
def gopAloneUptoRow : OpenClaim := { program := "ytkigikallkpbcaagreatdoor", sum := "6303bffa5b8c569849fd02e45e11d76b8cd40b335ac372d3376d14e461be0be1", func := "kinescope/kinlaw23.GopAlone", spec := "gopAlone", inPlace := ["internal/reflectlite.ValueOf", "(internal/reflectlite.Value).Type", "(internal/reflectlite.Value).IsNil", "internal/reflectlite.TypeOf", "(internal/reflectlite.Value).Elem", "(internal/reflectlite.Value).Set"], unfollowed := true, recurses := true, named := ["errors.errorType"], apart := false, laid := [("errors.errorType", laid_errors_errorType)], narrowed := true }
def GopAloneUptoSaid : Prop := gopAloneUptoRow.holds Tryz.pinned (OpenSpec.upto gopAloneSpec)

/-- 'kinlaw23.GopSums', WHERE WHAT IT READS IS OF BULK AT MOST 1048576: true; the input reads as it did. -/
def gopSumsUptoRow : OpenClaim := { program := "ytkigikallkpbcaagreatdoor", sum := "6303bffa5b8c569849fd02e45e11d76b8cd40b335ac372d3376d14e461be0be1", func := "kinescope/kinlaw23.GopSums", spec := "gopSums", inPlace := ["internal/reflectlite.ValueOf", "(internal/reflectlite.Value).Type", "(internal/reflectlite.Value).IsNil", "internal/reflectlite.TypeOf", "(internal/reflectlite.Value).Elem", "(internal/reflectlite.Value).Set"], unfollowed := true, recurses := true, named := ["errors.errorType"], apart := false, laid := [("errors.errorType", laid_errors_errorType)], narrowed := true }
def GopSumsUptoSaid : Prop := gopSumsUptoRow.holds Tryz.pinned (OpenSpec.upto gopSumsSpec)

/-- 'kinlaw23.GopWhole', WHERE WHAT IT READS IS OF BULK AT MOST 1048576: true; the input reads as it did. -/
def gopWholeUptoRow : OpenClaim := { program := "ytkigikallkpbcaagreatdoor", sum := "6303bffa5b8c569849fd02e45e11d76b8cd40b335ac372d3376d14e461be0be1", func := "kinescope/kinlaw23.GopWhole", spec := "gopWhole", inPlace := ["internal/reflectlite.ValueOf", "(internal/reflectlite.Value).Type", "(internal/reflectlite.Value).IsNil", "internal/reflectlite.TypeOf", "(internal/reflectlite.Value).Elem", "(internal/reflectlite.Value).Set"], unfollowed := true, recurses := true, named := ["errors.errorType"], apart := false, laid := [("errors.errorType", laid_errors_errorType)], narrowed := true }
def GopWholeUptoSaid : Prop := gopWholeUptoRow.holds Tryz.pinned (OpenSpec.upto gopWholeSpec)

end Rows
end Go.Proofs.YtkigikallkpbcaaGreatDoor
