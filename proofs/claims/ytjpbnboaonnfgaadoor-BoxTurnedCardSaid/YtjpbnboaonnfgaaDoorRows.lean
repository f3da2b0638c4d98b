/-
  NARROWER THAN 'FOR EVERY INPUT', by the rows' own cells (each row's printed sentence says how): BoxTurned: laid · BoxSums: laid · BoxTotal: laid · BoxBack: laid.
  DERIVED. THE GIVEN ROWS OF THIS SEAT. 4 by the template 'for every input the law returns true; each argument reads behind the call as it read before'; 0 by the template 'total and deterministic' (their statements: YtjpbnboaonnfgaaDoorTotals.lean).
  GIVEN WITH THE SEED: the statements are not yours to turn. If you find one false, say at which input.
  Laid BY PROGRAM, IN A SANDBOX (cutbox-rows.mjs): the forced cells as the released guide's own fill.sh prints them over the translation 245024db2d971e90… (all of the seat's roots in one cut). By AI agents, Wed Nov 11 2026. No macro, syntax, notation, axiom, sorry.
-/
import Derived.Test.YtjpbnboaonnfgaaDoorChecked
import GoSem.Claim
import GoSem.ClaimJoined
import GoSem.ClaimMapViews
import Derived.JoinedTies
import Derived.KernelRfl
namespace Go.Proofs.YtjpbnboaonnfgaaDoor
/- THE CELL 'sum', in the pinned program and in every row, IS THE sha256 OF THE DUMP (.gsa) THAT YtjpbnboaonnfgaaDoorProg.lean LOADS. Nothing in Lean hashes anything: it is a label: what it is worth is what the hold of that sum in a sandbox is worth. -/
noncomputable def Tryd.pinned : Pinned := { name := "ytjpbnboaonnfgaadoor", sum := "245024db2d971e90e7dc7b121ec3f4ba4e2f0a22df43b8f7bd0e1a9eead51d40", checked := Tryd.checked }
namespace Rows
def none {H : Type} : Left H := { results := [], args := [] }

/- WHAT THE LISTED PACKAGE-LEVEL VARIABLES READ AS WHEN THE CALL BEGINS. Each datum BY PROGRAM (the guide's laid-datum.mjs) off the statement by which the dump's own 'gosem.cut.vars' lays the variable. In a bare row this is a premise. The card (YtjpbnboaonnfgaaDoorCards.lean) ties it to the program's text. -/
def laid_errors_errorType {H : Type} : DataW H := .iface "internal/reflectlite.rtype" (.agg [.ptr (.lit (.string [101, 114, 114, 111, 114]))])

/-- 'kinlaw24.BoxTurned': WHATEVER THE INPUT: true; the input reads as it did. -/
def boxTurnedSpec : ChangeSpec := { name := "boxTurned", fn := fun _ => fun
  | [d1, d2, d3, d4, d5, d6] => { results := [.lit (.bool true)], args := [d1, d2, d3, d4, d5, d6] }
  | _ => none }
def boxTurnedRow : OpenClaim := { program := "ytjpbnboaonnfgaadoor", sum := "245024db2d971e90e7dc7b121ec3f4ba4e2f0a22df43b8f7bd0e1a9eead51d40", func := "kinescope/kinlaw24.BoxTurned", spec := "boxTurned", inPlace := ["internal/reflectlite.ValueOf", "(internal/reflectlite.Value).Type", "(internal/reflectlite.Value).IsNil", "internal/reflectlite.TypeOf", "(internal/reflectlite.Value).Elem", "(internal/reflectlite.Value).Set"], unfollowed := true, recurses := true, named := ["errors.errorType"], apart := false, laid := [("errors.errorType", laid_errors_errorType)] }
def BoxTurnedSaid : Prop := boxTurnedRow.holds Tryd.pinned (OpenSpec.ofChange boxTurnedSpec)

/-- ITS FALSE NEIGHBOUR: 'it returns false'. Refute it at one input. -/
def boxTurnedWrong : ChangeSpec := { name := "boxTurned", fn := fun _ => fun
  | [d1, d2, d3, d4, d5, d6] => { results := [.lit (.bool false)], args := [d1, d2, d3, d4, d5, d6] }
  | _ => none }
def BoxTurnedWrongFalsely : Prop := boxTurnedRow.holds Tryd.pinned (OpenSpec.ofChange boxTurnedWrong)

/-- 'kinlaw24.BoxSums': WHATEVER THE INPUT: true; the input reads as it did. -/
def boxSumsSpec : ChangeSpec := { name := "boxSums", fn := fun _ => fun
  | [d1, d2, d3, d4] => { results := [.lit (.bool true)], args := [d1, d2, d3, d4] }
  | _ => none }
def boxSumsRow : OpenClaim := { program := "ytjpbnboaonnfgaadoor", sum := "245024db2d971e90e7dc7b121ec3f4ba4e2f0a22df43b8f7bd0e1a9eead51d40", func := "kinescope/kinlaw24.BoxSums", spec := "boxSums", inPlace := ["internal/reflectlite.ValueOf", "(internal/reflectlite.Value).Type", "(internal/reflectlite.Value).IsNil", "internal/reflectlite.TypeOf", "(internal/reflectlite.Value).Elem", "(internal/reflectlite.Value).Set"], unfollowed := true, recurses := true, named := ["errors.errorType"], apart := false, laid := [("errors.errorType", laid_errors_errorType)] }
def BoxSumsSaid : Prop := boxSumsRow.holds Tryd.pinned (OpenSpec.ofChange boxSumsSpec)

/-- ITS FALSE NEIGHBOUR: 'it returns false'. Refute it at one input. -/
def boxSumsWrong : ChangeSpec := { name := "boxSums", fn := fun _ => fun
  | [d1, d2, d3, d4] => { results := [.lit (.bool false)], args := [d1, d2, d3, d4] }
  | _ => none }
def BoxSumsWrongFalsely : Prop := boxSumsRow.holds Tryd.pinned (OpenSpec.ofChange boxSumsWrong)

/-- 'kinlaw24.BoxTotal': WHATEVER THE INPUT: true; the input reads as it did. -/
def boxTotalSpec : ChangeSpec := { name := "boxTotal", fn := fun _ => fun
  | [d] => { results := [.lit (.bool true)], args := [d] }
  | _ => none }
def boxTotalRow : OpenClaim := { program := "ytjpbnboaonnfgaadoor", sum := "245024db2d971e90e7dc7b121ec3f4ba4e2f0a22df43b8f7bd0e1a9eead51d40", func := "kinescope/kinlaw24.BoxTotal", spec := "boxTotal", inPlace := ["internal/reflectlite.ValueOf", "(internal/reflectlite.Value).Type", "(internal/reflectlite.Value).IsNil", "internal/reflectlite.TypeOf", "(internal/reflectlite.Value).Elem", "(internal/reflectlite.Value).Set"], unfollowed := true, recurses := true, named := ["errors.errorType"], apart := false, laid := [("errors.errorType", laid_errors_errorType)] }
def BoxTotalSaid : Prop := boxTotalRow.holds Tryd.pinned (OpenSpec.ofChange boxTotalSpec)

/-- ITS FALSE NEIGHBOUR: 'it returns false'. Refute it at one input. -/
def boxTotalWrong : ChangeSpec := { name := "boxTotal", fn := fun _ => fun
  | [d] => { results := [.lit (.bool false)], args := [d] }
  | _ => none }
def BoxTotalWrongFalsely : Prop := boxTotalRow.holds Tryd.pinned (OpenSpec.ofChange boxTotalWrong)

/-- 'kinlaw24.BoxBack': WHATEVER THE INPUT: true; the input reads as it did. -/
def boxBackSpec : ChangeSpec := { name := "boxBack", fn := fun _ => fun
  | [d1, d2, d3, d4] => { results := [.lit (.bool true)], args := [d1, d2, d3, d4] }
  | _ => none }
def boxBackRow : OpenClaim := { program := "ytjpbnboaonnfgaadoor", sum := "245024db2d971e90e7dc7b121ec3f4ba4e2f0a22df43b8f7bd0e1a9eead51d40", func := "kinescope/kinlaw24.BoxBack", spec := "boxBack", inPlace := ["internal/reflectlite.ValueOf", "(internal/reflectlite.Value).Type", "(internal/reflectlite.Value).IsNil", "internal/reflectlite.TypeOf", "(internal/reflectlite.Value).Elem", "(internal/reflectlite.Value).Set"], unfollowed := true, recurses := true, named := ["errors.errorType"], apart := false, laid := [("errors.errorType", laid_errors_errorType)] }
def BoxBackSaid : Prop := boxBackRow.holds Tryd.pinned (OpenSpec.ofChange boxBackSpec)

/-- ITS FALSE NEIGHBOUR: 'it returns false'. Refute it at one input. -/
def boxBackWrong : ChangeSpec := { name := "boxBack", fn := fun _ => fun
  | [d1, d2, d3, d4] => { results := [.lit (.bool false)], args := [d1, d2, d3, d4] }
  | _ => none }
def BoxBackWrongFalsely : Prop := boxBackRow.holds Tryd.pinned (OpenSpec.ofChange boxBackWrong)

/- THE SECOND FORM. 'bulk': how many values and letters a reading holds, each counted each time it is reached (what is shared counts as often as it is met; a slice's spare places count too). A statement '..UptoSaid' is the law's where the arguments, and the package variables that the reading takes, are together of bulk at most 1048576: NARROWER than '..Said'. Prove '..Said' where nothing that the law and all that it calls make is longer than what came in: it says more and counts as full. Else prove '..UptoSaid'. A law counts once. -/
mutual
def uptoBulk {H : Type} : DataW H → Nat
  | .lit (.string bytes) => bytes.length + 1
  | .lit _ => 1
  | .nil => 1
  | .ptr d => uptoBulk d + 1
  | .slice elems spare => uptoBulkAll elems + uptoBulkAll spare + 1
  | .agg parts => uptoBulkAll parts + 1
  | .iface _ d => uptoBulk d + 1
  | .map entries => uptoBulkEntries entries + 1
  | .held _ => 1
def uptoBulkAll {H : Type} : List (DataW H) → Nat
  | [] => 0
  | d :: r => uptoBulk d + uptoBulkAll r
def uptoBulkEntries {H : Type} : List (Lit × DataW H) → Nat
  | [] => 0
  | x :: r => uptoBulkEntry x + uptoBulkEntries r
def uptoBulkEntry {H : Type} : Lit × DataW H → Nat
  | (.string bytes, d) => bytes.length + uptoBulk d + 1
  | (_, d) => uptoBulk d + 1
 end
def uptoSmall : (H : Type) → List (DataW H) → Bool := fun _ ds => decide (uptoBulkAll ds ≤ 1048576)
def OpenSpec.upto (s : _root_.Go.ChangeSpec) : _root_.Go.OpenSpec := { _root_.Go.OpenSpec.ofChange s with cond := some uptoSmall }

/-- 'kinlaw24.BoxTurned', WHERE WHAT IT READS IS OF BULK AT MOST 1048576: true; the input reads as it did. -/
def boxTurnedUptoRow : OpenClaim := { program := "ytjpbnboaonnfgaadoor", sum := "245024db2d971e90e7dc7b121ec3f4ba4e2f0a22df43b8f7bd0e1a9eead51d40", func := "kinescope/kinlaw24.BoxTurned", spec := "boxTurned", inPlace := ["internal/reflectlite.ValueOf", "(internal/reflectlite.Value).Type", "(internal/reflectlite.Value).IsNil", "internal/reflectlite.TypeOf", "(internal/reflectlite.Value).Elem", "(internal/reflectlite.Value).Set"], unfollowed := true, recurses := true, named := ["errors.errorType"], apart := false, laid := [("errors.errorType", laid_errors_errorType)], narrowed := true }
def BoxTurnedUptoSaid : Prop := boxTurnedUptoRow.holds Tryd.pinned (OpenSpec.upto boxTurnedSpec)

/-- 'kinlaw24.BoxSums', WHERE WHAT IT READS IS OF BULK AT MOST 1048576: true; the input reads as it did. -/
def boxSumsUptoRow : OpenClaim := { program := "ytjpbnboaonnfgaadoor", sum := "245024db2d971e90e7dc7b121ec3f4ba4e2f0a22df43b8f7bd0e1a9eead51d40", func := "kinescope/kinlaw24.BoxSums", spec := "boxSums", inPlace := ["internal/reflectlite.ValueOf", "(internal/reflectlite.Value).Type", "(internal/reflectlite.Value).IsNil", "internal/reflectlite.TypeOf", "(internal/reflectlite.Value).Elem", "(internal/reflectlite.Value).Set"], unfollowed := true, recurses := true, named := ["errors.errorType"], apart := false, laid := [("errors.errorType", laid_errors_errorType)], narrowed := true }
def BoxSumsUptoSaid : Prop := boxSumsUptoRow.holds Tryd.pinned (OpenSpec.upto boxSumsSpec)

/-- 'kinlaw24.BoxTotal', WHERE WHAT IT READS IS OF BULK AT MOST 1048576: true; the input reads as it did. -/
def boxTotalUptoRow : OpenClaim := { program := "ytjpbnboaonnfgaadoor", sum := "245024db2d971e90e7dc7b121ec3f4ba4e2f0a22df43b8f7bd0e1a9eead51d40", func := "kinescope/kinlaw24.BoxTotal", spec := "boxTotal", inPlace := ["internal/reflectlite.ValueOf", "(internal/reflectlite.Value).Type", "(internal/reflectlite.Value).IsNil", "internal/reflectlite.TypeOf", "(internal/reflectlite.Value).Elem", "(internal/reflectlite.Value).Set"], unfollowed := true, recurses := true, named := ["errors.errorType"], apart := false, laid := [("errors.errorType", laid_errors_errorType)], narrowed := true }
def BoxTotalUptoSaid : Prop := boxTotalUptoRow.holds Tryd.pinned (OpenSpec.upto boxTotalSpec)

/-- 'kinlaw24.BoxBack', WHERE WHAT IT READS IS OF BULK AT MOST 1048576: true; the input reads as it did. -/
def boxBackUptoRow : OpenClaim := { program := "ytjpbnboaonnfgaadoor", sum := "245024db2d971e90e7dc7b121ec3f4ba4e2f0a22df43b8f7bd0e1a9eead51d40", func := "kinescope/kinlaw24.BoxBack", spec := "boxBack", inPlace := ["internal/reflectlite.ValueOf", "(internal/reflectlite.Value).Type", "(internal/reflectlite.Value).IsNil", "internal/reflectlite.TypeOf", "(internal/reflectlite.Value).Elem", "(internal/reflectlite.Value).Set"], unfollowed := true, recurses := true, named := ["errors.errorType"], apart := false, laid := [("errors.errorType", laid_errors_errorType)], narrowed := true }
def BoxBackUptoSaid : Prop := boxBackUptoRow.holds Tryd.pinned (OpenSpec.upto boxBackSpec)

end Rows
end Go.Proofs.YtjpbnboaonnfgaaDoor
