/-
  NARROWER THAN 'FOR EVERY INPUT', by the rows' own cells (each row's printed sentence says how): EncodeFrames: laid · EncodeFits: laid · GopEncodes: laid.
  DERIVED. THE GIVEN ROWS OF THIS SEAT. 3 by the template 'for every input the law returns true; each argument reads behind the call as it read before'; 0 by the template 'total and deterministic' (their statements: YthcafdfdglfabaaGreatDoorTotals.lean).
  GIVEN WITH THE SEED: the statements are not yours to turn. If you find one false, say at which input.
  Laid BY PROGRAM, IN A SANDBOX (cutbox-rows.mjs): the forced cells as the released guide's own fill.sh prints them over the translation 28db79cd1dda5ffb… (all of the seat's roots in one cut). By AI agents, Wed Nov 11 2026. No macro, syntax, notation, axiom, sorry.
-/
import Derived.Test.YthcafdfdglfabaaGreatDoorChecked
import GoSem.Claim
import GoSem.ClaimJoined
import GoSem.ClaimMapViews
import Derived.JoinedTies
import Derived.KernelRfl
namespace Go.Proofs.YthcafdfdglfabaaGreatDoor
/- THE CELL 'sum', in the pinned program and in every row, IS THE sha256 OF THE DUMP (.gsa) THAT YthcafdfdglfabaaGreatDoorProg.lean LOADS. Nothing in Lean hashes anything: it is a label: what it is worth is what the hold of that sum in a sandbox is worth. -/
noncomputable def Tryz.pinned : Pinned := { name := "ythcafdfdglfabaagreatdoor", sum := "28db79cd1dda5ffb4b751f1fcfdeb420dccca935b173e4f8865e7c93f40ed8cf", checked := Tryz.checked }
namespace Rows
def none {H : Type} : Left H := { results := [], args := [] }

/- WHAT THE LISTED PACKAGE-LEVEL VARIABLES READ AS WHEN THE CALL BEGINS. Each datum BY PROGRAM (the guide's laid-datum.mjs) off the statement by which the dump's own 'gosem.cut.vars' lays the variable. In a bare row this is a premise. The card (YthcafdfdglfabaaGreatDoorCards.lean) ties it to the program's text. -/
def laid_errors_errorType {H : Type} : DataW H := .iface "internal/reflectlite.rtype" (.agg [.ptr (.lit (.string [101, 114, 114, 111, 114]))])

/-- 'kinlaw22.EncodeFrames': WHATEVER THE INPUT: true; the input reads as it did. -/
def encodeFramesSpec : ChangeSpec := { name := "encodeFrames", fn := fun _ => fun
  | [d1, d2, d3, d4, d5] => { results := [.lit (.bool true)], args := [d1, d2, d3, d4, d5] }
  | _ => none }
def encodeFramesRow : OpenClaim := { program := "ythcafdfdglfabaagreatdoor", sum := "28db79cd1dda5ffb4b751f1fcfdeb420dccca935b173e4f8865e7c93f40ed8cf", func := "kinescope/kinlaw22.EncodeFrames", spec := "encodeFrames", inPlace := ["internal/reflectlite.ValueOf", "(internal/reflectlite.Value).Type", "(internal/reflectlite.Value).IsNil", "internal/reflectlite.TypeOf", "(internal/reflectlite.Value).Elem", "(internal/reflectlite.Value).Set"], unfollowed := true, recurses := true, named := ["errors.errorType"], apart := false, laid := [("errors.errorType", laid_errors_errorType)] }
def EncodeFramesSaid : Prop := encodeFramesRow.holds Tryz.pinned (OpenSpec.ofChange encodeFramesSpec)

/-- ITS FALSE NEIGHBOUR: 'it returns false'. Refute it at one input. -/
def encodeFramesWrong : ChangeSpec := { name := "encodeFrames", fn := fun _ => fun
  | [d1, d2, d3, d4, d5] => { results := [.lit (.bool false)], args := [d1, d2, d3, d4, d5] }
  | _ => none }
def EncodeFramesWrongFalsely : Prop := encodeFramesRow.holds Tryz.pinned (OpenSpec.ofChange encodeFramesWrong)

/-- 'kinlaw22.EncodeFits': WHATEVER THE INPUT: true; the input reads as it did. -/
def encodeFitsSpec : ChangeSpec := { name := "encodeFits", fn := fun _ => fun
  | [d1, d2, d3, d4, d5] => { results := [.lit (.bool true)], args := [d1, d2, d3, d4, d5] }
  | _ => none }
def encodeFitsRow : OpenClaim := { program := "ythcafdfdglfabaagreatdoor", sum := "28db79cd1dda5ffb4b751f1fcfdeb420dccca935b173e4f8865e7c93f40ed8cf", func := "kinescope/kinlaw22.EncodeFits", spec := "encodeFits", inPlace := ["internal/reflectlite.ValueOf", "(internal/reflectlite.Value).Type", "(internal/reflectlite.Value).IsNil", "internal/reflectlite.TypeOf", "(internal/reflectlite.Value).Elem", "(internal/reflectlite.Value).Set"], unfollowed := true, recurses := true, named := ["errors.errorType"], apart := false, laid := [("errors.errorType", laid_errors_errorType)] }
def EncodeFitsSaid : Prop := encodeFitsRow.holds Tryz.pinned (OpenSpec.ofChange encodeFitsSpec)

/-- ITS FALSE NEIGHBOUR: 'it returns false'. Refute it at one input. -/
def encodeFitsWrong : ChangeSpec := { name := "encodeFits", fn := fun _ => fun
  | [d1, d2, d3, d4, d5] => { results := [.lit (.bool false)], args := [d1, d2, d3, d4, d5] }
  | _ => none }
def EncodeFitsWrongFalsely : Prop := encodeFitsRow.holds Tryz.pinned (OpenSpec.ofChange encodeFitsWrong)

/-- 'kinlaw23.GopEncodes': WHATEVER THE INPUT: true; the input reads as it did. -/
def gopEncodesSpec : ChangeSpec := { name := "gopEncodes", fn := fun _ => fun
  | [d1, d2, d3] => { results := [.lit (.bool true)], args := [d1, d2, d3] }
  | _ => none }
def gopEncodesRow : OpenClaim := { program := "ythcafdfdglfabaagreatdoor", sum := "28db79cd1dda5ffb4b751f1fcfdeb420dccca935b173e4f8865e7c93f40ed8cf", func := "kinescope/kinlaw23.GopEncodes", spec := "gopEncodes", inPlace := ["internal/reflectlite.ValueOf", "(internal/reflectlite.Value).Type", "(internal/reflectlite.Value).IsNil", "internal/reflectlite.TypeOf", "(internal/reflectlite.Value).Elem", "(internal/reflectlite.Value).Set"], unfollowed := true, recurses := true, named := ["errors.errorType"], apart := false, laid := [("errors.errorType", laid_errors_errorType)] }
def GopEncodesSaid : Prop := gopEncodesRow.holds Tryz.pinned (OpenSpec.ofChange gopEncodesSpec)

/-- ITS FALSE NEIGHBOUR: 'it returns false'. Refute it at one input. -/
def gopEncodesWrong : ChangeSpec := { name := "gopEncodes", fn := fun _ => fun
  | [d1, d2, d3] => { results := [.lit (.bool false)], args := [d1, d2, d3] }
  | _ => none }
def GopEncodesWrongFalsely : Prop := gopEncodesRow.holds Tryz.pinned (OpenSpec.ofChange gopEncodesWrong)

/- THE SECOND FORM. 'bulk': how many values and letters a reading holds, each counted each time it is reached (what is shared counts as often as it is met; a slice's spare places count too). A statement '..UptoSaid' is the law's where the arguments, and the package variables that the reading takes, are together of bulk at most 1048576: NARROWER than '..Said'. Prove '..Said' where nothing that the law and all that it calls make is longer than what came in: it says more and counts as full. Else prove '..UptoSaid'. A law counts once. -/
mutual
def uptoBulk {H : Type} : DataW H → Nat
  | .lit (.string bytes) => bytes.length + 1
  | .lit _ => 1
  | .nil => 1
  | .ptr d => uptoBulk d + 1
  | .slice elems spare => uptoBulkAll elems + uptoBulkAll spare + 1
  | .agg parts => uptoBulkAll parts + 1
  | .iface _ d => uptoBulk d + 1
  | .map entries => uptoBulkEntries entries + 1
  | .held _ => 1
def uptoBulkAll {H : Type} : List (DataW H) → Nat
  | [] => 0
  | d :: r => uptoBulk d + uptoBulkAll r
def uptoBulkEntries {H : Type} : List (Lit × DataW H) → Nat
  | [] => 0
  | x :: r => uptoBulkEntry x + uptoBulkEntries r
def uptoBulkEntry {H : Type} : Lit × DataW H → Nat
  | (.string bytes, d) => bytes.length + uptoBulk d + 1
  | (_, d) => uptoBulk d + 1
 end
def uptoSmall : (H : Type) → List (DataW H) → Bool := fun _ ds => decide (uptoBulkAll ds ≤ 1048576)
def OpenSpec.upto (s : _root_.Go.ChangeSpec) : _root_.Go.OpenSpec := { _root_.Go.OpenSpec.ofChange s with cond := some uptoSmall }

/-- 'kinlaw22.EncodeFrames', WHERE WHAT IT READS IS OF BULK AT MOST 1048576: true; the input reads as it did. -/
def encodeFramesUptoRow : OpenClaim := { program := "ythcafdfdglfabaagreatdoor", sum := "28db79cd1dda5ffb4b751f1fcfdeb420dccca935b173e4f8865e7c93f40ed8cf", func := "kinescope/kinlaw22.EncodeFrames", spec := "encodeFrames", inPlace := ["internal/reflectlite.ValueOf", "(internal/reflectlite.Value).Type", "(internal/reflectlite.Value).IsNil", "internal/reflectlite.TypeOf", "(internal/reflectlite.Value).Elem", "(internal/reflectlite.Value).Set"], unfollowed := true, recurses := true, named := ["errors.errorType"], apart := false, laid := [("errors.errorType", laid_errors_errorType)], narrowed := true }
def EncodeFramesUptoSaid : Prop := encodeFramesUptoRow.holds Tryz.pinned (OpenSpec.upto encodeFramesSpec)

/-- 'kinlaw22.EncodeFits', WHERE WHAT IT READS IS OF BULK AT MOST 1048576: true; the input reads as it did. -/
def encodeFitsUptoRow : OpenClaim := { program := "ythcafdfdglfabaagreatdoor", sum := "28db79cd1dda5ffb4b751f1fcfdeb420dccca935b173e4f8865e7c93f40ed8cf", func := "kinescope/kinlaw22.EncodeFits", spec := "encodeFits", inPlace := ["internal/reflectlite.ValueOf", "(internal/reflectlite.Value).Type", "(internal/reflectlite.Value).IsNil", "internal/reflectlite.TypeOf", "(internal/reflectlite.Value).Elem", "(internal/reflectlite.Value).Set"], unfollowed := true, recurses := true, named := ["errors.errorType"], apart := false, laid := [("errors.errorType", laid_errors_errorType)], narrowed := true }
def EncodeFitsUptoSaid : Prop := encodeFitsUptoRow.holds Tryz.pinned (OpenSpec.upto encodeFitsSpec)

/-- 'kinlaw23.GopEncodes', WHERE WHAT IT READS IS OF BULK AT MOST 1048576: true; the input reads as it did. -/
def gopEncodesUptoRow : OpenClaim := { program := "ythcafdfdglfabaagreatdoor", sum := "28db79cd1dda5ffb4b751f1fcfdeb420dccca935b173e4f8865e7c93f40ed8cf", func := "kinescope/kinlaw23.GopEncodes", spec := "gopEncodes", inPlace := ["internal/reflectlite.ValueOf", "(internal/reflectlite.Value).Type", "(internal/reflectlite.Value).IsNil", "internal/reflectlite.TypeOf", "(internal/reflectlite.Value).Elem", "(internal/reflectlite.Value).Set"], unfollowed := true, recurses := true, named := ["errors.errorType"], apart := false, laid := [("errors.errorType", laid_errors_errorType)], narrowed := true }
def GopEncodesUptoSaid : Prop := gopEncodesUptoRow.holds Tryz.pinned (OpenSpec.upto gopEncodesSpec)

end Rows
end Go.Proofs.YthcafdfdglfabaaGreatDoor
