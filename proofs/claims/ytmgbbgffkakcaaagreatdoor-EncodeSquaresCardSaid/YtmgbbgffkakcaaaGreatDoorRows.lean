/-
  NARROWER THAN 'FOR EVERY INPUT', by the rows' own cells (each row's printed sentence says how): EncodeFrames: laid · EncodeFits: laid · EncodeCosts: laid · EncodeStill: laid · EncodeKeys: laid · EncodeSquares: laid · EncodePeaks: laid · EncodeDrifts: laid.
  DERIVED. THE GIVEN ROWS OF THIS SEAT. 8 by the template 'for every input the law returns true; each argument reads behind the call as it read before'; 0 by the template 'total and deterministic' (their statements: YtmgbbgffkakcaaaGreatDoorTotals.lean).
  GIVEN WITH THE SEED: the statements are not yours to turn. If you find one false, say at which input.
  Laid BY PROGRAM, IN A SANDBOX (cutbox-rows.mjs): the forced cells as the released guide's own fill.sh prints them over the translation e0794b78b6ec273d… (all of the seat's roots in one cut). By AI agents, Wed Nov 11 2026. No macro, syntax, notation, axiom, sorry.
-/
import Derived.Test.YtmgbbgffkakcaaaGreatDoorChecked
import GoSem.Claim
import GoSem.ClaimJoined
import GoSem.ClaimMapViews
import Derived.JoinedTies
import Derived.KernelRfl
namespace Go.Proofs.YtmgbbgffkakcaaaGreatDoor
/- THE CELL 'sum', in the pinned program and in every row, IS THE sha256 OF THE DUMP (.gsa) THAT YtmgbbgffkakcaaaGreatDoorProg.lean LOADS. Nothing in Lean hashes anything: it is a label: what it is worth is what the hold of that sum in a sandbox is worth. -/
noncomputable def Tryz.pinned : Pinned := { name := "ytmgbbgffkakcaaagreatdoor", sum := "e0794b78b6ec273d63ed7dc617c4f0372ba762a14bf4ceb67fb8aeed7255d5cf", checked := Tryz.checked }
namespace Rows
def none {H : Type} : Left H := { results := [], args := [] }

/- WHAT THE LISTED PACKAGE-LEVEL VARIABLES READ AS WHEN THE CALL BEGINS. Each datum BY PROGRAM (the guide's laid-datum.mjs) off the statement by which the dump's own 'gosem.cut.vars' lays the variable. In a bare row this is a premise. The card (YtmgbbgffkakcaaaGreatDoorCards.lean) ties it to the program's text. -/
def laid_errors_errorType {H : Type} : DataW H := .iface "internal/reflectlite.rtype" (.agg [.ptr (.lit (.string [101, 114, 114, 111, 114]))])

/-- 'kinlaw22.EncodeFrames': WHATEVER THE INPUT: true; the input reads as it did. -/
def encodeFramesSpec : ChangeSpec := { name := "encodeFrames", fn := fun _ => fun
  | [d1, d2, d3, d4, d5] => { results := [.lit (.bool true)], args := [d1, d2, d3, d4, d5] }
  | _ => none }
def encodeFramesRow : OpenClaim := { program := "ytmgbbgffkakcaaagreatdoor", sum := "e0794b78b6ec273d63ed7dc617c4f0372ba762a14bf4ceb67fb8aeed7255d5cf", func := "kinescope/kinlaw22.EncodeFrames", spec := "encodeFrames", inPlace := ["internal/reflectlite.ValueOf", "(internal/reflectlite.Value).Type", "(internal/reflectlite.Value).IsNil", "internal/reflectlite.TypeOf", "(internal/reflectlite.Value).Elem", "(internal/reflectlite.Value).Set"], unfollowed := true, recurses := true, named := ["errors.errorType"], apart := false, laid := [("errors.errorType", laid_errors_errorType)] }
def EncodeFramesSaid : Prop := encodeFramesRow.holds Tryz.pinned (OpenSpec.ofChange encodeFramesSpec)

/-- ITS FALSE NEIGHBOUR: 'it returns false'. Refute it at one input. -/
def encodeFramesWrong : ChangeSpec := { name := "encodeFrames", fn := fun _ => fun
  | [d1, d2, d3, d4, d5] => { results := [.lit (.bool false)], args := [d1, d2, d3, d4, d5] }
  | _ => none }
def EncodeFramesWrongFalsely : Prop := encodeFramesRow.holds Tryz.pinned (OpenSpec.ofChange encodeFramesWrong)

/-- 'kinlaw22.EncodeFits': WHATEVER THE INPUT: true; the input reads as it did. -/
def encodeFitsSpec : ChangeSpec := { name := "encodeFits", fn := fun _ => fun
  | [d1, d2, d3, d4, d5] => { results := [.lit (.bool true)], args := [d1, d2, d3, d4, d5] }
  | _ => none }
def encodeFitsRow : OpenClaim := { program := "ytmgbbgffkakcaaagreatdoor", sum := "e0794b78b6ec273d63ed7dc617c4f0372ba762a14bf4ceb67fb8aeed7255d5cf", func := "kinescope/kinlaw22.EncodeFits", spec := "encodeFits", inPlace := ["internal/reflectlite.ValueOf", "(internal/reflectlite.Value).Type", "(internal/reflectlite.Value).IsNil", "internal/reflectlite.TypeOf", "(internal/reflectlite.Value).Elem", "(internal/reflectlite.Value).Set"], unfollowed := true, recurses := true, named := ["errors.errorType"], apart := false, laid := [("errors.errorType", laid_errors_errorType)] }
def EncodeFitsSaid : Prop := encodeFitsRow.holds Tryz.pinned (OpenSpec.ofChange encodeFitsSpec)

/-- ITS FALSE NEIGHBOUR: 'it returns false'. Refute it at one input. -/
def encodeFitsWrong : ChangeSpec := { name := "encodeFits", fn := fun _ => fun
  | [d1, d2, d3, d4, d5] => { results := [.lit (.bool false)], args := [d1, d2, d3, d4, d5] }
  | _ => none }
def EncodeFitsWrongFalsely : Prop := encodeFitsRow.holds Tryz.pinned (OpenSpec.ofChange encodeFitsWrong)

/-- 'kinlaw22.EncodeCosts': WHATEVER THE INPUT: true; the input reads as it did. -/
def encodeCostsSpec : ChangeSpec := { name := "encodeCosts", fn := fun _ => fun
  | [d1, d2, d3, d4, d5] => { results := [.lit (.bool true)], args := [d1, d2, d3, d4, d5] }
  | _ => none }
def encodeCostsRow : OpenClaim := { program := "ytmgbbgffkakcaaagreatdoor", sum := "e0794b78b6ec273d63ed7dc617c4f0372ba762a14bf4ceb67fb8aeed7255d5cf", func := "kinescope/kinlaw22.EncodeCosts", spec := "encodeCosts", inPlace := ["internal/reflectlite.ValueOf", "(internal/reflectlite.Value).Type", "(internal/reflectlite.Value).IsNil", "internal/reflectlite.TypeOf", "(internal/reflectlite.Value).Elem", "(internal/reflectlite.Value).Set"], unfollowed := true, recurses := true, named := ["errors.errorType"], apart := false, laid := [("errors.errorType", laid_errors_errorType)] }
def EncodeCostsSaid : Prop := encodeCostsRow.holds Tryz.pinned (OpenSpec.ofChange encodeCostsSpec)

/-- ITS FALSE NEIGHBOUR: 'it returns false'. Refute it at one input. -/
def encodeCostsWrong : ChangeSpec := { name := "encodeCosts", fn := fun _ => fun
  | [d1, d2, d3, d4, d5] => { results := [.lit (.bool false)], args := [d1, d2, d3, d4, d5] }
  | _ => none }
def EncodeCostsWrongFalsely : Prop := encodeCostsRow.holds Tryz.pinned (OpenSpec.ofChange encodeCostsWrong)

/-- 'kinlaw22.EncodeStill': WHATEVER THE INPUT: true; the input reads as it did. -/
def encodeStillSpec : ChangeSpec := { name := "encodeStill", fn := fun _ => fun
  | [d1, d2, d3] => { results := [.lit (.bool true)], args := [d1, d2, d3] }
  | _ => none }
def encodeStillRow : OpenClaim := { program := "ytmgbbgffkakcaaagreatdoor", sum := "e0794b78b6ec273d63ed7dc617c4f0372ba762a14bf4ceb67fb8aeed7255d5cf", func := "kinescope/kinlaw22.EncodeStill", spec := "encodeStill", inPlace := ["internal/reflectlite.ValueOf", "(internal/reflectlite.Value).Type", "(internal/reflectlite.Value).IsNil", "internal/reflectlite.TypeOf", "(internal/reflectlite.Value).Elem", "(internal/reflectlite.Value).Set"], unfollowed := true, recurses := true, named := ["errors.errorType"], apart := false, laid := [("errors.errorType", laid_errors_errorType)] }
def EncodeStillSaid : Prop := encodeStillRow.holds Tryz.pinned (OpenSpec.ofChange encodeStillSpec)

/-- ITS FALSE NEIGHBOUR: 'it returns false'. Refute it at one input. -/
def encodeStillWrong : ChangeSpec := { name := "encodeStill", fn := fun _ => fun
  | [d1, d2, d3] => { results := [.lit (.bool false)], args := [d1, d2, d3] }
  | _ => none }
def EncodeStillWrongFalsely : Prop := encodeStillRow.holds Tryz.pinned (OpenSpec.ofChange encodeStillWrong)

/-- 'kinlaw22.EncodeKeys': WHATEVER THE INPUT: true; the input reads as it did. -/
def encodeKeysSpec : ChangeSpec := { name := "encodeKeys", fn := fun _ => fun
  | [d1, d2, d3, d4, d5] => { results := [.lit (.bool true)], args := [d1, d2, d3, d4, d5] }
  | _ => none }
def encodeKeysRow : OpenClaim := { program := "ytmgbbgffkakcaaagreatdoor", sum := "e0794b78b6ec273d63ed7dc617c4f0372ba762a14bf4ceb67fb8aeed7255d5cf", func := "kinescope/kinlaw22.EncodeKeys", spec := "encodeKeys", inPlace := ["internal/reflectlite.ValueOf", "(internal/reflectlite.Value).Type", "(internal/reflectlite.Value).IsNil", "internal/reflectlite.TypeOf", "(internal/reflectlite.Value).Elem", "(internal/reflectlite.Value).Set"], unfollowed := true, recurses := true, named := ["errors.errorType"], apart := false, laid := [("errors.errorType", laid_errors_errorType)] }
def EncodeKeysSaid : Prop := encodeKeysRow.holds Tryz.pinned (OpenSpec.ofChange encodeKeysSpec)

/-- ITS FALSE NEIGHBOUR: 'it returns false'. Refute it at one input. -/
def encodeKeysWrong : ChangeSpec := { name := "encodeKeys", fn := fun _ => fun
  | [d1, d2, d3, d4, d5] => { results := [.lit (.bool false)], args := [d1, d2, d3, d4, d5] }
  | _ => none }
def EncodeKeysWrongFalsely : Prop := encodeKeysRow.holds Tryz.pinned (OpenSpec.ofChange encodeKeysWrong)

/-- 'kinlaw22.EncodeSquares': WHATEVER THE INPUT: true; the input reads as it did. -/
def encodeSquaresSpec : ChangeSpec := { name := "encodeSquares", fn := fun _ => fun
  | [d1, d2, d3, d4, d5, d6, d7, d8] => { results := [.lit (.bool true)], args := [d1, d2, d3, d4, d5, d6, d7, d8] }
  | _ => none }
def encodeSquaresRow : OpenClaim := { program := "ytmgbbgffkakcaaagreatdoor", sum := "e0794b78b6ec273d63ed7dc617c4f0372ba762a14bf4ceb67fb8aeed7255d5cf", func := "kinescope/kinlaw22.EncodeSquares", spec := "encodeSquares", inPlace := ["internal/reflectlite.ValueOf", "(internal/reflectlite.Value).Type", "(internal/reflectlite.Value).IsNil", "internal/reflectlite.TypeOf", "(internal/reflectlite.Value).Elem", "(internal/reflectlite.Value).Set"], unfollowed := true, recurses := true, named := ["errors.errorType"], apart := false, laid := [("errors.errorType", laid_errors_errorType)] }
def EncodeSquaresSaid : Prop := encodeSquaresRow.holds Tryz.pinned (OpenSpec.ofChange encodeSquaresSpec)

/-- ITS FALSE NEIGHBOUR: 'it returns false'. Refute it at one input. -/
def encodeSquaresWrong : ChangeSpec := { name := "encodeSquares", fn := fun _ => fun
  | [d1, d2, d3, d4, d5, d6, d7, d8] => { results := [.lit (.bool false)], args := [d1, d2, d3, d4, d5, d6, d7, d8] }
  | _ => none }
def EncodeSquaresWrongFalsely : Prop := encodeSquaresRow.holds Tryz.pinned (OpenSpec.ofChange encodeSquaresWrong)

/-- 'kinlaw22.EncodePeaks': WHATEVER THE INPUT: true; the input reads as it did. -/
def encodePeaksSpec : ChangeSpec := { name := "encodePeaks", fn := fun _ => fun
  | [d1, d2, d3, d4, d5] => { results := [.lit (.bool true)], args := [d1, d2, d3, d4, d5] }
  | _ => none }
def encodePeaksRow : OpenClaim := { program := "ytmgbbgffkakcaaagreatdoor", sum := "e0794b78b6ec273d63ed7dc617c4f0372ba762a14bf4ceb67fb8aeed7255d5cf", func := "kinescope/kinlaw22.EncodePeaks", spec := "encodePeaks", inPlace := ["internal/reflectlite.ValueOf", "(internal/reflectlite.Value).Type", "(internal/reflectlite.Value).IsNil", "internal/reflectlite.TypeOf", "(internal/reflectlite.Value).Elem", "(internal/reflectlite.Value).Set"], unfollowed := true, recurses := true, named := ["errors.errorType"], apart := false, laid := [("errors.errorType", laid_errors_errorType)] }
def EncodePeaksSaid : Prop := encodePeaksRow.holds Tryz.pinned (OpenSpec.ofChange encodePeaksSpec)

/-- ITS FALSE NEIGHBOUR: 'it returns false'. Refute it at one input. -/
def encodePeaksWrong : ChangeSpec := { name := "encodePeaks", fn := fun _ => fun
  | [d1, d2, d3, d4, d5] => { results := [.lit (.bool false)], args := [d1, d2, d3, d4, d5] }
  | _ => none }
def EncodePeaksWrongFalsely : Prop := encodePeaksRow.holds Tryz.pinned (OpenSpec.ofChange encodePeaksWrong)

/-- 'kinlaw22.EncodeDrifts': WHATEVER THE INPUT: true; the input reads as it did. -/
def encodeDriftsSpec : ChangeSpec := { name := "encodeDrifts", fn := fun _ => fun
  | [d1, d2, d3, d4, d5] => { results := [.lit (.bool true)], args := [d1, d2, d3, d4, d5] }
  | _ => none }
def encodeDriftsRow : OpenClaim := { program := "ytmgbbgffkakcaaagreatdoor", sum := "e0794b78b6ec273d63ed7dc617c4f0372ba762a14bf4ceb67fb8aeed7255d5cf", func := "kinescope/kinlaw22.EncodeDrifts", spec := "encodeDrifts", inPlace := ["internal/reflectlite.ValueOf", "(internal/reflectlite.Value).Type", "(internal/reflectlite.Value).IsNil", "internal/reflectlite.TypeOf", "(internal/reflectlite.Value).Elem", "(internal/reflectlite.Value).Set"], unfollowed := true, recurses := true, named := ["errors.errorType"], apart := false, laid := [("errors.errorType", laid_errors_errorType)] }
def EncodeDriftsSaid : Prop := encodeDriftsRow.holds Tryz.pinned (OpenSpec.ofChange encodeDriftsSpec)

/-- ITS FALSE NEIGHBOUR: 'it returns false'. Refute it at one input. -/
def encodeDriftsWrong : ChangeSpec := { name := "encodeDrifts", fn := fun _ => fun
  | [d1, d2, d3, d4, d5] => { results := [.lit (.bool false)], args := [d1, d2, d3, d4, d5] }
  | _ => none }
def EncodeDriftsWrongFalsely : Prop := encodeDriftsRow.holds Tryz.pinned (OpenSpec.ofChange encodeDriftsWrong)

/- THE SECOND FORM. 'bulk': how many values and letters a reading holds, each counted each time it is reached (what is shared counts as often as it is met; a slice's spare places count too). A statement '..UptoSaid' is the law's where the arguments, and the package variables that the reading takes, are together of bulk at most 1048576: NARROWER than '..Said'. Prove '..Said' where nothing that the law and all that it calls make is longer than what came in: it says more and counts as full. Else prove '..UptoSaid'. A law counts once. -/
mutual
def uptoBulk {H : Type} : DataW H → Nat
  | .lit (.string bytes) => bytes.length + 1
  | .lit _ => 1
  | .nil => 1
  | .ptr d => uptoBulk d + 1
  | .slice elems spare => uptoBulkAll elems + uptoBulkAll spare + 1
  | .agg parts => uptoBulkAll parts + 1
  | .iface _ d => uptoBulk d + 1
  | .map entries => uptoBulkEntries entries + 1
  | .held _ => 1
def uptoBulkAll {H : Type} : List (DataW H) → Nat
  | [] => 0
  | d :: r => uptoBulk d + uptoBulkAll r
def uptoBulkEntries {H : Type} : List (Lit × DataW H) → Nat
  | [] => 0
  | x :: r => uptoBulkEntry x + uptoBulkEntries r
def uptoBulkEntry {H : Type} : Lit × DataW H → Nat
  | (.string bytes, d) => bytes.length + uptoBulk d + 1
  | (_, d) => uptoBulk d + 1
 end
def uptoSmall : (H : Type) → List (DataW H) → Bool := fun _ ds => decide (uptoBulkAll ds ≤ 1048576)
def OpenSpec.upto (s : _root_.Go.ChangeSpec) : _root_.Go.OpenSpec := { _root_.Go.OpenSpec.ofChange s with cond := some uptoSmall }

/-- 'kinlaw22.EncodeFrames', WHERE WHAT IT READS IS OF BULK AT MOST 1048576: true; the input reads as it did. -/
def encodeFramesUptoRow : OpenClaim := { program := "ytmgbbgffkakcaaagreatdoor", sum := "e0794b78b6ec273d63ed7dc617c4f0372ba762a14bf4ceb67fb8aeed7255d5cf", func := "kinescope/kinlaw22.EncodeFrames", spec := "encodeFrames", inPlace := ["internal/reflectlite.ValueOf", "(internal/reflectlite.Value).Type", "(internal/reflectlite.Value).IsNil", "internal/reflectlite.TypeOf", "(internal/reflectlite.Value).Elem", "(internal/reflectlite.Value).Set"], unfollowed := true, recurses := true, named := ["errors.errorType"], apart := false, laid := [("errors.errorType", laid_errors_errorType)], narrowed := true }
def EncodeFramesUptoSaid : Prop := encodeFramesUptoRow.holds Tryz.pinned (OpenSpec.upto encodeFramesSpec)

/-- 'kinlaw22.EncodeFits', WHERE WHAT IT READS IS OF BULK AT MOST 1048576: true; the input reads as it did. -/
def encodeFitsUptoRow : OpenClaim := { program := "ytmgbbgffkakcaaagreatdoor", sum := "e0794b78b6ec273d63ed7dc617c4f0372ba762a14bf4ceb67fb8aeed7255d5cf", func := "kinescope/kinlaw22.EncodeFits", spec := "encodeFits", inPlace := ["internal/reflectlite.ValueOf", "(internal/reflectlite.Value).Type", "(internal/reflectlite.Value).IsNil", "internal/reflectlite.TypeOf", "(internal/reflectlite.Value).Elem", "(internal/reflectlite.Value).Set"], unfollowed := true, recurses := true, named := ["errors.errorType"], apart := false, laid := [("errors.errorType", laid_errors_errorType)], narrowed := true }
def EncodeFitsUptoSaid : Prop := encodeFitsUptoRow.holds Tryz.pinned (OpenSpec.upto encodeFitsSpec)

/-- 'kinlaw22.EncodeCosts', WHERE WHAT IT READS IS OF BULK AT MOST 1048576: true; the input reads as it did. -/
def encodeCostsUptoRow : OpenClaim := { program := "ytmgbbgffkakcaaagreatdoor", sum := "e0794b78b6ec273d63ed7dc617c4f0372ba762a14bf4ceb67fb8aeed7255d5cf", func := "kinescope/kinlaw22.EncodeCosts", spec := "encodeCosts", inPlace := ["internal/reflectlite.ValueOf", "(internal/reflectlite.Value).Type", "(internal/reflectlite.Value).IsNil", "internal/reflectlite.TypeOf", "(internal/reflectlite.Value).Elem", "(internal/reflectlite.Value).Set"], unfollowed := true, recurses := true, named := ["errors.errorType"], apart := false, laid := [("errors.errorType", laid_errors_errorType)], narrowed := true }
def EncodeCostsUptoSaid : Prop := encodeCostsUptoRow.holds Tryz.pinned (OpenSpec.upto encodeCostsSpec)

/-- 'kinlaw22.EncodeStill', WHERE WHAT IT READS IS OF BULK AT MOST 1048576: true; the input reads as it did. -/
def encodeStillUptoRow : OpenClaim := { program := "ytmgbbgffkakcaaagreatdoor", sum := "e0794b78b6ec273d63ed7dc617c4f0372ba762a14bf4ceb67fb8aeed7255d5cf", func := "kinescope/kinlaw22.EncodeStill", spec := "encodeStill", inPlace := ["internal/reflectlite.ValueOf", "(internal/reflectlite.Value).Type", "(internal/reflectlite.Value).IsNil", "internal/reflectlite.TypeOf", "(internal/reflectlite.Value).Elem", "(internal/reflectlite.Value).Set"], unfollowed := true, recurses := true, named := ["errors.errorType"], apart := false, laid := [("errors.errorType", laid_errors_errorType)], narrowed := true }
def EncodeStillUptoSaid : Prop := encodeStillUptoRow.holds Tryz.pinned (OpenSpec.upto encodeStillSpec)

/-- 'kinlaw22.EncodeKeys', WHERE WHAT IT READS IS OF BULK AT MOST 1048576: true; the input reads as it did. -/
def encodeKeysUptoRow : OpenClaim := { program := "ytmgbbgffkakcaaagreatdoor", sum := "e0794b78b6ec273d63ed7dc617c4f0372ba762a14bf4ceb67fb8aeed7255d5cf", func := "kinescope/kinlaw22.EncodeKeys", spec := "encodeKeys", inPlace := ["internal/reflectlite.ValueOf", "(internal/reflectlite.Value).Type", "(internal/reflectlite.Value).IsNil", "internal/reflectlite.TypeOf", "(internal/reflectlite.Value).Elem", "(internal/reflectlite.Value).Set"], unfollowed := true, recurses := true, named := ["errors.errorType"], apart := false, laid := [("errors.errorType", laid_errors_errorType)], narrowed := true }
def EncodeKeysUptoSaid : Prop := encodeKeysUptoRow.holds Tryz.pinned (OpenSpec.upto encodeKeysSpec)

/-- 'kinlaw22.EncodeSquares', WHERE WHAT IT READS IS OF BULK AT MOST 1048576: true; the input reads as it did. -/
def encodeSquaresUptoRow : OpenClaim := { program := "ytmgbbgffkakcaaagreatdoor", sum := "e0794b78b6ec273d63ed7dc617c4f0372ba762a14bf4ceb67fb8aeed7255d5cf", func := "kinescope/kinlaw22.EncodeSquares", spec := "encodeSquares", inPlace := ["internal/reflectlite.ValueOf", "(internal/reflectlite.Value).Type", "(internal/reflectlite.Value).IsNil", "internal/reflectlite.TypeOf", "(internal/reflectlite.Value).Elem", "(internal/reflectlite.Value).Set"], unfollowed := true, recurses := true, named := ["errors.errorType"], apart := false, laid := [("errors.errorType", laid_errors_errorType)], narrowed := true }
def EncodeSquaresUptoSaid : Prop := encodeSquaresUptoRow.holds Tryz.pinned (OpenSpec.upto encodeSquaresSpec)

/-- 'kinlaw22.EncodePeaks', WHERE WHAT IT READS IS OF BULK AT MOST 1048576: true; the input reads as it did. -/
def encodePeaksUptoRow : OpenClaim := { program := "ytmgbbgffkakcaaagreatdoor", sum := "e0794b78b6ec273d63ed7dc617c4f0372ba762a14bf4ceb67fb8aeed7255d5cf", func := "kinescope/kinlaw22.EncodePeaks", spec := "encodePeaks", inPlace := ["internal/reflectlite.ValueOf", "(internal/reflectlite.Value).Type", "(internal/reflectlite.Value).IsNil", "internal/reflectlite.TypeOf", "(internal/reflectlite.Value).Elem", "(internal/reflectlite.Value).Set"], unfollowed := true, recurses := true, named := ["errors.errorType"], apart := false, laid := [("errors.errorType", laid_errors_errorType)], narrowed := true }
def EncodePeaksUptoSaid : Prop := encodePeaksUptoRow.holds Tryz.pinned (OpenSpec.upto encodePeaksSpec)

/-- 'kinlaw22.EncodeDrifts', WHERE WHAT IT READS IS OF BULK AT MOST 1048576: true; the input reads as it did. -/
def encodeDriftsUptoRow : OpenClaim := { program := "ytmgbbgffkakcaaagreatdoor", sum := "e0794b78b6ec273d63ed7dc617c4f0372ba762a14bf4ceb67fb8aeed7255d5cf", func := "kinescope/kinlaw22.EncodeDrifts", spec := "encodeDrifts", inPlace := ["internal/reflectlite.ValueOf", "(internal/reflectlite.Value).Type", "(internal/reflectlite.Value).IsNil", "internal/reflectlite.TypeOf", "(internal/reflectlite.Value).Elem", "(internal/reflectlite.Value).Set"], unfollowed := true, recurses := true, named := ["errors.errorType"], apart := false, laid := [("errors.errorType", laid_errors_errorType)], narrowed := true }
def EncodeDriftsUptoSaid : Prop := encodeDriftsUptoRow.holds Tryz.pinned (OpenSpec.upto encodeDriftsSpec)

end Rows
end Go.Proofs.YtmgbbgffkakcaaaGreatDoor
