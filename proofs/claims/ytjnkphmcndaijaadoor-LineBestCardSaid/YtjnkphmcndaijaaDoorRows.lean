/-
  NARROWER THAN 'FOR EVERY INPUT', by the rows' own cells (each row's printed sentence says how): LineErrors: laid · LineDetected: laid · LineWithin: laid · LineApart: laid · LineSpeeds: laid · LineCases: laid · LineEstimates: laid · LineDetections: laid · LineBest: laid · LineProved: laid · LineHard: laid · LineReached: laid · LineSpectra: laid · LineRates: laid · LineKept: laid.
  DERIVED. THE GIVEN ROWS OF THIS SEAT. 15 by the template 'for every input the law returns true; each argument reads behind the call as it read before'; 0 by the template 'total and deterministic' (their statements: YtjnkphmcndaijaaDoorTotals.lean).
  GIVEN WITH THE SEED: the statements are not yours to turn. If you find one false, say at which input.
  Laid BY PROGRAM, IN A SANDBOX (cutbox-rows.mjs): the forced cells as the released guide's own fill.sh prints them over the translation 1ea2fde085a212e5… (all of the seat's roots in one cut). By AI agents, Wed Nov 11 2026. No macro, syntax, notation, axiom, sorry.
-/
import Derived.Test.YtjnkphmcndaijaaDoorChecked
import GoSem.Claim
import GoSem.ClaimJoined
import GoSem.ClaimMapViews
import Derived.JoinedTies
import Derived.KernelRfl
namespace Go.Proofs.YtjnkphmcndaijaaDoor
/- THE CELL 'sum', in the pinned program and in every row, IS THE sha256 OF THE DUMP (.gsa) THAT YtjnkphmcndaijaaDoorProg.lean LOADS. Nothing in Lean hashes anything: it is a label: what it is worth is what the hold of that sum in a sandbox is worth. -/
noncomputable def Tryd.pinned : Pinned := { name := "ytjnkphmcndaijaadoor", sum := "1ea2fde085a212e523f1e493edda07bb5ef9063a3f96ea791e5bf96b6c54433d", checked := Tryd.checked }
namespace Rows
def none {H : Type} : Left H := { results := [], args := [] }

/- WHAT THE LISTED PACKAGE-LEVEL VARIABLES READ AS WHEN THE CALL BEGINS. Each datum BY PROGRAM (the guide's laid-datum.mjs) off the statement by which the dump's own 'gosem.cut.vars' lays the variable. In a bare row this is a premise. The card (YtjnkphmcndaijaaDoorCards.lean) ties it to the program's text. -/
def laid_glidepath_line_estimators {H : Type} : DataW H := .iface "func table" (.agg [.iface "func" (.lit (.string [40, 103, 108, 105, 100, 101, 112, 97, 116, 104, 47, 108, 105, 110, 101, 46, 115, 112, 101, 99, 116, 114, 117, 109, 41, 46, 104, 105, 103, 104, 101, 115, 116])), .iface "func" (.lit (.string [40, 103, 108, 105, 100, 101, 112, 97, 116, 104, 47, 108, 105, 110, 101, 46, 115, 112, 101, 99, 116, 114, 117, 109, 41, 46, 119, 104, 111, 108, 101])), .iface "func" (.lit (.string [40, 103, 108, 105, 100, 101, 112, 97, 116, 104, 47, 108, 105, 110, 101, 46, 115, 112, 101, 99, 116, 114, 117, 109, 41, 46, 112, 97, 114, 97, 98, 111, 108, 97])), .iface "func" (.lit (.string [40, 103, 108, 105, 100, 101, 112, 97, 116, 104, 47, 108, 105, 110, 101, 46, 115, 112, 101, 99, 116, 114, 117, 109, 41, 46, 109, 101, 100, 105, 97, 110]))])

/-- 'glidepathlaw02.LineErrors': WHATEVER THE INPUT: true; the input reads as it did. -/
def lineErrorsSpec : ChangeSpec := { name := "lineErrors", fn := fun _ => fun
  | [d1, d2] => { results := [.lit (.bool true)], args := [d1, d2] }
  | _ => none }
def lineErrorsRow : OpenClaim := { program := "ytjnkphmcndaijaadoor", sum := "1ea2fde085a212e523f1e493edda07bb5ef9063a3f96ea791e5bf96b6c54433d", func := "glidepath/glidepathlaw02.LineErrors", spec := "lineErrors", unfollowed := true, recurses := true, named := ["glidepath/line.estimators"], apart := false, laid := [("glidepath/line.estimators", laid_glidepath_line_estimators)] }
def LineErrorsSaid : Prop := lineErrorsRow.holds Tryd.pinned (OpenSpec.ofChange lineErrorsSpec)

/-- ITS FALSE NEIGHBOUR: 'it returns false'. Refute it at one input. -/
def lineErrorsWrong : ChangeSpec := { name := "lineErrors", fn := fun _ => fun
  | [d1, d2] => { results := [.lit (.bool false)], args := [d1, d2] }
  | _ => none }
def LineErrorsWrongFalsely : Prop := lineErrorsRow.holds Tryd.pinned (OpenSpec.ofChange lineErrorsWrong)

/-- 'glidepathlaw02.LineDetected': WHATEVER THE INPUT: true; the input reads as it did. -/
def lineDetectedSpec : ChangeSpec := { name := "lineDetected", fn := fun _ => fun
  | [d1, d2] => { results := [.lit (.bool true)], args := [d1, d2] }
  | _ => none }
def lineDetectedRow : OpenClaim := { program := "ytjnkphmcndaijaadoor", sum := "1ea2fde085a212e523f1e493edda07bb5ef9063a3f96ea791e5bf96b6c54433d", func := "glidepath/glidepathlaw02.LineDetected", spec := "lineDetected", unfollowed := true, recurses := true, named := ["glidepath/line.estimators"], apart := false, laid := [("glidepath/line.estimators", laid_glidepath_line_estimators)] }
def LineDetectedSaid : Prop := lineDetectedRow.holds Tryd.pinned (OpenSpec.ofChange lineDetectedSpec)

/-- ITS FALSE NEIGHBOUR: 'it returns false'. Refute it at one input. -/
def lineDetectedWrong : ChangeSpec := { name := "lineDetected", fn := fun _ => fun
  | [d1, d2] => { results := [.lit (.bool false)], args := [d1, d2] }
  | _ => none }
def LineDetectedWrongFalsely : Prop := lineDetectedRow.holds Tryd.pinned (OpenSpec.ofChange lineDetectedWrong)

/-- 'glidepathlaw02.LineWithin': WHATEVER THE INPUT: true; the input reads as it did. -/
def lineWithinSpec : ChangeSpec := { name := "lineWithin", fn := fun _ => fun
  | [d1, d2] => { results := [.lit (.bool true)], args := [d1, d2] }
  | _ => none }
def lineWithinRow : OpenClaim := { program := "ytjnkphmcndaijaadoor", sum := "1ea2fde085a212e523f1e493edda07bb5ef9063a3f96ea791e5bf96b6c54433d", func := "glidepath/glidepathlaw02.LineWithin", spec := "lineWithin", unfollowed := true, recurses := true, named := ["glidepath/line.estimators"], apart := false, laid := [("glidepath/line.estimators", laid_glidepath_line_estimators)] }
def LineWithinSaid : Prop := lineWithinRow.holds Tryd.pinned (OpenSpec.ofChange lineWithinSpec)

/-- ITS FALSE NEIGHBOUR: 'it returns false'. Refute it at one input. -/
def lineWithinWrong : ChangeSpec := { name := "lineWithin", fn := fun _ => fun
  | [d1, d2] => { results := [.lit (.bool false)], args := [d1, d2] }
  | _ => none }
def LineWithinWrongFalsely : Prop := lineWithinRow.holds Tryd.pinned (OpenSpec.ofChange lineWithinWrong)

/-- 'glidepathlaw02.LineApart': WHATEVER THE INPUT: true; the input reads as it did. -/
def lineApartSpec : ChangeSpec := { name := "lineApart", fn := fun _ => fun
  | [d1, d2, d3] => { results := [.lit (.bool true)], args := [d1, d2, d3] }
  | _ => none }
def lineApartRow : OpenClaim := { program := "ytjnkphmcndaijaadoor", sum := "1ea2fde085a212e523f1e493edda07bb5ef9063a3f96ea791e5bf96b6c54433d", func := "glidepath/glidepathlaw02.LineApart", spec := "lineApart", unfollowed := true, recurses := true, named := ["glidepath/line.estimators"], apart := false, laid := [("glidepath/line.estimators", laid_glidepath_line_estimators)] }
def LineApartSaid : Prop := lineApartRow.holds Tryd.pinned (OpenSpec.ofChange lineApartSpec)

/-- ITS FALSE NEIGHBOUR: 'it returns false'. Refute it at one input. -/
def lineApartWrong : ChangeSpec := { name := "lineApart", fn := fun _ => fun
  | [d1, d2, d3] => { results := [.lit (.bool false)], args := [d1, d2, d3] }
  | _ => none }
def LineApartWrongFalsely : Prop := lineApartRow.holds Tryd.pinned (OpenSpec.ofChange lineApartWrong)

/-- 'glidepathlaw02.LineSpeeds': WHATEVER THE INPUT: true; the input reads as it did. -/
def lineSpeedsSpec : ChangeSpec := { name := "lineSpeeds", fn := fun _ => fun
  | [d1, d2] => { results := [.lit (.bool true)], args := [d1, d2] }
  | _ => none }
def lineSpeedsRow : OpenClaim := { program := "ytjnkphmcndaijaadoor", sum := "1ea2fde085a212e523f1e493edda07bb5ef9063a3f96ea791e5bf96b6c54433d", func := "glidepath/glidepathlaw02.LineSpeeds", spec := "lineSpeeds", unfollowed := true, recurses := true, named := ["glidepath/line.estimators"], apart := false, laid := [("glidepath/line.estimators", laid_glidepath_line_estimators)] }
def LineSpeedsSaid : Prop := lineSpeedsRow.holds Tryd.pinned (OpenSpec.ofChange lineSpeedsSpec)

/-- ITS FALSE NEIGHBOUR: 'it returns false'. Refute it at one input. -/
def lineSpeedsWrong : ChangeSpec := { name := "lineSpeeds", fn := fun _ => fun
  | [d1, d2] => { results := [.lit (.bool false)], args := [d1, d2] }
  | _ => none }
def LineSpeedsWrongFalsely : Prop := lineSpeedsRow.holds Tryd.pinned (OpenSpec.ofChange lineSpeedsWrong)

/-- 'glidepathlaw02.LineCases': WHATEVER THE INPUT: true; the input reads as it did. -/
def lineCasesSpec : ChangeSpec := { name := "lineCases", fn := fun _ => fun
  | [d1, d2] => { results := [.lit (.bool true)], args := [d1, d2] }
  | _ => none }
def lineCasesRow : OpenClaim := { program := "ytjnkphmcndaijaadoor", sum := "1ea2fde085a212e523f1e493edda07bb5ef9063a3f96ea791e5bf96b6c54433d", func := "glidepath/glidepathlaw02.LineCases", spec := "lineCases", unfollowed := true, recurses := true, named := ["glidepath/line.estimators"], apart := false, laid := [("glidepath/line.estimators", laid_glidepath_line_estimators)] }
def LineCasesSaid : Prop := lineCasesRow.holds Tryd.pinned (OpenSpec.ofChange lineCasesSpec)

/-- ITS FALSE NEIGHBOUR: 'it returns false'. Refute it at one input. -/
def lineCasesWrong : ChangeSpec := { name := "lineCases", fn := fun _ => fun
  | [d1, d2] => { results := [.lit (.bool false)], args := [d1, d2] }
  | _ => none }
def LineCasesWrongFalsely : Prop := lineCasesRow.holds Tryd.pinned (OpenSpec.ofChange lineCasesWrong)

/-- 'glidepathlaw02.LineEstimates': WHATEVER THE INPUT: true; the input reads as it did. -/
def lineEstimatesSpec : ChangeSpec := { name := "lineEstimates", fn := fun _ => fun
  | [d1, d2, d3] => { results := [.lit (.bool true)], args := [d1, d2, d3] }
  | _ => none }
def lineEstimatesRow : OpenClaim := { program := "ytjnkphmcndaijaadoor", sum := "1ea2fde085a212e523f1e493edda07bb5ef9063a3f96ea791e5bf96b6c54433d", func := "glidepath/glidepathlaw02.LineEstimates", spec := "lineEstimates", unfollowed := true, recurses := true, named := ["glidepath/line.estimators"], apart := false, laid := [("glidepath/line.estimators", laid_glidepath_line_estimators)] }
def LineEstimatesSaid : Prop := lineEstimatesRow.holds Tryd.pinned (OpenSpec.ofChange lineEstimatesSpec)

/-- ITS FALSE NEIGHBOUR: 'it returns false'. Refute it at one input. -/
def lineEstimatesWrong : ChangeSpec := { name := "lineEstimates", fn := fun _ => fun
  | [d1, d2, d3] => { results := [.lit (.bool false)], args := [d1, d2, d3] }
  | _ => none }
def LineEstimatesWrongFalsely : Prop := lineEstimatesRow.holds Tryd.pinned (OpenSpec.ofChange lineEstimatesWrong)

/-- 'glidepathlaw02.LineDetections': WHATEVER THE INPUT: true; the input reads as it did. -/
def lineDetectionsSpec : ChangeSpec := { name := "lineDetections", fn := fun _ => fun
  | [d1, d2, d3] => { results := [.lit (.bool true)], args := [d1, d2, d3] }
  | _ => none }
def lineDetectionsRow : OpenClaim := { program := "ytjnkphmcndaijaadoor", sum := "1ea2fde085a212e523f1e493edda07bb5ef9063a3f96ea791e5bf96b6c54433d", func := "glidepath/glidepathlaw02.LineDetections", spec := "lineDetections", unfollowed := true, recurses := true, named := ["glidepath/line.estimators"], apart := false, laid := [("glidepath/line.estimators", laid_glidepath_line_estimators)] }
def LineDetectionsSaid : Prop := lineDetectionsRow.holds Tryd.pinned (OpenSpec.ofChange lineDetectionsSpec)

/-- ITS FALSE NEIGHBOUR: 'it returns false'. Refute it at one input. -/
def lineDetectionsWrong : ChangeSpec := { name := "lineDetections", fn := fun _ => fun
  | [d1, d2, d3] => { results := [.lit (.bool false)], args := [d1, d2, d3] }
  | _ => none }
def LineDetectionsWrongFalsely : Prop := lineDetectionsRow.holds Tryd.pinned (OpenSpec.ofChange lineDetectionsWrong)

/-- 'glidepathlaw02.LineBest': WHATEVER THE INPUT: true; the input reads as it did. -/
def lineBestSpec : ChangeSpec := { name := "lineBest", fn := fun _ => fun
  | [d1, d2] => { results := [.lit (.bool true)], args := [d1, d2] }
  | _ => none }
def lineBestRow : OpenClaim := { program := "ytjnkphmcndaijaadoor", sum := "1ea2fde085a212e523f1e493edda07bb5ef9063a3f96ea791e5bf96b6c54433d", func := "glidepath/glidepathlaw02.LineBest", spec := "lineBest", unfollowed := true, recurses := true, named := ["glidepath/line.estimators"], apart := false, laid := [("glidepath/line.estimators", laid_glidepath_line_estimators)] }
def LineBestSaid : Prop := lineBestRow.holds Tryd.pinned (OpenSpec.ofChange lineBestSpec)

/-- ITS FALSE NEIGHBOUR: 'it returns false'. Refute it at one input. -/
def lineBestWrong : ChangeSpec := { name := "lineBest", fn := fun _ => fun
  | [d1, d2] => { results := [.lit (.bool false)], args := [d1, d2] }
  | _ => none }
def LineBestWrongFalsely : Prop := lineBestRow.holds Tryd.pinned (OpenSpec.ofChange lineBestWrong)

/-- 'glidepathlaw02.LineProved': WHATEVER THE INPUT: true; the input reads as it did. -/
def lineProvedSpec : ChangeSpec := { name := "lineProved", fn := fun _ => fun
  | [d1, d2, d3] => { results := [.lit (.bool true)], args := [d1, d2, d3] }
  | _ => none }
def lineProvedRow : OpenClaim := { program := "ytjnkphmcndaijaadoor", sum := "1ea2fde085a212e523f1e493edda07bb5ef9063a3f96ea791e5bf96b6c54433d", func := "glidepath/glidepathlaw02.LineProved", spec := "lineProved", unfollowed := true, recurses := true, named := ["glidepath/line.estimators"], apart := false, laid := [("glidepath/line.estimators", laid_glidepath_line_estimators)] }
def LineProvedSaid : Prop := lineProvedRow.holds Tryd.pinned (OpenSpec.ofChange lineProvedSpec)

/-- ITS FALSE NEIGHBOUR: 'it returns false'. Refute it at one input. -/
def lineProvedWrong : ChangeSpec := { name := "lineProved", fn := fun _ => fun
  | [d1, d2, d3] => { results := [.lit (.bool false)], args := [d1, d2, d3] }
  | _ => none }
def LineProvedWrongFalsely : Prop := lineProvedRow.holds Tryd.pinned (OpenSpec.ofChange lineProvedWrong)

/-- 'glidepathlaw02.LineHard': WHATEVER THE INPUT: true; the input reads as it did. -/
def lineHardSpec : ChangeSpec := { name := "lineHard", fn := fun _ => fun
  | [d1, d2, d3] => { results := [.lit (.bool true)], args := [d1, d2, d3] }
  | _ => none }
def lineHardRow : OpenClaim := { program := "ytjnkphmcndaijaadoor", sum := "1ea2fde085a212e523f1e493edda07bb5ef9063a3f96ea791e5bf96b6c54433d", func := "glidepath/glidepathlaw02.LineHard", spec := "lineHard", unfollowed := true, recurses := true, named := ["glidepath/line.estimators"], apart := false, laid := [("glidepath/line.estimators", laid_glidepath_line_estimators)] }
def LineHardSaid : Prop := lineHardRow.holds Tryd.pinned (OpenSpec.ofChange lineHardSpec)

/-- ITS FALSE NEIGHBOUR: 'it returns false'. Refute it at one input. -/
def lineHardWrong : ChangeSpec := { name := "lineHard", fn := fun _ => fun
  | [d1, d2, d3] => { results := [.lit (.bool false)], args := [d1, d2, d3] }
  | _ => none }
def LineHardWrongFalsely : Prop := lineHardRow.holds Tryd.pinned (OpenSpec.ofChange lineHardWrong)

/-- 'glidepathlaw02.LineReached': WHATEVER THE INPUT: true; the input reads as it did. -/
def lineReachedSpec : ChangeSpec := { name := "lineReached", fn := fun _ => fun
  | [d1, d2] => { results := [.lit (.bool true)], args := [d1, d2] }
  | _ => none }
def lineReachedRow : OpenClaim := { program := "ytjnkphmcndaijaadoor", sum := "1ea2fde085a212e523f1e493edda07bb5ef9063a3f96ea791e5bf96b6c54433d", func := "glidepath/glidepathlaw02.LineReached", spec := "lineReached", unfollowed := true, recurses := true, named := ["glidepath/line.estimators"], apart := false, laid := [("glidepath/line.estimators", laid_glidepath_line_estimators)] }
def LineReachedSaid : Prop := lineReachedRow.holds Tryd.pinned (OpenSpec.ofChange lineReachedSpec)

/-- ITS FALSE NEIGHBOUR: 'it returns false'. Refute it at one input. -/
def lineReachedWrong : ChangeSpec := { name := "lineReached", fn := fun _ => fun
  | [d1, d2] => { results := [.lit (.bool false)], args := [d1, d2] }
  | _ => none }
def LineReachedWrongFalsely : Prop := lineReachedRow.holds Tryd.pinned (OpenSpec.ofChange lineReachedWrong)

/-- 'glidepathlaw02.LineSpectra': WHATEVER THE INPUT: true; the input reads as it did. -/
def lineSpectraSpec : ChangeSpec := { name := "lineSpectra", fn := fun _ => fun
  | [d1, d2] => { results := [.lit (.bool true)], args := [d1, d2] }
  | _ => none }
def lineSpectraRow : OpenClaim := { program := "ytjnkphmcndaijaadoor", sum := "1ea2fde085a212e523f1e493edda07bb5ef9063a3f96ea791e5bf96b6c54433d", func := "glidepath/glidepathlaw02.LineSpectra", spec := "lineSpectra", unfollowed := true, recurses := true, named := ["glidepath/line.estimators"], apart := false, laid := [("glidepath/line.estimators", laid_glidepath_line_estimators)] }
def LineSpectraSaid : Prop := lineSpectraRow.holds Tryd.pinned (OpenSpec.ofChange lineSpectraSpec)

/-- ITS FALSE NEIGHBOUR: 'it returns false'. Refute it at one input. -/
def lineSpectraWrong : ChangeSpec := { name := "lineSpectra", fn := fun _ => fun
  | [d1, d2] => { results := [.lit (.bool false)], args := [d1, d2] }
  | _ => none }
def LineSpectraWrongFalsely : Prop := lineSpectraRow.holds Tryd.pinned (OpenSpec.ofChange lineSpectraWrong)

/-- 'glidepathlaw02.LineRates': WHATEVER THE INPUT: true; the input reads as it did. -/
def lineRatesSpec : ChangeSpec := { name := "lineRates", fn := fun _ => fun
  | [d1, d2, d3] => { results := [.lit (.bool true)], args := [d1, d2, d3] }
  | _ => none }
def lineRatesRow : OpenClaim := { program := "ytjnkphmcndaijaadoor", sum := "1ea2fde085a212e523f1e493edda07bb5ef9063a3f96ea791e5bf96b6c54433d", func := "glidepath/glidepathlaw02.LineRates", spec := "lineRates", unfollowed := true, recurses := true, named := ["glidepath/line.estimators"], apart := false, laid := [("glidepath/line.estimators", laid_glidepath_line_estimators)] }
def LineRatesSaid : Prop := lineRatesRow.holds Tryd.pinned (OpenSpec.ofChange lineRatesSpec)

/-- ITS FALSE NEIGHBOUR: 'it returns false'. Refute it at one input. -/
def lineRatesWrong : ChangeSpec := { name := "lineRates", fn := fun _ => fun
  | [d1, d2, d3] => { results := [.lit (.bool false)], args := [d1, d2, d3] }
  | _ => none }
def LineRatesWrongFalsely : Prop := lineRatesRow.holds Tryd.pinned (OpenSpec.ofChange lineRatesWrong)

/-- 'glidepathlaw02.LineKept': WHATEVER THE INPUT: true; the input reads as it did. -/
def lineKeptSpec : ChangeSpec := { name := "lineKept", fn := fun _ => fun
  | [d1, d2, d3] => { results := [.lit (.bool true)], args := [d1, d2, d3] }
  | _ => none }
def lineKeptRow : OpenClaim := { program := "ytjnkphmcndaijaadoor", sum := "1ea2fde085a212e523f1e493edda07bb5ef9063a3f96ea791e5bf96b6c54433d", func := "glidepath/glidepathlaw02.LineKept", spec := "lineKept", unfollowed := true, recurses := true, named := ["glidepath/line.estimators"], apart := false, laid := [("glidepath/line.estimators", laid_glidepath_line_estimators)] }
def LineKeptSaid : Prop := lineKeptRow.holds Tryd.pinned (OpenSpec.ofChange lineKeptSpec)

/-- ITS FALSE NEIGHBOUR: 'it returns false'. Refute it at one input. -/
def lineKeptWrong : ChangeSpec := { name := "lineKept", fn := fun _ => fun
  | [d1, d2, d3] => { results := [.lit (.bool false)], args := [d1, d2, d3] }
  | _ => none }
def LineKeptWrongFalsely : Prop := lineKeptRow.holds Tryd.pinned (OpenSpec.ofChange lineKeptWrong)

/- THE SECOND FORM. 'bulk': how many values and letters a reading holds, each counted each time it is reached (what is shared counts as often as it is met; a slice's spare places count too). A statement '..UptoSaid' is the law's where the arguments, and the package variables that the reading takes, are together of bulk at most 1048576: NARROWER than '..Said'. Prove '..Said' where nothing that the law and all that it calls make is longer than what came in: it says more and counts as full. Else prove '..UptoSaid'. A law counts once. -/
mutual
def uptoBulk {H : Type} : DataW H → Nat
  | .lit (.string bytes) => bytes.length + 1
  | .lit _ => 1
  | .nil => 1
  | .ptr d => uptoBulk d + 1
  | .slice elems spare => uptoBulkAll elems + uptoBulkAll spare + 1
  | .agg parts => uptoBulkAll parts + 1
  | .iface _ d => uptoBulk d + 1
  | .map entries => uptoBulkEntries entries + 1
  | .held _ => 1
def uptoBulkAll {H : Type} : List (DataW H) → Nat
  | [] => 0
  | d :: r => uptoBulk d + uptoBulkAll r
def uptoBulkEntries {H : Type} : List (Lit × DataW H) → Nat
  | [] => 0
  | x :: r => uptoBulkEntry x + uptoBulkEntries r
def uptoBulkEntry {H : Type} : Lit × DataW H → Nat
  | (.string bytes, d) => bytes.length + uptoBulk d + 1
  | (_, d) => uptoBulk d + 1
 end
def uptoSmall : (H : Type) → List (DataW H) → Bool := fun _ ds => decide (uptoBulkAll ds ≤ 1048576)
def OpenSpec.upto (s : _root_.Go.ChangeSpec) : _root_.Go.OpenSpec := { _root_.Go.OpenSpec.ofChange s with cond := some uptoSmall }

/-- 'glidepathlaw02.LineErrors', WHERE WHAT IT READS IS OF BULK AT MOST 1048576: true; the input reads as it did. -/
def lineErrorsUptoRow : OpenClaim := { program := "ytjnkphmcndaijaadoor", sum := "1ea2fde085a212e523f1e493edda07bb5ef9063a3f96ea791e5bf96b6c54433d", func := "glidepath/glidepathlaw02.LineErrors", spec := "lineErrors", unfollowed := true, recurses := true, named := ["glidepath/line.estimators"], apart := false, laid := [("glidepath/line.estimators", laid_glidepath_line_estimators)], narrowed := true }
def LineErrorsUptoSaid : Prop := lineErrorsUptoRow.holds Tryd.pinned (OpenSpec.upto lineErrorsSpec)

/-- 'glidepathlaw02.LineDetected', WHERE WHAT IT READS IS OF BULK AT MOST 1048576: true; the input reads as it did. -/
def lineDetectedUptoRow : OpenClaim := { program := "ytjnkphmcndaijaadoor", sum := "1ea2fde085a212e523f1e493edda07bb5ef9063a3f96ea791e5bf96b6c54433d", func := "glidepath/glidepathlaw02.LineDetected", spec := "lineDetected", unfollowed := true, recurses := true, named := ["glidepath/line.estimators"], apart := false, laid := [("glidepath/line.estimators", laid_glidepath_line_estimators)], narrowed := true }
def LineDetectedUptoSaid : Prop := lineDetectedUptoRow.holds Tryd.pinned (OpenSpec.upto lineDetectedSpec)

/-- 'glidepathlaw02.LineWithin', WHERE WHAT IT READS IS OF BULK AT MOST 1048576: true; the input reads as it did. -/
def lineWithinUptoRow : OpenClaim := { program := "ytjnkphmcndaijaadoor", sum := "1ea2fde085a212e523f1e493edda07bb5ef9063a3f96ea791e5bf96b6c54433d", func := "glidepath/glidepathlaw02.LineWithin", spec := "lineWithin", unfollowed := true, recurses := true, named := ["glidepath/line.estimators"], apart := false, laid := [("glidepath/line.estimators", laid_glidepath_line_estimators)], narrowed := true }
def LineWithinUptoSaid : Prop := lineWithinUptoRow.holds Tryd.pinned (OpenSpec.upto lineWithinSpec)

/-- 'glidepathlaw02.LineApart', WHERE WHAT IT READS IS OF BULK AT MOST 1048576: true; the input reads as it did. -/
def lineApartUptoRow : OpenClaim := { program := "ytjnkphmcndaijaadoor", sum := "1ea2fde085a212e523f1e493edda07bb5ef9063a3f96ea791e5bf96b6c54433d", func := "glidepath/glidepathlaw02.LineApart", spec := "lineApart", unfollowed := true, recurses := true, named := ["glidepath/line.estimators"], apart := false, laid := [("glidepath/line.estimators", laid_glidepath_line_estimators)], narrowed := true }
def LineApartUptoSaid : Prop := lineApartUptoRow.holds Tryd.pinned (OpenSpec.upto lineApartSpec)

/-- 'glidepathlaw02.LineSpeeds', WHERE WHAT IT READS IS OF BULK AT MOST 1048576: true; the input reads as it did. -/
def lineSpeedsUptoRow : OpenClaim := { program := "ytjnkphmcndaijaadoor", sum := "1ea2fde085a212e523f1e493edda07bb5ef9063a3f96ea791e5bf96b6c54433d", func := "glidepath/glidepathlaw02.LineSpeeds", spec := "lineSpeeds", unfollowed := true, recurses := true, named := ["glidepath/line.estimators"], apart := false, laid := [("glidepath/line.estimators", laid_glidepath_line_estimators)], narrowed := true }
def LineSpeedsUptoSaid : Prop := lineSpeedsUptoRow.holds Tryd.pinned (OpenSpec.upto lineSpeedsSpec)

/-- 'glidepathlaw02.LineCases', WHERE WHAT IT READS IS OF BULK AT MOST 1048576: true; the input reads as it did. -/
def lineCasesUptoRow : OpenClaim := { program := "ytjnkphmcndaijaadoor", sum := "1ea2fde085a212e523f1e493edda07bb5ef9063a3f96ea791e5bf96b6c54433d", func := "glidepath/glidepathlaw02.LineCases", spec := "lineCases", unfollowed := true, recurses := true, named := ["glidepath/line.estimators"], apart := false, laid := [("glidepath/line.estimators", laid_glidepath_line_estimators)], narrowed := true }
def LineCasesUptoSaid : Prop := lineCasesUptoRow.holds Tryd.pinned (OpenSpec.upto lineCasesSpec)

/-- 'glidepathlaw02.LineEstimates', WHERE WHAT IT READS IS OF BULK AT MOST 1048576: true; the input reads as it did. -/
def lineEstimatesUptoRow : OpenClaim := { program := "ytjnkphmcndaijaadoor", sum := "1ea2fde085a212e523f1e493edda07bb5ef9063a3f96ea791e5bf96b6c54433d", func := "glidepath/glidepathlaw02.LineEstimates", spec := "lineEstimates", unfollowed := true, recurses := true, named := ["glidepath/line.estimators"], apart := false, laid := [("glidepath/line.estimators", laid_glidepath_line_estimators)], narrowed := true }
def LineEstimatesUptoSaid : Prop := lineEstimatesUptoRow.holds Tryd.pinned (OpenSpec.upto lineEstimatesSpec)

/-- 'glidepathlaw02.LineDetections', WHERE WHAT IT READS IS OF BULK AT MOST 1048576: true; the input reads as it did. -/
def lineDetectionsUptoRow : OpenClaim := { program := "ytjnkphmcndaijaadoor", sum := "1ea2fde085a212e523f1e493edda07bb5ef9063a3f96ea791e5bf96b6c54433d", func := "glidepath/glidepathlaw02.LineDetections", spec := "lineDetections", unfollowed := true, recurses := true, named := ["glidepath/line.estimators"], apart := false, laid := [("glidepath/line.estimators", laid_glidepath_line_estimators)], narrowed := true }
def LineDetectionsUptoSaid : Prop := lineDetectionsUptoRow.holds Tryd.pinned (OpenSpec.upto lineDetectionsSpec)

/-- 'glidepathlaw02.LineBest', WHERE WHAT IT READS IS OF BULK AT MOST 1048576: true; the input reads as it did. -/
def lineBestUptoRow : OpenClaim := { program := "ytjnkphmcndaijaadoor", sum := "1ea2fde085a212e523f1e493edda07bb5ef9063a3f96ea791e5bf96b6c54433d", func := "glidepath/glidepathlaw02.LineBest", spec := "lineBest", unfollowed := true, recurses := true, named := ["glidepath/line.estimators"], apart := false, laid := [("glidepath/line.estimators", laid_glidepath_line_estimators)], narrowed := true }
def LineBestUptoSaid : Prop := lineBestUptoRow.holds Tryd.pinned (OpenSpec.upto lineBestSpec)

/-- 'glidepathlaw02.LineProved', WHERE WHAT IT READS IS OF BULK AT MOST 1048576: true; the input reads as it did. -/
def lineProvedUptoRow : OpenClaim := { program := "ytjnkphmcndaijaadoor", sum := "1ea2fde085a212e523f1e493edda07bb5ef9063a3f96ea791e5bf96b6c54433d", func := "glidepath/glidepathlaw02.LineProved", spec := "lineProved", unfollowed := true, recurses := true, named := ["glidepath/line.estimators"], apart := false, laid := [("glidepath/line.estimators", laid_glidepath_line_estimators)], narrowed := true }
def LineProvedUptoSaid : Prop := lineProvedUptoRow.holds Tryd.pinned (OpenSpec.upto lineProvedSpec)

/-- 'glidepathlaw02.LineHard', WHERE WHAT IT READS IS OF BULK AT MOST 1048576: true; the input reads as it did. -/
def lineHardUptoRow : OpenClaim := { program := "ytjnkphmcndaijaadoor", sum := "1ea2fde085a212e523f1e493edda07bb5ef9063a3f96ea791e5bf96b6c54433d", func := "glidepath/glidepathlaw02.LineHard", spec := "lineHard", unfollowed := true, recurses := true, named := ["glidepath/line.estimators"], apart := false, laid := [("glidepath/line.estimators", laid_glidepath_line_estimators)], narrowed := true }
def LineHardUptoSaid : Prop := lineHardUptoRow.holds Tryd.pinned (OpenSpec.upto lineHardSpec)

/-- 'glidepathlaw02.LineReached', WHERE WHAT IT READS IS OF BULK AT MOST 1048576: true; the input reads as it did. -/
def lineReachedUptoRow : OpenClaim := { program := "ytjnkphmcndaijaadoor", sum := "1ea2fde085a212e523f1e493edda07bb5ef9063a3f96ea791e5bf96b6c54433d", func := "glidepath/glidepathlaw02.LineReached", spec := "lineReached", unfollowed := true, recurses := true, named := ["glidepath/line.estimators"], apart := false, laid := [("glidepath/line.estimators", laid_glidepath_line_estimators)], narrowed := true }
def LineReachedUptoSaid : Prop := lineReachedUptoRow.holds Tryd.pinned (OpenSpec.upto lineReachedSpec)

/-- 'glidepathlaw02.LineSpectra', WHERE WHAT IT READS IS OF BULK AT MOST 1048576: true; the input reads as it did. -/
def lineSpectraUptoRow : OpenClaim := { program := "ytjnkphmcndaijaadoor", sum := "1ea2fde085a212e523f1e493edda07bb5ef9063a3f96ea791e5bf96b6c54433d", func := "glidepath/glidepathlaw02.LineSpectra", spec := "lineSpectra", unfollowed := true, recurses := true, named := ["glidepath/line.estimators"], apart := false, laid := [("glidepath/line.estimators", laid_glidepath_line_estimators)], narrowed := true }
def LineSpectraUptoSaid : Prop := lineSpectraUptoRow.holds Tryd.pinned (OpenSpec.upto lineSpectraSpec)

/-- 'glidepathlaw02.LineRates', WHERE WHAT IT READS IS OF BULK AT MOST 1048576: true; the input reads as it did. -/
def lineRatesUptoRow : OpenClaim := { program := "ytjnkphmcndaijaadoor", sum := "1ea2fde085a212e523f1e493edda07bb5ef9063a3f96ea791e5bf96b6c54433d", func := "glidepath/glidepathlaw02.LineRates", spec := "lineRates", unfollowed := true, recurses := true, named := ["glidepath/line.estimators"], apart := false, laid := [("glidepath/line.estimators", laid_glidepath_line_estimators)], narrowed := true }
def LineRatesUptoSaid : Prop := lineRatesUptoRow.holds Tryd.pinned (OpenSpec.upto lineRatesSpec)

/-- 'glidepathlaw02.LineKept', WHERE WHAT IT READS IS OF BULK AT MOST 1048576: true; the input reads as it did. -/
def lineKeptUptoRow : OpenClaim := { program := "ytjnkphmcndaijaadoor", sum := "1ea2fde085a212e523f1e493edda07bb5ef9063a3f96ea791e5bf96b6c54433d", func := "glidepath/glidepathlaw02.LineKept", spec := "lineKept", unfollowed := true, recurses := true, named := ["glidepath/line.estimators"], apart := false, laid := [("glidepath/line.estimators", laid_glidepath_line_estimators)], narrowed := true }
def LineKeptUptoSaid : Prop := lineKeptUptoRow.holds Tryd.pinned (OpenSpec.upto lineKeptSpec)

end Rows
end Go.Proofs.YtjnkphmcndaijaaDoor
