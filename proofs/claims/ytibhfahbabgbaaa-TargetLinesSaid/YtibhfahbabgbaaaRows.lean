/-
  No cell of these rows narrows 'for every input' (looked for: loops, veiled, ifaces, maps, wideKeys, modest, calm, conditions, laid).
  DERIVED. THE GIVEN ROWS OF THIS SEAT. 11 by the template 'for every input the law returns true; each argument reads behind the call as it read before'; 0 by the template 'total and deterministic' (their statements: YtibhfahbabgbaaaTotals.lean).
  GIVEN WITH THE SEED: the statements are not yours to turn. If you find one false, say at which input.
  Laid BY PROGRAM, IN A SANDBOX (cutbox-rows.mjs): the forced cells as the released guide's own fill.sh prints them over the translation 0d8b6f3da5a12705… (all of the seat's roots in one cut). By AI agents, Wed Nov 11 2026. No macro, syntax, notation, axiom, sorry.
-/
import Derived.Test.YtibhfahbabgbaaaChecked
import GoSem.Claim
import GoSem.ClaimJoined
import GoSem.ClaimMapViews
import Derived.JoinedTies
import Derived.KernelRfl
namespace Go.Proofs.Ytibhfahbabgbaaa
/- THE CELL 'sum', in the pinned program and in every row, IS THE sha256 OF THE DUMP (.gsa) THAT YtibhfahbabgbaaaProg.lean LOADS. Nothing in Lean hashes anything: it is a label: what it is worth is what the hold of that sum in a sandbox is worth. -/
noncomputable def Try.pinned : Pinned := { name := "ytibhfahbabgbaaa", sum := "0d8b6f3da5a12705ae3fd01e78a67e80d8b4ca902325cdf92cba66b360c582e3", checked := Try.checked }
namespace Rows
def none {H : Type} : Left H := { results := [], args := [] }

/-- 'glidepathlaw09.TargetTasks': WHATEVER THE INPUT: true; the input reads as it did. -/
def targetTasksSpec : ChangeSpec := { name := "targetTasks", fn := fun _ => fun
  | [d1, d2] => { results := [.lit (.bool true)], args := [d1, d2] }
  | _ => none }
def targetTasksRow : OpenClaim := { program := "ytibhfahbabgbaaa", sum := "0d8b6f3da5a12705ae3fd01e78a67e80d8b4ca902325cdf92cba66b360c582e3", func := "glidepath/glidepathlaw09.TargetTasks", spec := "targetTasks", unfollowed := true, recurses := true, apart := false }
def TargetTasksSaid : Prop := targetTasksRow.holds Try.pinned (OpenSpec.ofChange targetTasksSpec)

/-- ITS FALSE NEIGHBOUR: 'it returns false'. Refute it at one input. -/
def targetTasksWrong : ChangeSpec := { name := "targetTasks", fn := fun _ => fun
  | [d1, d2] => { results := [.lit (.bool false)], args := [d1, d2] }
  | _ => none }
def TargetTasksWrongFalsely : Prop := targetTasksRow.holds Try.pinned (OpenSpec.ofChange targetTasksWrong)

/-- 'glidepathlaw09.TargetInTime': WHATEVER THE INPUT: true; the input reads as it did. -/
def targetInTimeSpec : ChangeSpec := { name := "targetInTime", fn := fun _ => fun
  | [d1, d2] => { results := [.lit (.bool true)], args := [d1, d2] }
  | _ => none }
def targetInTimeRow : OpenClaim := { program := "ytibhfahbabgbaaa", sum := "0d8b6f3da5a12705ae3fd01e78a67e80d8b4ca902325cdf92cba66b360c582e3", func := "glidepath/glidepathlaw09.TargetInTime", spec := "targetInTime", unfollowed := true, recurses := true, apart := false }
def TargetInTimeSaid : Prop := targetInTimeRow.holds Try.pinned (OpenSpec.ofChange targetInTimeSpec)

/-- ITS FALSE NEIGHBOUR: 'it returns false'. Refute it at one input. -/
def targetInTimeWrong : ChangeSpec := { name := "targetInTime", fn := fun _ => fun
  | [d1, d2] => { results := [.lit (.bool false)], args := [d1, d2] }
  | _ => none }
def TargetInTimeWrongFalsely : Prop := targetInTimeRow.holds Try.pinned (OpenSpec.ofChange targetInTimeWrong)

/-- 'glidepathlaw09.TargetRotations': WHATEVER THE INPUT: true; the input reads as it did. -/
def targetRotationsSpec : ChangeSpec := { name := "targetRotations", fn := fun _ => fun
  | [d1, d2, d3] => { results := [.lit (.bool true)], args := [d1, d2, d3] }
  | _ => none }
def targetRotationsRow : OpenClaim := { program := "ytibhfahbabgbaaa", sum := "0d8b6f3da5a12705ae3fd01e78a67e80d8b4ca902325cdf92cba66b360c582e3", func := "glidepath/glidepathlaw09.TargetRotations", spec := "targetRotations", unfollowed := true, recurses := true, apart := false }
def TargetRotationsSaid : Prop := targetRotationsRow.holds Try.pinned (OpenSpec.ofChange targetRotationsSpec)

/-- ITS FALSE NEIGHBOUR: 'it returns false'. Refute it at one input. -/
def targetRotationsWrong : ChangeSpec := { name := "targetRotations", fn := fun _ => fun
  | [d1, d2, d3] => { results := [.lit (.bool false)], args := [d1, d2, d3] }
  | _ => none }
def TargetRotationsWrongFalsely : Prop := targetRotationsRow.holds Try.pinned (OpenSpec.ofChange targetRotationsWrong)

/-- 'glidepathlaw09.TargetCorrected': WHATEVER THE INPUT: true; the input reads as it did. -/
def targetCorrectedSpec : ChangeSpec := { name := "targetCorrected", fn := fun _ => fun
  | [d1, d2, d3] => { results := [.lit (.bool true)], args := [d1, d2, d3] }
  | _ => none }
def targetCorrectedRow : OpenClaim := { program := "ytibhfahbabgbaaa", sum := "0d8b6f3da5a12705ae3fd01e78a67e80d8b4ca902325cdf92cba66b360c582e3", func := "glidepath/glidepathlaw09.TargetCorrected", spec := "targetCorrected", unfollowed := true, recurses := true, apart := false }
def TargetCorrectedSaid : Prop := targetCorrectedRow.holds Try.pinned (OpenSpec.ofChange targetCorrectedSpec)

/-- ITS FALSE NEIGHBOUR: 'it returns false'. Refute it at one input. -/
def targetCorrectedWrong : ChangeSpec := { name := "targetCorrected", fn := fun _ => fun
  | [d1, d2, d3] => { results := [.lit (.bool false)], args := [d1, d2, d3] }
  | _ => none }
def TargetCorrectedWrongFalsely : Prop := targetCorrectedRow.holds Try.pinned (OpenSpec.ofChange targetCorrectedWrong)

/-- 'glidepathlaw09.TargetLines': WHATEVER THE INPUT: true; the input reads as it did. -/
def targetLinesSpec : ChangeSpec := { name := "targetLines", fn := fun _ => fun
  | [d1, d2] => { results := [.lit (.bool true)], args := [d1, d2] }
  | _ => none }
def targetLinesRow : OpenClaim := { program := "ytibhfahbabgbaaa", sum := "0d8b6f3da5a12705ae3fd01e78a67e80d8b4ca902325cdf92cba66b360c582e3", func := "glidepath/glidepathlaw09.TargetLines", spec := "targetLines", unfollowed := true, recurses := true, apart := false }
def TargetLinesSaid : Prop := targetLinesRow.holds Try.pinned (OpenSpec.ofChange targetLinesSpec)

/-- ITS FALSE NEIGHBOUR: 'it returns false'. Refute it at one input. -/
def targetLinesWrong : ChangeSpec := { name := "targetLines", fn := fun _ => fun
  | [d1, d2] => { results := [.lit (.bool false)], args := [d1, d2] }
  | _ => none }
def TargetLinesWrongFalsely : Prop := targetLinesRow.holds Try.pinned (OpenSpec.ofChange targetLinesWrong)

/-- 'glidepathlaw09.TargetBest': WHATEVER THE INPUT: true; the input reads as it did. -/
def targetBestSpec : ChangeSpec := { name := "targetBest", fn := fun _ => fun
  | [d1, d2, d3] => { results := [.lit (.bool true)], args := [d1, d2, d3] }
  | _ => none }
def targetBestRow : OpenClaim := { program := "ytibhfahbabgbaaa", sum := "0d8b6f3da5a12705ae3fd01e78a67e80d8b4ca902325cdf92cba66b360c582e3", func := "glidepath/glidepathlaw09.TargetBest", spec := "targetBest", unfollowed := true, recurses := true, apart := false }
def TargetBestSaid : Prop := targetBestRow.holds Try.pinned (OpenSpec.ofChange targetBestSpec)

/-- ITS FALSE NEIGHBOUR: 'it returns false'. Refute it at one input. -/
def targetBestWrong : ChangeSpec := { name := "targetBest", fn := fun _ => fun
  | [d1, d2, d3] => { results := [.lit (.bool false)], args := [d1, d2, d3] }
  | _ => none }
def TargetBestWrongFalsely : Prop := targetBestRow.holds Try.pinned (OpenSpec.ofChange targetBestWrong)

/-- 'glidepathlaw09.TargetAgreement': WHATEVER THE INPUT: true; the input reads as it did. -/
def targetAgreementSpec : ChangeSpec := { name := "targetAgreement", fn := fun _ => fun
  | [d1, d2] => { results := [.lit (.bool true)], args := [d1, d2] }
  | _ => none }
def targetAgreementRow : OpenClaim := { program := "ytibhfahbabgbaaa", sum := "0d8b6f3da5a12705ae3fd01e78a67e80d8b4ca902325cdf92cba66b360c582e3", func := "glidepath/glidepathlaw09.TargetAgreement", spec := "targetAgreement", unfollowed := true, recurses := true, apart := false }
def TargetAgreementSaid : Prop := targetAgreementRow.holds Try.pinned (OpenSpec.ofChange targetAgreementSpec)

/-- ITS FALSE NEIGHBOUR: 'it returns false'. Refute it at one input. -/
def targetAgreementWrong : ChangeSpec := { name := "targetAgreement", fn := fun _ => fun
  | [d1, d2] => { results := [.lit (.bool false)], args := [d1, d2] }
  | _ => none }
def TargetAgreementWrongFalsely : Prop := targetAgreementRow.holds Try.pinned (OpenSpec.ofChange targetAgreementWrong)

/-- 'glidepathlaw09.TargetOffsets': WHATEVER THE INPUT: true; the input reads as it did. -/
def targetOffsetsSpec : ChangeSpec := { name := "targetOffsets", fn := fun _ => fun
  | [d] => { results := [.lit (.bool true)], args := [d] }
  | _ => none }
def targetOffsetsRow : OpenClaim := { program := "ytibhfahbabgbaaa", sum := "0d8b6f3da5a12705ae3fd01e78a67e80d8b4ca902325cdf92cba66b360c582e3", func := "glidepath/glidepathlaw09.TargetOffsets", spec := "targetOffsets", unfollowed := true, recurses := true, apart := false }
def TargetOffsetsSaid : Prop := targetOffsetsRow.holds Try.pinned (OpenSpec.ofChange targetOffsetsSpec)

/-- ITS FALSE NEIGHBOUR: 'it returns false'. Refute it at one input. -/
def targetOffsetsWrong : ChangeSpec := { name := "targetOffsets", fn := fun _ => fun
  | [d] => { results := [.lit (.bool false)], args := [d] }
  | _ => none }
def TargetOffsetsWrongFalsely : Prop := targetOffsetsRow.holds Try.pinned (OpenSpec.ofChange targetOffsetsWrong)

/-- 'glidepathlaw09.TargetVotes': WHATEVER THE INPUT: true; the input reads as it did. -/
def targetVotesSpec : ChangeSpec := { name := "targetVotes", fn := fun _ => fun
  | [d1, d2] => { results := [.lit (.bool true)], args := [d1, d2] }
  | _ => none }
def targetVotesRow : OpenClaim := { program := "ytibhfahbabgbaaa", sum := "0d8b6f3da5a12705ae3fd01e78a67e80d8b4ca902325cdf92cba66b360c582e3", func := "glidepath/glidepathlaw09.TargetVotes", spec := "targetVotes", unfollowed := true, recurses := true, apart := false }
def TargetVotesSaid : Prop := targetVotesRow.holds Try.pinned (OpenSpec.ofChange targetVotesSpec)

/-- ITS FALSE NEIGHBOUR: 'it returns false'. Refute it at one input. -/
def targetVotesWrong : ChangeSpec := { name := "targetVotes", fn := fun _ => fun
  | [d1, d2] => { results := [.lit (.bool false)], args := [d1, d2] }
  | _ => none }
def TargetVotesWrongFalsely : Prop := targetVotesRow.holds Try.pinned (OpenSpec.ofChange targetVotesWrong)

/-- 'glidepathlaw09.TargetPointings': WHATEVER THE INPUT: true; the input reads as it did. -/
def targetPointingsSpec : ChangeSpec := { name := "targetPointings", fn := fun _ => fun
  | [d1, d2] => { results := [.lit (.bool true)], args := [d1, d2] }
  | _ => none }
def targetPointingsRow : OpenClaim := { program := "ytibhfahbabgbaaa", sum := "0d8b6f3da5a12705ae3fd01e78a67e80d8b4ca902325cdf92cba66b360c582e3", func := "glidepath/glidepathlaw09.TargetPointings", spec := "targetPointings", unfollowed := true, recurses := true, apart := false }
def TargetPointingsSaid : Prop := targetPointingsRow.holds Try.pinned (OpenSpec.ofChange targetPointingsSpec)

/-- ITS FALSE NEIGHBOUR: 'it returns false'. Refute it at one input. -/
def targetPointingsWrong : ChangeSpec := { name := "targetPointings", fn := fun _ => fun
  | [d1, d2] => { results := [.lit (.bool false)], args := [d1, d2] }
  | _ => none }
def TargetPointingsWrongFalsely : Prop := targetPointingsRow.holds Try.pinned (OpenSpec.ofChange targetPointingsWrong)

/-- 'glidepathlaw09.TargetSeen': WHATEVER THE INPUT: true; the input reads as it did. -/
def targetSeenSpec : ChangeSpec := { name := "targetSeen", fn := fun _ => fun
  | [d1, d2] => { results := [.lit (.bool true)], args := [d1, d2] }
  | _ => none }
def targetSeenRow : OpenClaim := { program := "ytibhfahbabgbaaa", sum := "0d8b6f3da5a12705ae3fd01e78a67e80d8b4ca902325cdf92cba66b360c582e3", func := "glidepath/glidepathlaw09.TargetSeen", spec := "targetSeen", unfollowed := true, recurses := true, apart := false }
def TargetSeenSaid : Prop := targetSeenRow.holds Try.pinned (OpenSpec.ofChange targetSeenSpec)

/-- ITS FALSE NEIGHBOUR: 'it returns false'. Refute it at one input. -/
def targetSeenWrong : ChangeSpec := { name := "targetSeen", fn := fun _ => fun
  | [d1, d2] => { results := [.lit (.bool false)], args := [d1, d2] }
  | _ => none }
def TargetSeenWrongFalsely : Prop := targetSeenRow.holds Try.pinned (OpenSpec.ofChange targetSeenWrong)

/- THE SECOND FORM. 'bulk': how many values and letters a reading holds, each counted each time it is reached (what is shared counts as often as it is met; a slice's spare places count too). A statement '..UptoSaid' is the law's where the arguments, and the package variables that the reading takes, are together of bulk at most 1048576: NARROWER than '..Said'. Prove '..Said' where nothing that the law and all that it calls make is longer than what came in: it says more and counts as full. Else prove '..UptoSaid'. A law counts once. -/
mutual
def uptoBulk {H : Type} : DataW H → Nat
  | .lit (.string bytes) => bytes.length + 1
  | .lit _ => 1
  | .nil => 1
  | .ptr d => uptoBulk d + 1
  | .slice elems spare => uptoBulkAll elems + uptoBulkAll spare + 1
  | .agg parts => uptoBulkAll parts + 1
  | .iface _ d => uptoBulk d + 1
  | .map entries => uptoBulkEntries entries + 1
  | .held _ => 1
def uptoBulkAll {H : Type} : List (DataW H) → Nat
  | [] => 0
  | d :: r => uptoBulk d + uptoBulkAll r
def uptoBulkEntries {H : Type} : List (Lit × DataW H) → Nat
  | [] => 0
  | x :: r => uptoBulkEntry x + uptoBulkEntries r
def uptoBulkEntry {H : Type} : Lit × DataW H → Nat
  | (.string bytes, d) => bytes.length + uptoBulk d + 1
  | (_, d) => uptoBulk d + 1
 end
def uptoSmall : (H : Type) → List (DataW H) → Bool := fun _ ds => decide (uptoBulkAll ds ≤ 1048576)
def OpenSpec.upto (s : _root_.Go.ChangeSpec) : _root_.Go.OpenSpec := { _root_.Go.OpenSpec.ofChange s with cond := some uptoSmall }

/-- 'glidepathlaw09.TargetTasks', WHERE WHAT IT READS IS OF BULK AT MOST 1048576: true; the input reads as it did. -/
def targetTasksUptoRow : OpenClaim := { program := "ytibhfahbabgbaaa", sum := "0d8b6f3da5a12705ae3fd01e78a67e80d8b4ca902325cdf92cba66b360c582e3", func := "glidepath/glidepathlaw09.TargetTasks", spec := "targetTasks", unfollowed := true, recurses := true, apart := false, narrowed := true }
def TargetTasksUptoSaid : Prop := targetTasksUptoRow.holds Try.pinned (OpenSpec.upto targetTasksSpec)

/-- 'glidepathlaw09.TargetInTime', WHERE WHAT IT READS IS OF BULK AT MOST 1048576: true; the input reads as it did. -/
def targetInTimeUptoRow : OpenClaim := { program := "ytibhfahbabgbaaa", sum := "0d8b6f3da5a12705ae3fd01e78a67e80d8b4ca902325cdf92cba66b360c582e3", func := "glidepath/glidepathlaw09.TargetInTime", spec := "targetInTime", unfollowed := true, recurses := true, apart := false, narrowed := true }
def TargetInTimeUptoSaid : Prop := targetInTimeUptoRow.holds Try.pinned (OpenSpec.upto targetInTimeSpec)

/-- 'glidepathlaw09.TargetRotations', WHERE WHAT IT READS IS OF BULK AT MOST 1048576: true; the input reads as it did. -/
def targetRotationsUptoRow : OpenClaim := { program := "ytibhfahbabgbaaa", sum := "0d8b6f3da5a12705ae3fd01e78a67e80d8b4ca902325cdf92cba66b360c582e3", func := "glidepath/glidepathlaw09.TargetRotations", spec := "targetRotations", unfollowed := true, recurses := true, apart := false, narrowed := true }
def TargetRotationsUptoSaid : Prop := targetRotationsUptoRow.holds Try.pinned (OpenSpec.upto targetRotationsSpec)

/-- 'glidepathlaw09.TargetCorrected', WHERE WHAT IT READS IS OF BULK AT MOST 1048576: true; the input reads as it did. -/
def targetCorrectedUptoRow : OpenClaim := { program := "ytibhfahbabgbaaa", sum := "0d8b6f3da5a12705ae3fd01e78a67e80d8b4ca902325cdf92cba66b360c582e3", func := "glidepath/glidepathlaw09.TargetCorrected", spec := "targetCorrected", unfollowed := true, recurses := true, apart := false, narrowed := true }
def TargetCorrectedUptoSaid : Prop := targetCorrectedUptoRow.holds Try.pinned (OpenSpec.upto targetCorrectedSpec)

/-- 'glidepathlaw09.TargetLines', WHERE WHAT IT READS IS OF BULK AT MOST 1048576: true; the input reads as it did. -/
def targetLinesUptoRow : OpenClaim := { program := "ytibhfahbabgbaaa", sum := "0d8b6f3da5a12705ae3fd01e78a67e80d8b4ca902325cdf92cba66b360c582e3", func := "glidepath/glidepathlaw09.TargetLines", spec := "targetLines", unfollowed := true, recurses := true, apart := false, narrowed := true }
def TargetLinesUptoSaid : Prop := targetLinesUptoRow.holds Try.pinned (OpenSpec.upto targetLinesSpec)

/-- 'glidepathlaw09.TargetBest', WHERE WHAT IT READS IS OF BULK AT MOST 1048576: true; the input reads as it did. -/
def targetBestUptoRow : OpenClaim := { program := "ytibhfahbabgbaaa", sum := "0d8b6f3da5a12705ae3fd01e78a67e80d8b4ca902325cdf92cba66b360c582e3", func := "glidepath/glidepathlaw09.TargetBest", spec := "targetBest", unfollowed := true, recurses := true, apart := false, narrowed := true }
def TargetBestUptoSaid : Prop := targetBestUptoRow.holds Try.pinned (OpenSpec.upto targetBestSpec)

/-- 'glidepathlaw09.TargetAgreement', WHERE WHAT IT READS IS OF BULK AT MOST 1048576: true; the input reads as it did. -/
def targetAgreementUptoRow : OpenClaim := { program := "ytibhfahbabgbaaa", sum := "0d8b6f3da5a12705ae3fd01e78a67e80d8b4ca902325cdf92cba66b360c582e3", func := "glidepath/glidepathlaw09.TargetAgreement", spec := "targetAgreement", unfollowed := true, recurses := true, apart := false, narrowed := true }
def TargetAgreementUptoSaid : Prop := targetAgreementUptoRow.holds Try.pinned (OpenSpec.upto targetAgreementSpec)

/-- 'glidepathlaw09.TargetOffsets', WHERE WHAT IT READS IS OF BULK AT MOST 1048576: true; the input reads as it did. -/
def targetOffsetsUptoRow : OpenClaim := { program := "ytibhfahbabgbaaa", sum := "0d8b6f3da5a12705ae3fd01e78a67e80d8b4ca902325cdf92cba66b360c582e3", func := "glidepath/glidepathlaw09.TargetOffsets", spec := "targetOffsets", unfollowed := true, recurses := true, apart := false, narrowed := true }
def TargetOffsetsUptoSaid : Prop := targetOffsetsUptoRow.holds Try.pinned (OpenSpec.upto targetOffsetsSpec)

/-- 'glidepathlaw09.TargetVotes', WHERE WHAT IT READS IS OF BULK AT MOST 1048576: true; the input reads as it did. -/
def targetVotesUptoRow : OpenClaim := { program := "ytibhfahbabgbaaa", sum := "0d8b6f3da5a12705ae3fd01e78a67e80d8b4ca902325cdf92cba66b360c582e3", func := "glidepath/glidepathlaw09.TargetVotes", spec := "targetVotes", unfollowed := true, recurses := true, apart := false, narrowed := true }
def TargetVotesUptoSaid : Prop := targetVotesUptoRow.holds Try.pinned (OpenSpec.upto targetVotesSpec)

/-- 'glidepathlaw09.TargetPointings', WHERE WHAT IT READS IS OF BULK AT MOST 1048576: true; the input reads as it did. -/
def targetPointingsUptoRow : OpenClaim := { program := "ytibhfahbabgbaaa", sum := "0d8b6f3da5a12705ae3fd01e78a67e80d8b4ca902325cdf92cba66b360c582e3", func := "glidepath/glidepathlaw09.TargetPointings", spec := "targetPointings", unfollowed := true, recurses := true, apart := false, narrowed := true }
def TargetPointingsUptoSaid : Prop := targetPointingsUptoRow.holds Try.pinned (OpenSpec.upto targetPointingsSpec)

/-- 'glidepathlaw09.TargetSeen', WHERE WHAT IT READS IS OF BULK AT MOST 1048576: true; the input reads as it did. -/
def targetSeenUptoRow : OpenClaim := { program := "ytibhfahbabgbaaa", sum := "0d8b6f3da5a12705ae3fd01e78a67e80d8b4ca902325cdf92cba66b360c582e3", func := "glidepath/glidepathlaw09.TargetSeen", spec := "targetSeen", unfollowed := true, recurses := true, apart := false, narrowed := true }
def TargetSeenUptoSaid : Prop := targetSeenUptoRow.holds Try.pinned (OpenSpec.upto targetSeenSpec)

end Rows
end Go.Proofs.Ytibhfahbabgbaaa
