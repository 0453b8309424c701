/-
  No cell of these rows narrows 'for every input' (looked for: loops, veiled, ifaces, maps, wideKeys, modest, calm, conditions, laid).
  DERIVED. THE GIVEN ROWS OF THIS SEAT. 8 by the template 'for every input the law returns true; each argument reads behind the call as it read before'; 0 by the template 'total and deterministic' (their statements: YteiafijbgjgiaaaTotals.lean).
  GIVEN WITH THE SEED: the statements are not yours to turn. If you find one false, say at which input.
  Laid BY PROGRAM, IN A SANDBOX (cutbox-rows.mjs): the forced cells as the released guide's own fill.sh prints them over the translation d0fa37848677c418… (all of the seat's roots in one cut). By AI agents, Wed Nov 11 2026. No macro, syntax, notation, axiom, sorry.
-/
import Derived.Test.YteiafijbgjgiaaaChecked
import GoSem.Claim
import GoSem.ClaimJoined
import GoSem.ClaimMapViews
import Derived.JoinedTies
import Derived.KernelRfl
namespace Go.Proofs.Yteiafijbgjgiaaa
/- THE CELL 'sum', in the pinned program and in every row, IS THE sha256 OF THE DUMP (.gsa) THAT YteiafijbgjgiaaaProg.lean LOADS. Nothing in Lean hashes anything: it is a label: what it is worth is what the hold of that sum in a sandbox is worth. -/
noncomputable def Try.pinned : Pinned := { name := "yteiafijbgjgiaaa", sum := "d0fa37848677c4185f923610a71a842f866a1b50b3fd5374f28802d796efb44d", checked := Try.checked }
namespace Rows
def none {H : Type} : Left H := { results := [], args := [] }

/-- 'glidepathlaw08.CloudEyes': WHATEVER THE INPUT: true; the input reads as it did. -/
def cloudEyesSpec : ChangeSpec := { name := "cloudEyes", fn := fun _ => fun
  | [d1, d2] => { results := [.lit (.bool true)], args := [d1, d2] }
  | _ => none }
def cloudEyesRow : OpenClaim := { program := "yteiafijbgjgiaaa", sum := "d0fa37848677c4185f923610a71a842f866a1b50b3fd5374f28802d796efb44d", func := "glidepath/glidepathlaw08.CloudEyes", spec := "cloudEyes", unfollowed := true, recurses := true, apart := false }
def CloudEyesSaid : Prop := cloudEyesRow.holds Try.pinned (OpenSpec.ofChange cloudEyesSpec)

/-- ITS FALSE NEIGHBOUR: 'it returns false'. Refute it at one input. -/
def cloudEyesWrong : ChangeSpec := { name := "cloudEyes", fn := fun _ => fun
  | [d1, d2] => { results := [.lit (.bool false)], args := [d1, d2] }
  | _ => none }
def CloudEyesWrongFalsely : Prop := cloudEyesRow.holds Try.pinned (OpenSpec.ofChange cloudEyesWrong)

/-- 'glidepathlaw08.CloudCeilings': WHATEVER THE INPUT: true; the input reads as it did. -/
def cloudCeilingsSpec : ChangeSpec := { name := "cloudCeilings", fn := fun _ => fun
  | [d1, d2, d3] => { results := [.lit (.bool true)], args := [d1, d2, d3] }
  | _ => none }
def cloudCeilingsRow : OpenClaim := { program := "yteiafijbgjgiaaa", sum := "d0fa37848677c4185f923610a71a842f866a1b50b3fd5374f28802d796efb44d", func := "glidepath/glidepathlaw08.CloudCeilings", spec := "cloudCeilings", unfollowed := true, recurses := true, apart := false }
def CloudCeilingsSaid : Prop := cloudCeilingsRow.holds Try.pinned (OpenSpec.ofChange cloudCeilingsSpec)

/-- ITS FALSE NEIGHBOUR: 'it returns false'. Refute it at one input. -/
def cloudCeilingsWrong : ChangeSpec := { name := "cloudCeilings", fn := fun _ => fun
  | [d1, d2, d3] => { results := [.lit (.bool false)], args := [d1, d2, d3] }
  | _ => none }
def CloudCeilingsWrongFalsely : Prop := cloudCeilingsRow.holds Try.pinned (OpenSpec.ofChange cloudCeilingsWrong)

/-- 'glidepathlaw08.CloudMiddle': WHATEVER THE INPUT: true; the input reads as it did. -/
def cloudMiddleSpec : ChangeSpec := { name := "cloudMiddle", fn := fun _ => fun
  | [d1, d2] => { results := [.lit (.bool true)], args := [d1, d2] }
  | _ => none }
def cloudMiddleRow : OpenClaim := { program := "yteiafijbgjgiaaa", sum := "d0fa37848677c4185f923610a71a842f866a1b50b3fd5374f28802d796efb44d", func := "glidepath/glidepathlaw08.CloudMiddle", spec := "cloudMiddle", unfollowed := true, recurses := true, apart := false }
def CloudMiddleSaid : Prop := cloudMiddleRow.holds Try.pinned (OpenSpec.ofChange cloudMiddleSpec)

/-- ITS FALSE NEIGHBOUR: 'it returns false'. Refute it at one input. -/
def cloudMiddleWrong : ChangeSpec := { name := "cloudMiddle", fn := fun _ => fun
  | [d1, d2] => { results := [.lit (.bool false)], args := [d1, d2] }
  | _ => none }
def CloudMiddleWrongFalsely : Prop := cloudMiddleRow.holds Try.pinned (OpenSpec.ofChange cloudMiddleWrong)

/-- 'glidepathlaw08.CloudSegments': WHATEVER THE INPUT: true; the input reads as it did. -/
def cloudSegmentsSpec : ChangeSpec := { name := "cloudSegments", fn := fun _ => fun
  | [d1, d2, d3] => { results := [.lit (.bool true)], args := [d1, d2, d3] }
  | _ => none }
def cloudSegmentsRow : OpenClaim := { program := "yteiafijbgjgiaaa", sum := "d0fa37848677c4185f923610a71a842f866a1b50b3fd5374f28802d796efb44d", func := "glidepath/glidepathlaw08.CloudSegments", spec := "cloudSegments", unfollowed := true, recurses := true, apart := false }
def CloudSegmentsSaid : Prop := cloudSegmentsRow.holds Try.pinned (OpenSpec.ofChange cloudSegmentsSpec)

/-- ITS FALSE NEIGHBOUR: 'it returns false'. Refute it at one input. -/
def cloudSegmentsWrong : ChangeSpec := { name := "cloudSegments", fn := fun _ => fun
  | [d1, d2, d3] => { results := [.lit (.bool false)], args := [d1, d2, d3] }
  | _ => none }
def CloudSegmentsWrongFalsely : Prop := cloudSegmentsRow.holds Try.pinned (OpenSpec.ofChange cloudSegmentsWrong)

/-- 'glidepathlaw08.CloudProfiles': WHATEVER THE INPUT: true; the input reads as it did. -/
def cloudProfilesSpec : ChangeSpec := { name := "cloudProfiles", fn := fun _ => fun
  | [d1, d2, d3] => { results := [.lit (.bool true)], args := [d1, d2, d3] }
  | _ => none }
def cloudProfilesRow : OpenClaim := { program := "yteiafijbgjgiaaa", sum := "d0fa37848677c4185f923610a71a842f866a1b50b3fd5374f28802d796efb44d", func := "glidepath/glidepathlaw08.CloudProfiles", spec := "cloudProfiles", unfollowed := true, recurses := true, apart := false }
def CloudProfilesSaid : Prop := cloudProfilesRow.holds Try.pinned (OpenSpec.ofChange cloudProfilesSpec)

/-- ITS FALSE NEIGHBOUR: 'it returns false'. Refute it at one input. -/
def cloudProfilesWrong : ChangeSpec := { name := "cloudProfiles", fn := fun _ => fun
  | [d1, d2, d3] => { results := [.lit (.bool false)], args := [d1, d2, d3] }
  | _ => none }
def CloudProfilesWrongFalsely : Prop := cloudProfilesRow.holds Try.pinned (OpenSpec.ofChange cloudProfilesWrong)

/-- 'glidepathlaw08.CloudPotentials': WHATEVER THE INPUT: true; the input reads as it did. -/
def cloudPotentialsSpec : ChangeSpec := { name := "cloudPotentials", fn := fun _ => fun
  | [d1, d2, d3] => { results := [.lit (.bool true)], args := [d1, d2, d3] }
  | _ => none }
def cloudPotentialsRow : OpenClaim := { program := "yteiafijbgjgiaaa", sum := "d0fa37848677c4185f923610a71a842f866a1b50b3fd5374f28802d796efb44d", func := "glidepath/glidepathlaw08.CloudPotentials", spec := "cloudPotentials", unfollowed := true, recurses := true, apart := false }
def CloudPotentialsSaid : Prop := cloudPotentialsRow.holds Try.pinned (OpenSpec.ofChange cloudPotentialsSpec)

/-- ITS FALSE NEIGHBOUR: 'it returns false'. Refute it at one input. -/
def cloudPotentialsWrong : ChangeSpec := { name := "cloudPotentials", fn := fun _ => fun
  | [d1, d2, d3] => { results := [.lit (.bool false)], args := [d1, d2, d3] }
  | _ => none }
def CloudPotentialsWrongFalsely : Prop := cloudPotentialsRow.holds Try.pinned (OpenSpec.ofChange cloudPotentialsWrong)

/-- 'glidepathlaw08.CloudDivided': WHATEVER THE INPUT: true; the input reads as it did. -/
def cloudDividedSpec : ChangeSpec := { name := "cloudDivided", fn := fun _ => fun
  | [d1, d2, d3] => { results := [.lit (.bool true)], args := [d1, d2, d3] }
  | _ => none }
def cloudDividedRow : OpenClaim := { program := "yteiafijbgjgiaaa", sum := "d0fa37848677c4185f923610a71a842f866a1b50b3fd5374f28802d796efb44d", func := "glidepath/glidepathlaw08.CloudDivided", spec := "cloudDivided", unfollowed := true, recurses := true, apart := false }
def CloudDividedSaid : Prop := cloudDividedRow.holds Try.pinned (OpenSpec.ofChange cloudDividedSpec)

/-- ITS FALSE NEIGHBOUR: 'it returns false'. Refute it at one input. -/
def cloudDividedWrong : ChangeSpec := { name := "cloudDivided", fn := fun _ => fun
  | [d1, d2, d3] => { results := [.lit (.bool false)], args := [d1, d2, d3] }
  | _ => none }
def CloudDividedWrongFalsely : Prop := cloudDividedRow.holds Try.pinned (OpenSpec.ofChange cloudDividedWrong)

/-- 'glidepathlaw08.CloudClasses': WHATEVER THE INPUT: true; the input reads as it did. -/
def cloudClassesSpec : ChangeSpec := { name := "cloudClasses", fn := fun _ => fun
  | [d1, d2, d3] => { results := [.lit (.bool true)], args := [d1, d2, d3] }
  | _ => none }
def cloudClassesRow : OpenClaim := { program := "yteiafijbgjgiaaa", sum := "d0fa37848677c4185f923610a71a842f866a1b50b3fd5374f28802d796efb44d", func := "glidepath/glidepathlaw08.CloudClasses", spec := "cloudClasses", unfollowed := true, recurses := true, apart := false }
def CloudClassesSaid : Prop := cloudClassesRow.holds Try.pinned (OpenSpec.ofChange cloudClassesSpec)

/-- ITS FALSE NEIGHBOUR: 'it returns false'. Refute it at one input. -/
def cloudClassesWrong : ChangeSpec := { name := "cloudClasses", fn := fun _ => fun
  | [d1, d2, d3] => { results := [.lit (.bool false)], args := [d1, d2, d3] }
  | _ => none }
def CloudClassesWrongFalsely : Prop := cloudClassesRow.holds Try.pinned (OpenSpec.ofChange cloudClassesWrong)

/- THE SECOND FORM. 'bulk': how many values and letters a reading holds, each counted each time it is reached (what is shared counts as often as it is met; a slice's spare places count too). A statement '..UptoSaid' is the law's where the arguments, and the package variables that the reading takes, are together of bulk at most 1048576: NARROWER than '..Said'. Prove '..Said' where nothing that the law and all that it calls make is longer than what came in: it says more and counts as full. Else prove '..UptoSaid'. A law counts once. -/
mutual
def uptoBulk {H : Type} : DataW H → Nat
  | .lit (.string bytes) => bytes.length + 1
  | .lit _ => 1
  | .nil => 1
  | .ptr d => uptoBulk d + 1
  | .slice elems spare => uptoBulkAll elems + uptoBulkAll spare + 1
  | .agg parts => uptoBulkAll parts + 1
  | .iface _ d => uptoBulk d + 1
  | .map entries => uptoBulkEntries entries + 1
  | .held _ => 1
def uptoBulkAll {H : Type} : List (DataW H) → Nat
  | [] => 0
  | d :: r => uptoBulk d + uptoBulkAll r
def uptoBulkEntries {H : Type} : List (Lit × DataW H) → Nat
  | [] => 0
  | x :: r => uptoBulkEntry x + uptoBulkEntries r
def uptoBulkEntry {H : Type} : Lit × DataW H → Nat
  | (.string bytes, d) => bytes.length + uptoBulk d + 1
  | (_, d) => uptoBulk d + 1
 end
def uptoSmall : (H : Type) → List (DataW H) → Bool := fun _ ds => decide (uptoBulkAll ds ≤ 1048576)
def OpenSpec.upto (s : _root_.Go.ChangeSpec) : _root_.Go.OpenSpec := { _root_.Go.OpenSpec.ofChange s with cond := some uptoSmall }

/-- 'glidepathlaw08.CloudEyes', WHERE WHAT IT READS IS OF BULK AT MOST 1048576: true; the input reads as it did. -/
def cloudEyesUptoRow : OpenClaim := { program := "yteiafijbgjgiaaa", sum := "d0fa37848677c4185f923610a71a842f866a1b50b3fd5374f28802d796efb44d", func := "glidepath/glidepathlaw08.CloudEyes", spec := "cloudEyes", unfollowed := true, recurses := true, apart := false, narrowed := true }
def CloudEyesUptoSaid : Prop := cloudEyesUptoRow.holds Try.pinned (OpenSpec.upto cloudEyesSpec)

/-- 'glidepathlaw08.CloudCeilings', WHERE WHAT IT READS IS OF BULK AT MOST 1048576: true; the input reads as it did. -/
def cloudCeilingsUptoRow : OpenClaim := { program := "yteiafijbgjgiaaa", sum := "d0fa37848677c4185f923610a71a842f866a1b50b3fd5374f28802d796efb44d", func := "glidepath/glidepathlaw08.CloudCeilings", spec := "cloudCeilings", unfollowed := true, recurses := true, apart := false, narrowed := true }
def CloudCeilingsUptoSaid : Prop := cloudCeilingsUptoRow.holds Try.pinned (OpenSpec.upto cloudCeilingsSpec)

/-- 'glidepathlaw08.CloudMiddle', WHERE WHAT IT READS IS OF BULK AT MOST 1048576: true; the input reads as it did. -/
def cloudMiddleUptoRow : OpenClaim := { program := "yteiafijbgjgiaaa", sum := "d0fa37848677c4185f923610a71a842f866a1b50b3fd5374f28802d796efb44d", func := "glidepath/glidepathlaw08.CloudMiddle", spec := "cloudMiddle", unfollowed := true, recurses := true, apart := false, narrowed := true }
def CloudMiddleUptoSaid : Prop := cloudMiddleUptoRow.holds Try.pinned (OpenSpec.upto cloudMiddleSpec)

/-- 'glidepathlaw08.CloudSegments', WHERE WHAT IT READS IS OF BULK AT MOST 1048576: true; the input reads as it did. -/
def cloudSegmentsUptoRow : OpenClaim := { program := "yteiafijbgjgiaaa", sum := "d0fa37848677c4185f923610a71a842f866a1b50b3fd5374f28802d796efb44d", func := "glidepath/glidepathlaw08.CloudSegments", spec := "cloudSegments", unfollowed := true, recurses := true, apart := false, narrowed := true }
def CloudSegmentsUptoSaid : Prop := cloudSegmentsUptoRow.holds Try.pinned (OpenSpec.upto cloudSegmentsSpec)

/-- 'glidepathlaw08.CloudProfiles', WHERE WHAT IT READS IS OF BULK AT MOST 1048576: true; the input reads as it did. -/
def cloudProfilesUptoRow : OpenClaim := { program := "yteiafijbgjgiaaa", sum := "d0fa37848677c4185f923610a71a842f866a1b50b3fd5374f28802d796efb44d", func := "glidepath/glidepathlaw08.CloudProfiles", spec := "cloudProfiles", unfollowed := true, recurses := true, apart := false, narrowed := true }
def CloudProfilesUptoSaid : Prop := cloudProfilesUptoRow.holds Try.pinned (OpenSpec.upto cloudProfilesSpec)

/-- 'glidepathlaw08.CloudPotentials', WHERE WHAT IT READS IS OF BULK AT MOST 1048576: true; the input reads as it did. -/
def cloudPotentialsUptoRow : OpenClaim := { program := "yteiafijbgjgiaaa", sum := "d0fa37848677c4185f923610a71a842f866a1b50b3fd5374f28802d796efb44d", func := "glidepath/glidepathlaw08.CloudPotentials", spec := "cloudPotentials", unfollowed := true, recurses := true, apart := false, narrowed := true }
def CloudPotentialsUptoSaid : Prop := cloudPotentialsUptoRow.holds Try.pinned (OpenSpec.upto cloudPotentialsSpec)

/-- 'glidepathlaw08.CloudDivided', WHERE WHAT IT READS IS OF BULK AT MOST 1048576: true; the input reads as it did. -/
def cloudDividedUptoRow : OpenClaim := { program := "yteiafijbgjgiaaa", sum := "d0fa37848677c4185f923610a71a842f866a1b50b3fd5374f28802d796efb44d", func := "glidepath/glidepathlaw08.CloudDivided", spec := "cloudDivided", unfollowed := true, recurses := true, apart := false, narrowed := true }
def CloudDividedUptoSaid : Prop := cloudDividedUptoRow.holds Try.pinned (OpenSpec.upto cloudDividedSpec)

/-- 'glidepathlaw08.CloudClasses', WHERE WHAT IT READS IS OF BULK AT MOST 1048576: true; the input reads as it did. -/
def cloudClassesUptoRow : OpenClaim := { program := "yteiafijbgjgiaaa", sum := "d0fa37848677c4185f923610a71a842f866a1b50b3fd5374f28802d796efb44d", func := "glidepath/glidepathlaw08.CloudClasses", spec := "cloudClasses", unfollowed := true, recurses := true, apart := false, narrowed := true }
def CloudClassesUptoSaid : Prop := cloudClassesUptoRow.holds Try.pinned (OpenSpec.upto cloudClassesSpec)

end Rows
end Go.Proofs.Yteiafijbgjgiaaa
