/-
  No cell of these rows narrows 'for every input' (looked for: loops, veiled, ifaces, maps, wideKeys, modest, calm, conditions, laid).
  DERIVED. THE GIVEN ROWS OF THIS SEAT. 4 by the template 'for every input the law returns true; each argument reads behind the call as it read before'; 0 by the template 'total and deterministic' (their statements: YteiafijbgjgiaaaGreatTotals.lean).
  GIVEN WITH THE SEED: the statements are not yours to turn. If you find one false, say at which input.
  Laid BY PROGRAM, IN A SANDBOX (cutbox-rows.mjs): the forced cells as the released guide's own fill.sh prints them over the translation ed9bf0eac95067bd… (all of the seat's roots in one cut). By AI agents, Wed Nov 11 2026. No macro, syntax, notation, axiom, sorry.
-/
import Derived.Test.YteiafijbgjgiaaaGreatChecked
import GoSem.Claim
import GoSem.ClaimJoined
import GoSem.ClaimMapViews
import Derived.JoinedTies
import Derived.KernelRfl
namespace Go.Proofs.YteiafijbgjgiaaaGreat
/- THE CELL 'sum', in the pinned program and in every row, IS THE sha256 OF THE DUMP (.gsa) THAT YteiafijbgjgiaaaGreatProg.lean LOADS. Nothing in Lean hashes anything: it is a label: what it is worth is what the hold of that sum in a sandbox is worth. -/
noncomputable def Tryz.pinned : Pinned := { name := "yteiafijbgjgiaaagreat", sum := "ed9bf0eac95067bd0b343d55b38e3ea73a6282736b0249a54ac1d88e49808ecb", checked := Tryz.checked }
namespace Rows
def none {H : Type} : Left H := { results := [], args := [] }

/-- 'glidepathlaw08.CloudApart': WHATEVER THE INPUT: true; the input reads as it did. -/
def cloudApartSpec : ChangeSpec := { name := "cloudApart", fn := fun _ => fun
  | [d1, d2, d3] => { results := [.lit (.bool true)], args := [d1, d2, d3] }
  | _ => none }
def cloudApartRow : OpenClaim := { program := "yteiafijbgjgiaaagreat", sum := "ed9bf0eac95067bd0b343d55b38e3ea73a6282736b0249a54ac1d88e49808ecb", func := "glidepath/glidepathlaw08.CloudApart", spec := "cloudApart", unfollowed := true, recurses := true, apart := false }
def CloudApartSaid : Prop := cloudApartRow.holds Tryz.pinned (OpenSpec.ofChange cloudApartSpec)

/-- ITS FALSE NEIGHBOUR: 'it returns false'. Refute it at one input. -/
def cloudApartWrong : ChangeSpec := { name := "cloudApart", fn := fun _ => fun
  | [d1, d2, d3] => { results := [.lit (.bool false)], args := [d1, d2, d3] }
  | _ => none }
def CloudApartWrongFalsely : Prop := cloudApartRow.holds Tryz.pinned (OpenSpec.ofChange cloudApartWrong)

/-- 'glidepathlaw08.CloudSeeing': WHATEVER THE INPUT: true; the input reads as it did. -/
def cloudSeeingSpec : ChangeSpec := { name := "cloudSeeing", fn := fun _ => fun
  | [d1, d2, d3] => { results := [.lit (.bool true)], args := [d1, d2, d3] }
  | _ => none }
def cloudSeeingRow : OpenClaim := { program := "yteiafijbgjgiaaagreat", sum := "ed9bf0eac95067bd0b343d55b38e3ea73a6282736b0249a54ac1d88e49808ecb", func := "glidepath/glidepathlaw08.CloudSeeing", spec := "cloudSeeing", unfollowed := true, recurses := true, apart := false }
def CloudSeeingSaid : Prop := cloudSeeingRow.holds Tryz.pinned (OpenSpec.ofChange cloudSeeingSpec)

/-- ITS FALSE NEIGHBOUR: 'it returns false'. Refute it at one input. -/
def cloudSeeingWrong : ChangeSpec := { name := "cloudSeeing", fn := fun _ => fun
  | [d1, d2, d3] => { results := [.lit (.bool false)], args := [d1, d2, d3] }
  | _ => none }
def CloudSeeingWrongFalsely : Prop := cloudSeeingRow.holds Tryz.pinned (OpenSpec.ofChange cloudSeeingWrong)

/-- 'glidepathlaw08.CloudSpans': WHATEVER THE INPUT: true; the input reads as it did. -/
def cloudSpansSpec : ChangeSpec := { name := "cloudSpans", fn := fun _ => fun
  | [d1, d2, d3] => { results := [.lit (.bool true)], args := [d1, d2, d3] }
  | _ => none }
def cloudSpansRow : OpenClaim := { program := "yteiafijbgjgiaaagreat", sum := "ed9bf0eac95067bd0b343d55b38e3ea73a6282736b0249a54ac1d88e49808ecb", func := "glidepath/glidepathlaw08.CloudSpans", spec := "cloudSpans", unfollowed := true, recurses := true, apart := false }
def CloudSpansSaid : Prop := cloudSpansRow.holds Tryz.pinned (OpenSpec.ofChange cloudSpansSpec)

/-- ITS FALSE NEIGHBOUR: 'it returns false'. Refute it at one input. -/
def cloudSpansWrong : ChangeSpec := { name := "cloudSpans", fn := fun _ => fun
  | [d1, d2, d3] => { results := [.lit (.bool false)], args := [d1, d2, d3] }
  | _ => none }
def CloudSpansWrongFalsely : Prop := cloudSpansRow.holds Tryz.pinned (OpenSpec.ofChange cloudSpansWrong)

/-- 'glidepathlaw08.CloudUndone': WHATEVER THE INPUT: true; the input reads as it did. -/
def cloudUndoneSpec : ChangeSpec := { name := "cloudUndone", fn := fun _ => fun
  | [d1, d2, d3] => { results := [.lit (.bool true)], args := [d1, d2, d3] }
  | _ => none }
def cloudUndoneRow : OpenClaim := { program := "yteiafijbgjgiaaagreat", sum := "ed9bf0eac95067bd0b343d55b38e3ea73a6282736b0249a54ac1d88e49808ecb", func := "glidepath/glidepathlaw08.CloudUndone", spec := "cloudUndone", unfollowed := true, recurses := true, apart := false }
def CloudUndoneSaid : Prop := cloudUndoneRow.holds Tryz.pinned (OpenSpec.ofChange cloudUndoneSpec)

/-- ITS FALSE NEIGHBOUR: 'it returns false'. Refute it at one input. -/
def cloudUndoneWrong : ChangeSpec := { name := "cloudUndone", fn := fun _ => fun
  | [d1, d2, d3] => { results := [.lit (.bool false)], args := [d1, d2, d3] }
  | _ => none }
def CloudUndoneWrongFalsely : Prop := cloudUndoneRow.holds Tryz.pinned (OpenSpec.ofChange cloudUndoneWrong)

/- THE SECOND FORM. 'bulk': how many values and letters a reading holds, each counted each time it is reached (what is shared counts as often as it is met; a slice's spare places count too). A statement '..UptoSaid' is the law's where the arguments, and the package variables that the reading takes, are together of bulk at most 1048576: NARROWER than '..Said'. Prove '..Said' where nothing that the law and all that it calls make is longer than what came in: it says more and counts as full. Else prove '..UptoSaid'. A law counts once. -/
mutual
def uptoBulk {H : Type} : DataW H → Nat
  | .lit (.string bytes) => bytes.length + 1
  | .lit _ => 1
  | .nil => 1
  | .ptr d => uptoBulk d + 1
  | .slice elems spare => uptoBulkAll elems + uptoBulkAll spare + 1
  | .agg parts => uptoBulkAll parts + 1
  | .iface _ d => uptoBulk d + 1
  | .map entries => uptoBulkEntries entries + 1
  | .held _ => 1
def uptoBulkAll {H : Type} : List (DataW H) → Nat
  | [] => 0
  | d :: r => uptoBulk d + uptoBulkAll r
def uptoBulkEntries {H : Type} : List (Lit × DataW H) → Nat
  | [] => 0
  | x :: r => uptoBulkEntry x + uptoBulkEntries r
def uptoBulkEntry {H : Type} : Lit × DataW H → Nat
  | (.string bytes, d) => bytes.length + uptoBulk d + 1
  | (_, d) => uptoBulk d + 1
 end
def uptoSmall : (H : Type) → List (DataW H) → Bool := fun _ ds => decide (uptoBulkAll ds ≤ 1048576)
def OpenSpec.upto (s : _root_.Go.ChangeSpec) : _root_.Go.OpenSpec := { _root_.Go.OpenSpec.ofChange s with cond := some uptoSmall }

/-- 'glidepathlaw08.CloudApart', WHERE WHAT IT READS IS OF BULK AT MOST 1048576: true; the input reads as it did. -/
def cloudApartUptoRow : OpenClaim := { program := "yteiafijbgjgiaaagreat", sum := "ed9bf0eac95067bd0b343d55b38e3ea73a6282736b0249a54ac1d88e49808ecb", func := "glidepath/glidepathlaw08.CloudApart", spec := "cloudApart", unfollowed := true, recurses := true, apart := false, narrowed := true }
def CloudApartUptoSaid : Prop := cloudApartUptoRow.holds Tryz.pinned (OpenSpec.upto cloudApartSpec)

/-- 'glidepathlaw08.CloudSeeing', WHERE WHAT IT READS IS OF BULK AT MOST 1048576: true; the input reads as it did. -/
def cloudSeeingUptoRow : OpenClaim := { program := "yteiafijbgjgiaaagreat", sum := "ed9bf0eac95067bd0b343d55b38e3ea73a6282736b0249a54ac1d88e49808ecb", func := "glidepath/glidepathlaw08.CloudSeeing", spec := "cloudSeeing", unfollowed := true, recurses := true, apart := false, narrowed := true }
def CloudSeeingUptoSaid : Prop := cloudSeeingUptoRow.holds Tryz.pinned (OpenSpec.upto cloudSeeingSpec)

/-- 'glidepathlaw08.CloudSpans', WHERE WHAT IT READS IS OF BULK AT MOST 1048576: true; the input reads as it did. -/
def cloudSpansUptoRow : OpenClaim := { program := "yteiafijbgjgiaaagreat", sum := "ed9bf0eac95067bd0b343d55b38e3ea73a6282736b0249a54ac1d88e49808ecb", func := "glidepath/glidepathlaw08.CloudSpans", spec := "cloudSpans", unfollowed := true, recurses := true, apart := false, narrowed := true }
def CloudSpansUptoSaid : Prop := cloudSpansUptoRow.holds Tryz.pinned (OpenSpec.upto cloudSpansSpec)

/-- 'glidepathlaw08.CloudUndone', WHERE WHAT IT READS IS OF BULK AT MOST 1048576: true; the input reads as it did. -/
def cloudUndoneUptoRow : OpenClaim := { program := "yteiafijbgjgiaaagreat", sum := "ed9bf0eac95067bd0b343d55b38e3ea73a6282736b0249a54ac1d88e49808ecb", func := "glidepath/glidepathlaw08.CloudUndone", spec := "cloudUndone", unfollowed := true, recurses := true, apart := false, narrowed := true }
def CloudUndoneUptoSaid : Prop := cloudUndoneUptoRow.holds Tryz.pinned (OpenSpec.upto cloudUndoneSpec)

end Rows
end Go.Proofs.YteiafijbgjgiaaaGreat
