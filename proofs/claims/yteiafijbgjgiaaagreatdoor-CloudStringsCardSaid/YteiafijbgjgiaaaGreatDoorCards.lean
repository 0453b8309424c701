/-
  DERIVED. GIVEN WITH THE SEED: THE CARDS: each row of YteiafijbgjgiaaaGreatDoorRows.lean that lists a variable, with what it lists TIED to the program's text (the seventh form; the later family's looks); each row that meets fmt, with fmt's text TOLD by the authors' own Lean function (tested against real Go, not proved from fmt's source: count such statements apart). THE CARD IS WHAT COUNTS. Prove the row's statement (the work); the ties are given (YteiafijbgjgiaaaGreatDoorTie.lean); close each card by the builder's one call (the guide's Derived/Test/ToyasCard.lean, 'card_holds'). Laid BY PROGRAM, IN A SANDBOX (cutbox-door.mjs). By AI agents, Wed Nov 11 2026. No macro, syntax, notation, axiom, sorry.
-/
import Derived.Test.YteiafijbgjgiaaaGreatDoorRows
import GoSem.ClaimSeven
namespace Go.Proofs.YteiafijbgjgiaaaGreatDoor
namespace Rows

/-- THE TIED CARD OF 'glidepathlaw08.CloudStrings'. -/
def cloudStringsCard : Claim7 := { stood := { row := cloudStringsRow, standIns := [], harness := (true, "695bdeae72c59d26944926224cbf3daa9f083d4959727145b626fb3976915292"), looks := true }, kinds := [], alts := [], laidByText := true, laidKinds := [.data, .data, .data, .data, .sentinel, .sentinel, .pinned], laidTests := true, laidLooks := .later }
def CloudStringsCardSaid : Prop := Claim7.holds Tryz.pinned (.plain (OpenSpec.ofChange cloudStringsSpec)) cloudStringsCard

/-- THE SECOND FORM's CARD OF 'glidepathlaw08.CloudStrings'. -/
def cloudStringsUptoCard : Claim7 := { stood := { row := cloudStringsUptoRow, standIns := [], harness := (true, "695bdeae72c59d26944926224cbf3daa9f083d4959727145b626fb3976915292"), looks := true }, kinds := [], alts := [], laidByText := true, laidKinds := [.data, .data, .data, .data, .sentinel, .sentinel, .pinned], laidTests := true, laidLooks := .later }
def CloudStringsUptoCardSaid : Prop := Claim7.holds Tryz.pinned (.plain (OpenSpec.upto cloudStringsSpec)) cloudStringsUptoCard
end Rows
end Go.Proofs.YteiafijbgjgiaaaGreatDoor
