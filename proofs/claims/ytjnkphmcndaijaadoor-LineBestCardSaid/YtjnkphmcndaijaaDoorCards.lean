/-
  DERIVED. GIVEN WITH THE SEED: THE CARDS: each row of YtjnkphmcndaijaaDoorRows.lean that lists a variable, with what it lists TIED to the program's text (the seventh form; the later family's looks); each row that meets fmt, with fmt's text TOLD by the authors' own Lean function (tested against real Go, not proved from fmt's source: count such statements apart). THE CARD IS WHAT COUNTS. Prove the row's statement (the work); the ties are given (YtjnkphmcndaijaaDoorTie.lean); close each card by the builder's one call (the guide's Derived/Test/ToyasCard.lean, 'card_holds'). Laid BY PROGRAM, IN A SANDBOX (cutbox-door.mjs). By AI agents, Wed Nov 11 2026. No macro, syntax, notation, axiom, sorry.
-/
import Derived.Test.YtjnkphmcndaijaaDoorRows
import GoSem.ClaimSeven
namespace Go.Proofs.YtjnkphmcndaijaaDoor
namespace Rows

/-- THE TIED CARD OF 'glidepathlaw02.LineErrors'. -/
def lineErrorsCard : Claim7 := { stood := { row := lineErrorsRow, standIns := [], harness := (true, "68e00fe0a35a8614ebfed6647c7fba239f0b04e0ac74a56cc64fe3ff6b44e14d"), looks := false }, kinds := [], alts := [], laidByText := true, laidKinds := [.funcs], laidTests := true, laidLooks := .later }
def LineErrorsCardSaid : Prop := Claim7.holds Tryd.pinned (.plain (OpenSpec.ofChange lineErrorsSpec)) lineErrorsCard

/-- THE TIED CARD OF 'glidepathlaw02.LineDetected'. -/
def lineDetectedCard : Claim7 := { stood := { row := lineDetectedRow, standIns := [], harness := (true, "68e00fe0a35a8614ebfed6647c7fba239f0b04e0ac74a56cc64fe3ff6b44e14d"), looks := false }, kinds := [], alts := [], laidByText := true, laidKinds := [.funcs], laidTests := true, laidLooks := .later }
def LineDetectedCardSaid : Prop := Claim7.holds Tryd.pinned (.plain (OpenSpec.ofChange lineDetectedSpec)) lineDetectedCard

/-- THE TIED CARD OF 'glidepathlaw02.LineWithin'. -/
def lineWithinCard : Claim7 := { stood := { row := lineWithinRow, standIns := [], harness := (true, "68e00fe0a35a8614ebfed6647c7fba239f0b04e0ac74a56cc64fe3ff6b44e14d"), looks := false }, kinds := [], alts := [], laidByText := true, laidKinds := [.funcs], laidTests := true, laidLooks := .later }
def LineWithinCardSaid : Prop := Claim7.holds Tryd.pinned (.plain (OpenSpec.ofChange lineWithinSpec)) lineWithinCard

/-- THE TIED CARD OF 'glidepathlaw02.LineApart'. -/
def lineApartCard : Claim7 := { stood := { row := lineApartRow, standIns := [], harness := (true, "68e00fe0a35a8614ebfed6647c7fba239f0b04e0ac74a56cc64fe3ff6b44e14d"), looks := false }, kinds := [], alts := [], laidByText := true, laidKinds := [.funcs], laidTests := true, laidLooks := .later }
def LineApartCardSaid : Prop := Claim7.holds Tryd.pinned (.plain (OpenSpec.ofChange lineApartSpec)) lineApartCard

/-- THE TIED CARD OF 'glidepathlaw02.LineSpeeds'. -/
def lineSpeedsCard : Claim7 := { stood := { row := lineSpeedsRow, standIns := [], harness := (true, "68e00fe0a35a8614ebfed6647c7fba239f0b04e0ac74a56cc64fe3ff6b44e14d"), looks := false }, kinds := [], alts := [], laidByText := true, laidKinds := [.funcs], laidTests := true, laidLooks := .later }
def LineSpeedsCardSaid : Prop := Claim7.holds Tryd.pinned (.plain (OpenSpec.ofChange lineSpeedsSpec)) lineSpeedsCard

/-- THE TIED CARD OF 'glidepathlaw02.LineCases'. -/
def lineCasesCard : Claim7 := { stood := { row := lineCasesRow, standIns := [], harness := (true, "68e00fe0a35a8614ebfed6647c7fba239f0b04e0ac74a56cc64fe3ff6b44e14d"), looks := false }, kinds := [], alts := [], laidByText := true, laidKinds := [.funcs], laidTests := true, laidLooks := .later }
def LineCasesCardSaid : Prop := Claim7.holds Tryd.pinned (.plain (OpenSpec.ofChange lineCasesSpec)) lineCasesCard

/-- THE TIED CARD OF 'glidepathlaw02.LineEstimates'. -/
def lineEstimatesCard : Claim7 := { stood := { row := lineEstimatesRow, standIns := [], harness := (true, "68e00fe0a35a8614ebfed6647c7fba239f0b04e0ac74a56cc64fe3ff6b44e14d"), looks := false }, kinds := [], alts := [], laidByText := true, laidKinds := [.funcs], laidTests := true, laidLooks := .later }
def LineEstimatesCardSaid : Prop := Claim7.holds Tryd.pinned (.plain (OpenSpec.ofChange lineEstimatesSpec)) lineEstimatesCard

/-- THE TIED CARD OF 'glidepathlaw02.LineDetections'. -/
def lineDetectionsCard : Claim7 := { stood := { row := lineDetectionsRow, standIns := [], harness := (true, "68e00fe0a35a8614ebfed6647c7fba239f0b04e0ac74a56cc64fe3ff6b44e14d"), looks := false }, kinds := [], alts := [], laidByText := true, laidKinds := [.funcs], laidTests := true, laidLooks := .later }
def LineDetectionsCardSaid : Prop := Claim7.holds Tryd.pinned (.plain (OpenSpec.ofChange lineDetectionsSpec)) lineDetectionsCard

/-- THE TIED CARD OF 'glidepathlaw02.LineBest'. -/
def lineBestCard : Claim7 := { stood := { row := lineBestRow, standIns := [], harness := (true, "68e00fe0a35a8614ebfed6647c7fba239f0b04e0ac74a56cc64fe3ff6b44e14d"), looks := false }, kinds := [], alts := [], laidByText := true, laidKinds := [.funcs], laidTests := true, laidLooks := .later }
def LineBestCardSaid : Prop := Claim7.holds Tryd.pinned (.plain (OpenSpec.ofChange lineBestSpec)) lineBestCard

/-- THE TIED CARD OF 'glidepathlaw02.LineProved'. -/
def lineProvedCard : Claim7 := { stood := { row := lineProvedRow, standIns := [], harness := (true, "68e00fe0a35a8614ebfed6647c7fba239f0b04e0ac74a56cc64fe3ff6b44e14d"), looks := false }, kinds := [], alts := [], laidByText := true, laidKinds := [.funcs], laidTests := true, laidLooks := .later }
def LineProvedCardSaid : Prop := Claim7.holds Tryd.pinned (.plain (OpenSpec.ofChange lineProvedSpec)) lineProvedCard

/-- THE TIED CARD OF 'glidepathlaw02.LineHard'. -/
def lineHardCard : Claim7 := { stood := { row := lineHardRow, standIns := [], harness := (true, "68e00fe0a35a8614ebfed6647c7fba239f0b04e0ac74a56cc64fe3ff6b44e14d"), looks := false }, kinds := [], alts := [], laidByText := true, laidKinds := [.funcs], laidTests := true, laidLooks := .later }
def LineHardCardSaid : Prop := Claim7.holds Tryd.pinned (.plain (OpenSpec.ofChange lineHardSpec)) lineHardCard

/-- THE TIED CARD OF 'glidepathlaw02.LineReached'. -/
def lineReachedCard : Claim7 := { stood := { row := lineReachedRow, standIns := [], harness := (true, "68e00fe0a35a8614ebfed6647c7fba239f0b04e0ac74a56cc64fe3ff6b44e14d"), looks := false }, kinds := [], alts := [], laidByText := true, laidKinds := [.funcs], laidTests := true, laidLooks := .later }
def LineReachedCardSaid : Prop := Claim7.holds Tryd.pinned (.plain (OpenSpec.ofChange lineReachedSpec)) lineReachedCard

/-- THE TIED CARD OF 'glidepathlaw02.LineSpectra'. -/
def lineSpectraCard : Claim7 := { stood := { row := lineSpectraRow, standIns := [], harness := (true, "68e00fe0a35a8614ebfed6647c7fba239f0b04e0ac74a56cc64fe3ff6b44e14d"), looks := false }, kinds := [], alts := [], laidByText := true, laidKinds := [.funcs], laidTests := true, laidLooks := .later }
def LineSpectraCardSaid : Prop := Claim7.holds Tryd.pinned (.plain (OpenSpec.ofChange lineSpectraSpec)) lineSpectraCard

/-- THE TIED CARD OF 'glidepathlaw02.LineRates'. -/
def lineRatesCard : Claim7 := { stood := { row := lineRatesRow, standIns := [], harness := (true, "68e00fe0a35a8614ebfed6647c7fba239f0b04e0ac74a56cc64fe3ff6b44e14d"), looks := false }, kinds := [], alts := [], laidByText := true, laidKinds := [.funcs], laidTests := true, laidLooks := .later }
def LineRatesCardSaid : Prop := Claim7.holds Tryd.pinned (.plain (OpenSpec.ofChange lineRatesSpec)) lineRatesCard

/-- THE TIED CARD OF 'glidepathlaw02.LineKept'. -/
def lineKeptCard : Claim7 := { stood := { row := lineKeptRow, standIns := [], harness := (true, "68e00fe0a35a8614ebfed6647c7fba239f0b04e0ac74a56cc64fe3ff6b44e14d"), looks := false }, kinds := [], alts := [], laidByText := true, laidKinds := [.funcs], laidTests := true, laidLooks := .later }
def LineKeptCardSaid : Prop := Claim7.holds Tryd.pinned (.plain (OpenSpec.ofChange lineKeptSpec)) lineKeptCard

/-- THE SECOND FORM's CARD OF 'glidepathlaw02.LineErrors'. -/
def lineErrorsUptoCard : Claim7 := { stood := { row := lineErrorsUptoRow, standIns := [], harness := (true, "68e00fe0a35a8614ebfed6647c7fba239f0b04e0ac74a56cc64fe3ff6b44e14d"), looks := false }, kinds := [], alts := [], laidByText := true, laidKinds := [.funcs], laidTests := true, laidLooks := .later }
def LineErrorsUptoCardSaid : Prop := Claim7.holds Tryd.pinned (.plain (OpenSpec.upto lineErrorsSpec)) lineErrorsUptoCard

/-- THE SECOND FORM's CARD OF 'glidepathlaw02.LineDetected'. -/
def lineDetectedUptoCard : Claim7 := { stood := { row := lineDetectedUptoRow, standIns := [], harness := (true, "68e00fe0a35a8614ebfed6647c7fba239f0b04e0ac74a56cc64fe3ff6b44e14d"), looks := false }, kinds := [], alts := [], laidByText := true, laidKinds := [.funcs], laidTests := true, laidLooks := .later }
def LineDetectedUptoCardSaid : Prop := Claim7.holds Tryd.pinned (.plain (OpenSpec.upto lineDetectedSpec)) lineDetectedUptoCard

/-- THE SECOND FORM's CARD OF 'glidepathlaw02.LineWithin'. -/
def lineWithinUptoCard : Claim7 := { stood := { row := lineWithinUptoRow, standIns := [], harness := (true, "68e00fe0a35a8614ebfed6647c7fba239f0b04e0ac74a56cc64fe3ff6b44e14d"), looks := false }, kinds := [], alts := [], laidByText := true, laidKinds := [.funcs], laidTests := true, laidLooks := .later }
def LineWithinUptoCardSaid : Prop := Claim7.holds Tryd.pinned (.plain (OpenSpec.upto lineWithinSpec)) lineWithinUptoCard

/-- THE SECOND FORM's CARD OF 'glidepathlaw02.LineApart'. -/
def lineApartUptoCard : Claim7 := { stood := { row := lineApartUptoRow, standIns := [], harness := (true, "68e00fe0a35a8614ebfed6647c7fba239f0b04e0ac74a56cc64fe3ff6b44e14d"), looks := false }, kinds := [], alts := [], laidByText := true, laidKinds := [.funcs], laidTests := true, laidLooks := .later }
def LineApartUptoCardSaid : Prop := Claim7.holds Tryd.pinned (.plain (OpenSpec.upto lineApartSpec)) lineApartUptoCard

/-- THE SECOND FORM's CARD OF 'glidepathlaw02.LineSpeeds'. -/
def lineSpeedsUptoCard : Claim7 := { stood := { row := lineSpeedsUptoRow, standIns := [], harness := (true, "68e00fe0a35a8614ebfed6647c7fba239f0b04e0ac74a56cc64fe3ff6b44e14d"), looks := false }, kinds := [], alts := [], laidByText := true, laidKinds := [.funcs], laidTests := true, laidLooks := .later }
def LineSpeedsUptoCardSaid : Prop := Claim7.holds Tryd.pinned (.plain (OpenSpec.upto lineSpeedsSpec)) lineSpeedsUptoCard

/-- THE SECOND FORM's CARD OF 'glidepathlaw02.LineCases'. -/
def lineCasesUptoCard : Claim7 := { stood := { row := lineCasesUptoRow, standIns := [], harness := (true, "68e00fe0a35a8614ebfed6647c7fba239f0b04e0ac74a56cc64fe3ff6b44e14d"), looks := false }, kinds := [], alts := [], laidByText := true, laidKinds := [.funcs], laidTests := true, laidLooks := .later }
def LineCasesUptoCardSaid : Prop := Claim7.holds Tryd.pinned (.plain (OpenSpec.upto lineCasesSpec)) lineCasesUptoCard

/-- THE SECOND FORM's CARD OF 'glidepathlaw02.LineEstimates'. -/
def lineEstimatesUptoCard : Claim7 := { stood := { row := lineEstimatesUptoRow, standIns := [], harness := (true, "68e00fe0a35a8614ebfed6647c7fba239f0b04e0ac74a56cc64fe3ff6b44e14d"), looks := false }, kinds := [], alts := [], laidByText := true, laidKinds := [.funcs], laidTests := true, laidLooks := .later }
def LineEstimatesUptoCardSaid : Prop := Claim7.holds Tryd.pinned (.plain (OpenSpec.upto lineEstimatesSpec)) lineEstimatesUptoCard

/-- THE SECOND FORM's CARD OF 'glidepathlaw02.LineDetections'. -/
def lineDetectionsUptoCard : Claim7 := { stood := { row := lineDetectionsUptoRow, standIns := [], harness := (true, "68e00fe0a35a8614ebfed6647c7fba239f0b04e0ac74a56cc64fe3ff6b44e14d"), looks := false }, kinds := [], alts := [], laidByText := true, laidKinds := [.funcs], laidTests := true, laidLooks := .later }
def LineDetectionsUptoCardSaid : Prop := Claim7.holds Tryd.pinned (.plain (OpenSpec.upto lineDetectionsSpec)) lineDetectionsUptoCard

/-- THE SECOND FORM's CARD OF 'glidepathlaw02.LineBest'. -/
def lineBestUptoCard : Claim7 := { stood := { row := lineBestUptoRow, standIns := [], harness := (true, "68e00fe0a35a8614ebfed6647c7fba239f0b04e0ac74a56cc64fe3ff6b44e14d"), looks := false }, kinds := [], alts := [], laidByText := true, laidKinds := [.funcs], laidTests := true, laidLooks := .later }
def LineBestUptoCardSaid : Prop := Claim7.holds Tryd.pinned (.plain (OpenSpec.upto lineBestSpec)) lineBestUptoCard

/-- THE SECOND FORM's CARD OF 'glidepathlaw02.LineProved'. -/
def lineProvedUptoCard : Claim7 := { stood := { row := lineProvedUptoRow, standIns := [], harness := (true, "68e00fe0a35a8614ebfed6647c7fba239f0b04e0ac74a56cc64fe3ff6b44e14d"), looks := false }, kinds := [], alts := [], laidByText := true, laidKinds := [.funcs], laidTests := true, laidLooks := .later }
def LineProvedUptoCardSaid : Prop := Claim7.holds Tryd.pinned (.plain (OpenSpec.upto lineProvedSpec)) lineProvedUptoCard

/-- THE SECOND FORM's CARD OF 'glidepathlaw02.LineHard'. -/
def lineHardUptoCard : Claim7 := { stood := { row := lineHardUptoRow, standIns := [], harness := (true, "68e00fe0a35a8614ebfed6647c7fba239f0b04e0ac74a56cc64fe3ff6b44e14d"), looks := false }, kinds := [], alts := [], laidByText := true, laidKinds := [.funcs], laidTests := true, laidLooks := .later }
def LineHardUptoCardSaid : Prop := Claim7.holds Tryd.pinned (.plain (OpenSpec.upto lineHardSpec)) lineHardUptoCard

/-- THE SECOND FORM's CARD OF 'glidepathlaw02.LineReached'. -/
def lineReachedUptoCard : Claim7 := { stood := { row := lineReachedUptoRow, standIns := [], harness := (true, "68e00fe0a35a8614ebfed6647c7fba239f0b04e0ac74a56cc64fe3ff6b44e14d"), looks := false }, kinds := [], alts := [], laidByText := true, laidKinds := [.funcs], laidTests := true, laidLooks := .later }
def LineReachedUptoCardSaid : Prop := Claim7.holds Tryd.pinned (.plain (OpenSpec.upto lineReachedSpec)) lineReachedUptoCard

/-- THE SECOND FORM's CARD OF 'glidepathlaw02.LineSpectra'. -/
def lineSpectraUptoCard : Claim7 := { stood := { row := lineSpectraUptoRow, standIns := [], harness := (true, "68e00fe0a35a8614ebfed6647c7fba239f0b04e0ac74a56cc64fe3ff6b44e14d"), looks := false }, kinds := [], alts := [], laidByText := true, laidKinds := [.funcs], laidTests := true, laidLooks := .later }
def LineSpectraUptoCardSaid : Prop := Claim7.holds Tryd.pinned (.plain (OpenSpec.upto lineSpectraSpec)) lineSpectraUptoCard

/-- THE SECOND FORM's CARD OF 'glidepathlaw02.LineRates'. -/
def lineRatesUptoCard : Claim7 := { stood := { row := lineRatesUptoRow, standIns := [], harness := (true, "68e00fe0a35a8614ebfed6647c7fba239f0b04e0ac74a56cc64fe3ff6b44e14d"), looks := false }, kinds := [], alts := [], laidByText := true, laidKinds := [.funcs], laidTests := true, laidLooks := .later }
def LineRatesUptoCardSaid : Prop := Claim7.holds Tryd.pinned (.plain (OpenSpec.upto lineRatesSpec)) lineRatesUptoCard

/-- THE SECOND FORM's CARD OF 'glidepathlaw02.LineKept'. -/
def lineKeptUptoCard : Claim7 := { stood := { row := lineKeptUptoRow, standIns := [], harness := (true, "68e00fe0a35a8614ebfed6647c7fba239f0b04e0ac74a56cc64fe3ff6b44e14d"), looks := false }, kinds := [], alts := [], laidByText := true, laidKinds := [.funcs], laidTests := true, laidLooks := .later }
def LineKeptUptoCardSaid : Prop := Claim7.holds Tryd.pinned (.plain (OpenSpec.upto lineKeptSpec)) lineKeptUptoCard
end Rows
end Go.Proofs.YtjnkphmcndaijaaDoor
