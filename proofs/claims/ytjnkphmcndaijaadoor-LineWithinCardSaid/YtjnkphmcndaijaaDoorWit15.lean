/- Walks of the program's functions (printed, made shorter), each with what it computes. -/
import Derived.Test.YtjnkphmcndaijaaDoorWit04
import Derived.Test.YtjnkphmcndaijaaDoorWit06
import Derived.Test.YtjnkphmcndaijaaDoorWit07
import Derived.Test.YtjnkphmcndaijaaDoorWit13
import Derived.Test.YtjnkphmcndaijaaDoorWit14
import Derived.Test.YtjnkphmcndaijaaDoorWit03
namespace Go.Proofs.YtjnkphmcndaijaaDoor.A
open Go.RowKit Go.Proofs.YtjnkphmcndaijaaDoorW.PrintWords Go.Proofs.YtjnkphmcndaijaaDoorW.PrintLast Go.Proofs.YtjnkphmcndaijaaDoorW.PrintMore
attribute [local go_sem] max2_int min2_int max_two min_two max_three min_three max_four min_four
set_option linter.unusedVariables false
set_option linter.unusedSimpArgs false
attribute [local go_sem high] eqA26
mutual
def glidepathlaw02_LineWithin.j0 : Nat → List Int → Int → Bool → Option (Bool)
  | 0, _, _, _ => none
  | k + 1, x0, x1, x26 => if x26 = true then (some true) else (glidepathlaw02_LineWithin.l0 k x0 x1 ([] : List Int) ([] : List Int) 0)
def glidepathlaw02_LineWithin.l0 : Nat → List Int → Int → List Int → List Int → Int → Option (Bool)
  | 0, _, _, _, _, _ => none
  | k + 1, x0, x1, x5, x6, x7 => if x7 < (x0.length : Int) then (if 0 ≤ x7 then ((some (([wrap64 (x1 * (rd x0 x7))] : List Int) : List Int)).bind fun y631 => (if x5.length + y631.length < 17592186044416 then (if 0 ≤ (wrap64 ((wrap64 ((x0.length : Int) - 1)) - x7)) then (if (wrap64 ((wrap64 ((x0.length : Int) - 1)) - x7)) < (x0.length : Int) then ((some (([rd x0 (wrap64 ((wrap64 ((x0.length : Int) - 1)) - x7))] : List Int) : List Int)).bind fun y638 => (if x6.length + y638.length < 17592186044416 then (glidepathlaw02_LineWithin.l0 k x0 x1 (x5 ++ y631) (x6 ++ y638) (wrap64 (x7 + 1))) else (none))) else (none)) else (none)) else (none))) else (none)) else ((glidepathbase_CopyInts.f x0).bind fun t644 => ((line_PeakOf.f k t644).bind fun bt647 => (if bt647.2 = 0 then ((glidepathbase_Within.f bt647.1 0 (wrap64 ((x0.length : Int) - 1))).bind fun t649 => (glidepathlaw02_LineWithin.j2 k x0 x5 x6 bt647.1 (!t649))) else (glidepathlaw02_LineWithin.j2 k x0 x5 x6 bt647.1 true))))
def glidepathlaw02_LineWithin.j2 : Nat → List Int → List Int → List Int → Int → Bool → Option (Bool)
  | 0, _, _, _, _, _ => none
  | k + 1, x0, x5, x6, x8, x68 => if x68 = true then (none) else (glidepathlaw02_LineWithin.l1 k x0 x5 x6 x8 0)
def glidepathlaw02_LineWithin.l1 : Nat → List Int → List Int → List Int → Int → Int → Option (Bool)
  | 0, _, _, _, _, _ => none
  | k + 1, x0, x5, x6, x8, x10 => if x10 < 4 then ((glidepathbase_CopyInts.f x0).bind fun t650 => ((line_Estimated.f k t650 x10).bind fun bt653 => (if bt653.2.2 = 0 then ((glidepathbase_IsLowest.f k bt653.1 bt653.2.1).bind fun t657 => (if t657 = true then ((glidepathbase_IsSmall.f bt653.1 bt653.2.1).bind fun t658 => (if t658 = true then (if bt653.1 < 0 then (glidepathlaw02_LineWithin.j4 k x0 x5 x6 x8 x10 true bt653.1 bt653.2.1) else ((glidepathbase_Whole.f (wrap64 ((x0.length : Int) - 1))).bind fun bt659 => ((glidepathbase_Cmp.f bt653.1 bt653.2.1 bt659.1 bt659.2).bind fun t661 => (glidepathlaw02_LineWithin.j4 k x0 x5 x6 x8 x10 (decide (t661 > 0)) bt653.1 bt653.2.1)))) else (glidepathlaw02_LineWithin.j4 k x0 x5 x6 x8 x10 true bt653.1 bt653.2.1))) else (glidepathlaw02_LineWithin.j4 k x0 x5 x6 x8 x10 true bt653.1 bt653.2.1))) else (glidepathlaw02_LineWithin.j4 k x0 x5 x6 x8 x10 true bt653.1 bt653.2.1)))) else (some true)
def glidepathlaw02_LineWithin.j4 : Nat → List Int → List Int → List Int → Int → Int → Bool → Int → Int → Option (Bool)
  | 0, _, _, _, _, _, _, _, _ => none
  | k + 1, x0, x5, x6, x8, x10, x105, x657000, x657001 => if x105 = true then (none) else (if x10 = 2 then ((glidepathref02_Sum.f k x0).bind fun t662 => (if t662 > 0 then ((glidepathbase_Size.f (wrap64 (2 * (wrap64 (x657000 - (wrap64 (x8 * x657001))))))).bind fun t663 => (glidepathlaw02_LineWithin.j5 k x0 x5 x6 x8 x10 (decide (t663 > x657001)) x657000 x657001)) else (glidepathlaw02_LineWithin.j5 k x0 x5 x6 x8 x10 false x657000 x657001))) else (glidepathlaw02_LineWithin.j5 k x0 x5 x6 x8 x10 false x657000 x657001))
def glidepathlaw02_LineWithin.j5 : Nat → List Int → List Int → List Int → Int → Int → Bool → Int → Int → Option (Bool)
  | 0, _, _, _, _, _, _, _, _ => none
  | k + 1, x0, x5, x6, x8, x10, x126, x657000, x657001 => if x126 = true then (none) else ((glidepathref02_SpectrumErr.f k x5).bind fun t664 => (if t664 = 0 then ((glidepathbase_CopyInts.f x5).bind fun t665 => ((line_Estimated.f k t665 x10).bind fun bt668 => (if bt668.2.2 = 0 then (if (!(bt668.1 == x657000) || (!(bt668.2.1 == x657001))) = true then (none) else (glidepathlaw02_LineWithin.j6 k x0 x5 x6 x8 x10 x657000 x657001)) else (none)))) else (glidepathlaw02_LineWithin.j6 k x0 x5 x6 x8 x10 x657000 x657001)))
def glidepathlaw02_LineWithin.j6 : Nat → List Int → List Int → List Int → Int → Int → Int → Int → Option (Bool)
  | 0, _, _, _, _, _, _, _ => none
  | k + 1, x0, x5, x6, x8, x10, x657000, x657001 => if x10 = 1 then ((glidepathref02_Sum.f k x0).bind fun t672 => (glidepathlaw02_LineWithin.j7 k x0 x5 x6 x8 x10 (decide (t672 > 0)) x657000 x657001)) else (glidepathlaw02_LineWithin.j7 k x0 x5 x6 x8 x10 false x657000 x657001)
def glidepathlaw02_LineWithin.j7 : Nat → List Int → List Int → List Int → Int → Int → Bool → Int → Int → Option (Bool)
  | 0, _, _, _, _, _, _, _, _ => none
  | k + 1, x0, x5, x6, x8, x10, x150, x657000, x657001 => if x150 = true then ((glidepathbase_CopyInts.f x6).bind fun t673 => ((line_Estimated.f k t673 x10).bind fun bt676 => (if bt676.2.2 = 0 then ((glidepathbase_Lowest.f k (wrap64 ((wrap64 ((wrap64 ((x0.length : Int) - 1)) * x657001)) - x657000)) x657001).bind fun bt680 => (if (!(bt676.1 == bt680.1) || (!(bt676.2.1 == bt680.2))) = true then (none) else (glidepathlaw02_LineWithin.l1 k x0 x5 x6 x8 (wrap64 (x10 + 1))))) else (none)))) else (glidepathlaw02_LineWithin.l1 k x0 x5 x6 x8 (wrap64 (x10 + 1)))
end
def glidepathlaw02_LineWithin.f (k : Nat) (l0 : List Int) (a1 : Int) : Option (Bool) := (glidepathlaw02_awake.f k).bind fun t627 => (if t627 = true then ((glidepathref02_SpectrumErr.f k l0).bind fun t628 => (if t628 = 0 then ((glidepathbase_Within.f a1 1 5).bind fun t629 => (glidepathlaw02_LineWithin.j0 k l0 a1 (!t629))) else (glidepathlaw02_LineWithin.j0 k l0 a1 true))) else (none))
theorem glidepathlaw02_LineWithin.mono_l : ∀ k, (∀ y0 y1 y2, LeO (glidepathlaw02_LineWithin.j0 k y0 y1 y2) (glidepathlaw02_LineWithin.j0 (k + 1) y0 y1 y2)) ∧ (∀ y0 y1 y2 y3 y4, LeO (glidepathlaw02_LineWithin.l0 k y0 y1 y2 y3 y4) (glidepathlaw02_LineWithin.l0 (k + 1) y0 y1 y2 y3 y4)) ∧ (∀ y0 y1 y2 y3 y4, LeO (glidepathlaw02_LineWithin.j2 k y0 y1 y2 y3 y4) (glidepathlaw02_LineWithin.j2 (k + 1) y0 y1 y2 y3 y4)) ∧ (∀ y0 y1 y2 y3 y4, LeO (glidepathlaw02_LineWithin.l1 k y0 y1 y2 y3 y4) (glidepathlaw02_LineWithin.l1 (k + 1) y0 y1 y2 y3 y4)) ∧ (∀ y0 y1 y2 y3 y4 y5 y6 y7, LeO (glidepathlaw02_LineWithin.j4 k y0 y1 y2 y3 y4 y5 y6 y7) (glidepathlaw02_LineWithin.j4 (k + 1) y0 y1 y2 y3 y4 y5 y6 y7)) ∧ (∀ y0 y1 y2 y3 y4 y5 y6 y7, LeO (glidepathlaw02_LineWithin.j5 k y0 y1 y2 y3 y4 y5 y6 y7) (glidepathlaw02_LineWithin.j5 (k + 1) y0 y1 y2 y3 y4 y5 y6 y7)) ∧ (∀ y0 y1 y2 y3 y4 y5 y6, LeO (glidepathlaw02_LineWithin.j6 k y0 y1 y2 y3 y4 y5 y6) (glidepathlaw02_LineWithin.j6 (k + 1) y0 y1 y2 y3 y4 y5 y6)) ∧ (∀ y0 y1 y2 y3 y4 y5 y6 y7, LeO (glidepathlaw02_LineWithin.j7 k y0 y1 y2 y3 y4 y5 y6 y7) (glidepathlaw02_LineWithin.j7 (k + 1) y0 y1 y2 y3 y4 y5 y6 y7))
  | 0 => ⟨fun _ _ _ r h => by simp [glidepathlaw02_LineWithin.j0] at h, fun _ _ _ _ _ r h => by simp [glidepathlaw02_LineWithin.l0] at h, fun _ _ _ _ _ r h => by simp [glidepathlaw02_LineWithin.j2] at h, fun _ _ _ _ _ r h => by simp [glidepathlaw02_LineWithin.l1] at h, fun _ _ _ _ _ _ _ _ r h => by simp [glidepathlaw02_LineWithin.j4] at h, fun _ _ _ _ _ _ _ _ r h => by simp [glidepathlaw02_LineWithin.j5] at h, fun _ _ _ _ _ _ _ r h => by simp [glidepathlaw02_LineWithin.j6] at h, fun _ _ _ _ _ _ _ _ r h => by simp [glidepathlaw02_LineWithin.j7] at h⟩
  | k + 1 => by
    obtain ⟨ih0, ih1, ih2, ih3, ih4, ih5, ih6, ih7⟩ := glidepathlaw02_LineWithin.mono_l k
    refine ⟨?_, ?_, ?_, ?_, ?_, ?_, ?_, ?_⟩
    · intro y0 y1 y2
      unfold glidepathlaw02_LineWithin.j0
      repeat' first
      | (with_reducible exact ih0 _ _ _)
      | (with_reducible exact ih1 _ _ _ _ _)
      | (with_reducible exact ih2 _ _ _ _ _)
      | (with_reducible exact ih3 _ _ _ _ _)
      | (with_reducible exact ih4 _ _ _ _ _ _ _ _)
      | (with_reducible exact ih5 _ _ _ _ _ _ _ _)
      | (with_reducible exact ih6 _ _ _ _ _ _ _)
      | (with_reducible exact ih7 _ _ _ _ _ _ _ _)
      | (with_reducible exact glidepathbase_IsLowest.mono _ _ _)
      | (with_reducible exact glidepathbase_Lowest.mono _ _ _)
      | (with_reducible exact glidepathlaw02_awake.mono _)
      | (with_reducible exact glidepathref02_SpectrumErr.mono _ _)
      | (with_reducible exact glidepathref02_Sum.mono _ _)
      | (with_reducible exact line_Estimated.mono _ _ _)
      | (with_reducible exact line_PeakOf.mono _ _)
      | (with_reducible exact LeO.refl _)
      | (with_reducible exact LeO.none _)
      | (with_reducible refine LeO.ite ?_ ?_)
      | (with_reducible refine LeO.bind ?_ (fun _ => ?_))
      | exact ih0 _ _ _
      | exact ih1 _ _ _ _ _
      | exact ih2 _ _ _ _ _
      | exact ih3 _ _ _ _ _
      | exact ih4 _ _ _ _ _ _ _ _
      | exact ih5 _ _ _ _ _ _ _ _
      | exact ih6 _ _ _ _ _ _ _
      | exact ih7 _ _ _ _ _ _ _ _
      | exact glidepathbase_IsLowest.mono _ _ _
      | exact glidepathbase_Lowest.mono _ _ _
      | exact glidepathlaw02_awake.mono _
      | exact glidepathref02_SpectrumErr.mono _ _
      | exact glidepathref02_Sum.mono _ _
      | exact line_Estimated.mono _ _ _
      | exact line_PeakOf.mono _ _
      | exact LeO.none _
      | refine LeO.ite ?_ ?_
      | refine LeO.bind ?_ (fun _ => ?_)
    · intro y0 y1 y2 y3 y4
      unfold glidepathlaw02_LineWithin.l0
      repeat' first
      | (with_reducible exact ih0 _ _ _)
      | (with_reducible exact ih1 _ _ _ _ _)
      | (with_reducible exact ih2 _ _ _ _ _)
      | (with_reducible exact ih3 _ _ _ _ _)
      | (with_reducible exact ih4 _ _ _ _ _ _ _ _)
      | (with_reducible exact ih5 _ _ _ _ _ _ _ _)
      | (with_reducible exact ih6 _ _ _ _ _ _ _)
      | (with_reducible exact ih7 _ _ _ _ _ _ _ _)
      | (with_reducible exact glidepathbase_IsLowest.mono _ _ _)
      | (with_reducible exact glidepathbase_Lowest.mono _ _ _)
      | (with_reducible exact glidepathlaw02_awake.mono _)
      | (with_reducible exact glidepathref02_SpectrumErr.mono _ _)
      | (with_reducible exact glidepathref02_Sum.mono _ _)
      | (with_reducible exact line_Estimated.mono _ _ _)
      | (with_reducible exact line_PeakOf.mono _ _)
      | (with_reducible exact LeO.refl _)
      | (with_reducible exact LeO.none _)
      | (with_reducible refine LeO.ite ?_ ?_)
      | (with_reducible refine LeO.bind ?_ (fun _ => ?_))
      | exact ih0 _ _ _
      | exact ih1 _ _ _ _ _
      | exact ih2 _ _ _ _ _
      | exact ih3 _ _ _ _ _
      | exact ih4 _ _ _ _ _ _ _ _
      | exact ih5 _ _ _ _ _ _ _ _
      | exact ih6 _ _ _ _ _ _ _
      | exact ih7 _ _ _ _ _ _ _ _
      | exact glidepathbase_IsLowest.mono _ _ _
      | exact glidepathbase_Lowest.mono _ _ _
      | exact glidepathlaw02_awake.mono _
      | exact glidepathref02_SpectrumErr.mono _ _
      | exact glidepathref02_Sum.mono _ _
      | exact line_Estimated.mono _ _ _
      | exact line_PeakOf.mono _ _
      | exact LeO.none _
      | refine LeO.ite ?_ ?_
      | refine LeO.bind ?_ (fun _ => ?_)
    · intro y0 y1 y2 y3 y4
      unfold glidepathlaw02_LineWithin.j2
      repeat' first
      | (with_reducible exact ih0 _ _ _)
      | (with_reducible exact ih1 _ _ _ _ _)
      | (with_reducible exact ih2 _ _ _ _ _)
      | (with_reducible exact ih3 _ _ _ _ _)
      | (with_reducible exact ih4 _ _ _ _ _ _ _ _)
      | (with_reducible exact ih5 _ _ _ _ _ _ _ _)
      | (with_reducible exact ih6 _ _ _ _ _ _ _)
      | (with_reducible exact ih7 _ _ _ _ _ _ _ _)
      | (with_reducible exact glidepathbase_IsLowest.mono _ _ _)
      | (with_reducible exact glidepathbase_Lowest.mono _ _ _)
      | (with_reducible exact glidepathlaw02_awake.mono _)
      | (with_reducible exact glidepathref02_SpectrumErr.mono _ _)
      | (with_reducible exact glidepathref02_Sum.mono _ _)
      | (with_reducible exact line_Estimated.mono _ _ _)
      | (with_reducible exact line_PeakOf.mono _ _)
      | (with_reducible exact LeO.refl _)
      | (with_reducible exact LeO.none _)
      | (with_reducible refine LeO.ite ?_ ?_)
      | (with_reducible refine LeO.bind ?_ (fun _ => ?_))
      | exact ih0 _ _ _
      | exact ih1 _ _ _ _ _
      | exact ih2 _ _ _ _ _
      | exact ih3 _ _ _ _ _
      | exact ih4 _ _ _ _ _ _ _ _
      | exact ih5 _ _ _ _ _ _ _ _
      | exact ih6 _ _ _ _ _ _ _
      | exact ih7 _ _ _ _ _ _ _ _
      | exact glidepathbase_IsLowest.mono _ _ _
      | exact glidepathbase_Lowest.mono _ _ _
      | exact glidepathlaw02_awake.mono _
      | exact glidepathref02_SpectrumErr.mono _ _
      | exact glidepathref02_Sum.mono _ _
      | exact line_Estimated.mono _ _ _
      | exact line_PeakOf.mono _ _
      | exact LeO.none _
      | refine LeO.ite ?_ ?_
      | refine LeO.bind ?_ (fun _ => ?_)
    · intro y0 y1 y2 y3 y4
      unfold glidepathlaw02_LineWithin.l1
      repeat' first
      | (with_reducible exact ih0 _ _ _)
      | (with_reducible exact ih1 _ _ _ _ _)
      | (with_reducible exact ih2 _ _ _ _ _)
      | (with_reducible exact ih3 _ _ _ _ _)
      | (with_reducible exact ih4 _ _ _ _ _ _ _ _)
      | (with_reducible exact ih5 _ _ _ _ _ _ _ _)
      | (with_reducible exact ih6 _ _ _ _ _ _ _)
      | (with_reducible exact ih7 _ _ _ _ _ _ _ _)
      | (with_reducible exact glidepathbase_IsLowest.mono _ _ _)
      | (with_reducible exact glidepathbase_Lowest.mono _ _ _)
      | (with_reducible exact glidepathlaw02_awake.mono _)
      | (with_reducible exact glidepathref02_SpectrumErr.mono _ _)
      | (with_reducible exact glidepathref02_Sum.mono _ _)
      | (with_reducible exact line_Estimated.mono _ _ _)
      | (with_reducible exact line_PeakOf.mono _ _)
      | (with_reducible exact LeO.refl _)
      | (with_reducible exact LeO.none _)
      | (with_reducible refine LeO.ite ?_ ?_)
      | (with_reducible refine LeO.bind ?_ (fun _ => ?_))
      | exact ih0 _ _ _
      | exact ih1 _ _ _ _ _
      | exact ih2 _ _ _ _ _
      | exact ih3 _ _ _ _ _
      | exact ih4 _ _ _ _ _ _ _ _
      | exact ih5 _ _ _ _ _ _ _ _
      | exact ih6 _ _ _ _ _ _ _
      | exact ih7 _ _ _ _ _ _ _ _
      | exact glidepathbase_IsLowest.mono _ _ _
      | exact glidepathbase_Lowest.mono _ _ _
      | exact glidepathlaw02_awake.mono _
      | exact glidepathref02_SpectrumErr.mono _ _
      | exact glidepathref02_Sum.mono _ _
      | exact line_Estimated.mono _ _ _
      | exact line_PeakOf.mono _ _
      | exact LeO.none _
      | refine LeO.ite ?_ ?_
      | refine LeO.bind ?_ (fun _ => ?_)
    · intro y0 y1 y2 y3 y4 y5 y6 y7
      unfold glidepathlaw02_LineWithin.j4
      repeat' first
      | (with_reducible exact ih0 _ _ _)
      | (with_reducible exact ih1 _ _ _ _ _)
      | (with_reducible exact ih2 _ _ _ _ _)
      | (with_reducible exact ih3 _ _ _ _ _)
      | (with_reducible exact ih4 _ _ _ _ _ _ _ _)
      | (with_reducible exact ih5 _ _ _ _ _ _ _ _)
      | (with_reducible exact ih6 _ _ _ _ _ _ _)
      | (with_reducible exact ih7 _ _ _ _ _ _ _ _)
      | (with_reducible exact glidepathbase_IsLowest.mono _ _ _)
      | (with_reducible exact glidepathbase_Lowest.mono _ _ _)
      | (with_reducible exact glidepathlaw02_awake.mono _)
      | (with_reducible exact glidepathref02_SpectrumErr.mono _ _)
      | (with_reducible exact glidepathref02_Sum.mono _ _)
      | (with_reducible exact line_Estimated.mono _ _ _)
      | (with_reducible exact line_PeakOf.mono _ _)
      | (with_reducible exact LeO.refl _)
      | (with_reducible exact LeO.none _)
      | (with_reducible refine LeO.ite ?_ ?_)
      | (with_reducible refine LeO.bind ?_ (fun _ => ?_))
      | exact ih0 _ _ _
      | exact ih1 _ _ _ _ _
      | exact ih2 _ _ _ _ _
      | exact ih3 _ _ _ _ _
      | exact ih4 _ _ _ _ _ _ _ _
      | exact ih5 _ _ _ _ _ _ _ _
      | exact ih6 _ _ _ _ _ _ _
      | exact ih7 _ _ _ _ _ _ _ _
      | exact glidepathbase_IsLowest.mono _ _ _
      | exact glidepathbase_Lowest.mono _ _ _
      | exact glidepathlaw02_awake.mono _
      | exact glidepathref02_SpectrumErr.mono _ _
      | exact glidepathref02_Sum.mono _ _
      | exact line_Estimated.mono _ _ _
      | exact line_PeakOf.mono _ _
      | exact LeO.none _
      | refine LeO.ite ?_ ?_
      | refine LeO.bind ?_ (fun _ => ?_)
    · intro y0 y1 y2 y3 y4 y5 y6 y7
      unfold glidepathlaw02_LineWithin.j5
      repeat' first
      | (with_reducible exact ih0 _ _ _)
      | (with_reducible exact ih1 _ _ _ _ _)
      | (with_reducible exact ih2 _ _ _ _ _)
      | (with_reducible exact ih3 _ _ _ _ _)
      | (with_reducible exact ih4 _ _ _ _ _ _ _ _)
      | (with_reducible exact ih5 _ _ _ _ _ _ _ _)
      | (with_reducible exact ih6 _ _ _ _ _ _ _)
      | (with_reducible exact ih7 _ _ _ _ _ _ _ _)
      | (with_reducible exact glidepathbase_IsLowest.mono _ _ _)
      | (with_reducible exact glidepathbase_Lowest.mono _ _ _)
      | (with_reducible exact glidepathlaw02_awake.mono _)
      | (with_reducible exact glidepathref02_SpectrumErr.mono _ _)
      | (with_reducible exact glidepathref02_Sum.mono _ _)
      | (with_reducible exact line_Estimated.mono _ _ _)
      | (with_reducible exact line_PeakOf.mono _ _)
      | (with_reducible exact LeO.refl _)
      | (with_reducible exact LeO.none _)
      | (with_reducible refine LeO.ite ?_ ?_)
      | (with_reducible refine LeO.bind ?_ (fun _ => ?_))
      | exact ih0 _ _ _
      | exact ih1 _ _ _ _ _
      | exact ih2 _ _ _ _ _
      | exact ih3 _ _ _ _ _
      | exact ih4 _ _ _ _ _ _ _ _
      | exact ih5 _ _ _ _ _ _ _ _
      | exact ih6 _ _ _ _ _ _ _
      | exact ih7 _ _ _ _ _ _ _ _
      | exact glidepathbase_IsLowest.mono _ _ _
      | exact glidepathbase_Lowest.mono _ _ _
      | exact glidepathlaw02_awake.mono _
      | exact glidepathref02_SpectrumErr.mono _ _
      | exact glidepathref02_Sum.mono _ _
      | exact line_Estimated.mono _ _ _
      | exact line_PeakOf.mono _ _
      | exact LeO.none _
      | refine LeO.ite ?_ ?_
      | refine LeO.bind ?_ (fun _ => ?_)
    · intro y0 y1 y2 y3 y4 y5 y6
      unfold glidepathlaw02_LineWithin.j6
      repeat' first
      | (with_reducible exact ih0 _ _ _)
      | (with_reducible exact ih1 _ _ _ _ _)
      | (with_reducible exact ih2 _ _ _ _ _)
      | (with_reducible exact ih3 _ _ _ _ _)
      | (with_reducible exact ih4 _ _ _ _ _ _ _ _)
      | (with_reducible exact ih5 _ _ _ _ _ _ _ _)
      | (with_reducible exact ih6 _ _ _ _ _ _ _)
      | (with_reducible exact ih7 _ _ _ _ _ _ _ _)
      | (with_reducible exact glidepathbase_IsLowest.mono _ _ _)
      | (with_reducible exact glidepathbase_Lowest.mono _ _ _)
      | (with_reducible exact glidepathlaw02_awake.mono _)
      | (with_reducible exact glidepathref02_SpectrumErr.mono _ _)
      | (with_reducible exact glidepathref02_Sum.mono _ _)
      | (with_reducible exact line_Estimated.mono _ _ _)
      | (with_reducible exact line_PeakOf.mono _ _)
      | (with_reducible exact LeO.refl _)
      | (with_reducible exact LeO.none _)
      | (with_reducible refine LeO.ite ?_ ?_)
      | (with_reducible refine LeO.bind ?_ (fun _ => ?_))
      | exact ih0 _ _ _
      | exact ih1 _ _ _ _ _
      | exact ih2 _ _ _ _ _
      | exact ih3 _ _ _ _ _
      | exact ih4 _ _ _ _ _ _ _ _
      | exact ih5 _ _ _ _ _ _ _ _
      | exact ih6 _ _ _ _ _ _ _
      | exact ih7 _ _ _ _ _ _ _ _
      | exact glidepathbase_IsLowest.mono _ _ _
      | exact glidepathbase_Lowest.mono _ _ _
      | exact glidepathlaw02_awake.mono _
      | exact glidepathref02_SpectrumErr.mono _ _
      | exact glidepathref02_Sum.mono _ _
      | exact line_Estimated.mono _ _ _
      | exact line_PeakOf.mono _ _
      | exact LeO.none _
      | refine LeO.ite ?_ ?_
      | refine LeO.bind ?_ (fun _ => ?_)
    · intro y0 y1 y2 y3 y4 y5 y6 y7
      unfold glidepathlaw02_LineWithin.j7
      repeat' first
      | (with_reducible exact ih0 _ _ _)
      | (with_reducible exact ih1 _ _ _ _ _)
      | (with_reducible exact ih2 _ _ _ _ _)
      | (with_reducible exact ih3 _ _ _ _ _)
      | (with_reducible exact ih4 _ _ _ _ _ _ _ _)
      | (with_reducible exact ih5 _ _ _ _ _ _ _ _)
      | (with_reducible exact ih6 _ _ _ _ _ _ _)
      | (with_reducible exact ih7 _ _ _ _ _ _ _ _)
      | (with_reducible exact glidepathbase_IsLowest.mono _ _ _)
      | (with_reducible exact glidepathbase_Lowest.mono _ _ _)
      | (with_reducible exact glidepathlaw02_awake.mono _)
      | (with_reducible exact glidepathref02_SpectrumErr.mono _ _)
      | (with_reducible exact glidepathref02_Sum.mono _ _)
      | (with_reducible exact line_Estimated.mono _ _ _)
      | (with_reducible exact line_PeakOf.mono _ _)
      | (with_reducible exact LeO.refl _)
      | (with_reducible exact LeO.none _)
      | (with_reducible refine LeO.ite ?_ ?_)
      | (with_reducible refine LeO.bind ?_ (fun _ => ?_))
      | exact ih0 _ _ _
      | exact ih1 _ _ _ _ _
      | exact ih2 _ _ _ _ _
      | exact ih3 _ _ _ _ _
      | exact ih4 _ _ _ _ _ _ _ _
      | exact ih5 _ _ _ _ _ _ _ _
      | exact ih6 _ _ _ _ _ _ _
      | exact ih7 _ _ _ _ _ _ _ _
      | exact glidepathbase_IsLowest.mono _ _ _
      | exact glidepathbase_Lowest.mono _ _ _
      | exact glidepathlaw02_awake.mono _
      | exact glidepathref02_SpectrumErr.mono _ _
      | exact glidepathref02_Sum.mono _ _
      | exact line_Estimated.mono _ _ _
      | exact line_PeakOf.mono _ _
      | exact LeO.none _
      | refine LeO.ite ?_ ?_
      | refine LeO.bind ?_ (fun _ => ?_)
theorem glidepathlaw02_LineWithin.mono : ∀ a0 a1 k, LeO (glidepathlaw02_LineWithin.f k a0 a1) (glidepathlaw02_LineWithin.f (k + 1) a0 a1) := by
  intro a0 a1 k
  obtain ⟨ih0, ih1, ih2, ih3, ih4, ih5, ih6, ih7⟩ := glidepathlaw02_LineWithin.mono_l k
  unfold glidepathlaw02_LineWithin.f
  repeat' first
      | (with_reducible exact ih0 _ _ _)
      | (with_reducible exact ih1 _ _ _ _ _)
      | (with_reducible exact ih2 _ _ _ _ _)
      | (with_reducible exact ih3 _ _ _ _ _)
      | (with_reducible exact ih4 _ _ _ _ _ _ _ _)
      | (with_reducible exact ih5 _ _ _ _ _ _ _ _)
      | (with_reducible exact ih6 _ _ _ _ _ _ _)
      | (with_reducible exact ih7 _ _ _ _ _ _ _ _)
      | (with_reducible exact glidepathbase_IsLowest.mono _ _ _)
      | (with_reducible exact glidepathbase_Lowest.mono _ _ _)
      | (with_reducible exact glidepathlaw02_awake.mono _)
      | (with_reducible exact glidepathref02_SpectrumErr.mono _ _)
      | (with_reducible exact glidepathref02_Sum.mono _ _)
      | (with_reducible exact line_Estimated.mono _ _ _)
      | (with_reducible exact line_PeakOf.mono _ _)
      | (with_reducible exact LeO.refl _)
      | (with_reducible exact LeO.none _)
      | (with_reducible refine LeO.ite ?_ ?_)
      | (with_reducible refine LeO.bind ?_ (fun _ => ?_))
      | exact ih0 _ _ _
      | exact ih1 _ _ _ _ _
      | exact ih2 _ _ _ _ _
      | exact ih3 _ _ _ _ _
      | exact ih4 _ _ _ _ _ _ _ _
      | exact ih5 _ _ _ _ _ _ _ _
      | exact ih6 _ _ _ _ _ _ _
      | exact ih7 _ _ _ _ _ _ _ _
      | exact glidepathbase_IsLowest.mono _ _ _
      | exact glidepathbase_Lowest.mono _ _ _
      | exact glidepathlaw02_awake.mono _
      | exact glidepathref02_SpectrumErr.mono _ _
      | exact glidepathref02_Sum.mono _ _
      | exact line_Estimated.mono _ _ _
      | exact line_PeakOf.mono _ _
      | exact LeO.none _
      | refine LeO.ite ?_ ?_
      | refine LeO.bind ?_ (fun _ => ?_)
def glidepathlaw02_LineWithin.T9 : Bool × List (List Nat × List Nat) := (true, [([], []), ([], []), ([], []), ([], []), ([2, 3], [2, 3]), ([4], [4]), ([1, 5], [1, 5]), ([6], [6]), ([0, 7], [0, 7]), ([], []), ([], []), ([], []), ([11], [11]), ([12], [12]), ([], []), ([13, 14], [13, 14]), ([10, 15], [10, 15]), ([16], [16]), ([17], [17]), ([9, 18, 8], [9, 18]), ([8, 19, 0, 1, 2, 3, 4, 5, 6, 7, 8], [0, 8]), ([19, 20, 0, 1, 2, 3, 4, 5, 6, 7, 8, 9, 10, 11, 12, 13, 14, 15, 16, 17, 18, 19, 20], [9, 19])])
def glidepathlaw02_LineWithin.B9 : List Nat := [0, 0, 0, 0, 12, 28, 62, 126, 255, 0, 0, 0, 2048, 6144, 0, 30720, 64512, 130048, 261120, 524287, 1048575, 2097151]
theorem glidepathlaw02_LineWithin.tab9 : rtab .any (opsOf Tryd.f5 9) = glidepathlaw02_LineWithin.T9 := by kernel_rfl
theorem glidepathlaw02_LineWithin.bits9 : waitsOk glidepathlaw02_LineWithin.T9.2 glidepathlaw02_LineWithin.B9 = true := by kernel_rfl
def glidepathlaw02_LineWithin.T17 : Bool × List (List Nat × List Nat) := (true, [([], []), ([0], [0]), ([1], [1]), ([2], [2]), ([3, 2, 2], [2, 3]), ([4, 2], [2, 4]), ([2, 5], [2, 5]), ([6, 4], [6]), ([7], [7]), ([8, 7, 7], [7, 8]), ([9, 7], [7, 9]), ([7, 10], [7, 10]), ([11, 9], [11]), ([12], [12]), ([13, 12], [12, 13]), ([14, 12], [12, 14]), ([12, 15], [12, 15]), ([16, 12], [16]), ([17], [17]), ([17], [17]), ([19, 17], [17, 19]), ([20, 17], [17, 20]), ([21, 17, 17], [17, 21]), ([18, 22, 22, 17], [17, 18, 22]), ([23, 17], [17, 23]), ([17, 24], [17, 24])])
def glidepathlaw02_LineWithin.B17 : List Nat := [0, 1, 3, 7, 15, 31, 63, 127, 255, 511, 1023, 2047, 4095, 8191, 16383, 32767, 65535, 131071, 262143, 262143, 786431, 1835007, 3932159, 8388607, 16777215, 33554431]
theorem glidepathlaw02_LineWithin.tab17 : rtab .any (opsOf Tryd.f5 17) = glidepathlaw02_LineWithin.T17 := by kernel_rfl
theorem glidepathlaw02_LineWithin.bits17 : waitsOk glidepathlaw02_LineWithin.T17.2 glidepathlaw02_LineWithin.B17 = true := by kernel_rfl
def glidepathlaw02_LineWithin.T19 : Bool × List (List Nat × List Nat) := (true, [([], []), ([0], [0]), ([1], [1]), ([2], [2]), ([3, 2, 2], [2, 3]), ([4, 2], [2, 4]), ([2, 5], [2, 5]), ([6, 4], [6]), ([7], [7]), ([8, 7], [7, 8]), ([7], [7]), ([7], [7]), ([11, 7], [7, 11]), ([10, 12, 7], [7, 10, 12]), ([9, 13, 7], [7, 9, 13]), ([14, 7], [7, 14]), ([15, 7, 7], [7, 15]), ([7], [7]), ([17, 7], [7, 17]), ([16, 18, 7], [7, 16, 18]), ([7, 19], [7, 19])])
def glidepathlaw02_LineWithin.B19 : List Nat := [0, 1, 3, 7, 15, 31, 63, 127, 255, 511, 255, 255, 2303, 7423, 16383, 32767, 65535, 255, 131327, 524287, 1048575]
theorem glidepathlaw02_LineWithin.tab19 : rtab .any (opsOf Tryd.f5 19) = glidepathlaw02_LineWithin.T19 := by kernel_rfl
theorem glidepathlaw02_LineWithin.bits19 : waitsOk glidepathlaw02_LineWithin.T19.2 glidepathlaw02_LineWithin.B19 = true := by kernel_rfl
def glidepathlaw02_LineWithin.T27 : Bool × List (List Nat × List Nat) := (true, [([], []), ([0], [0]), ([1], [1]), ([2], [2]), ([2], [2]), ([4, 2], [2, 4]), ([5, 2], [2, 5]), ([2], [2]), ([7, 2], [2, 7]), ([6, 8, 2], [2, 6, 8]), ([2], [2]), ([10, 2], [2, 10]), ([9, 11, 2], [2, 9, 11]), ([2], [2]), ([13, 2], [2, 13]), ([12, 14, 2, 2], [2, 12, 14]), ([3, 15, 2], [2, 3, 15]), ([2, 16], [2, 16])])
def glidepathlaw02_LineWithin.B27 : List Nat := [0, 1, 3, 7, 7, 23, 55, 7, 135, 503, 7, 1031, 4087, 7, 8199, 32759, 65535, 131071]
theorem glidepathlaw02_LineWithin.tab27 : rtab .any (opsOf Tryd.f5 27) = glidepathlaw02_LineWithin.T27 := by kernel_rfl
theorem glidepathlaw02_LineWithin.bits27 : waitsOk glidepathlaw02_LineWithin.T27.2 glidepathlaw02_LineWithin.B27 = true := by kernel_rfl
set_option maxHeartbeats 8000000 in
set_option maxRecDepth 100000 in
theorem glidepathlaw02_LineWithin.calls (k : Nat) (A0 : Option Addr) (c0 : Nat) (l0 : List Int) (a1 : Int) (r : Bool) (w : World) (hr0 : Kd.C (Kd.int .i64) w A0 l0.length l0) (hc0 : l0.length ≤ c0) (hG : EstG w) (h : glidepathlaw02_LineWithin.f k l0 a1 = some r) :
    Calls Tryd.prog 5 #[.slice A0 l0.length c0, .int .i64 a1] w fun e w' => e = .returned (.bool r) ∧ Below w.heap.size w w' := by
  have hu26 := Tryd.underlying26
  have HG := Aside0.mk hG
  clear hG
  have HR0 := Aside0.mk hr0
  have HC0 := Aside0.mk hc0
  clear hr0 hc0
  have HB := Aside0.mk (Below.refl w.heap.size w)
  have H : ((glidepathlaw02_awake.f k).bind fun t627 => (if t627 = true then ((glidepathref02_SpectrumErr.f k l0).bind fun t628 => (if t628 = 0 then ((glidepathbase_Within.f a1 1 5).bind fun t629 => (glidepathlaw02_LineWithin.j0 k l0 a1 (!t629))) else (glidepathlaw02_LineWithin.j0 k l0 a1 true))) else (none))) = some r := h
  clear h
  replace H := Option.bind_eq_some_iff.mp H
  obtain ⟨t627, A30, H⟩ := H
  (try dsimp only at H)
  have A3 := Aside0.mk A30
  clear A30
  by_cases c4 : t627 = true
  · subst c4
    rw [if_pos rfl] at H
    have HC5 := Aside0.mk H
    clear H
    go_enter Tryd.func5, Tryd.ntmps5
    go_upto_region 3 with (first | ((with_reducible refine gate_callee (f := 18) rfl ?_); refine gl (some 17) Tryd.func18 #[] ?_; (with_reducible refine (glidepathlaw02_awake.calls k  true _ ?side1 A3.out).mono ?_); (case side1 => exact EstG.below HG.out bz); rintro e w6 ⟨rfl, hb⟩; refine ⟨_, rfl, ?_⟩; replace HB := sb HB hb; (try clear hb)))
    (try simp only [Act.put, List.setIfInBounds_toArray, List.set_cons_zero, List.set_cons_succ])
    go_cut [26] (fun v26 wc => ∃ (kq : Nat) (x26_4 : Bool), v26 = .bool x26_4 ∧ Aside0 (glidepathlaw02_LineWithin.j0 kq l0 a1 x26_4 = some r) ∧ Aside0 (kq ≤ k) ∧ Aside0 (Below w.heap.size w wc))
    case first =>
      have H := HC5.out
      clear HC5
      replace H := Option.bind_eq_some_iff.mp H
      obtain ⟨t628, A70, H⟩ := H
      (try dsimp only at H)
      have A7 := Aside0.mk A70
      clear A70
      by_cases c8 : t628 = 0
      · rw [if_pos c8] at H
        have c8b0 := beq_iff_eq.mpr c8
        have c8b1 := bne_eq_false_iff_eq.mpr c8
        clear c8
        (first | rw [c8b0] | (simp only [i64_w, i32_w]; rw [c8b0]) | skip)
        replace H := Option.bind_eq_some_iff.mp H
        obtain ⟨t629, A90, H⟩ := H
        (try dsimp only at H)
        have A9 := Aside0.mk A90
        clear A90
        have H' := Aside0.mk H
        clear H
        go_wp2_with (first | ((with_reducible refine gate_callee (f := 30) rfl ?_); refine gl (some 20) Tryd.func30 #[.slice A0 l0.length c0] ?_; (with_reducible refine (glidepathref02_SpectrumErr.calls k _ _ l0 t628 _ ?side1 ?side2 A7.out).mono ?_); (case side1 => exact bc (Kd.C_below HR0.out HB.out)); (case side2 => exact HC0.out); rintro e w' ⟨rfl, ⟨nd, rfl⟩⟩; refine ⟨_, rfl, ?_⟩) | (go_at_call 31; (with_reducible refine (glidepathbase_Within.calls a1 1 5 t629 _ A9.out).mono ?_); rintro e w' ⟨rfl, ⟨nd, rfl⟩⟩))
        go_meet
        case rel => exact ⟨_, (!t629), (by first | rfl | (simp; done) | (simp [*]; done)), H', ⟨by first | omega | exact Nat.le_refl _⟩, ⟨by repeat (first | (with_reducible first | exact HB.out | apply below_alloc | apply pw_below_drewN | apply below_drew1) | exact HB.out)⟩⟩
      · rw [if_neg c8] at H
        have c8b0 := beq_eq_false_iff_ne.mpr c8
        have c8b1 := bne_iff_ne.mpr c8
        (first | rw [c8b0] | (simp only [i64_w, i32_w]; rw [c8b0]) | skip)
        have H' := Aside0.mk H
        clear H
        go_wp2_with (first | ((with_reducible refine gate_callee (f := 30) rfl ?_); refine gl (some 20) Tryd.func30 #[.slice A0 l0.length c0] ?_; (with_reducible refine (glidepathref02_SpectrumErr.calls k _ _ l0 t628 _ ?side1 ?side2 A7.out).mono ?_); (case side1 => exact bc (Kd.C_below HR0.out HB.out)); (case side2 => exact HC0.out); rintro e w' ⟨rfl, ⟨nd, rfl⟩⟩; refine ⟨_, rfl, ?_⟩))
        go_meet
        case rel => exact ⟨_, (true), (by first | rfl | (simp; done) | (simp [*]; done)), H', ⟨by first | omega | exact Nat.le_refl _⟩, ⟨by repeat (first | (with_reducible first | exact HB.out | apply below_alloc | apply pw_below_drewN | apply below_drew1) | exact HB.out)⟩⟩
    case rest =>
      as_aux_lemma =>
      clear HC5
      try clear c1
      try clear p2
      try clear c3
      try clear c4
      try clear c5
      try clear c8
      try clear c8b0
      try clear c8b1
      obtain ⟨kq, x26_4, rfl, HA, HJ4, HB⟩ := hcut
      cases kq with
      | zero => exact absurd HA.out (by simp [glidepathlaw02_LineWithin.j0])
      | succ kj4 =>
        have H := HA.out
        clear HA
        simp only [glidepathlaw02_LineWithin.j0] at H
        by_cases c10 : x26_4 = true
        · subst c10
          rw [if_pos rfl] at H
          obtain rfl := Option.some.inj H
          go_wp2
          go_ret
          exact ez
        · replace c10 := Bool.eq_false_iff.mpr c10
          subst c10
          rw [if_neg (show ¬ (false = true) by decide)] at H
          have H' := Aside0.mk H
          clear H
          go_wp2
          go_loopg [5, 6, 7] kj4 (fun kq v5 v6 v7 w' => ∃ (x5_2 : List Int) (x6_2 : List Int) (x7_2 : Int), v7 = .int .i64 x7_2 ∧ Aside0 (glidepathlaw02_LineWithin.l0 kq l0 a1 x5_2 x6_2 x7_2 = some r) ∧ Aside0 (kq ≤ kj4) ∧ Aside0 (Kd.R (Kd.int .i64) 3 w' w.heap.size (fun k_ => some k_ ≠ (v6 : Value).ownBlock) v5 x5_2) ∧ Aside0 (Kd.R (Kd.int .i64) 3 w' w.heap.size (fun k_ => some k_ ≠ (v5 : Value).ownBlock) v6 x6_2) ∧ Aside0 (Below w.heap.size w w'))
          case atStart => exact ⟨(([] : List Int)), (([] : List Int)), (0), (by first | rfl | (simp; done) | (simp [*]; done)), H', ⟨Nat.le_refl _⟩, ⟨by first | exact Kd.R_nil _ _ _ _ _ | exact Kd.N_nil _ _ _ _ _ | exact Kd.V_nil _ _ _ _ _ | exact Kd.Q_nil _ _ _ _ _ | exact Kd.S_nil _ _ _ _ _⟩, ⟨by first | exact Kd.R_nil _ _ _ _ _ | exact Kd.N_nil _ _ _ _ _ | exact Kd.V_nil _ _ _ _ _ | exact Kd.Q_nil _ _ _ _ _ | exact Kd.S_nil _ _ _ _ _⟩, ⟨by repeat (first | (with_reducible first | exact HB.out | apply below_alloc | apply pw_below_drewN | apply below_drew1) | exact HB.out)⟩⟩
          case round =>
            as_aux_lemma =>
            clear H'
            try clear c1
            try clear p2
            try clear c3
            try clear c4
            try clear c5
            try clear c8
            try clear c8b0
            try clear c8b1
            try clear c10
            try clear p2
            obtain ⟨x5_2, x6_2, x7_2, rfl, HA, HK2, HO_5, HO_6, HB⟩ := hrel
            cases gk with
            | zero => exact absurd HA.out (by simp [glidepathlaw02_LineWithin.l0])
            | succ k2 =>
              have H := HA.out
              clear HA
              simp only [glidepathlaw02_LineWithin.l0] at H
              by_cases c11 : x7_2 < (l0.length : Int)
              · rw [if_pos c11] at H
                have c11b0 := decide_eq_true c11
                clear c11
                by_cases c12 : 0 ≤ x7_2
                · rw [if_pos c12] at H
                  have c12b0 := decide_eq_true c12
                  clear c12
                  obtain ⟨y631, hy631⟩ : ∃ y_ : List Int, y_ = (([wrap64 (a1 * (rd l0 x7_2))] : List Int)) := ⟨_, rfl⟩
                  replace H : (if x5_2.length + y631.length < 17592186044416 then (if 0 ≤ (wrap64 ((wrap64 ((l0.length : Int) - 1)) - x7_2)) then (if (wrap64 ((wrap64 ((l0.length : Int) - 1)) - x7_2)) < (l0.length : Int) then ((some (([rd l0 (wrap64 ((wrap64 ((l0.length : Int) - 1)) - x7_2))] : List Int) : List Int)).bind fun y638 => (if x6_2.length + y638.length < 17592186044416 then (glidepathlaw02_LineWithin.l0 k2 l0 a1 (x5_2 ++ y631) (x6_2 ++ y638) (wrap64 (x7_2 + 1))) else (none))) else (none)) else (none)) else (none)) = some r := by first | (rw [hy631]; with_reducible exact H) | (have H2_ := (Option.bind_some _ _).symm.trans H; rw [hy631]; with_reducible exact H2_) | (have H2_ := (Option.bind_some _ _).symm.trans H; with_reducible exact H2_) | with_reducible exact H | (rw [hy631]; exact H) | exact H
                  have Ny631 := Aside0.mk hy631
                  clear hy631
                  by_cases c13 : x5_2.length + y631.length < 17592186044416
                  · rw [if_pos c13] at H
                    have LMc13 := Aside0.mk c13
                    clear c13
                    obtain ⟨y634, hy634⟩ : ∃ y_ : List Int, y_ = (x5_2 ++ y631) := ⟨_, rfl⟩
                    replace H : (if 0 ≤ (wrap64 ((wrap64 ((l0.length : Int) - 1)) - x7_2)) then (if (wrap64 ((wrap64 ((l0.length : Int) - 1)) - x7_2)) < (l0.length : Int) then ((some (([rd l0 (wrap64 ((wrap64 ((l0.length : Int) - 1)) - x7_2))] : List Int) : List Int)).bind fun y638 => (if x6_2.length + y638.length < 17592186044416 then (glidepathlaw02_LineWithin.l0 k2 l0 a1 y634 (x6_2 ++ y638) (wrap64 (x7_2 + 1))) else (none))) else (none)) else (none)) = some r := by first | (rw [hy634]; with_reducible exact H) | (have H2_ := (Option.bind_some _ _).symm.trans H; rw [hy634]; with_reducible exact H2_) | (have H2_ := (Option.bind_some _ _).symm.trans H; with_reducible exact H2_) | with_reducible exact H | (rw [hy634]; exact H) | exact H
                    have Ny634 := Aside0.mk hy634
                    clear hy634
                    obtain ⟨ji14, hji14⟩ : ∃ j_ : Int, (wrap64 ((wrap64 ((l0.length : Int) - 1)) - x7_2)) = j_ := ⟨_, rfl⟩
                    replace H : (if 0 ≤ (ji14) then (if (ji14) < (l0.length : Int) then ((some (([rd l0 (ji14)] : List Int) : List Int)).bind fun y638 => (if x6_2.length + y638.length < 17592186044416 then (glidepathlaw02_LineWithin.l0 k2 l0 a1 y634 (x6_2 ++ y638) (wrap64 (x7_2 + 1))) else (none))) else (none)) else (none)) = some r := by first | (rw [hji14] at H; exact H) | (simp only [hji14] at H ⊢; exact H)
                    have hji14w : (IntKind.i64.wrap ((wrap64 ((l0.length : Int) - 1)) - x7_2)) = ji14 := (i64_w _).trans hji14
                    by_cases c15 : 0 ≤ (ji14)
                    · rw [if_pos c15] at H
                      have c15b0 := decide_eq_true c15
                      clear c15
                      by_cases c16 : (ji14) < (l0.length : Int)
                      · rw [if_pos c16] at H
                        have c16b0 := decide_eq_true c16
                        clear c16
                        obtain ⟨y638, hy638⟩ : ∃ y_ : List Int, y_ = (([rd l0 (ji14)] : List Int)) := ⟨_, rfl⟩
                        replace H : (if x6_2.length + y638.length < 17592186044416 then (glidepathlaw02_LineWithin.l0 k2 l0 a1 y634 (x6_2 ++ y638) (wrap64 (x7_2 + 1))) else (none)) = some r := by first | (rw [hy638]; with_reducible exact H) | (have H2_ := (Option.bind_some _ _).symm.trans H; rw [hy638]; with_reducible exact H2_) | (have H2_ := (Option.bind_some _ _).symm.trans H; with_reducible exact H2_) | with_reducible exact H | (rw [hy638]; exact H) | exact H
                        have Ny638 := Aside0.mk hy638
                        clear hy638
                        by_cases c17 : x6_2.length + y638.length < 17592186044416
                        · rw [if_pos c17] at H
                          have LMc17 := Aside0.mk c17
                          clear c17
                          obtain ⟨y641, hy641⟩ : ∃ y_ : List Int, y_ = (x6_2 ++ y638) := ⟨_, rfl⟩
                          replace H : (glidepathlaw02_LineWithin.l0 k2 l0 a1 y634 y641 (wrap64 (x7_2 + 1))) = some r := by first | (rw [hy641]; with_reducible exact H) | (have H2_ := (Option.bind_some _ _).symm.trans H; rw [hy641]; with_reducible exact H2_) | (have H2_ := (Option.bind_some _ _).symm.trans H; with_reducible exact H2_) | with_reducible exact H | (rw [hy641]; exact H) | exact H
                          have Ny641 := Aside0.mk hy641
                          clear hy641
                          have H' := Aside0.mk H
                          clear H
                          obtain ⟨Ao18, co18, eo18⟩ := Kd.R_slice HO_5.out
                          subst eo18
                          obtain ⟨Ao19, co19, eo19⟩ := Kd.R_slice HO_6.out
                          subst eo19
                          try go_wp2
                          replace HO_5 := Aside0.mk (Kd.R_drew HO_5.out); replace HO_6 := Aside0.mk (Kd.R_drew HO_6.out); replace HB := Aside0.mk (below_drew1 HB.out)
                          have p630 : 0 ≤ (x7_2 : Int) := of_decide_eq_true (by first | (with_reducible assumption) | assumption)
                          have q630 : x7_2 < (l0.length : Int) := of_decide_eq_true (by first | (with_reducible assumption) | assumption)
                          obtain ⟨ad630, e630, hx630_0⟩ := Kd.at_int HR0.out x7_2 p630 q630
                          have hw630_0 := hx630_0
                          cases e630
                          replace hx630_0 := (HB.out.cell (World.block_lt_of_cell? w _ hx630_0)).trans hx630_0
                          replace p630 := eq_true p630
                          replace q630 := eq_true q630
                          have p637 : 0 ≤ ((ji14) : Int) := of_decide_eq_true (by first | (with_reducible assumption) | assumption)
                          have q637 : (ji14) < (l0.length : Int) := of_decide_eq_true (by first | (with_reducible assumption) | assumption)
                          obtain ⟨ad637, e637, hx637_0⟩ := Kd.at_int HR0.out (ji14) p637 q637
                          have hw637_0 := hx637_0
                          obtain rfl : ad630 = ad637 := (by injection e637)
                          replace hx637_0 := (HB.out.cell (World.block_lt_of_cell? w _ hx637_0)).trans hx637_0
                          replace p637 := eq_true p637
                          replace q637 := eq_true q637
                          refine start_ (n := 22) (S := fun w' => w'.cell? (ad630.add (x7_2).toNat) = some (.int .i64 (rd l0 x7_2)) ∧ w'.cell? (ad630.add ((ji14)).toNat) = some (.int .i64 (rd l0 (ji14)))) (ds := []) #[false, false, false, false, false, false, false, false, false, false, false, false, false, false, false, false, false, false, false, false, false, false] (by kernel_rfl) rfl rfl ⟨((HB.out.cell (World.block_lt_of_cell? w _ hw630_0)).trans hw630_0), ((HB.out.cell (World.block_lt_of_cell? w _ hw637_0)).trans hw637_0)⟩ (fun hHeld => ?_); refine with_tabW glidepathlaw02_LineWithin.tab9 glidepathlaw02_LineWithin.bits9 (fun HT_ HW_ => ?_)
                          generalize wr.drew = w20 at HO_5 HO_6 HB hx630_0 hx637_0 hHeld ⊢
                          refine pureZ (i := 0) (N := some 33) (bs 22 1) HT_ ?_
                          refine pureZ (i := 1) (N := some 34) (bs 22 3) HT_ ?_
                          refine pureZ (i := 2) (N := some 35) (bs 22 7) HT_ ?_
                          refine pureZ (i := 3) (N := some 36) (bs 22 15) HT_ ?_
                          refine pureZ (i := 4) (N := some 37) (bs 22 31) HT_ ?_
                          refine pureZ (i := 9) (N := some 42) (bs 22 543) HT_ ?_
                          refine pureZ (i := 10) (N := some 43) (bs 22 1567) HT_ ?_
                          refine pureZ (i := 11) (N := some 44) (bs 22 3615) HT_ ?_
                          refine pureZ (i := 12) (N := some 45) (bs 22 7711) HT_ ?_
                          refine pureZ (i := 13) (N := some 46) (bs 22 15903) HT_ ?_
                          refine pureZ (i := 14) (N := some 47) (bs 22 32287) HT_ ?_
                          refine pureZ (i := 15) (N := some 48) (bs 22 65055) HT_ ?_
                          refine pureZ (i := 16) (N := some 49) (bs 22 130591) HT_ ?_
                          refine take_ (i := 5) (N := some 38) (v := ?_) (a' := ?_) (bs 22 130623) rfl rfl (take_ofW HT_.out HW_.out (by kernel_rfl)) (fun _ _ _ h => h) (Or.inl ⟨by rfl, ?_⟩) hHeld ?_ ?_
                          rotate_left
                          · rintro w' ⟨s0, s1⟩
                            go_simp
                            with_reducible rfl
                          rotate_left
                          · exact pz
                          refine pureZ (i := 6) (N := some 39) (bs 22 130687) HT_ ?_
                          refine take_ (i := 17) (N := some 50) (v := ?_) (a' := ?_) (bs 22 261759) rfl rfl (take_ofW HT_.out HW_.out (by kernel_rfl)) (fun _ _ _ h => h) (Or.inl ⟨by rfl, ?_⟩) hHeld ?_ ?_
                          rotate_left
                          · rintro w' ⟨s0, s1⟩
                            go_simp
                            with_reducible rfl
                          rotate_left
                          · exact pz
                          refine join_ (σ := Value × Value × Value) 3 (bs 22 524287) (fun s_ => [(40, s_.1), (41, s_.2.1), (51, s_.2.2)]) (fun s_ w' => (w'.cell? (ad630.add (x7_2).toNat) = some (.int .i64 (rd l0 x7_2)) ∧ w'.cell? (ad630.add ((ji14)).toNat) = some (.int .i64 (rd l0 (ji14)))) ∧ (Kd.R (Kd.int .i64) 3 w' w.heap.size (fun k_ => some k_ ≠ (s_.2.1 : Value).ownBlock ∧ some k_ ≠ (s_.2.2 : Value).ownBlock ∧ some k_ ≠ (.slice Ao19 x6_2.length co19 : Value).ownBlock) s_.1 y631) ∧ (Kd.R (Kd.int .i64) 3 w' w.heap.size (fun k_ => some k_ ≠ (s_.1 : Value).ownBlock ∧ some k_ ≠ (s_.2.2 : Value).ownBlock ∧ some k_ ≠ (.slice Ao19 x6_2.length co19 : Value).ownBlock) s_.2.1 y634) ∧ (Kd.R (Kd.int .i64) 3 w' w.heap.size (fun k_ => some k_ ≠ (s_.1 : Value).ownBlock ∧ some k_ ≠ (s_.2.1 : Value).ownBlock ∧ some k_ ≠ (.slice Ao19 x6_2.length co19 : Value).ownBlock) s_.2.2 y638) ∧ (Kd.R (Kd.int .i64) 3 w' w.heap.size (fun k_ => some k_ ≠ (s_.1 : Value).ownBlock ∧ some k_ ≠ (s_.2.1 : Value).ownBlock ∧ some k_ ≠ (s_.2.2 : Value).ownBlock) (.slice Ao19 x6_2.length co19) x6_2) ∧ (Below w.heap.size w w')) ?_ ?_
                          rotate_left
                          · intro hCont
                            refine two_ (i := 7) (j := 18) (Ni := some 40) (Nj := some 51) (bs 22 261887) (bs 22 523903) rfl rfl rfl rfl (two_of HT_.out (by kernel_rfl)) (by decide) (by decide) (fun K hK => ?_) (fun K hK => ?_)
                            · skip
                              refine Kd.R_lit_step (Kd.int .i64) _ 3 ?hg (N := 40) ?hd (xs := ([wrap64 (a1 * (rd l0 x7_2))] : List Int)) (inner := [.int .i64 (wrap64 (a1 * (rd l0 x7_2)))]) (ok := fun _ => True) (okp := fun _ => True) ?hr ?hp (fun _ hk => hk) trivial (Below.refl _ _) (Nat.le_refl _) (by simp) ?_; (case hd => rfl); (case hg => rfl); (case hr => first | (go_simp; done) | (go_simp; rfl)); (case hp => exact (Reps.one (show Kd.M (Kd.int .i64) _ _ _ (wrap64 (a1 * (rd l0 x7_2))) [.int .i64 (wrap64 (a1 * (rd l0 x7_2)))] from rfl) (Reps.none _ _)))
                              intro v632 w21 ho22 hb hg_ hnew_
                              clear hg_ hnew_
                              (first | rw [← Ny631.out] at ho22 | (simp only [Int.reduceToNat] at ho22; rw [← Ny631.out] at ho22))
                              have HO633 := Aside0.mk (Kd.R_lower (Kd.R_new' (Kd.R_new' ho22 (Kd.R_lt (br HO_5.out))) (Kd.R_lt (br HO_6.out))) (below_size bz)); replace HO_5 := Aside0.mk (Kd.R_elder' (br HO_5.out) (Kd.R_base ho22) hb); replace HO_6 := Aside0.mk (Kd.R_elder' (br HO_6.out) (Kd.R_base ho22) hb); replace HB := sb HB hb
                              clear hb ho22
                              obtain ⟨Ao24, co24, eo24⟩ := Kd.R_slice HO633.out
                              (first | subst eo24 | (injection eo24 with f1_ f2_ f3_; have f4_ := f1_.symm; have f5_ := f3_.symm; clear f1_ f2_ f3_; subst f4_; subst f5_))
                              refine hK.out _ _ ⟨((HB.out.cell (World.block_lt_of_cell? w _ hw630_0)).trans hw630_0), ((HB.out.cell (World.block_lt_of_cell? w _ hw637_0)).trans hw637_0)⟩ (fun hHeld => ?_)
                              clear hK K
                              refine norm_ (a' := ?_) ?_ ?_
                              rotate_left
                              · show Act.put _ (some 40) _ = _
                                exact pz
                              refine two_ (i := 8) (j := 18) (Ni := some 41) (Nj := some 51) (bs 22 262143) (bs 22 524031) rfl rfl rfl rfl (two_of HT_.out (by kernel_rfl)) (by decide) (by decide) (fun K hK => ?_) (fun K hK => ?_)
                              · skip
                                refine Kd.R_append_rows_step (Kd.int .i64) (w0 := w) w.heap.size (by rfl) (.tmp 33) (.tmp 40) 22 3 (.int .i64 0) 8 rfl Tryd.underlying22 info3 rfl (by decide) (by omega) (.slice Ao18 x5_2.length co18) x5_2 y631 _ _ _ (fun k_ => some k_ ≠ (.slice Ao19 x6_2.length co19 : Value).ownBlock ∧ some k_ ≠ (.slice Ao24 y631.length co24 : Value).ownBlock) (fun _ => False) rfl rfl ?aO ?aR (fun _ _ h => h) (fun _ h => h.elim) ?aF ?aB ?aS ?aL ?_
                                (case aR => exact bc (Kd.R_reads' HO633.out).2.2)
                                (case aB => exact bz)
                                (case aF => exact (fun k_ hk => ⟨Kd.fresh' (Kd.R_lt (br HO_6.out)) k_ hk, Kd.fresh' (Kd.R_lt (br HO633.out)) k_ hk⟩))
                                (case aO => exact (br HO_5.out))
                                (case aS => exact (below_size bz))
                                (case aL => have := LMc13.out; omega)
                                intro v635 w23 ho hb hg hat
                                rw [← Ny634.out] at ho
                                have n0_ := Aside0.mk (Kd.R_after (ok := (fun k_ => some k_ ≠ (.slice Ao24 y631.length co24 : Value).ownBlock)) (by (with_reducible repeat (first | apply Kd.R_alloc | apply Kd.R_drewN | apply Kd.R_drew)); exact Kd.R_mono HO_6.out (fun _ hk => ⟨hk.2, hk.1⟩)) hg hat); have n1_ := Aside0.mk (Kd.R_after (ok := (fun k_ => some k_ ≠ (.slice Ao19 x6_2.length co19 : Value).ownBlock)) (by (with_reducible repeat (first | apply Kd.R_alloc | apply Kd.R_drewN | apply Kd.R_drew)); exact Kd.R_mono HO633.out (fun _ hk => ⟨hk.2, hk.1.2⟩)) hg hat); have n2_ := Aside0.mk (hb); have n3_ := Aside0.mk (ho); clear HO_6; clear HO633; clear HB; clear HO_5; have HO_6 := n0_; have HO633 := n1_; have HB := n2_; have HO636 := n3_; clear n0_ n1_ n2_ n3_
                                clear ho hb hg hat
                                refine hK.out _ _ ⟨((HB.out.cell (World.block_lt_of_cell? w _ hw630_0)).trans hw630_0), ((HB.out.cell (World.block_lt_of_cell? w _ hw637_0)).trans hw637_0)⟩ (fun hHeld => ?_)
                                clear hK K
                                refine norm_ (a' := ?_) ?_ ?_
                                rotate_left
                                · show Act.put _ (some 41) _ = _
                                  exact pz
                                refine one_ (i := 18) (N := some 51) (bs 22 524287) rfl rfl (one_of HT_.out (by kernel_rfl)) (by decide) (fun K hK => ?_)
                                refine Kd.R_lit_step (Kd.int .i64) _ 3 ?hg (N := 51) ?hd (xs := ([rd l0 (ji14)] : List Int)) (inner := [.int .i64 (rd l0 (ji14))]) (ok := fun _ => True) (okp := fun _ => True) ?hr ?hp (fun _ hk => hk) trivial (Below.refl _ _) (Nat.le_refl _) (by simp) ?_; (case hd => rfl); (case hg => rfl); (case hr => first | (go_simp; done) | (go_simp; rfl)); (case hp => exact (Reps.one (show Kd.M (Kd.int .i64) _ _ _ (rd l0 (ji14)) [.int .i64 (rd l0 (ji14))] from rfl) (Reps.none _ _)))
                                intro v639 w25 ho26 hb hg_ hnew_
                                clear hg_ hnew_
                                (first | rw [← Ny638.out] at ho26 | (simp only [Int.reduceToNat] at ho26; rw [← Ny638.out] at ho26))
                                have HO640 := Aside0.mk (Kd.R_lower (Kd.R_new' (Kd.R_new' (Kd.R_new' ho26 (Kd.R_lt (br HO_6.out))) (Kd.R_lt (br HO633.out))) (Kd.R_lt (br HO636.out))) (below_size bz)); replace HO_6 := Aside0.mk (Kd.R_elder' (br HO_6.out) (Kd.R_base ho26) hb); replace HO633 := Aside0.mk (Kd.R_elder' (br HO633.out) (Kd.R_base ho26) hb); replace HO636 := Aside0.mk (Kd.R_elder' (br HO636.out) (Kd.R_base ho26) hb); replace HB := sb HB hb
                                clear hb ho26
                                refine hK.out _ _ ⟨((HB.out.cell (World.block_lt_of_cell? w _ hw630_0)).trans hw630_0), ((HB.out.cell (World.block_lt_of_cell? w _ hw637_0)).trans hw637_0)⟩ (fun hHeld => ?_)
                                clear hK K
                                refine norm_ (a' := ?_) ?_ ?_
                                rotate_left
                                · show Act.put _ (some 51) _ = _
                                  exact pz
                                exact norm_ (by simp only [putAll, Act.put, List.setIfInBounds_toArray, List.set_cons_zero, List.set_cons_succ]) (hCont (.slice Ao24 y631.length co24, v635, v639) _ ⟨hHeld, (by (with_reducible repeat (first | apply Kd.R_alloc | apply Kd.R_drewN | apply Kd.R_drew)); exact Kd.R_mono HO633.out (fun _ hk => ⟨hk.1.2, ⟨hk.2, hk.1.1⟩⟩)), (by (with_reducible repeat (first | apply Kd.R_alloc | apply Kd.R_drewN | apply Kd.R_drew)); exact Kd.R_mono HO636.out (fun _ hk => ⟨hk.1.2, ⟨hk.2, hk.1.1⟩⟩)), (by (with_reducible repeat (first | apply Kd.R_alloc | apply Kd.R_drewN | apply Kd.R_drew)); exact Kd.R_mono HO640.out (fun _ hk => ⟨hk.1.2, ⟨hk.2, hk.1.1.2⟩⟩)), (by (with_reducible repeat (first | apply Kd.R_alloc | apply Kd.R_drewN | apply Kd.R_drew)); exact Kd.R_mono HO_6.out (fun _ hk => ⟨hk.1.1, ⟨hk.1.2, hk.2⟩⟩)), bz⟩)
                              · skip
                                refine Kd.R_lit_step (Kd.int .i64) _ 3 ?hg (N := 51) ?hd (xs := ([rd l0 (ji14)] : List Int)) (inner := [.int .i64 (rd l0 (ji14))]) (ok := fun _ => True) (okp := fun _ => True) ?hr ?hp (fun _ hk => hk) trivial (Below.refl _ _) (Nat.le_refl _) (by simp) ?_; (case hd => rfl); (case hg => rfl); (case hr => first | (go_simp; done) | (go_simp; rfl)); (case hp => exact (Reps.one (show Kd.M (Kd.int .i64) _ _ _ (rd l0 (ji14)) [.int .i64 (rd l0 (ji14))] from rfl) (Reps.none _ _)))
                                intro v639 w23 ho24 hb hg_ hnew_
                                clear hg_ hnew_
                                (first | rw [← Ny638.out] at ho24 | (simp only [Int.reduceToNat] at ho24; rw [← Ny638.out] at ho24))
                                have HO640 := Aside0.mk (Kd.R_lower (Kd.R_new' (Kd.R_new' (Kd.R_new' ho24 (Kd.R_lt (br HO_5.out))) (Kd.R_lt (br HO_6.out))) (Kd.R_lt (br HO633.out))) (below_size bz)); replace HO_5 := Aside0.mk (Kd.R_elder' (br HO_5.out) (Kd.R_base ho24) hb); replace HO_6 := Aside0.mk (Kd.R_elder' (br HO_6.out) (Kd.R_base ho24) hb); replace HO633 := Aside0.mk (Kd.R_elder' (br HO633.out) (Kd.R_base ho24) hb); replace HB := sb HB hb
                                clear hb ho24
                                obtain ⟨Ao26, co26, eo26⟩ := Kd.R_slice HO633.out
                                (first | subst eo26 | (injection eo26 with f1_ f2_ f3_; have f4_ := f1_.symm; have f5_ := f3_.symm; clear f1_ f2_ f3_; subst f4_; subst f5_))
                                refine hK.out _ _ ⟨((HB.out.cell (World.block_lt_of_cell? w _ hw630_0)).trans hw630_0), ((HB.out.cell (World.block_lt_of_cell? w _ hw637_0)).trans hw637_0)⟩ (fun hHeld => ?_)
                                clear hK K
                                refine norm_ (a' := ?_) ?_ ?_
                                rotate_left
                                · show Act.put _ (some 51) _ = _
                                  exact pz
                                refine one_ (i := 8) (N := some 41) (bs 22 524287) rfl rfl (one_of HT_.out (by kernel_rfl)) (by decide) (fun K hK => ?_)
                                refine Kd.R_append_rows_step (Kd.int .i64) (w0 := w) w.heap.size (by rfl) (.tmp 33) (.tmp 40) 22 3 (.int .i64 0) 8 rfl Tryd.underlying22 info3 rfl (by decide) (by omega) (.slice Ao18 x5_2.length co18) x5_2 y631 _ _ _ (fun k_ => some k_ ≠ (.slice Ao19 x6_2.length co19 : Value).ownBlock ∧ some k_ ≠ (.slice Ao26 y631.length co26 : Value).ownBlock ∧ some k_ ≠ (v639 : Value).ownBlock) (fun _ => False) rfl rfl ?aO ?aR (fun _ _ h => h) (fun _ h => h.elim) ?aF ?aB ?aS ?aL ?_
                                (case aR => exact bc (Kd.R_reads' HO633.out).2.2)
                                (case aB => exact bz)
                                (case aF => exact (fun k_ hk => ⟨Kd.fresh' (Kd.R_lt (br HO_6.out)) k_ hk, Kd.fresh' (Kd.R_lt (br HO633.out)) k_ hk, Kd.fresh' (Kd.R_lt (br HO640.out)) k_ hk⟩))
                                (case aO => exact (by (with_reducible repeat (first | apply Kd.R_alloc | apply Kd.R_drewN | apply Kd.R_drew)); exact Kd.R_mono HO_5.out (fun _ hk => ⟨hk.1.1, ⟨hk.1.2, hk.2⟩⟩)))
                                (case aS => exact (below_size bz))
                                (case aL => have := LMc13.out; omega)
                                intro v635 w25 ho hb hg hat
                                rw [← Ny634.out] at ho
                                have n0_ := Aside0.mk (Kd.R_after (ok := (fun k_ => some k_ ≠ (.slice Ao26 y631.length co26 : Value).ownBlock ∧ some k_ ≠ (v639 : Value).ownBlock)) (by (with_reducible repeat (first | apply Kd.R_alloc | apply Kd.R_drewN | apply Kd.R_drew)); exact Kd.R_mono HO_6.out (fun _ hk => ⟨⟨hk.1.2, hk.2⟩, hk.1.1⟩)) hg hat); have n1_ := Aside0.mk (Kd.R_after (ok := (fun k_ => some k_ ≠ (.slice Ao19 x6_2.length co19 : Value).ownBlock ∧ some k_ ≠ (v639 : Value).ownBlock)) (by (with_reducible repeat (first | apply Kd.R_alloc | apply Kd.R_drewN | apply Kd.R_drew)); exact Kd.R_mono HO633.out (fun _ hk => ⟨⟨hk.1.2, hk.2⟩, hk.1.1.2⟩)) hg hat); have n2_ := Aside0.mk (Kd.R_after (ok := (fun k_ => some k_ ≠ (.slice Ao19 x6_2.length co19 : Value).ownBlock ∧ some k_ ≠ (.slice Ao26 y631.length co26 : Value).ownBlock)) (by (with_reducible repeat (first | apply Kd.R_alloc | apply Kd.R_drewN | apply Kd.R_drew)); exact Kd.R_mono HO640.out (fun _ hk => ⟨⟨hk.1.2, hk.2⟩, hk.1.1.2⟩)) hg hat); have n3_ := Aside0.mk (hb); have n4_ := Aside0.mk (ho); clear HO_6; clear HO633; clear HO640; clear HB; clear HO_5; have HO_6 := n0_; have HO633 := n1_; have HO640 := n2_; have HB := n3_; have HO636 := n4_; clear n0_ n1_ n2_ n3_ n4_
                                clear ho hb hg hat
                                refine hK.out _ _ ⟨((HB.out.cell (World.block_lt_of_cell? w _ hw630_0)).trans hw630_0), ((HB.out.cell (World.block_lt_of_cell? w _ hw637_0)).trans hw637_0)⟩ (fun hHeld => ?_)
                                clear hK K
                                refine norm_ (a' := ?_) ?_ ?_
                                rotate_left
                                · show Act.put _ (some 41) _ = _
                                  exact pz
                                exact norm_ (by simp only [putAll, Act.put, List.setIfInBounds_toArray, List.set_cons_zero, List.set_cons_succ]) (hCont (.slice Ao26 y631.length co26, v635, v639) _ ⟨hHeld, (by (with_reducible repeat (first | apply Kd.R_alloc | apply Kd.R_drewN | apply Kd.R_drew)); exact Kd.R_mono HO633.out (fun _ hk => ⟨hk.2, ⟨hk.1.2, hk.1.1⟩⟩)), (by (with_reducible repeat (first | apply Kd.R_alloc | apply Kd.R_drewN | apply Kd.R_drew)); exact Kd.R_mono HO636.out (fun _ hk => ⟨hk.2.1, ⟨hk.2.2, hk.1⟩⟩)), (by (with_reducible repeat (first | apply Kd.R_alloc | apply Kd.R_drewN | apply Kd.R_drew)); exact Kd.R_mono HO640.out (fun _ hk => ⟨hk.1.2, ⟨hk.2, hk.1.1⟩⟩)), (by (with_reducible repeat (first | apply Kd.R_alloc | apply Kd.R_drewN | apply Kd.R_drew)); exact Kd.R_mono HO_6.out (fun _ hk => ⟨hk.1.1, ⟨hk.2, hk.1.2⟩⟩)), bz⟩)
                            · skip
                              refine Kd.R_lit_step (Kd.int .i64) _ 3 ?hg (N := 51) ?hd (xs := ([rd l0 (ji14)] : List Int)) (inner := [.int .i64 (rd l0 (ji14))]) (ok := fun _ => True) (okp := fun _ => True) ?hr ?hp (fun _ hk => hk) trivial (Below.refl _ _) (Nat.le_refl _) (by simp) ?_; (case hd => rfl); (case hg => rfl); (case hr => first | (go_simp; done) | (go_simp; rfl)); (case hp => exact (Reps.one (show Kd.M (Kd.int .i64) _ _ _ (rd l0 (ji14)) [.int .i64 (rd l0 (ji14))] from rfl) (Reps.none _ _)))
                              intro v639 w21 ho22 hb hg_ hnew_
                              clear hg_ hnew_
                              (first | rw [← Ny638.out] at ho22 | (simp only [Int.reduceToNat] at ho22; rw [← Ny638.out] at ho22))
                              have HO640 := Aside0.mk (Kd.R_lower (Kd.R_new' (Kd.R_new' ho22 (Kd.R_lt (br HO_5.out))) (Kd.R_lt (br HO_6.out))) (below_size bz)); replace HO_5 := Aside0.mk (Kd.R_elder' (br HO_5.out) (Kd.R_base ho22) hb); replace HO_6 := Aside0.mk (Kd.R_elder' (br HO_6.out) (Kd.R_base ho22) hb); replace HB := sb HB hb
                              clear hb ho22
                              refine hK.out _ _ ⟨((HB.out.cell (World.block_lt_of_cell? w _ hw630_0)).trans hw630_0), ((HB.out.cell (World.block_lt_of_cell? w _ hw637_0)).trans hw637_0)⟩ (fun hHeld => ?_)
                              clear hK K
                              refine norm_ (a' := ?_) ?_ ?_
                              rotate_left
                              · show Act.put _ (some 51) _ = _
                                exact pz
                              refine one_ (i := 7) (N := some 40) (bs 22 524031) rfl rfl (one_of HT_.out (by kernel_rfl)) (by decide) (fun K hK => ?_)
                              refine Kd.R_lit_step (Kd.int .i64) _ 3 ?hg (N := 40) ?hd (xs := ([wrap64 (a1 * (rd l0 x7_2))] : List Int)) (inner := [.int .i64 (wrap64 (a1 * (rd l0 x7_2)))]) (ok := fun _ => True) (okp := fun _ => True) ?hr ?hp (fun _ hk => hk) trivial (Below.refl _ _) (Nat.le_refl _) (by simp) ?_; (case hd => rfl); (case hg => rfl); (case hr => first | (go_simp; done) | (go_simp; rfl)); (case hp => exact (Reps.one (show Kd.M (Kd.int .i64) _ _ _ (wrap64 (a1 * (rd l0 x7_2))) [.int .i64 (wrap64 (a1 * (rd l0 x7_2)))] from rfl) (Reps.none _ _)))
                              intro v632 w23 ho24 hb hg_ hnew_
                              clear hg_ hnew_
                              (first | rw [← Ny631.out] at ho24 | (simp only [Int.reduceToNat] at ho24; rw [← Ny631.out] at ho24))
                              have HO633 := Aside0.mk (Kd.R_lower (Kd.R_new' (Kd.R_new' (Kd.R_new' ho24 (Kd.R_lt (br HO_5.out))) (Kd.R_lt (br HO_6.out))) (Kd.R_lt (br HO640.out))) (below_size bz)); replace HO_5 := Aside0.mk (Kd.R_elder' (br HO_5.out) (Kd.R_base ho24) hb); replace HO_6 := Aside0.mk (Kd.R_elder' (br HO_6.out) (Kd.R_base ho24) hb); replace HO640 := Aside0.mk (Kd.R_elder' (br HO640.out) (Kd.R_base ho24) hb); replace HB := sb HB hb
                              clear hb ho24
                              obtain ⟨Ao26, co26, eo26⟩ := Kd.R_slice HO633.out
                              (first | subst eo26 | (injection eo26 with f1_ f2_ f3_; have f4_ := f1_.symm; have f5_ := f3_.symm; clear f1_ f2_ f3_; subst f4_; subst f5_))
                              refine hK.out _ _ ⟨((HB.out.cell (World.block_lt_of_cell? w _ hw630_0)).trans hw630_0), ((HB.out.cell (World.block_lt_of_cell? w _ hw637_0)).trans hw637_0)⟩ (fun hHeld => ?_)
                              clear hK K
                              refine norm_ (a' := ?_) ?_ ?_
                              rotate_left
                              · show Act.put _ (some 40) _ = _
                                exact pz
                              refine one_ (i := 8) (N := some 41) (bs 22 524287) rfl rfl (one_of HT_.out (by kernel_rfl)) (by decide) (fun K hK => ?_)
                              refine Kd.R_append_rows_step (Kd.int .i64) (w0 := w) w.heap.size (by rfl) (.tmp 33) (.tmp 40) 22 3 (.int .i64 0) 8 rfl Tryd.underlying22 info3 rfl (by decide) (by omega) (.slice Ao18 x5_2.length co18) x5_2 y631 _ _ _ (fun k_ => some k_ ≠ (.slice Ao19 x6_2.length co19 : Value).ownBlock ∧ some k_ ≠ (v639 : Value).ownBlock ∧ some k_ ≠ (.slice Ao26 y631.length co26 : Value).ownBlock) (fun _ => False) rfl rfl ?aO ?aR (fun _ _ h => h) (fun _ h => h.elim) ?aF ?aB ?aS ?aL ?_
                              (case aR => exact bc (Kd.R_reads' HO633.out).2.2)
                              (case aB => exact bz)
                              (case aF => exact (fun k_ hk => ⟨Kd.fresh' (Kd.R_lt (br HO_6.out)) k_ hk, Kd.fresh' (Kd.R_lt (br HO640.out)) k_ hk, Kd.fresh' (Kd.R_lt (br HO633.out)) k_ hk⟩))
                              (case aO => exact (by (with_reducible repeat (first | apply Kd.R_alloc | apply Kd.R_drewN | apply Kd.R_drew)); exact Kd.R_mono HO_5.out (fun _ hk => ⟨hk.1.1, ⟨hk.1.2, hk.2⟩⟩)))
                              (case aS => exact (below_size bz))
                              (case aL => have := LMc13.out; omega)
                              intro v635 w25 ho hb hg hat
                              rw [← Ny634.out] at ho
                              have n0_ := Aside0.mk (Kd.R_after (ok := (fun k_ => some k_ ≠ (v639 : Value).ownBlock ∧ some k_ ≠ (.slice Ao26 y631.length co26 : Value).ownBlock)) (by (with_reducible repeat (first | apply Kd.R_alloc | apply Kd.R_drewN | apply Kd.R_drew)); exact Kd.R_mono HO_6.out (fun _ hk => ⟨⟨hk.1.2, hk.2⟩, hk.1.1⟩)) hg hat); have n1_ := Aside0.mk (Kd.R_after (ok := (fun k_ => some k_ ≠ (.slice Ao19 x6_2.length co19 : Value).ownBlock ∧ some k_ ≠ (.slice Ao26 y631.length co26 : Value).ownBlock)) (by (with_reducible repeat (first | apply Kd.R_alloc | apply Kd.R_drewN | apply Kd.R_drew)); exact Kd.R_mono HO640.out (fun _ hk => ⟨⟨hk.1.2, hk.2⟩, hk.1.1.2⟩)) hg hat); have n2_ := Aside0.mk (Kd.R_after (ok := (fun k_ => some k_ ≠ (.slice Ao19 x6_2.length co19 : Value).ownBlock ∧ some k_ ≠ (v639 : Value).ownBlock)) (by (with_reducible repeat (first | apply Kd.R_alloc | apply Kd.R_drewN | apply Kd.R_drew)); exact Kd.R_mono HO633.out (fun _ hk => ⟨⟨hk.1.2, hk.2⟩, hk.1.1.2⟩)) hg hat); have n3_ := Aside0.mk (hb); have n4_ := Aside0.mk (ho); clear HO_6; clear HO640; clear HO633; clear HB; clear HO_5; have HO_6 := n0_; have HO640 := n1_; have HO633 := n2_; have HB := n3_; have HO636 := n4_; clear n0_ n1_ n2_ n3_ n4_
                              clear ho hb hg hat
                              refine hK.out _ _ ⟨((HB.out.cell (World.block_lt_of_cell? w _ hw630_0)).trans hw630_0), ((HB.out.cell (World.block_lt_of_cell? w _ hw637_0)).trans hw637_0)⟩ (fun hHeld => ?_)
                              clear hK K
                              refine norm_ (a' := ?_) ?_ ?_
                              rotate_left
                              · show Act.put _ (some 41) _ = _
                                exact pz
                              exact norm_ (by simp only [putAll, Act.put, List.setIfInBounds_toArray, List.set_cons_zero, List.set_cons_succ]) (hCont (.slice Ao26 y631.length co26, v635, v639) _ ⟨hHeld, (by (with_reducible repeat (first | apply Kd.R_alloc | apply Kd.R_drewN | apply Kd.R_drew)); exact Kd.R_mono HO633.out (fun _ hk => ⟨hk.2, ⟨hk.1.2, hk.1.1⟩⟩)), (by (with_reducible repeat (first | apply Kd.R_alloc | apply Kd.R_drewN | apply Kd.R_drew)); exact Kd.R_mono HO636.out (fun _ hk => ⟨hk.2.2, ⟨hk.2.1, hk.1⟩⟩)), (by (with_reducible repeat (first | apply Kd.R_alloc | apply Kd.R_drewN | apply Kd.R_drew)); exact Kd.R_mono HO640.out (fun _ hk => ⟨hk.1.2, ⟨hk.2, hk.1.1⟩⟩)), (by (with_reducible repeat (first | apply Kd.R_alloc | apply Kd.R_drewN | apply Kd.R_drew)); exact Kd.R_mono HO_6.out (fun _ hk => ⟨hk.1.2, ⟨hk.2, hk.1.1⟩⟩)), bz⟩)
                          rintro ⟨v632, v635, v639⟩ w27 ⟨hS_, h0_, h1_, h2_, h3_, h4_⟩
                          have n0_ : Aside0 (Kd.R (Kd.int .i64) 3 w27 w.heap.size (fun k_ => some k_ ≠ (v635 : Value).ownBlock ∧ some k_ ≠ (v639 : Value).ownBlock ∧ some k_ ≠ (.slice Ao19 x6_2.length co19 : Value).ownBlock) v632 y631) := ⟨h0_⟩
                          have n1_ : Aside0 (Kd.R (Kd.int .i64) 3 w27 w.heap.size (fun k_ => some k_ ≠ (v632 : Value).ownBlock ∧ some k_ ≠ (v639 : Value).ownBlock ∧ some k_ ≠ (.slice Ao19 x6_2.length co19 : Value).ownBlock) v635 y634) := ⟨h1_⟩
                          have n2_ : Aside0 (Kd.R (Kd.int .i64) 3 w27 w.heap.size (fun k_ => some k_ ≠ (v632 : Value).ownBlock ∧ some k_ ≠ (v635 : Value).ownBlock ∧ some k_ ≠ (.slice Ao19 x6_2.length co19 : Value).ownBlock) v639 y638) := ⟨h2_⟩
                          have n3_ : Aside0 (Kd.R (Kd.int .i64) 3 w27 w.heap.size (fun k_ => some k_ ≠ (v632 : Value).ownBlock ∧ some k_ ≠ (v635 : Value).ownBlock ∧ some k_ ≠ (v639 : Value).ownBlock) (.slice Ao19 x6_2.length co19) x6_2) := ⟨h3_⟩
                          have n4_ : Aside0 (Below w.heap.size w w27) := ⟨h4_⟩
                          clear HO_5
                          clear HO_6
                          clear HB
                          clear h0_ h1_ h2_ h3_ h4_
                          have HO633 := n0_
                          have HO636 := n1_
                          have HO640 := n2_
                          have HO_6 := n3_
                          have HB := n4_
                          clear n0_ n1_ n2_ n3_ n4_
                          have hHeld : w27.cell? (ad630.add (x7_2).toNat) = some (.int .i64 (rd l0 x7_2)) ∧ w27.cell? (ad630.add ((ji14)).toNat) = some (.int .i64 (rd l0 (ji14))) := hS_
                          obtain ⟨Ao29, co29, eo29⟩ := Kd.R_slice HO640.out
                          (first | subst eo29 | (injection eo29 with f1_ f2_ f3_; have f4_ := f1_.symm; have f5_ := f3_.symm; clear f1_ f2_ f3_; subst f4_; subst f5_))
                          refine norm_ (a' := ?_) ?_ ?_
                          rotate_left
                          · simp only [putAll, Act.put, List.setIfInBounds_toArray, List.set_cons_zero, List.set_cons_succ]
                            rfl
                          refine one_ (i := 19) (N := some 52) (bs 22 1048575) rfl rfl (one_of HT_.out (by kernel_rfl)) (by decide) (fun K hK => ?_)
                          refine Kd.R_append_rows_step (Kd.int .i64) (w0 := w) w.heap.size (by rfl) (.tmp 42) (.tmp 51) 22 3 (.int .i64 0) 8 rfl Tryd.underlying22 info3 rfl (by decide) (by omega) (.slice Ao19 x6_2.length co19) x6_2 y638 _ _ _ (fun k_ => some k_ ≠ (v632 : Value).ownBlock ∧ some k_ ≠ (v635 : Value).ownBlock ∧ some k_ ≠ (.slice Ao29 y638.length co29 : Value).ownBlock) (fun _ => False) rfl rfl ?aO ?aR (fun _ _ h => h) (fun _ h => h.elim) ?aF ?aB ?aS ?aL ?_
                          (case aR => exact bc (Kd.R_reads' HO640.out).2.2)
                          (case aB => exact bz)
                          (case aF => exact (fun k_ hk => ⟨Kd.fresh' (Kd.R_lt (br HO633.out)) k_ hk, Kd.fresh' (Kd.R_lt (br HO636.out)) k_ hk, Kd.fresh' (Kd.R_lt (br HO640.out)) k_ hk⟩))
                          (case aO => exact (br HO_6.out))
                          (case aS => exact (below_size bz))
                          (case aL => have := LMc17.out; omega)
                          intro v642 w28 ho hb hg hat
                          rw [← Ny641.out] at ho
                          have n0_ := Aside0.mk (Kd.R_after (ok := (fun k_ => some k_ ≠ (v635 : Value).ownBlock ∧ some k_ ≠ (.slice Ao29 y638.length co29 : Value).ownBlock)) (by (with_reducible repeat (first | apply Kd.R_alloc | apply Kd.R_drewN | apply Kd.R_drew)); exact Kd.R_mono HO633.out (fun _ hk => ⟨⟨hk.1, hk.2.1⟩, hk.2.2⟩)) hg hat); have n1_ := Aside0.mk (Kd.R_after (ok := (fun k_ => some k_ ≠ (v632 : Value).ownBlock ∧ some k_ ≠ (.slice Ao29 y638.length co29 : Value).ownBlock)) (by (with_reducible repeat (first | apply Kd.R_alloc | apply Kd.R_drewN | apply Kd.R_drew)); exact Kd.R_mono HO636.out (fun _ hk => ⟨⟨hk.1, hk.2.1⟩, hk.2.2⟩)) hg hat); have n2_ := Aside0.mk (Kd.R_after (ok := (fun k_ => some k_ ≠ (v632 : Value).ownBlock ∧ some k_ ≠ (v635 : Value).ownBlock)) (by (with_reducible repeat (first | apply Kd.R_alloc | apply Kd.R_drewN | apply Kd.R_drew)); exact Kd.R_mono HO640.out (fun _ hk => ⟨⟨hk.1, hk.2.1⟩, hk.2.2⟩)) hg hat); have n3_ := Aside0.mk (hb); have n4_ := Aside0.mk (ho); clear HO633; clear HO636; clear HO640; clear HB; clear HO_6; have HO633 := n0_; have HO636 := n1_; have HO640 := n2_; have HB := n3_; have HO643 := n4_; clear n0_ n1_ n2_ n3_ n4_
                          clear ho hb hg hat
                          refine hK.out _ _ ⟨((HB.out.cell (World.block_lt_of_cell? w _ hw630_0)).trans hw630_0), ((HB.out.cell (World.block_lt_of_cell? w _ hw637_0)).trans hw637_0)⟩ (fun hHeld => ?_)
                          clear hK K
                          refine norm_ (a' := ?_) ?_ ?_
                          rotate_left
                          · show Act.put _ (some 52) _ = _
                            exact pz
                          refine pureZ (i := 20) (N := some 5) (bs 22 2097151) HT_ ?_
                          refine pureZ (i := 21) (N := some 6) (bs 22 4194303) HT_ ?_
                          refine done_ (done_of HT_.out (by kernel_rfl)) ?_
                          try go_wp2
                          go_roundg k2
                          case measure => have := HJ4.out; have := HK2.out; omega
                          case rel => exact ⟨(y634), (y641), (wrap64 (x7_2 + 1)), (by first | rfl | (simp; done) | (simp [*]; done)), H', ⟨by have := HJ4.out; have := HK2.out; omega⟩, ⟨by (with_reducible repeat (first | apply Kd.R_alloc | apply Kd.R_drewN | apply Kd.R_drew)); exact Kd.R_mono HO636.out (fun _ hk => hk.2)⟩, ⟨by (with_reducible repeat (first | apply Kd.R_alloc | apply Kd.R_drewN | apply Kd.R_drew)); exact Kd.R_mono HO643.out (fun _ hk => hk.2.1)⟩, ⟨by repeat (first | (with_reducible first | exact HB.out | apply below_alloc | apply pw_below_drewN | apply below_drew1) | exact HB.out)⟩⟩
                        · rw [if_neg c17] at H
                          exact absurd H (by simp)
                      · rw [if_neg c16] at H
                        exact absurd H (by simp)
                    · rw [if_neg c15] at H
                      exact absurd H (by simp)
                  · rw [if_neg c13] at H
                    exact absurd H (by simp)
                · rw [if_neg c12] at H
                  exact absurd H (by simp)
              · rw [if_neg c11] at H
                have c11b0 := decide_eq_false c11
                clear c11
                replace H := Option.bind_eq_some_iff.mp H
                obtain ⟨t644, A300, H⟩ := H
                (try dsimp only at H)
                have A30 := Aside0.mk A300
                clear A300
                replace H := Option.bind_eq_some_iff.mp H
                obtain ⟨⟨t647, t648⟩, A310, H⟩ := H
                (try dsimp only at H)
                have A31 := Aside0.mk A310
                clear A310
                have HC32 := Aside0.mk H
                clear H
                go_upto_region 11 with (first | ((with_reducible refine gate_callee (f := 33) rfl ?_); refine gl (some 55) Tryd.func33 #[.slice A0 l0.length c0] ?_; (with_reducible refine (glidepathbase_CopyInts.calls _ _ l0 t644 _ ?side1 ?side2 A30.out).mono ?_); (case side1 => exact bc (Kd.C_below HR0.out HB.out)); (case side2 => exact HC0.out); rintro e w33 ⟨v645, rfl, ho0, hb⟩; refine ⟨_, rfl, ?_⟩; have HO646 := Aside0.mk (Kd.R_lower (Kd.R_new' (Kd.R_new' ho0 (Kd.R_lt (br HO_5.out))) (Kd.R_lt (br HO_6.out))) (below_size bz)); replace HO_5 := Aside0.mk (Kd.R_elder' (br HO_5.out) (Kd.R_base ho0) hb); replace HO_6 := Aside0.mk (Kd.R_elder' (br HO_6.out) (Kd.R_base ho0) hb); replace HB := sb HB hb; (try clear hb); (try clear ho0); obtain ⟨Ao34, co34, eo34⟩ := Kd.R_slice HO646.out; subst eo34) | ((with_reducible refine gate_callee (f := 32) rfl ?_); refine gl (some 56) Tryd.func32 #[.slice Ao34 t644.length co34] ?_; (with_reducible refine (line_PeakOf.calls k2 _ _ t644 t647 t648 _ ?side1 ?side2 A31.out).mono ?_); (case side1 => exact bc (Kd.R_reads' HO646.out).2.2); (case side2 => exact (Kd.R_reads' HO646.out).2.1); rintro e w35 ⟨rfl, hb⟩; refine ⟨_, rfl, ?_⟩; replace HO_5 := rb HO_5 hb; replace HO_6 := rb HO_6 hb; replace HO646 := rb HO646 hb; replace HB := sb HB hb; (try clear hb)))
                (try simp only [Act.put, List.setIfInBounds_toArray, List.set_cons_zero, List.set_cons_succ])
                go_cut [68] (fun v68 wc => ∃ (kq : Nat) (x68_31 : Bool), v68 = .bool x68_31 ∧ Aside0 (glidepathlaw02_LineWithin.j2 kq l0 x5_2 x6_2 t647 x68_31 = some r) ∧ Aside0 (kq ≤ k2) ∧ Aside0 (Kd.R (Kd.int .i64) 3 wc w.heap.size (fun k_ => some k_ ≠ (u6 : Value).ownBlock) u5 x5_2) ∧ Aside0 (Kd.R (Kd.int .i64) 3 wc w.heap.size (fun k_ => some k_ ≠ (u5 : Value).ownBlock) u6 x6_2) ∧ Aside0 (Below w.heap.size w wc))
                case first =>
                  have H := HC32.out
                  clear HC32
                  by_cases c36 : t648 = 0
                  · rw [if_pos c36] at H
                    have c36b0 := beq_iff_eq.mpr c36
                    have c36b1 := bne_eq_false_iff_eq.mpr c36
                    clear c36
                    (first | rw [c36b0] | (simp only [i64_w, i32_w]; rw [c36b0]) | skip)
                    replace H := Option.bind_eq_some_iff.mp H
                    obtain ⟨t649, A370, H⟩ := H
                    (try dsimp only at H)
                    have A37 := Aside0.mk A370
                    clear A370
                    have H' := Aside0.mk H
                    clear H
                    go_wp2_with (first | (go_at_call 31; (with_reducible refine (glidepathbase_Within.calls t647 0 (wrap64 ((l0.length : Int) - 1)) t649 _ A37.out).mono ?_); rintro e w' ⟨rfl, ⟨nd, rfl⟩⟩))
                    go_meet
                    case rel => exact ⟨_, (!t649), (by first | rfl | (simp; done) | (simp [*]; done)), H', ⟨by have := HJ4.out; have := HK2.out; first | omega | exact Nat.le_refl _⟩, ⟨by (with_reducible repeat (first | apply Kd.R_alloc | apply Kd.R_drewN | apply Kd.R_drew)); exact Kd.R_mono HO_5.out (fun _ hk => hk.1)⟩, ⟨by (with_reducible repeat (first | apply Kd.R_alloc | apply Kd.R_drewN | apply Kd.R_drew)); exact Kd.R_mono HO_6.out (fun _ hk => hk.1)⟩, ⟨by repeat (first | (with_reducible first | exact HB.out | apply below_alloc | apply pw_below_drewN | apply below_drew1) | exact HB.out)⟩⟩
                  · rw [if_neg c36] at H
                    have c36b0 := beq_eq_false_iff_ne.mpr c36
                    have c36b1 := bne_iff_ne.mpr c36
                    (first | rw [c36b0] | (simp only [i64_w, i32_w]; rw [c36b0]) | skip)
                    have H' := Aside0.mk H
                    clear H
                    go_wp2
                    go_meet
                    case rel => exact ⟨_, (true), (by first | rfl | (simp; done) | (simp [*]; done)), H', ⟨by have := HJ4.out; have := HK2.out; first | omega | exact Nat.le_refl _⟩, ⟨by (with_reducible repeat (first | apply Kd.R_alloc | apply Kd.R_drewN | apply Kd.R_drew)); exact Kd.R_mono HO_5.out (fun _ hk => hk.1)⟩, ⟨by (with_reducible repeat (first | apply Kd.R_alloc | apply Kd.R_drewN | apply Kd.R_drew)); exact Kd.R_mono HO_6.out (fun _ hk => hk.1)⟩, ⟨by repeat (first | (with_reducible first | exact HB.out | apply below_alloc | apply pw_below_drewN | apply below_drew1) | exact HB.out)⟩⟩
                case rest =>
                  as_aux_lemma =>
                  clear HC32
                  try clear c1
                  try clear p2
                  try clear c3
                  try clear p6
                  try clear q6
                  try clear hx6
                  try clear c8
                  try clear c8b0
                  try clear c8b1
                  try clear c10
                  try clear c11
                  try clear c11b0
                  try clear c12
                  try clear c12b0
                  try clear c13
                  try clear c15
                  try clear c15b0
                  try clear c16
                  try clear c16b0
                  try clear c17
                  try clear c32
                  try clear c33
                  try clear c36
                  try clear c36b0
                  try clear c36b1
                  try clear hx630_0
                  try clear hx637_0
                  try clear p2
                  try clear p630
                  try clear p637
                  try clear q630
                  try clear q637
                  obtain ⟨kq, x68_31, rfl, HA, HJ31, HO_5, HO_6, HB⟩ := hcut
                  cases kq with
                  | zero => exact absurd HA.out (by simp [glidepathlaw02_LineWithin.j2])
                  | succ kj31 =>
                    have H := HA.out
                    clear HA
                    simp only [glidepathlaw02_LineWithin.j2] at H
                    by_cases c38 : x68_31 = true
                    · subst c38
                      rw [if_pos rfl] at H
                      exact absurd H (by simp)
                    · replace c38 := Bool.eq_false_iff.mpr c38
                      subst c38
                      rw [if_neg (show ¬ (false = true) by decide)] at H
                      have H' := Aside0.mk H
                      clear H
                      go_wp2
                      go_loopg [10] kj31 (fun kq v10 w' => ∃ (x10_4 : Int), v10 = .int .i64 x10_4 ∧ Aside0 (glidepathlaw02_LineWithin.l1 kq l0 x5_2 x6_2 t647 x10_4 = some r) ∧ Aside0 (kq ≤ kj31) ∧ Aside0 (Kd.R (Kd.int .i64) 3 w' w.heap.size (fun k_ => some k_ ≠ (u6 : Value).ownBlock) u5 x5_2) ∧ Aside0 (Kd.R (Kd.int .i64) 3 w' w.heap.size (fun k_ => some k_ ≠ (u5 : Value).ownBlock) u6 x6_2) ∧ Aside0 (Below w.heap.size w w'))
                      case atStart => exact ⟨(0), (by first | rfl | (simp; done) | (simp [*]; done)), H', ⟨Nat.le_refl _⟩, ⟨by (with_reducible repeat (first | apply Kd.R_alloc | apply Kd.R_drewN | apply Kd.R_drew)); exact HO_5.out⟩, ⟨by (with_reducible repeat (first | apply Kd.R_alloc | apply Kd.R_drewN | apply Kd.R_drew)); exact HO_6.out⟩, ⟨by repeat (first | (with_reducible first | exact HB.out | apply below_alloc | apply pw_below_drewN | apply below_drew1) | exact HB.out)⟩⟩
                      case round =>
                        as_aux_lemma =>
                        clear H'
                        try clear c1
                        try clear p2
                        try clear c3
                        try clear p6
                        try clear q6
                        try clear hx6
                        try clear c8
                        try clear c8b0
                        try clear c8b1
                        try clear c10
                        try clear c11
                        try clear c11b0
                        try clear c12
                        try clear c12b0
                        try clear c13
                        try clear c15
                        try clear c15b0
                        try clear c16
                        try clear c16b0
                        try clear c17
                        try clear c32
                        try clear c33
                        try clear c36
                        try clear c36b0
                        try clear c36b1
                        try clear c38
                        try clear hx630_0
                        try clear hx637_0
                        try clear p2
                        try clear p6
                        try clear p630
                        try clear p637
                        try clear q6
                        try clear q630
                        try clear q637
                        obtain ⟨x10_4, rfl, HA, HK4, HO_5, HO_6, HB⟩ := hrel
                        cases gk with
                        | zero => exact absurd HA.out (by simp [glidepathlaw02_LineWithin.l1])
                        | succ k4 =>
                          have H := HA.out
                          clear HA
                          simp only [glidepathlaw02_LineWithin.l1] at H
                          by_cases c39 : x10_4 < 4
                          · rw [if_pos c39] at H
                            have c39b0 := decide_eq_true c39
                            clear c39
                            replace H := Option.bind_eq_some_iff.mp H
                            obtain ⟨t650, A400, H⟩ := H
                            (try dsimp only at H)
                            have A40 := Aside0.mk A400
                            clear A400
                            replace H := Option.bind_eq_some_iff.mp H
                            obtain ⟨⟨t653, t654, t655⟩, A410, H⟩ := H
                            (try dsimp only at H)
                            have A41 := Aside0.mk A410
                            clear A410
                            have HC42 := Aside0.mk H
                            clear H
                            go_upto_region 17 with (first | ((with_reducible refine gate_callee (f := 33) rfl ?_); refine gl (some 75) Tryd.func33 #[.slice A0 l0.length c0] ?_; (with_reducible refine (glidepathbase_CopyInts.calls _ _ l0 t650 _ ?side1 ?side2 A40.out).mono ?_); (case side1 => exact bc (Kd.C_below HR0.out HB.out)); (case side2 => exact HC0.out); rintro e w43 ⟨v651, rfl, ho0, hb⟩; refine ⟨_, rfl, ?_⟩; have HO652 := Aside0.mk (Kd.R_lower (Kd.R_new' (Kd.R_new' ho0 (Kd.R_lt (br HO_5.out))) (Kd.R_lt (br HO_6.out))) (below_size bz)); replace HO_5 := Aside0.mk (Kd.R_elder' (br HO_5.out) (Kd.R_base ho0) hb); replace HO_6 := Aside0.mk (Kd.R_elder' (br HO_6.out) (Kd.R_base ho0) hb); replace HB := sb HB hb; (try clear hb); (try clear ho0); obtain ⟨Ao44, co44, eo44⟩ := Kd.R_slice HO652.out; subst eo44) | ((with_reducible refine gate_callee (f := 34) rfl ?_); refine gl (some 77) Tryd.func34 #[.slice Ao44 t650.length co44, .int .i64 x10_4] ?_; (with_reducible refine (line_Estimated.calls k4 _ _ t650 x10_4 t653 t654 t655 _ ?side1 ?side2 ?side3 A41.out).mono ?_); (case side1 => exact bc (Kd.R_reads' HO652.out).2.2); (case side2 => exact (Kd.R_reads' HO652.out).2.1); (case side3 => exact EstG.below HG.out bz); rintro e w45 ⟨rfl, hb⟩; refine ⟨_, rfl, ?_⟩; replace HO_5 := rb HO_5 hb; replace HO_6 := rb HO_6 hb; replace HO652 := rb HO652 hb; replace HB := sb HB hb; (try clear hb)) | ((with_reducible refine gate_dst (N := 11) rfl ?_); (try (refine gate_guard (by rfl) ?_; dsimp only)); refine be 11 26 #[.int .i64 0, .int .i64 0] ?_; intro gb656 hg w46 hbox hb; replace HO_5 := rb HO_5 hb; replace HO_6 := rb HO_6 hb; replace HO652 := rb HO652 hb; have BK656 := Aside0.mk hbox; have GW656 := Aside0.mk (bg (n := w.heap.size) hg); have GE656 := Aside0.mk (bg (n := w.heap.size) hg); replace HB := sb HB hb; clear hb hbox hg; obtain ⟨_, _, _, _⟩ := b2 BK656))
                            (try simp only [Act.put, List.setIfInBounds_toArray, List.set_cons_zero, List.set_cons_succ])
                            go_cut [105] (fun v105 wc => ∃ (kq : Nat) (x105_41 : Bool), v105 = .bool x105_41 ∧ Aside0 (glidepathlaw02_LineWithin.j4 kq l0 x5_2 x6_2 t647 x10_4 x105_41 t653 t654 = some r) ∧ Aside0 (kq ≤ k4) ∧ Aside0 (Kd.R (Kd.int .i64) 3 wc w.heap.size (fun k_ => some k_ ≠ (u6 : Value).ownBlock) u5 x5_2) ∧ Aside0 (Kd.R (Kd.int .i64) 3 wc w.heap.size (fun k_ => some k_ ≠ (u5 : Value).ownBlock) u6 x6_2) ∧ Aside0 (wc.heap[gb656]? = some (.cells #[.int .i64 t653, .int .i64 t654] 26 (0, 0))) ∧ Aside0 (Below w.heap.size w wc))
                            case first =>
                              have H := HC42.out
                              clear HC42
                              by_cases c48 : t655 = 0
                              · rw [if_pos c48] at H
                                have c48b0 := beq_iff_eq.mpr c48
                                have c48b1 := bne_eq_false_iff_eq.mpr c48
                                clear c48
                                (first | rw [c48b0] | (simp only [i64_w, i32_w]; rw [c48b0]) | skip)
                                replace H := Option.bind_eq_some_iff.mp H
                                obtain ⟨t657, A490, H⟩ := H
                                (try dsimp only at H)
                                have A49 := Aside0.mk A490
                                clear A490
                                by_cases c50 : t657 = true
                                · subst c50
                                  rw [if_pos rfl] at H
                                  replace H := Option.bind_eq_some_iff.mp H
                                  obtain ⟨t658, A510, H⟩ := H
                                  (try dsimp only at H)
                                  have A51 := Aside0.mk A510
                                  clear A510
                                  by_cases c52 : t658 = true
                                  · subst c52
                                    rw [if_pos rfl] at H
                                    by_cases c53 : t653 < 0
                                    · rw [if_pos c53] at H
                                      have c53b0 := decide_eq_true c53
                                      clear c53
                                      have H' := Aside0.mk H
                                      clear H
                                      try go_wp2
                                      have n0_ : Aside0 (Kd.R (Kd.int .i64) 3 ((w46.setCell ⟨gb656, 0, none⟩ (.int .i64 t653)).setCell ⟨gb656, 1, none⟩ (.int .i64 t654)) w.heap.size (fun k_ => some k_ ≠ (u6 : Value).ownBlock ∧ some k_ ≠ (.slice Ao44 t650.length co44 : Value).ownBlock) u5 x5_2) := ⟨by (with_reducible repeat (first | apply Kd.R_alloc | apply Kd.R_drewN | apply Kd.R_drew)); exact Kd.R_mono (Kd.R_far (p := ⟨gb656, 1, none⟩) (Kd.R_far (p := ⟨gb656, 0, none⟩) (Kd.R_types HO_5.out BK656.out (by decide)) (fun _ hk => hk.2) (.int .i64 t653)) (fun _ hk => hk.2) (.int .i64 t654)) (fun _ hk => ⟨hk.1.1, hk.1.2⟩)⟩
                                      have n1_ : Aside0 (Kd.R (Kd.int .i64) 3 ((w46.setCell ⟨gb656, 0, none⟩ (.int .i64 t653)).setCell ⟨gb656, 1, none⟩ (.int .i64 t654)) w.heap.size (fun k_ => some k_ ≠ (u5 : Value).ownBlock ∧ some k_ ≠ (.slice Ao44 t650.length co44 : Value).ownBlock) u6 x6_2) := ⟨by (with_reducible repeat (first | apply Kd.R_alloc | apply Kd.R_drewN | apply Kd.R_drew)); exact Kd.R_mono (Kd.R_far (p := ⟨gb656, 1, none⟩) (Kd.R_far (p := ⟨gb656, 0, none⟩) (Kd.R_types HO_6.out BK656.out (by decide)) (fun _ hk => hk.2) (.int .i64 t653)) (fun _ hk => hk.2) (.int .i64 t654)) (fun _ hk => ⟨hk.1.1, hk.1.2⟩)⟩
                                      have n2_ : Aside0 (Kd.R (Kd.int .i64) 3 ((w46.setCell ⟨gb656, 0, none⟩ (.int .i64 t653)).setCell ⟨gb656, 1, none⟩ (.int .i64 t654)) w.heap.size (fun k_ => some k_ ≠ (u5 : Value).ownBlock ∧ some k_ ≠ (u6 : Value).ownBlock) (.slice Ao44 t650.length co44) t650) := ⟨by (with_reducible repeat (first | apply Kd.R_alloc | apply Kd.R_drewN | apply Kd.R_drew)); exact Kd.R_mono (Kd.R_far (p := ⟨gb656, 1, none⟩) (Kd.R_far (p := ⟨gb656, 0, none⟩) (Kd.R_types HO652.out BK656.out (by decide)) (fun _ hk => hk.2) (.int .i64 t653)) (fun _ hk => hk.2) (.int .i64 t654)) (fun _ hk => ⟨hk.1.1.2, hk.1.2⟩)⟩
                                      have n3_ : Aside0 (((w46.setCell ⟨gb656, 0, none⟩ (.int .i64 t653)).setCell ⟨gb656, 1, none⟩ (.int .i64 t654)).heap[gb656]? = some (.cells #[.int .i64 t653, .int .i64 t654] 26 (0, 0))) := ⟨by (with_reducible repeat (first | refine blk_drewN ?_ _ | refine blk_drew ?_ | refine blk_alloc ?_ _)); refine blk_put (cs := #[.int .i64 t653, .int .i64 0]) ?_ 1 _ rfl; (with_reducible repeat (first | refine blk_drewN ?_ _ | refine blk_drew ?_ | refine blk_alloc ?_ _)); refine blk_put (cs := #[.int .i64 0, .int .i64 0]) ?_ 0 _ rfl; (with_reducible repeat (first | refine blk_drewN ?_ _ | refine blk_drew ?_ | refine blk_alloc ?_ _)); exact BK656.out⟩
                                      have n4_ : Aside0 (Below w.heap.size w ((w46.setCell ⟨gb656, 0, none⟩ (.int .i64 t653)).setCell ⟨gb656, 1, none⟩ (.int .i64 t654))) := ⟨by repeat (first | (with_reducible first | exact HB.out | apply below_alloc | apply pw_below_drewN | apply below_drew1 | refine below_set ?_ GE656.out) | exact HB.out)⟩
                                      (try clear HO_5)
                                      (try clear HO_6)
                                      (try clear HO652)
                                      (try clear BK656)
                                      (try clear HB)
                                      generalize ((w46.setCell ⟨gb656, 0, none⟩ (.int .i64 t653)).setCell ⟨gb656, 1, none⟩ (.int .i64 t654)) = w54 at n0_ n1_ n2_ n3_ n4_ ⊢
                                      have HO_5 := n0_
                                      have HO_6 := n1_
                                      have HO652 := n2_
                                      have BK656 := n3_
                                      have HB := n4_
                                      clear n0_ n1_ n2_ n3_ n4_
                                      replace HO_5 := Aside0.mk (Kd.R_drew HO_5.out); replace HO_6 := Aside0.mk (Kd.R_drew HO_6.out); replace HO652 := Aside0.mk (Kd.R_drew HO652.out); replace BK656 := Aside0.mk (blk_drew BK656.out); replace HB := Aside0.mk (below_drew1 HB.out)
                                      refine start_ (n := 26) (S := fun w' => w'.cell? ⟨gb656, 0, none⟩ = some (.int .i64 t653) ∧ w'.cell? ⟨gb656, 1, none⟩ = some (.int .i64 t654)) (ds := []) #[false, false, false, false, false, false, false, false, false, false, false, false, false, false, false, false, false, false, false, false, false, false, false, false, false, false] (by kernel_rfl) rfl rfl ⟨(blk_cell BK656.out 0).trans rfl, (blk_cell BK656.out 1).trans rfl⟩ (fun hHeld => ?_); refine with_tabW glidepathlaw02_LineWithin.tab17 glidepathlaw02_LineWithin.bits17 (fun HT_ HW_ => ?_)
                                      generalize w54.drew = w55 at HO_5 HO_6 HO652 BK656 HB hHeld ⊢
                                      refine pureZ (i := 0) (N := some 80) (bs 26 1) HT_ ?_
                                      refine pureZ (i := 1) (N := some 81) (bs 26 3) HT_ ?_
                                      refine pureZ (i := 2) (N := some 82) (bs 26 7) HT_ ?_
                                      refine take_ (i := 3) (N := some 83) (v := ?_) (a' := ?_) (bs 26 15) rfl rfl (take_ofW HT_.out HW_.out (by kernel_rfl)) (fun _ _ _ h => h) (Or.inl ⟨by rfl, ?_⟩) hHeld ?_ ?_
                                      rotate_left
                                      · rintro w' ⟨s0, s1⟩
                                        go_simp
                                        with_reducible rfl
                                      rotate_left
                                      · exact pz
                                      refine one_ (i := 4) (N := some 84) (bs 26 31) rfl rfl (one_of HT_.out (by kernel_rfl)) (by decide) (fun K hK => ?_)
                                      refine goes_ Tryd.func35 (by kernel_rfl) rfl #[.agg #[.int .i64 t653, .int .i64 t654]] (by rfl) rfl rfl mz ?_
                                      with_reducible refine (glidepathbase_IsLowest.calls k4 t653 t654 true _ A49.out).mono ?_
                                      rintro e w56 ⟨rfl, hb⟩
                                      refine ⟨_, rfl, ?_⟩
                                      replace HO_5 := rb HO_5 hb; replace HO_6 := rb HO_6 hb; replace HO652 := rb HO652 hb; replace BK656 := bb BK656 hb; replace HB := sb HB hb
                                      (try clear hb)
                                      (try clear hb2)
                                      (try clear hk)
                                      (try clear hi)
                                      refine hK.out _ _ ⟨(blk_cell BK656.out 0).trans rfl, (blk_cell BK656.out 1).trans rfl⟩ (fun hHeld => ?_)
                                      clear hK K
                                      refine norm_ (a' := ?_) ?_ ?_
                                      rotate_left
                                      · show Act.put _ (some 84) _ = _
                                        exact pz
                                      refine pureZ (i := 5) (N := some 85) (bs 26 63) HT_ ?_
                                      refine pureZ (i := 6) (N := some 86) (bs 26 127) HT_ ?_
                                      refine pureZ (i := 7) (N := some 87) (bs 26 255) HT_ ?_
                                      refine take_ (i := 8) (N := some 88) (v := ?_) (a' := ?_) (bs 26 511) rfl rfl (take_ofW HT_.out HW_.out (by kernel_rfl)) (fun _ _ _ h => h) (Or.inl ⟨by rfl, ?_⟩) hHeld ?_ ?_
                                      rotate_left
                                      · rintro w' ⟨s0, s1⟩
                                        go_simp
                                        with_reducible rfl
                                      rotate_left
                                      · exact pz
                                      refine one_ (i := 9) (N := some 89) (bs 26 1023) rfl rfl (one_of HT_.out (by kernel_rfl)) (by decide) (fun K hK => ?_)
                                      refine goes_ Tryd.func36 (by kernel_rfl) rfl #[.agg #[.int .i64 t653, .int .i64 t654]] (by rfl) rfl rfl mz ?_
                                      with_reducible refine (glidepathbase_IsSmall.calls t653 t654 true _ A51.out).mono ?_
                                      rintro e w57 ⟨rfl, hb⟩
                                      refine ⟨_, rfl, ?_⟩
                                      replace HO_5 := rb HO_5 hb; replace HO_6 := rb HO_6 hb; replace HO652 := rb HO652 hb; replace BK656 := bb BK656 hb; replace HB := sb HB hb
                                      (try clear hb)
                                      (try clear hb2)
                                      (try clear hk)
                                      (try clear hi)
                                      refine hK.out _ _ ⟨(blk_cell BK656.out 0).trans rfl, (blk_cell BK656.out 1).trans rfl⟩ (fun hHeld => ?_)
                                      clear hK K
                                      refine norm_ (a' := ?_) ?_ ?_
                                      rotate_left
                                      · show Act.put _ (some 89) _ = _
                                        exact pz
                                      refine pureZ (i := 10) (N := some 90) (bs 26 2047) HT_ ?_
                                      refine pureZ (i := 11) (N := some 91) (bs 26 4095) HT_ ?_
                                      refine pureZ (i := 12) (N := some 92) (bs 26 8191) HT_ ?_
                                      refine pureZ (i := 13) (N := some 93) (bs 26 16383) HT_ ?_
                                      refine take_ (i := 14) (N := some 94) (v := ?_) (a' := ?_) (bs 26 32767) rfl rfl (take_ofW HT_.out HW_.out (by kernel_rfl)) (fun _ _ _ h => h) (Or.inl ⟨by rfl, ?_⟩) hHeld ?_ ?_
                                      rotate_left
                                      · rintro w' ⟨s0, s1⟩
                                        go_simp
                                        with_reducible rfl
                                      rotate_left
                                      · exact pz
                                      refine pureZ (i := 15) (N := some 95) (bs 26 65535) HT_ ?_
                                      refine pureZ (i := 16) (N := some 96) (bs 26 131071) HT_ ?_
                                      refine pureZ (i := 17) (N := some 97) (bs 26 262143) HT_ ?_
                                      refine pure_ (i := 18) (N := some 98) (v := undef) (a' := ?_) (bs 26 524287) rfl rfl (any_of HT_.out (by kernel_rfl)) (fun _ _ _ h => h) (Or.inr ⟨by rfl, rfl⟩) ?_ ?_
                                      rotate_left
                                      · exact pz
                                      refine pure_ (i := 19) (N := some 99) (v := undef) (a' := ?_) (bs 26 1048575) rfl rfl (any_of HT_.out (by kernel_rfl)) (fun _ _ _ h => h) (Or.inr ⟨by rfl, rfl⟩) ?_ ?_
                                      rotate_left
                                      · exact pz
                                      refine pure_ (i := 20) (N := some 100) (v := undef) (a' := ?_) (bs 26 2097151) rfl rfl (any_of HT_.out (by kernel_rfl)) (fun _ _ _ h => h) (Or.inr ⟨by rfl, rfl⟩) ?_ ?_
                                      rotate_left
                                      · exact pz
                                      refine pure_ (i := 21) (N := some 101) (v := undef) (a' := ?_) (bs 26 4194303) rfl rfl (any_of HT_.out (by kernel_rfl)) (fun _ _ _ h => h) (Or.inr ⟨by rfl, rfl⟩) ?_ ?_
                                      rotate_left
                                      · exact pz
                                      refine pure_ (i := 22) (N := some 102) (v := undef) (a' := ?_) (bs 26 8388607) rfl rfl (any_of HT_.out (by kernel_rfl)) (fun _ _ _ h => h) (Or.inr ⟨by rfl, rfl⟩) ?_ ?_
                                      rotate_left
                                      · exact pz
                                      refine pure_ (i := 23) (N := some 103) (v := undef) (a' := ?_) (bs 26 16777215) rfl rfl (any_of HT_.out (by kernel_rfl)) (fun _ _ _ h => h) (Or.inr ⟨by rfl, rfl⟩) ?_ ?_
                                      rotate_left
                                      · exact pz
                                      refine pure_ (i := 24) (N := some 104) (v := undef) (a' := ?_) (bs 26 33554431) rfl rfl (any_of HT_.out (by kernel_rfl)) (fun _ _ _ h => h) (Or.inr ⟨by rfl, rfl⟩) ?_ ?_
                                      rotate_left
                                      · exact pz
                                      refine pureZ (i := 25) (N := some 105) (bs 26 67108863) HT_ ?_
                                      refine done_ (done_of HT_.out (by kernel_rfl)) ?_
                                      try go_wp2
                                      go_meet
                                      case rel => exact ⟨_, (true), (by first | rfl | (simp; done) | (simp [*]; done)), H', ⟨by have := HJ4.out; have := HK2.out; have := HJ31.out; have := HK4.out; first | omega | exact Nat.le_refl _⟩, ⟨by (with_reducible repeat (first | apply Kd.R_alloc | apply Kd.R_drewN | apply Kd.R_drew)); exact Kd.R_mono HO_5.out (fun _ hk => hk.1)⟩, ⟨by (with_reducible repeat (first | apply Kd.R_alloc | apply Kd.R_drewN | apply Kd.R_drew)); exact Kd.R_mono HO_6.out (fun _ hk => hk.1)⟩, ⟨by (with_reducible repeat (first | refine blk_drewN ?_ _ | refine blk_drew ?_ | refine blk_alloc ?_ _)); exact BK656.out⟩, ⟨by repeat (first | (with_reducible first | exact HB.out | apply below_alloc | apply pw_below_drewN | apply below_drew1 | refine below_set ?_ GE656.out) | exact HB.out)⟩⟩
                                    · rw [if_neg c53] at H
                                      have c53b0 := decide_eq_false c53
                                      clear c53
                                      replace H := Option.bind_eq_some_iff.mp H
                                      obtain ⟨⟨t659, t660⟩, A580, H⟩ := H
                                      (try dsimp only at H)
                                      have A58 := Aside0.mk A580
                                      clear A580
                                      replace H := Option.bind_eq_some_iff.mp H
                                      obtain ⟨t661, A590, H⟩ := H
                                      (try dsimp only at H)
                                      have A59 := Aside0.mk A590
                                      clear A590
                                      have H' := Aside0.mk H
                                      clear H
                                      try go_wp2
                                      have n0_ : Aside0 (Kd.R (Kd.int .i64) 3 ((w46.setCell ⟨gb656, 0, none⟩ (.int .i64 t653)).setCell ⟨gb656, 1, none⟩ (.int .i64 t654)) w.heap.size (fun k_ => some k_ ≠ (u6 : Value).ownBlock ∧ some k_ ≠ (.slice Ao44 t650.length co44 : Value).ownBlock) u5 x5_2) := ⟨by (with_reducible repeat (first | apply Kd.R_alloc | apply Kd.R_drewN | apply Kd.R_drew)); exact Kd.R_mono (Kd.R_far (p := ⟨gb656, 1, none⟩) (Kd.R_far (p := ⟨gb656, 0, none⟩) (Kd.R_types HO_5.out BK656.out (by decide)) (fun _ hk => hk.2) (.int .i64 t653)) (fun _ hk => hk.2) (.int .i64 t654)) (fun _ hk => ⟨hk.1.1, hk.1.2⟩)⟩
                                      have n1_ : Aside0 (Kd.R (Kd.int .i64) 3 ((w46.setCell ⟨gb656, 0, none⟩ (.int .i64 t653)).setCell ⟨gb656, 1, none⟩ (.int .i64 t654)) w.heap.size (fun k_ => some k_ ≠ (u5 : Value).ownBlock ∧ some k_ ≠ (.slice Ao44 t650.length co44 : Value).ownBlock) u6 x6_2) := ⟨by (with_reducible repeat (first | apply Kd.R_alloc | apply Kd.R_drewN | apply Kd.R_drew)); exact Kd.R_mono (Kd.R_far (p := ⟨gb656, 1, none⟩) (Kd.R_far (p := ⟨gb656, 0, none⟩) (Kd.R_types HO_6.out BK656.out (by decide)) (fun _ hk => hk.2) (.int .i64 t653)) (fun _ hk => hk.2) (.int .i64 t654)) (fun _ hk => ⟨hk.1.1, hk.1.2⟩)⟩
                                      have n2_ : Aside0 (Kd.R (Kd.int .i64) 3 ((w46.setCell ⟨gb656, 0, none⟩ (.int .i64 t653)).setCell ⟨gb656, 1, none⟩ (.int .i64 t654)) w.heap.size (fun k_ => some k_ ≠ (u5 : Value).ownBlock ∧ some k_ ≠ (u6 : Value).ownBlock) (.slice Ao44 t650.length co44) t650) := ⟨by (with_reducible repeat (first | apply Kd.R_alloc | apply Kd.R_drewN | apply Kd.R_drew)); exact Kd.R_mono (Kd.R_far (p := ⟨gb656, 1, none⟩) (Kd.R_far (p := ⟨gb656, 0, none⟩) (Kd.R_types HO652.out BK656.out (by decide)) (fun _ hk => hk.2) (.int .i64 t653)) (fun _ hk => hk.2) (.int .i64 t654)) (fun _ hk => ⟨hk.1.1.2, hk.1.2⟩)⟩
                                      have n3_ : Aside0 (((w46.setCell ⟨gb656, 0, none⟩ (.int .i64 t653)).setCell ⟨gb656, 1, none⟩ (.int .i64 t654)).heap[gb656]? = some (.cells #[.int .i64 t653, .int .i64 t654] 26 (0, 0))) := ⟨by (with_reducible repeat (first | refine blk_drewN ?_ _ | refine blk_drew ?_ | refine blk_alloc ?_ _)); refine blk_put (cs := #[.int .i64 t653, .int .i64 0]) ?_ 1 _ rfl; (with_reducible repeat (first | refine blk_drewN ?_ _ | refine blk_drew ?_ | refine blk_alloc ?_ _)); refine blk_put (cs := #[.int .i64 0, .int .i64 0]) ?_ 0 _ rfl; (with_reducible repeat (first | refine blk_drewN ?_ _ | refine blk_drew ?_ | refine blk_alloc ?_ _)); exact BK656.out⟩
                                      have n4_ : Aside0 (Below w.heap.size w ((w46.setCell ⟨gb656, 0, none⟩ (.int .i64 t653)).setCell ⟨gb656, 1, none⟩ (.int .i64 t654))) := ⟨by repeat (first | (with_reducible first | exact HB.out | apply below_alloc | apply pw_below_drewN | apply below_drew1 | refine below_set ?_ GE656.out) | exact HB.out)⟩
                                      (try clear HO_5)
                                      (try clear HO_6)
                                      (try clear HO652)
                                      (try clear BK656)
                                      (try clear HB)
                                      generalize ((w46.setCell ⟨gb656, 0, none⟩ (.int .i64 t653)).setCell ⟨gb656, 1, none⟩ (.int .i64 t654)) = w60 at n0_ n1_ n2_ n3_ n4_ ⊢
                                      have HO_5 := n0_
                                      have HO_6 := n1_
                                      have HO652 := n2_
                                      have BK656 := n3_
                                      have HB := n4_
                                      clear n0_ n1_ n2_ n3_ n4_
                                      replace HO_5 := Aside0.mk (Kd.R_drew HO_5.out); replace HO_6 := Aside0.mk (Kd.R_drew HO_6.out); replace HO652 := Aside0.mk (Kd.R_drew HO652.out); replace BK656 := Aside0.mk (blk_drew BK656.out); replace HB := Aside0.mk (below_drew1 HB.out)
                                      refine start_ (n := 26) (S := fun w' => w'.cell? ⟨gb656, 0, none⟩ = some (.int .i64 t653) ∧ w'.cell? ⟨gb656, 1, none⟩ = some (.int .i64 t654)) (ds := []) #[false, false, false, false, false, false, false, false, false, false, false, false, false, false, false, false, false, false, false, false, false, false, false, false, false, false] (by kernel_rfl) rfl rfl ⟨(blk_cell BK656.out 0).trans rfl, (blk_cell BK656.out 1).trans rfl⟩ (fun hHeld => ?_); refine with_tabW glidepathlaw02_LineWithin.tab17 glidepathlaw02_LineWithin.bits17 (fun HT_ HW_ => ?_)
                                      generalize w60.drew = w61 at HO_5 HO_6 HO652 BK656 HB hHeld ⊢
                                      refine pureZ (i := 0) (N := some 80) (bs 26 1) HT_ ?_
                                      refine pureZ (i := 1) (N := some 81) (bs 26 3) HT_ ?_
                                      refine pureZ (i := 2) (N := some 82) (bs 26 7) HT_ ?_
                                      refine take_ (i := 3) (N := some 83) (v := ?_) (a' := ?_) (bs 26 15) rfl rfl (take_ofW HT_.out HW_.out (by kernel_rfl)) (fun _ _ _ h => h) (Or.inl ⟨by rfl, ?_⟩) hHeld ?_ ?_
                                      rotate_left
                                      · rintro w' ⟨s0, s1⟩
                                        go_simp
                                        with_reducible rfl
                                      rotate_left
                                      · exact pz
                                      refine one_ (i := 4) (N := some 84) (bs 26 31) rfl rfl (one_of HT_.out (by kernel_rfl)) (by decide) (fun K hK => ?_)
                                      refine goes_ Tryd.func35 (by kernel_rfl) rfl #[.agg #[.int .i64 t653, .int .i64 t654]] (by rfl) rfl rfl mz ?_
                                      with_reducible refine (glidepathbase_IsLowest.calls k4 t653 t654 true _ A49.out).mono ?_
                                      rintro e w62 ⟨rfl, hb⟩
                                      refine ⟨_, rfl, ?_⟩
                                      replace HO_5 := rb HO_5 hb; replace HO_6 := rb HO_6 hb; replace HO652 := rb HO652 hb; replace BK656 := bb BK656 hb; replace HB := sb HB hb
                                      (try clear hb)
                                      (try clear hb2)
                                      (try clear hk)
                                      (try clear hi)
                                      refine hK.out _ _ ⟨(blk_cell BK656.out 0).trans rfl, (blk_cell BK656.out 1).trans rfl⟩ (fun hHeld => ?_)
                                      clear hK K
                                      refine norm_ (a' := ?_) ?_ ?_
                                      rotate_left
                                      · show Act.put _ (some 84) _ = _
                                        exact pz
                                      refine pureZ (i := 5) (N := some 85) (bs 26 63) HT_ ?_
                                      refine pureZ (i := 6) (N := some 86) (bs 26 127) HT_ ?_
                                      refine pureZ (i := 7) (N := some 87) (bs 26 255) HT_ ?_
                                      refine take_ (i := 8) (N := some 88) (v := ?_) (a' := ?_) (bs 26 511) rfl rfl (take_ofW HT_.out HW_.out (by kernel_rfl)) (fun _ _ _ h => h) (Or.inl ⟨by rfl, ?_⟩) hHeld ?_ ?_
                                      rotate_left
                                      · rintro w' ⟨s0, s1⟩
                                        go_simp
                                        with_reducible rfl
                                      rotate_left
                                      · exact pz
                                      refine one_ (i := 9) (N := some 89) (bs 26 1023) rfl rfl (one_of HT_.out (by kernel_rfl)) (by decide) (fun K hK => ?_)
                                      refine goes_ Tryd.func36 (by kernel_rfl) rfl #[.agg #[.int .i64 t653, .int .i64 t654]] (by rfl) rfl rfl mz ?_
                                      with_reducible refine (glidepathbase_IsSmall.calls t653 t654 true _ A51.out).mono ?_
                                      rintro e w63 ⟨rfl, hb⟩
                                      refine ⟨_, rfl, ?_⟩
                                      replace HO_5 := rb HO_5 hb; replace HO_6 := rb HO_6 hb; replace HO652 := rb HO652 hb; replace BK656 := bb BK656 hb; replace HB := sb HB hb
                                      (try clear hb)
                                      (try clear hb2)
                                      (try clear hk)
                                      (try clear hi)
                                      refine hK.out _ _ ⟨(blk_cell BK656.out 0).trans rfl, (blk_cell BK656.out 1).trans rfl⟩ (fun hHeld => ?_)
                                      clear hK K
                                      refine norm_ (a' := ?_) ?_ ?_
                                      rotate_left
                                      · show Act.put _ (some 89) _ = _
                                        exact pz
                                      refine pureZ (i := 10) (N := some 90) (bs 26 2047) HT_ ?_
                                      refine pureZ (i := 11) (N := some 91) (bs 26 4095) HT_ ?_
                                      refine pureZ (i := 12) (N := some 92) (bs 26 8191) HT_ ?_
                                      refine pureZ (i := 13) (N := some 93) (bs 26 16383) HT_ ?_
                                      refine take_ (i := 14) (N := some 94) (v := ?_) (a' := ?_) (bs 26 32767) rfl rfl (take_ofW HT_.out HW_.out (by kernel_rfl)) (fun _ _ _ h => h) (Or.inl ⟨by rfl, ?_⟩) hHeld ?_ ?_
                                      rotate_left
                                      · rintro w' ⟨s0, s1⟩
                                        go_simp
                                        with_reducible rfl
                                      rotate_left
                                      · exact pz
                                      refine pureZ (i := 15) (N := some 95) (bs 26 65535) HT_ ?_
                                      refine pureZ (i := 16) (N := some 96) (bs 26 131071) HT_ ?_
                                      refine pureZ (i := 17) (N := some 97) (bs 26 262143) HT_ ?_
                                      refine pureZ (i := 19) (N := some 99) (bs 26 786431) HT_ ?_
                                      refine pureZ (i := 20) (N := some 100) (bs 26 1835007) HT_ ?_
                                      refine pureZ (i := 21) (N := some 101) (bs 26 3932159) HT_ ?_
                                      refine take_ (i := 18) (N := some 98) (v := ?_) (a' := ?_) (bs 26 4194303) rfl rfl (take_ofW HT_.out HW_.out (by kernel_rfl)) (fun _ _ _ h => h) (Or.inl ⟨by rfl, ?_⟩) hHeld ?_ ?_
                                      rotate_left
                                      · rintro w' ⟨s0, s1⟩
                                        go_simp
                                        with_reducible rfl
                                      rotate_left
                                      · exact pz
                                      refine one_ (i := 22) (N := some 102) (bs 26 8388607) rfl rfl (one_of HT_.out (by kernel_rfl)) (by decide) (fun K hK => ?_)
                                      refine goes_ Tryd.func38 (by kernel_rfl) rfl #[.int .i64 (wrap64 ((l0.length : Int) - 1))] (by rfl) rfl rfl mz ?_
                                      with_reducible refine (glidepathbase_Whole.calls (wrap64 ((l0.length : Int) - 1)) t659 t660 _ A58.out).mono ?_
                                      rintro e w64 ⟨rfl, hb⟩
                                      refine ⟨_, rfl, ?_⟩
                                      replace HO_5 := rb HO_5 hb; replace HO_6 := rb HO_6 hb; replace HO652 := rb HO652 hb; replace BK656 := bb BK656 hb; replace HB := sb HB hb
                                      (try clear hb)
                                      (try clear hb2)
                                      (try clear hk)
                                      (try clear hi)
                                      refine hK.out _ _ ⟨(blk_cell BK656.out 0).trans rfl, (blk_cell BK656.out 1).trans rfl⟩ (fun hHeld => ?_)
                                      clear hK K
                                      refine norm_ (a' := ?_) ?_ ?_
                                      rotate_left
                                      · show Act.put _ (some 102) _ = _
                                        exact pz
                                      refine one_ (i := 23) (N := some 103) (bs 26 16777215) rfl rfl (one_of HT_.out (by kernel_rfl)) (by decide) (fun K hK => ?_)
                                      refine goes_ Tryd.func37 (by kernel_rfl) rfl #[.agg #[.int .i64 t653, .int .i64 t654], .agg #[.int .i64 t659, .int .i64 t660]] (by rfl) rfl rfl mz ?_
                                      with_reducible refine (glidepathbase_Cmp.calls t653 t654 t659 t660 t661 _ A59.out).mono ?_
                                      rintro e w65 ⟨rfl, hb⟩
                                      refine ⟨_, rfl, ?_⟩
                                      replace HO_5 := rb HO_5 hb; replace HO_6 := rb HO_6 hb; replace HO652 := rb HO652 hb; replace BK656 := bb BK656 hb; replace HB := sb HB hb
                                      (try clear hb)
                                      (try clear hb2)
                                      (try clear hk)
                                      (try clear hi)
                                      refine hK.out _ _ ⟨(blk_cell BK656.out 0).trans rfl, (blk_cell BK656.out 1).trans rfl⟩ (fun hHeld => ?_)
                                      clear hK K
                                      refine norm_ (a' := ?_) ?_ ?_
                                      rotate_left
                                      · show Act.put _ (some 103) _ = _
                                        exact pz
                                      refine pureZ (i := 24) (N := some 104) (bs 26 33554431) HT_ ?_
                                      refine pureZ (i := 25) (N := some 105) (bs 26 67108863) HT_ ?_
                                      refine done_ (done_of HT_.out (by kernel_rfl)) ?_
                                      try go_wp2
                                      go_meet
                                      case rel => exact ⟨_, (decide (t661 > 0)), (by first | rfl | (simp; done) | (simp [*]; done)), H', ⟨by have := HJ4.out; have := HK2.out; have := HJ31.out; have := HK4.out; first | omega | exact Nat.le_refl _⟩, ⟨by (with_reducible repeat (first | apply Kd.R_alloc | apply Kd.R_drewN | apply Kd.R_drew)); exact Kd.R_mono HO_5.out (fun _ hk => hk.1)⟩, ⟨by (with_reducible repeat (first | apply Kd.R_alloc | apply Kd.R_drewN | apply Kd.R_drew)); exact Kd.R_mono HO_6.out (fun _ hk => hk.1)⟩, ⟨by (with_reducible repeat (first | refine blk_drewN ?_ _ | refine blk_drew ?_ | refine blk_alloc ?_ _)); exact BK656.out⟩, ⟨by repeat (first | (with_reducible first | exact HB.out | apply below_alloc | apply pw_below_drewN | apply below_drew1 | refine below_set ?_ GE656.out) | exact HB.out)⟩⟩
                                  · replace c52 := Bool.eq_false_iff.mpr c52
                                    subst c52
                                    rw [if_neg (show ¬ (false = true) by decide)] at H
                                    have H' := Aside0.mk H
                                    clear H
                                    try go_wp2
                                    have n0_ : Aside0 (Kd.R (Kd.int .i64) 3 ((w46.setCell ⟨gb656, 0, none⟩ (.int .i64 t653)).setCell ⟨gb656, 1, none⟩ (.int .i64 t654)) w.heap.size (fun k_ => some k_ ≠ (u6 : Value).ownBlock ∧ some k_ ≠ (.slice Ao44 t650.length co44 : Value).ownBlock) u5 x5_2) := ⟨by (with_reducible repeat (first | apply Kd.R_alloc | apply Kd.R_drewN | apply Kd.R_drew)); exact Kd.R_mono (Kd.R_far (p := ⟨gb656, 1, none⟩) (Kd.R_far (p := ⟨gb656, 0, none⟩) (Kd.R_types HO_5.out BK656.out (by decide)) (fun _ hk => hk.2) (.int .i64 t653)) (fun _ hk => hk.2) (.int .i64 t654)) (fun _ hk => ⟨hk.1.1, hk.1.2⟩)⟩
                                    have n1_ : Aside0 (Kd.R (Kd.int .i64) 3 ((w46.setCell ⟨gb656, 0, none⟩ (.int .i64 t653)).setCell ⟨gb656, 1, none⟩ (.int .i64 t654)) w.heap.size (fun k_ => some k_ ≠ (u5 : Value).ownBlock ∧ some k_ ≠ (.slice Ao44 t650.length co44 : Value).ownBlock) u6 x6_2) := ⟨by (with_reducible repeat (first | apply Kd.R_alloc | apply Kd.R_drewN | apply Kd.R_drew)); exact Kd.R_mono (Kd.R_far (p := ⟨gb656, 1, none⟩) (Kd.R_far (p := ⟨gb656, 0, none⟩) (Kd.R_types HO_6.out BK656.out (by decide)) (fun _ hk => hk.2) (.int .i64 t653)) (fun _ hk => hk.2) (.int .i64 t654)) (fun _ hk => ⟨hk.1.1, hk.1.2⟩)⟩
                                    have n2_ : Aside0 (Kd.R (Kd.int .i64) 3 ((w46.setCell ⟨gb656, 0, none⟩ (.int .i64 t653)).setCell ⟨gb656, 1, none⟩ (.int .i64 t654)) w.heap.size (fun k_ => some k_ ≠ (u5 : Value).ownBlock ∧ some k_ ≠ (u6 : Value).ownBlock) (.slice Ao44 t650.length co44) t650) := ⟨by (with_reducible repeat (first | apply Kd.R_alloc | apply Kd.R_drewN | apply Kd.R_drew)); exact Kd.R_mono (Kd.R_far (p := ⟨gb656, 1, none⟩) (Kd.R_far (p := ⟨gb656, 0, none⟩) (Kd.R_types HO652.out BK656.out (by decide)) (fun _ hk => hk.2) (.int .i64 t653)) (fun _ hk => hk.2) (.int .i64 t654)) (fun _ hk => ⟨hk.1.1.2, hk.1.2⟩)⟩
                                    have n3_ : Aside0 (((w46.setCell ⟨gb656, 0, none⟩ (.int .i64 t653)).setCell ⟨gb656, 1, none⟩ (.int .i64 t654)).heap[gb656]? = some (.cells #[.int .i64 t653, .int .i64 t654] 26 (0, 0))) := ⟨by (with_reducible repeat (first | refine blk_drewN ?_ _ | refine blk_drew ?_ | refine blk_alloc ?_ _)); refine blk_put (cs := #[.int .i64 t653, .int .i64 0]) ?_ 1 _ rfl; (with_reducible repeat (first | refine blk_drewN ?_ _ | refine blk_drew ?_ | refine blk_alloc ?_ _)); refine blk_put (cs := #[.int .i64 0, .int .i64 0]) ?_ 0 _ rfl; (with_reducible repeat (first | refine blk_drewN ?_ _ | refine blk_drew ?_ | refine blk_alloc ?_ _)); exact BK656.out⟩
                                    have n4_ : Aside0 (Below w.heap.size w ((w46.setCell ⟨gb656, 0, none⟩ (.int .i64 t653)).setCell ⟨gb656, 1, none⟩ (.int .i64 t654))) := ⟨by repeat (first | (with_reducible first | exact HB.out | apply below_alloc | apply pw_below_drewN | apply below_drew1 | refine below_set ?_ GE656.out) | exact HB.out)⟩
                                    (try clear HO_5)
                                    (try clear HO_6)
                                    (try clear HO652)
                                    (try clear BK656)
                                    (try clear HB)
                                    generalize ((w46.setCell ⟨gb656, 0, none⟩ (.int .i64 t653)).setCell ⟨gb656, 1, none⟩ (.int .i64 t654)) = w66 at n0_ n1_ n2_ n3_ n4_ ⊢
                                    have HO_5 := n0_
                                    have HO_6 := n1_
                                    have HO652 := n2_
                                    have BK656 := n3_
                                    have HB := n4_
                                    clear n0_ n1_ n2_ n3_ n4_
                                    replace HO_5 := Aside0.mk (Kd.R_drew HO_5.out); replace HO_6 := Aside0.mk (Kd.R_drew HO_6.out); replace HO652 := Aside0.mk (Kd.R_drew HO652.out); replace BK656 := Aside0.mk (blk_drew BK656.out); replace HB := Aside0.mk (below_drew1 HB.out)
                                    refine start_ (n := 26) (S := fun w' => w'.cell? ⟨gb656, 0, none⟩ = some (.int .i64 t653) ∧ w'.cell? ⟨gb656, 1, none⟩ = some (.int .i64 t654)) (ds := []) #[false, false, false, false, false, false, false, false, false, false, false, false, false, false, false, false, false, false, false, false, false, false, false, false, false, false] (by kernel_rfl) rfl rfl ⟨(blk_cell BK656.out 0).trans rfl, (blk_cell BK656.out 1).trans rfl⟩ (fun hHeld => ?_); refine with_tabW glidepathlaw02_LineWithin.tab17 glidepathlaw02_LineWithin.bits17 (fun HT_ HW_ => ?_)
                                    generalize w66.drew = w67 at HO_5 HO_6 HO652 BK656 HB hHeld ⊢
                                    refine pureZ (i := 0) (N := some 80) (bs 26 1) HT_ ?_
                                    refine pureZ (i := 1) (N := some 81) (bs 26 3) HT_ ?_
                                    refine pureZ (i := 2) (N := some 82) (bs 26 7) HT_ ?_
                                    refine take_ (i := 3) (N := some 83) (v := ?_) (a' := ?_) (bs 26 15) rfl rfl (take_ofW HT_.out HW_.out (by kernel_rfl)) (fun _ _ _ h => h) (Or.inl ⟨by rfl, ?_⟩) hHeld ?_ ?_
                                    rotate_left
                                    · rintro w' ⟨s0, s1⟩
                                      go_simp
                                      with_reducible rfl
                                    rotate_left
                                    · exact pz
                                    refine one_ (i := 4) (N := some 84) (bs 26 31) rfl rfl (one_of HT_.out (by kernel_rfl)) (by decide) (fun K hK => ?_)
                                    refine goes_ Tryd.func35 (by kernel_rfl) rfl #[.agg #[.int .i64 t653, .int .i64 t654]] (by rfl) rfl rfl mz ?_
                                    with_reducible refine (glidepathbase_IsLowest.calls k4 t653 t654 true _ A49.out).mono ?_
                                    rintro e w68 ⟨rfl, hb⟩
                                    refine ⟨_, rfl, ?_⟩
                                    replace HO_5 := rb HO_5 hb; replace HO_6 := rb HO_6 hb; replace HO652 := rb HO652 hb; replace BK656 := bb BK656 hb; replace HB := sb HB hb
                                    (try clear hb)
                                    (try clear hb2)
                                    (try clear hk)
                                    (try clear hi)
                                    refine hK.out _ _ ⟨(blk_cell BK656.out 0).trans rfl, (blk_cell BK656.out 1).trans rfl⟩ (fun hHeld => ?_)
                                    clear hK K
                                    refine norm_ (a' := ?_) ?_ ?_
                                    rotate_left
                                    · show Act.put _ (some 84) _ = _
                                      exact pz
                                    refine pureZ (i := 5) (N := some 85) (bs 26 63) HT_ ?_
                                    refine pureZ (i := 6) (N := some 86) (bs 26 127) HT_ ?_
                                    refine pureZ (i := 7) (N := some 87) (bs 26 255) HT_ ?_
                                    refine take_ (i := 8) (N := some 88) (v := ?_) (a' := ?_) (bs 26 511) rfl rfl (take_ofW HT_.out HW_.out (by kernel_rfl)) (fun _ _ _ h => h) (Or.inl ⟨by rfl, ?_⟩) hHeld ?_ ?_
                                    rotate_left
                                    · rintro w' ⟨s0, s1⟩
                                      go_simp
                                      with_reducible rfl
                                    rotate_left
                                    · exact pz
                                    refine one_ (i := 9) (N := some 89) (bs 26 1023) rfl rfl (one_of HT_.out (by kernel_rfl)) (by decide) (fun K hK => ?_)
                                    refine goes_ Tryd.func36 (by kernel_rfl) rfl #[.agg #[.int .i64 t653, .int .i64 t654]] (by rfl) rfl rfl mz ?_
                                    with_reducible refine (glidepathbase_IsSmall.calls t653 t654 false _ A51.out).mono ?_
                                    rintro e w69 ⟨rfl, hb⟩
                                    refine ⟨_, rfl, ?_⟩
                                    replace HO_5 := rb HO_5 hb; replace HO_6 := rb HO_6 hb; replace HO652 := rb HO652 hb; replace BK656 := bb BK656 hb; replace HB := sb HB hb
                                    (try clear hb)
                                    (try clear hb2)
                                    (try clear hk)
                                    (try clear hi)
                                    refine hK.out _ _ ⟨(blk_cell BK656.out 0).trans rfl, (blk_cell BK656.out 1).trans rfl⟩ (fun hHeld => ?_)
                                    clear hK K
                                    refine norm_ (a' := ?_) ?_ ?_
                                    rotate_left
                                    · show Act.put _ (some 89) _ = _
                                      exact pz
                                    refine pureZ (i := 10) (N := some 90) (bs 26 2047) HT_ ?_
                                    refine pureZ (i := 11) (N := some 91) (bs 26 4095) HT_ ?_
                                    refine pureZ (i := 12) (N := some 92) (bs 26 8191) HT_ ?_
                                    refine pure_ (i := 13) (N := some 93) (v := undef) (a' := ?_) (bs 26 16383) rfl rfl (any_of HT_.out (by kernel_rfl)) (fun _ _ _ h => h) (Or.inr ⟨by rfl, rfl⟩) ?_ ?_
                                    rotate_left
                                    · exact pz
                                    refine pure_ (i := 14) (N := some 94) (v := undef) (a' := ?_) (bs 26 32767) rfl rfl (any_of HT_.out (by kernel_rfl)) (fun _ _ _ h => h) (Or.inr ⟨by rfl, rfl⟩) ?_ ?_
                                    rotate_left
                                    · exact pz
                                    refine pure_ (i := 15) (N := some 95) (v := undef) (a' := ?_) (bs 26 65535) rfl rfl (any_of HT_.out (by kernel_rfl)) (fun _ _ _ h => h) (Or.inr ⟨by rfl, rfl⟩) ?_ ?_
                                    rotate_left
                                    · exact pz
                                    refine pureZ (i := 16) (N := some 96) (bs 26 131071) HT_ ?_
                                    refine pureZ (i := 17) (N := some 97) (bs 26 262143) HT_ ?_
                                    refine pure_ (i := 18) (N := some 98) (v := undef) (a' := ?_) (bs 26 524287) rfl rfl (any_of HT_.out (by kernel_rfl)) (fun _ _ _ h => h) (Or.inr ⟨by rfl, rfl⟩) ?_ ?_
                                    rotate_left
                                    · exact pz
                                    refine pure_ (i := 19) (N := some 99) (v := undef) (a' := ?_) (bs 26 1048575) rfl rfl (any_of HT_.out (by kernel_rfl)) (fun _ _ _ h => h) (Or.inr ⟨by rfl, rfl⟩) ?_ ?_
                                    rotate_left
                                    · exact pz
                                    refine pure_ (i := 20) (N := some 100) (v := undef) (a' := ?_) (bs 26 2097151) rfl rfl (any_of HT_.out (by kernel_rfl)) (fun _ _ _ h => h) (Or.inr ⟨by rfl, rfl⟩) ?_ ?_
                                    rotate_left
                                    · exact pz
                                    refine pure_ (i := 21) (N := some 101) (v := undef) (a' := ?_) (bs 26 4194303) rfl rfl (any_of HT_.out (by kernel_rfl)) (fun _ _ _ h => h) (Or.inr ⟨by rfl, rfl⟩) ?_ ?_
                                    rotate_left
                                    · exact pz
                                    refine pure_ (i := 22) (N := some 102) (v := undef) (a' := ?_) (bs 26 8388607) rfl rfl (any_of HT_.out (by kernel_rfl)) (fun _ _ _ h => h) (Or.inr ⟨by rfl, rfl⟩) ?_ ?_
                                    rotate_left
                                    · exact pz
                                    refine pure_ (i := 23) (N := some 103) (v := undef) (a' := ?_) (bs 26 16777215) rfl rfl (any_of HT_.out (by kernel_rfl)) (fun _ _ _ h => h) (Or.inr ⟨by rfl, rfl⟩) ?_ ?_
                                    rotate_left
                                    · exact pz
                                    refine pure_ (i := 24) (N := some 104) (v := undef) (a' := ?_) (bs 26 33554431) rfl rfl (any_of HT_.out (by kernel_rfl)) (fun _ _ _ h => h) (Or.inr ⟨by rfl, rfl⟩) ?_ ?_
                                    rotate_left
                                    · exact pz
                                    refine pureZ (i := 25) (N := some 105) (bs 26 67108863) HT_ ?_
                                    refine done_ (done_of HT_.out (by kernel_rfl)) ?_
                                    try go_wp2
                                    go_meet
                                    case rel => exact ⟨_, (true), (by first | rfl | (simp; done) | (simp [*]; done)), H', ⟨by have := HJ4.out; have := HK2.out; have := HJ31.out; have := HK4.out; first | omega | exact Nat.le_refl _⟩, ⟨by (with_reducible repeat (first | apply Kd.R_alloc | apply Kd.R_drewN | apply Kd.R_drew)); exact Kd.R_mono HO_5.out (fun _ hk => hk.1)⟩, ⟨by (with_reducible repeat (first | apply Kd.R_alloc | apply Kd.R_drewN | apply Kd.R_drew)); exact Kd.R_mono HO_6.out (fun _ hk => hk.1)⟩, ⟨by (with_reducible repeat (first | refine blk_drewN ?_ _ | refine blk_drew ?_ | refine blk_alloc ?_ _)); exact BK656.out⟩, ⟨by repeat (first | (with_reducible first | exact HB.out | apply below_alloc | apply pw_below_drewN | apply below_drew1 | refine below_set ?_ GE656.out) | exact HB.out)⟩⟩
                                · replace c50 := Bool.eq_false_iff.mpr c50
                                  subst c50
                                  rw [if_neg (show ¬ (false = true) by decide)] at H
                                  have H' := Aside0.mk H
                                  clear H
                                  try go_wp2
                                  have n0_ : Aside0 (Kd.R (Kd.int .i64) 3 ((w46.setCell ⟨gb656, 0, none⟩ (.int .i64 t653)).setCell ⟨gb656, 1, none⟩ (.int .i64 t654)) w.heap.size (fun k_ => some k_ ≠ (u6 : Value).ownBlock ∧ some k_ ≠ (.slice Ao44 t650.length co44 : Value).ownBlock) u5 x5_2) := ⟨by (with_reducible repeat (first | apply Kd.R_alloc | apply Kd.R_drewN | apply Kd.R_drew)); exact Kd.R_mono (Kd.R_far (p := ⟨gb656, 1, none⟩) (Kd.R_far (p := ⟨gb656, 0, none⟩) (Kd.R_types HO_5.out BK656.out (by decide)) (fun _ hk => hk.2) (.int .i64 t653)) (fun _ hk => hk.2) (.int .i64 t654)) (fun _ hk => ⟨hk.1.1, hk.1.2⟩)⟩
                                  have n1_ : Aside0 (Kd.R (Kd.int .i64) 3 ((w46.setCell ⟨gb656, 0, none⟩ (.int .i64 t653)).setCell ⟨gb656, 1, none⟩ (.int .i64 t654)) w.heap.size (fun k_ => some k_ ≠ (u5 : Value).ownBlock ∧ some k_ ≠ (.slice Ao44 t650.length co44 : Value).ownBlock) u6 x6_2) := ⟨by (with_reducible repeat (first | apply Kd.R_alloc | apply Kd.R_drewN | apply Kd.R_drew)); exact Kd.R_mono (Kd.R_far (p := ⟨gb656, 1, none⟩) (Kd.R_far (p := ⟨gb656, 0, none⟩) (Kd.R_types HO_6.out BK656.out (by decide)) (fun _ hk => hk.2) (.int .i64 t653)) (fun _ hk => hk.2) (.int .i64 t654)) (fun _ hk => ⟨hk.1.1, hk.1.2⟩)⟩
                                  have n2_ : Aside0 (Kd.R (Kd.int .i64) 3 ((w46.setCell ⟨gb656, 0, none⟩ (.int .i64 t653)).setCell ⟨gb656, 1, none⟩ (.int .i64 t654)) w.heap.size (fun k_ => some k_ ≠ (u5 : Value).ownBlock ∧ some k_ ≠ (u6 : Value).ownBlock) (.slice Ao44 t650.length co44) t650) := ⟨by (with_reducible repeat (first | apply Kd.R_alloc | apply Kd.R_drewN | apply Kd.R_drew)); exact Kd.R_mono (Kd.R_far (p := ⟨gb656, 1, none⟩) (Kd.R_far (p := ⟨gb656, 0, none⟩) (Kd.R_types HO652.out BK656.out (by decide)) (fun _ hk => hk.2) (.int .i64 t653)) (fun _ hk => hk.2) (.int .i64 t654)) (fun _ hk => ⟨hk.1.1.2, hk.1.2⟩)⟩
                                  have n3_ : Aside0 (((w46.setCell ⟨gb656, 0, none⟩ (.int .i64 t653)).setCell ⟨gb656, 1, none⟩ (.int .i64 t654)).heap[gb656]? = some (.cells #[.int .i64 t653, .int .i64 t654] 26 (0, 0))) := ⟨by (with_reducible repeat (first | refine blk_drewN ?_ _ | refine blk_drew ?_ | refine blk_alloc ?_ _)); refine blk_put (cs := #[.int .i64 t653, .int .i64 0]) ?_ 1 _ rfl; (with_reducible repeat (first | refine blk_drewN ?_ _ | refine blk_drew ?_ | refine blk_alloc ?_ _)); refine blk_put (cs := #[.int .i64 0, .int .i64 0]) ?_ 0 _ rfl; (with_reducible repeat (first | refine blk_drewN ?_ _ | refine blk_drew ?_ | refine blk_alloc ?_ _)); exact BK656.out⟩
                                  have n4_ : Aside0 (Below w.heap.size w ((w46.setCell ⟨gb656, 0, none⟩ (.int .i64 t653)).setCell ⟨gb656, 1, none⟩ (.int .i64 t654))) := ⟨by repeat (first | (with_reducible first | exact HB.out | apply below_alloc | apply pw_below_drewN | apply below_drew1 | refine below_set ?_ GE656.out) | exact HB.out)⟩
                                  (try clear HO_5)
                                  (try clear HO_6)
                                  (try clear HO652)
                                  (try clear BK656)
                                  (try clear HB)
                                  generalize ((w46.setCell ⟨gb656, 0, none⟩ (.int .i64 t653)).setCell ⟨gb656, 1, none⟩ (.int .i64 t654)) = w70 at n0_ n1_ n2_ n3_ n4_ ⊢
                                  have HO_5 := n0_
                                  have HO_6 := n1_
                                  have HO652 := n2_
                                  have BK656 := n3_
                                  have HB := n4_
                                  clear n0_ n1_ n2_ n3_ n4_
                                  replace HO_5 := Aside0.mk (Kd.R_drew HO_5.out); replace HO_6 := Aside0.mk (Kd.R_drew HO_6.out); replace HO652 := Aside0.mk (Kd.R_drew HO652.out); replace BK656 := Aside0.mk (blk_drew BK656.out); replace HB := Aside0.mk (below_drew1 HB.out)
                                  refine start_ (n := 26) (S := fun w' => w'.cell? ⟨gb656, 0, none⟩ = some (.int .i64 t653) ∧ w'.cell? ⟨gb656, 1, none⟩ = some (.int .i64 t654)) (ds := []) #[false, false, false, false, false, false, false, false, false, false, false, false, false, false, false, false, false, false, false, false, false, false, false, false, false, false] (by kernel_rfl) rfl rfl ⟨(blk_cell BK656.out 0).trans rfl, (blk_cell BK656.out 1).trans rfl⟩ (fun hHeld => ?_); refine with_tabW glidepathlaw02_LineWithin.tab17 glidepathlaw02_LineWithin.bits17 (fun HT_ HW_ => ?_)
                                  generalize w70.drew = w71 at HO_5 HO_6 HO652 BK656 HB hHeld ⊢
                                  refine pureZ (i := 0) (N := some 80) (bs 26 1) HT_ ?_
                                  refine pureZ (i := 1) (N := some 81) (bs 26 3) HT_ ?_
                                  refine pureZ (i := 2) (N := some 82) (bs 26 7) HT_ ?_
                                  refine take_ (i := 3) (N := some 83) (v := ?_) (a' := ?_) (bs 26 15) rfl rfl (take_ofW HT_.out HW_.out (by kernel_rfl)) (fun _ _ _ h => h) (Or.inl ⟨by rfl, ?_⟩) hHeld ?_ ?_
                                  rotate_left
                                  · rintro w' ⟨s0, s1⟩
                                    go_simp
                                    with_reducible rfl
                                  rotate_left
                                  · exact pz
                                  refine one_ (i := 4) (N := some 84) (bs 26 31) rfl rfl (one_of HT_.out (by kernel_rfl)) (by decide) (fun K hK => ?_)
                                  refine goes_ Tryd.func35 (by kernel_rfl) rfl #[.agg #[.int .i64 t653, .int .i64 t654]] (by rfl) rfl rfl mz ?_
                                  with_reducible refine (glidepathbase_IsLowest.calls k4 t653 t654 false _ A49.out).mono ?_
                                  rintro e w72 ⟨rfl, hb⟩
                                  refine ⟨_, rfl, ?_⟩
                                  replace HO_5 := rb HO_5 hb; replace HO_6 := rb HO_6 hb; replace HO652 := rb HO652 hb; replace BK656 := bb BK656 hb; replace HB := sb HB hb
                                  (try clear hb)
                                  (try clear hb2)
                                  (try clear hk)
                                  (try clear hi)
                                  refine hK.out _ _ ⟨(blk_cell BK656.out 0).trans rfl, (blk_cell BK656.out 1).trans rfl⟩ (fun hHeld => ?_)
                                  clear hK K
                                  refine norm_ (a' := ?_) ?_ ?_
                                  rotate_left
                                  · show Act.put _ (some 84) _ = _
                                    exact pz
                                  refine pureZ (i := 5) (N := some 85) (bs 26 63) HT_ ?_
                                  refine pureZ (i := 6) (N := some 86) (bs 26 127) HT_ ?_
                                  refine pureZ (i := 7) (N := some 87) (bs 26 255) HT_ ?_
                                  refine pure_ (i := 8) (N := some 88) (v := undef) (a' := ?_) (bs 26 511) rfl rfl (any_of HT_.out (by kernel_rfl)) (fun _ _ _ h => h) (Or.inr ⟨by rfl, rfl⟩) ?_ ?_
                                  rotate_left
                                  · exact pz
                                  refine pure_ (i := 9) (N := some 89) (v := undef) (a' := ?_) (bs 26 1023) rfl rfl (any_of HT_.out (by kernel_rfl)) (fun _ _ _ h => h) (Or.inr ⟨by rfl, rfl⟩) ?_ ?_
                                  rotate_left
                                  · exact pz
                                  refine pure_ (i := 10) (N := some 90) (v := undef) (a' := ?_) (bs 26 2047) rfl rfl (any_of HT_.out (by kernel_rfl)) (fun _ _ _ h => h) (Or.inr ⟨by rfl, rfl⟩) ?_ ?_
                                  rotate_left
                                  · exact pz
                                  refine pureZ (i := 11) (N := some 91) (bs 26 4095) HT_ ?_
                                  refine pureZ (i := 12) (N := some 92) (bs 26 8191) HT_ ?_
                                  refine pure_ (i := 13) (N := some 93) (v := undef) (a' := ?_) (bs 26 16383) rfl rfl (any_of HT_.out (by kernel_rfl)) (fun _ _ _ h => h) (Or.inr ⟨by rfl, rfl⟩) ?_ ?_
                                  rotate_left
                                  · exact pz
                                  refine pure_ (i := 14) (N := some 94) (v := undef) (a' := ?_) (bs 26 32767) rfl rfl (any_of HT_.out (by kernel_rfl)) (fun _ _ _ h => h) (Or.inr ⟨by rfl, rfl⟩) ?_ ?_
                                  rotate_left
                                  · exact pz
                                  refine pure_ (i := 15) (N := some 95) (v := undef) (a' := ?_) (bs 26 65535) rfl rfl (any_of HT_.out (by kernel_rfl)) (fun _ _ _ h => h) (Or.inr ⟨by rfl, rfl⟩) ?_ ?_
                                  rotate_left
                                  · exact pz
                                  refine pureZ (i := 16) (N := some 96) (bs 26 131071) HT_ ?_
                                  refine pureZ (i := 17) (N := some 97) (bs 26 262143) HT_ ?_
                                  refine pure_ (i := 18) (N := some 98) (v := undef) (a' := ?_) (bs 26 524287) rfl rfl (any_of HT_.out (by kernel_rfl)) (fun _ _ _ h => h) (Or.inr ⟨by rfl, rfl⟩) ?_ ?_
                                  rotate_left
                                  · exact pz
                                  refine pure_ (i := 19) (N := some 99) (v := undef) (a' := ?_) (bs 26 1048575) rfl rfl (any_of HT_.out (by kernel_rfl)) (fun _ _ _ h => h) (Or.inr ⟨by rfl, rfl⟩) ?_ ?_
                                  rotate_left
                                  · exact pz
                                  refine pure_ (i := 20) (N := some 100) (v := undef) (a' := ?_) (bs 26 2097151) rfl rfl (any_of HT_.out (by kernel_rfl)) (fun _ _ _ h => h) (Or.inr ⟨by rfl, rfl⟩) ?_ ?_
                                  rotate_left
                                  · exact pz
                                  refine pure_ (i := 21) (N := some 101) (v := undef) (a' := ?_) (bs 26 4194303) rfl rfl (any_of HT_.out (by kernel_rfl)) (fun _ _ _ h => h) (Or.inr ⟨by rfl, rfl⟩) ?_ ?_
                                  rotate_left
                                  · exact pz
                                  refine pure_ (i := 22) (N := some 102) (v := undef) (a' := ?_) (bs 26 8388607) rfl rfl (any_of HT_.out (by kernel_rfl)) (fun _ _ _ h => h) (Or.inr ⟨by rfl, rfl⟩) ?_ ?_
                                  rotate_left
                                  · exact pz
                                  refine pure_ (i := 23) (N := some 103) (v := undef) (a' := ?_) (bs 26 16777215) rfl rfl (any_of HT_.out (by kernel_rfl)) (fun _ _ _ h => h) (Or.inr ⟨by rfl, rfl⟩) ?_ ?_
                                  rotate_left
                                  · exact pz
                                  refine pure_ (i := 24) (N := some 104) (v := undef) (a' := ?_) (bs 26 33554431) rfl rfl (any_of HT_.out (by kernel_rfl)) (fun _ _ _ h => h) (Or.inr ⟨by rfl, rfl⟩) ?_ ?_
                                  rotate_left
                                  · exact pz
                                  refine pureZ (i := 25) (N := some 105) (bs 26 67108863) HT_ ?_
                                  refine done_ (done_of HT_.out (by kernel_rfl)) ?_
                                  try go_wp2
                                  go_meet
                                  case rel => exact ⟨_, (true), (by first | rfl | (simp; done) | (simp [*]; done)), H', ⟨by have := HJ4.out; have := HK2.out; have := HJ31.out; have := HK4.out; first | omega | exact Nat.le_refl _⟩, ⟨by (with_reducible repeat (first | apply Kd.R_alloc | apply Kd.R_drewN | apply Kd.R_drew)); exact Kd.R_mono HO_5.out (fun _ hk => hk.1)⟩, ⟨by (with_reducible repeat (first | apply Kd.R_alloc | apply Kd.R_drewN | apply Kd.R_drew)); exact Kd.R_mono HO_6.out (fun _ hk => hk.1)⟩, ⟨by (with_reducible repeat (first | refine blk_drewN ?_ _ | refine blk_drew ?_ | refine blk_alloc ?_ _)); exact BK656.out⟩, ⟨by repeat (first | (with_reducible first | exact HB.out | apply below_alloc | apply pw_below_drewN | apply below_drew1 | refine below_set ?_ GE656.out) | exact HB.out)⟩⟩
                              · rw [if_neg c48] at H
                                have c48b0 := beq_eq_false_iff_ne.mpr c48
                                have c48b1 := bne_iff_ne.mpr c48
                                (first | rw [c48b0] | (simp only [i64_w, i32_w]; rw [c48b0]) | skip)
                                have H' := Aside0.mk H
                                clear H
                                try go_wp2
                                have n0_ : Aside0 (Kd.R (Kd.int .i64) 3 ((w46.setCell ⟨gb656, 0, none⟩ (.int .i64 t653)).setCell ⟨gb656, 1, none⟩ (.int .i64 t654)) w.heap.size (fun k_ => some k_ ≠ (u6 : Value).ownBlock ∧ some k_ ≠ (.slice Ao44 t650.length co44 : Value).ownBlock) u5 x5_2) := ⟨by (with_reducible repeat (first | apply Kd.R_alloc | apply Kd.R_drewN | apply Kd.R_drew)); exact Kd.R_mono (Kd.R_far (p := ⟨gb656, 1, none⟩) (Kd.R_far (p := ⟨gb656, 0, none⟩) (Kd.R_types HO_5.out BK656.out (by decide)) (fun _ hk => hk.2) (.int .i64 t653)) (fun _ hk => hk.2) (.int .i64 t654)) (fun _ hk => ⟨hk.1.1, hk.1.2⟩)⟩
                                have n1_ : Aside0 (Kd.R (Kd.int .i64) 3 ((w46.setCell ⟨gb656, 0, none⟩ (.int .i64 t653)).setCell ⟨gb656, 1, none⟩ (.int .i64 t654)) w.heap.size (fun k_ => some k_ ≠ (u5 : Value).ownBlock ∧ some k_ ≠ (.slice Ao44 t650.length co44 : Value).ownBlock) u6 x6_2) := ⟨by (with_reducible repeat (first | apply Kd.R_alloc | apply Kd.R_drewN | apply Kd.R_drew)); exact Kd.R_mono (Kd.R_far (p := ⟨gb656, 1, none⟩) (Kd.R_far (p := ⟨gb656, 0, none⟩) (Kd.R_types HO_6.out BK656.out (by decide)) (fun _ hk => hk.2) (.int .i64 t653)) (fun _ hk => hk.2) (.int .i64 t654)) (fun _ hk => ⟨hk.1.1, hk.1.2⟩)⟩
                                have n2_ : Aside0 (Kd.R (Kd.int .i64) 3 ((w46.setCell ⟨gb656, 0, none⟩ (.int .i64 t653)).setCell ⟨gb656, 1, none⟩ (.int .i64 t654)) w.heap.size (fun k_ => some k_ ≠ (u5 : Value).ownBlock ∧ some k_ ≠ (u6 : Value).ownBlock) (.slice Ao44 t650.length co44) t650) := ⟨by (with_reducible repeat (first | apply Kd.R_alloc | apply Kd.R_drewN | apply Kd.R_drew)); exact Kd.R_mono (Kd.R_far (p := ⟨gb656, 1, none⟩) (Kd.R_far (p := ⟨gb656, 0, none⟩) (Kd.R_types HO652.out BK656.out (by decide)) (fun _ hk => hk.2) (.int .i64 t653)) (fun _ hk => hk.2) (.int .i64 t654)) (fun _ hk => ⟨hk.1.1.2, hk.1.2⟩)⟩
                                have n3_ : Aside0 (((w46.setCell ⟨gb656, 0, none⟩ (.int .i64 t653)).setCell ⟨gb656, 1, none⟩ (.int .i64 t654)).heap[gb656]? = some (.cells #[.int .i64 t653, .int .i64 t654] 26 (0, 0))) := ⟨by (with_reducible repeat (first | refine blk_drewN ?_ _ | refine blk_drew ?_ | refine blk_alloc ?_ _)); refine blk_put (cs := #[.int .i64 t653, .int .i64 0]) ?_ 1 _ rfl; (with_reducible repeat (first | refine blk_drewN ?_ _ | refine blk_drew ?_ | refine blk_alloc ?_ _)); refine blk_put (cs := #[.int .i64 0, .int .i64 0]) ?_ 0 _ rfl; (with_reducible repeat (first | refine blk_drewN ?_ _ | refine blk_drew ?_ | refine blk_alloc ?_ _)); exact BK656.out⟩
                                have n4_ : Aside0 (Below w.heap.size w ((w46.setCell ⟨gb656, 0, none⟩ (.int .i64 t653)).setCell ⟨gb656, 1, none⟩ (.int .i64 t654))) := ⟨by repeat (first | (with_reducible first | exact HB.out | apply below_alloc | apply pw_below_drewN | apply below_drew1 | refine below_set ?_ GE656.out) | exact HB.out)⟩
                                (try clear HO_5)
                                (try clear HO_6)
                                (try clear HO652)
                                (try clear BK656)
                                (try clear HB)
                                generalize ((w46.setCell ⟨gb656, 0, none⟩ (.int .i64 t653)).setCell ⟨gb656, 1, none⟩ (.int .i64 t654)) = w73 at n0_ n1_ n2_ n3_ n4_ ⊢
                                have HO_5 := n0_
                                have HO_6 := n1_
                                have HO652 := n2_
                                have BK656 := n3_
                                have HB := n4_
                                clear n0_ n1_ n2_ n3_ n4_
                                replace HO_5 := Aside0.mk (Kd.R_drew HO_5.out); replace HO_6 := Aside0.mk (Kd.R_drew HO_6.out); replace HO652 := Aside0.mk (Kd.R_drew HO652.out); replace BK656 := Aside0.mk (blk_drew BK656.out); replace HB := Aside0.mk (below_drew1 HB.out)
                                refine start_ (n := 26) (S := fun w' => True) (ds := []) #[false, false, false, false, false, false, false, false, false, false, false, false, false, false, false, false, false, false, false, false, false, false, false, false, false, false] (by kernel_rfl) rfl rfl trivial (fun hHeld => ?_); refine with_tabW glidepathlaw02_LineWithin.tab17 glidepathlaw02_LineWithin.bits17 (fun HT_ HW_ => ?_)
                                generalize w73.drew = w74 at HO_5 HO_6 HO652 BK656 HB hHeld ⊢
                                refine pureZ (i := 0) (N := some 80) (bs 26 1) HT_ ?_
                                refine pureZ (i := 1) (N := some 81) (bs 26 3) HT_ ?_
                                refine pureZ (i := 2) (N := some 82) (bs 26 7) HT_ ?_
                                refine pure_ (i := 3) (N := some 83) (v := undef) (a' := ?_) (bs 26 15) rfl rfl (any_of HT_.out (by kernel_rfl)) (fun _ _ _ h => h) (Or.inr ⟨by rfl, rfl⟩) ?_ ?_
                                rotate_left
                                · exact pz
                                refine pure_ (i := 4) (N := some 84) (v := undef) (a' := ?_) (bs 26 31) rfl rfl (any_of HT_.out (by kernel_rfl)) (fun _ _ _ h => h) (Or.inr ⟨by rfl, rfl⟩) ?_ ?_
                                rotate_left
                                · exact pz
                                refine pure_ (i := 5) (N := some 85) (v := undef) (a' := ?_) (bs 26 63) rfl rfl (any_of HT_.out (by kernel_rfl)) (fun _ _ _ h => h) (Or.inr ⟨by rfl, rfl⟩) ?_ ?_
                                rotate_left
                                · exact pz
                                refine pureZ (i := 6) (N := some 86) (bs 26 127) HT_ ?_
                                refine pureZ (i := 7) (N := some 87) (bs 26 255) HT_ ?_
                                refine pure_ (i := 8) (N := some 88) (v := undef) (a' := ?_) (bs 26 511) rfl rfl (any_of HT_.out (by kernel_rfl)) (fun _ _ _ h => h) (Or.inr ⟨by rfl, rfl⟩) ?_ ?_
                                rotate_left
                                · exact pz
                                refine pure_ (i := 9) (N := some 89) (v := undef) (a' := ?_) (bs 26 1023) rfl rfl (any_of HT_.out (by kernel_rfl)) (fun _ _ _ h => h) (Or.inr ⟨by rfl, rfl⟩) ?_ ?_
                                rotate_left
                                · exact pz
                                refine pure_ (i := 10) (N := some 90) (v := undef) (a' := ?_) (bs 26 2047) rfl rfl (any_of HT_.out (by kernel_rfl)) (fun _ _ _ h => h) (Or.inr ⟨by rfl, rfl⟩) ?_ ?_
                                rotate_left
                                · exact pz
                                refine pureZ (i := 11) (N := some 91) (bs 26 4095) HT_ ?_
                                refine pureZ (i := 12) (N := some 92) (bs 26 8191) HT_ ?_
                                refine pure_ (i := 13) (N := some 93) (v := undef) (a' := ?_) (bs 26 16383) rfl rfl (any_of HT_.out (by kernel_rfl)) (fun _ _ _ h => h) (Or.inr ⟨by rfl, rfl⟩) ?_ ?_
                                rotate_left
                                · exact pz
                                refine pure_ (i := 14) (N := some 94) (v := undef) (a' := ?_) (bs 26 32767) rfl rfl (any_of HT_.out (by kernel_rfl)) (fun _ _ _ h => h) (Or.inr ⟨by rfl, rfl⟩) ?_ ?_
                                rotate_left
                                · exact pz
                                refine pure_ (i := 15) (N := some 95) (v := undef) (a' := ?_) (bs 26 65535) rfl rfl (any_of HT_.out (by kernel_rfl)) (fun _ _ _ h => h) (Or.inr ⟨by rfl, rfl⟩) ?_ ?_
                                rotate_left
                                · exact pz
                                refine pureZ (i := 16) (N := some 96) (bs 26 131071) HT_ ?_
                                refine pureZ (i := 17) (N := some 97) (bs 26 262143) HT_ ?_
                                refine pure_ (i := 18) (N := some 98) (v := undef) (a' := ?_) (bs 26 524287) rfl rfl (any_of HT_.out (by kernel_rfl)) (fun _ _ _ h => h) (Or.inr ⟨by rfl, rfl⟩) ?_ ?_
                                rotate_left
                                · exact pz
                                refine pure_ (i := 19) (N := some 99) (v := undef) (a' := ?_) (bs 26 1048575) rfl rfl (any_of HT_.out (by kernel_rfl)) (fun _ _ _ h => h) (Or.inr ⟨by rfl, rfl⟩) ?_ ?_
                                rotate_left
                                · exact pz
                                refine pure_ (i := 20) (N := some 100) (v := undef) (a' := ?_) (bs 26 2097151) rfl rfl (any_of HT_.out (by kernel_rfl)) (fun _ _ _ h => h) (Or.inr ⟨by rfl, rfl⟩) ?_ ?_
                                rotate_left
                                · exact pz
                                refine pure_ (i := 21) (N := some 101) (v := undef) (a' := ?_) (bs 26 4194303) rfl rfl (any_of HT_.out (by kernel_rfl)) (fun _ _ _ h => h) (Or.inr ⟨by rfl, rfl⟩) ?_ ?_
                                rotate_left
                                · exact pz
                                refine pure_ (i := 22) (N := some 102) (v := undef) (a' := ?_) (bs 26 8388607) rfl rfl (any_of HT_.out (by kernel_rfl)) (fun _ _ _ h => h) (Or.inr ⟨by rfl, rfl⟩) ?_ ?_
                                rotate_left
                                · exact pz
                                refine pure_ (i := 23) (N := some 103) (v := undef) (a' := ?_) (bs 26 16777215) rfl rfl (any_of HT_.out (by kernel_rfl)) (fun _ _ _ h => h) (Or.inr ⟨by rfl, rfl⟩) ?_ ?_
                                rotate_left
                                · exact pz
                                refine pure_ (i := 24) (N := some 104) (v := undef) (a' := ?_) (bs 26 33554431) rfl rfl (any_of HT_.out (by kernel_rfl)) (fun _ _ _ h => h) (Or.inr ⟨by rfl, rfl⟩) ?_ ?_
                                rotate_left
                                · exact pz
                                refine pureZ (i := 25) (N := some 105) (bs 26 67108863) HT_ ?_
                                refine done_ (done_of HT_.out (by kernel_rfl)) ?_
                                try go_wp2
                                go_meet
                                case rel => exact ⟨_, (true), (by first | rfl | (simp; done) | (simp [*]; done)), H', ⟨by have := HJ4.out; have := HK2.out; have := HJ31.out; have := HK4.out; first | omega | exact Nat.le_refl _⟩, ⟨by (with_reducible repeat (first | apply Kd.R_alloc | apply Kd.R_drewN | apply Kd.R_drew)); exact Kd.R_mono HO_5.out (fun _ hk => hk.1)⟩, ⟨by (with_reducible repeat (first | apply Kd.R_alloc | apply Kd.R_drewN | apply Kd.R_drew)); exact Kd.R_mono HO_6.out (fun _ hk => hk.1)⟩, ⟨by (with_reducible repeat (first | refine blk_drewN ?_ _ | refine blk_drew ?_ | refine blk_alloc ?_ _)); exact BK656.out⟩, ⟨by repeat (first | (with_reducible first | exact HB.out | apply below_alloc | apply pw_below_drewN | apply below_drew1 | refine below_set ?_ GE656.out) | exact HB.out)⟩⟩
                            case rest =>
                              as_aux_lemma =>
                              clear HC42
                              try clear p2
                              try clear c3
                              try clear c4
                              try clear c5
                              try clear c35
                              try clear c36
                              try clear c48
                              try clear c48b0
                              try clear c48b1
                              try clear c50
                              obtain ⟨kq, x105_41, rfl, HA, HJ41, HO_5, HO_6, BK656, HB⟩ := hcut
                              cases kq with
                              | zero => exact absurd HA.out (by simp [glidepathlaw02_LineWithin.j4])
                              | succ kj41 =>
                                have H := HA.out
                                clear HA
                                simp only [glidepathlaw02_LineWithin.j4] at H
                                by_cases c75 : x105_41 = true
                                · subst c75
                                  rw [if_pos rfl] at H
                                  exact absurd H (by simp)
                                · replace c75 := Bool.eq_false_iff.mpr c75
                                  subst c75
                                  rw [if_neg (show ¬ (false = true) by decide)] at H
                                  have HC76 := Aside0.mk H
                                  clear H
                                  go_upto_region 19 with (fail)
                                  go_cut [126] (fun v126 wc => ∃ (kq : Nat) (x126_75 : Bool), v126 = .bool x126_75 ∧ Aside0 (glidepathlaw02_LineWithin.j5 kq l0 x5_2 x6_2 t647 x10_4 x126_75 t653 t654 = some r) ∧ Aside0 (kq ≤ kj41) ∧ Aside0 (Kd.R (Kd.int .i64) 3 wc w.heap.size (fun k_ => some k_ ≠ (u6 : Value).ownBlock) u5 x5_2) ∧ Aside0 (Kd.R (Kd.int .i64) 3 wc w.heap.size (fun k_ => some k_ ≠ (u5 : Value).ownBlock) u6 x6_2) ∧ Aside0 (wc.heap[gb656]? = some (.cells #[.int .i64 t653, .int .i64 t654] 26 (0, 0))) ∧ Aside0 (Below w.heap.size w wc))
                                  case first =>
                                    have H := HC76.out
                                    clear HC76
                                    by_cases c77 : x10_4 = 2
                                    · rw [if_pos c77] at H
                                      have c77b0 := beq_iff_eq.mpr c77
                                      have c77b1 := bne_eq_false_iff_eq.mpr c77
                                      clear c77
                                      (first | rw [c77b0] | (simp only [i64_w, i32_w]; rw [c77b0]) | skip)
                                      replace H := Option.bind_eq_some_iff.mp H
                                      obtain ⟨t662, A780, H⟩ := H
                                      (try dsimp only at H)
                                      have A78 := Aside0.mk A780
                                      clear A780
                                      by_cases c79 : t662 > 0
                                      · rw [if_pos c79] at H
                                        have c79b0 := decide_eq_true c79
                                        clear c79
                                        replace H := Option.bind_eq_some_iff.mp H
                                        obtain ⟨t663, A800, H⟩ := H
                                        (try dsimp only at H)
                                        have A80 := Aside0.mk A800
                                        clear A800
                                        have H' := Aside0.mk H
                                        clear H
                                        try go_wp2
                                        replace HO_5 := Aside0.mk (Kd.R_drew HO_5.out); replace HO_6 := Aside0.mk (Kd.R_drew HO_6.out); replace BK656 := Aside0.mk (blk_drew BK656.out); replace HB := Aside0.mk (below_drew1 HB.out)
                                        refine start_ (n := 21) (S := fun w' => w'.cell? ⟨gb656, 0, none⟩ = some (.int .i64 t653) ∧ w'.cell? ⟨gb656, 1, none⟩ = some (.int .i64 t654)) (ds := []) #[false, false, false, false, false, false, false, false, false, false, false, false, false, false, false, false, false, false, false, false, false] (by kernel_rfl) rfl rfl ⟨(blk_cell BK656.out 0).trans rfl, (blk_cell BK656.out 1).trans rfl⟩ (fun hHeld => ?_); refine with_tabW glidepathlaw02_LineWithin.tab19 glidepathlaw02_LineWithin.bits19 (fun HT_ HW_ => ?_)
                                        generalize wc.drew = w81 at HO_5 HO_6 BK656 HB hHeld ⊢
                                        refine pureZ (i := 0) (N := some 106) (bs 21 1) HT_ ?_
                                        refine pureZ (i := 1) (N := some 107) (bs 21 3) HT_ ?_
                                        refine pureZ (i := 2) (N := some 108) (bs 21 7) HT_ ?_
                                        refine pureZ (i := 3) (N := some 109) (bs 21 15) HT_ ?_
                                        refine one_ (i := 4) (N := some 110) (bs 21 31) rfl rfl (one_of HT_.out (by kernel_rfl)) (by decide) (fun K hK => ?_)
                                        refine goes_ Tryd.func39 (by kernel_rfl) rfl #[.slice A0 l0.length c0] (by rfl) rfl rfl mz ?_
                                        with_reducible refine (glidepathref02_Sum.calls kj41 _ _ l0 t662 _ ?side1 ?side2 A78.out).mono ?_
                                        (case side1 => exact bc (Kd.C_below HR0.out HB.out))
                                        (case side2 => exact HC0.out)
                                        rintro e w' ⟨rfl, ⟨nd, rfl⟩⟩
                                        refine ⟨_, rfl, ?_⟩
                                        refine hK.out _ _ ⟨(blk_cell BK656.out 0).trans rfl, (blk_cell BK656.out 1).trans rfl⟩ (fun hHeld => ?_)
                                        clear hK K
                                        refine norm_ (a' := ?_) ?_ ?_
                                        rotate_left
                                        · show Act.put _ (some 110) _ = _
                                          exact pz
                                        refine pureZ (i := 5) (N := some 111) (bs 21 63) HT_ ?_
                                        refine pureZ (i := 6) (N := some 112) (bs 21 127) HT_ ?_
                                        refine pureZ (i := 7) (N := some 113) (bs 21 255) HT_ ?_
                                        refine pureZ (i := 8) (N := some 114) (bs 21 511) HT_ ?_
                                        refine pureZ (i := 10) (N := some 116) (bs 21 1535) HT_ ?_
                                        refine pureZ (i := 11) (N := some 117) (bs 21 3583) HT_ ?_
                                        refine pureZ (i := 17) (N := some 123) (bs 21 134655) HT_ ?_
                                        refine take_ (i := 9) (N := some 115) (v := ?_) (a' := ?_) (bs 21 135167) rfl rfl (take_ofW HT_.out HW_.out (by kernel_rfl)) (fun _ _ _ h => h) (Or.inl ⟨by rfl, ?_⟩) hHeld ?_ ?_
                                        rotate_left
                                        · rintro w' ⟨s0, s1⟩
                                          go_simp
                                          with_reducible rfl
                                        rotate_left
                                        · exact pz
                                        refine take_ (i := 12) (N := some 118) (v := ?_) (a' := ?_) (bs 21 139263) rfl rfl (take_ofW HT_.out HW_.out (by kernel_rfl)) (fun _ _ _ h => h) (Or.inl ⟨by rfl, ?_⟩) hHeld ?_ ?_
                                        rotate_left
                                        · rintro w' ⟨s0, s1⟩
                                          go_simp
                                          with_reducible rfl
                                        rotate_left
                                        · exact pz
                                        refine pureZ (i := 13) (N := some 119) (bs 21 147455) HT_ ?_
                                        refine pureZ (i := 14) (N := some 120) (bs 21 163839) HT_ ?_
                                        refine pureZ (i := 15) (N := some 121) (bs 21 196607) HT_ ?_
                                        refine take_ (i := 18) (N := some 124) (v := ?_) (a' := ?_) (bs 21 458751) rfl rfl (take_ofW HT_.out HW_.out (by kernel_rfl)) (fun _ _ _ h => h) (Or.inl ⟨by rfl, ?_⟩) hHeld ?_ ?_
                                        rotate_left
                                        · rintro w' ⟨s0, s1⟩
                                          go_simp
                                          with_reducible rfl
                                        rotate_left
                                        · exact pz
                                        refine one_ (i := 16) (N := some 122) (bs 21 524287) rfl rfl (one_of HT_.out (by kernel_rfl)) (by decide) (fun K hK => ?_)
                                        refine goes_ Tryd.func40 (by kernel_rfl) rfl #[.int .i64 (wrap64 (2 * (wrap64 (t653 - (wrap64 (t647 * t654))))))] (by rfl) rfl rfl mz ?_
                                        with_reducible refine (glidepathbase_Size.calls (wrap64 (2 * (wrap64 (t653 - (wrap64 (t647 * t654)))))) t663 _ A80.out).mono ?_
                                        rintro e w82 ⟨rfl, hb⟩
                                        refine ⟨_, rfl, ?_⟩
                                        replace HO_5 := rb HO_5 hb; replace HO_6 := rb HO_6 hb; replace BK656 := bb BK656 hb; replace HB := sb HB hb
                                        (try clear hb)
                                        (try clear hb2)
                                        (try clear hk)
                                        (try clear hi)
                                        refine hK.out _ _ ⟨(blk_cell BK656.out 0).trans rfl, (blk_cell BK656.out 1).trans rfl⟩ (fun hHeld => ?_)
                                        clear hK K
                                        refine norm_ (a' := ?_) ?_ ?_
                                        rotate_left
                                        · show Act.put _ (some 122) _ = _
                                          exact pz
                                        refine pureZ (i := 19) (N := some 125) (bs 21 1048575) HT_ ?_
                                        refine pureZ (i := 20) (N := some 126) (bs 21 2097151) HT_ ?_
                                        refine done_ (done_of HT_.out (by kernel_rfl)) ?_
                                        try go_wp2
                                        go_meet
                                        case rel => exact ⟨_, (decide (t663 > t654)), (by first | rfl | (simp; done) | (simp [*]; done)), H', ⟨by have := HJ4.out; have := HK2.out; have := HJ31.out; have := HK4.out; have := HJ41.out; first | omega | exact Nat.le_refl _⟩, ⟨by (with_reducible repeat (first | apply Kd.R_alloc | apply Kd.R_drewN | apply Kd.R_drew)); exact HO_5.out⟩, ⟨by (with_reducible repeat (first | apply Kd.R_alloc | apply Kd.R_drewN | apply Kd.R_drew)); exact HO_6.out⟩, ⟨by (with_reducible repeat (first | refine blk_drewN ?_ _ | refine blk_drew ?_ | refine blk_alloc ?_ _)); exact BK656.out⟩, ⟨by repeat (first | (with_reducible first | exact HB.out | apply below_alloc | apply pw_below_drewN | apply below_drew1 | refine below_set ?_ GE656.out) | exact HB.out)⟩⟩
                                      · rw [if_neg c79] at H
                                        have c79b0 := decide_eq_false c79
                                        clear c79
                                        have H' := Aside0.mk H
                                        clear H
                                        try go_wp2
                                        replace HO_5 := Aside0.mk (Kd.R_drew HO_5.out); replace HO_6 := Aside0.mk (Kd.R_drew HO_6.out); replace BK656 := Aside0.mk (blk_drew BK656.out); replace HB := Aside0.mk (below_drew1 HB.out)
                                        refine start_ (n := 21) (S := fun w' => True) (ds := []) #[false, false, false, false, false, false, false, false, false, false, false, false, false, false, false, false, false, false, false, false, false] (by kernel_rfl) rfl rfl trivial (fun hHeld => ?_); refine with_tabW glidepathlaw02_LineWithin.tab19 glidepathlaw02_LineWithin.bits19 (fun HT_ HW_ => ?_)
                                        generalize wc.drew = w83 at HO_5 HO_6 BK656 HB hHeld ⊢
                                        refine pureZ (i := 0) (N := some 106) (bs 21 1) HT_ ?_
                                        refine pureZ (i := 1) (N := some 107) (bs 21 3) HT_ ?_
                                        refine pureZ (i := 2) (N := some 108) (bs 21 7) HT_ ?_
                                        refine pureZ (i := 3) (N := some 109) (bs 21 15) HT_ ?_
                                        refine one_ (i := 4) (N := some 110) (bs 21 31) rfl rfl (one_of HT_.out (by kernel_rfl)) (by decide) (fun K hK => ?_)
                                        refine goes_ Tryd.func39 (by kernel_rfl) rfl #[.slice A0 l0.length c0] (by rfl) rfl rfl mz ?_
                                        with_reducible refine (glidepathref02_Sum.calls kj41 _ _ l0 t662 _ ?side1 ?side2 A78.out).mono ?_
                                        (case side1 => exact bc (Kd.C_below HR0.out HB.out))
                                        (case side2 => exact HC0.out)
                                        rintro e w' ⟨rfl, ⟨nd, rfl⟩⟩
                                        refine ⟨_, rfl, ?_⟩
                                        refine hK.out _ _ trivial (fun hHeld => ?_)
                                        clear hK K
                                        refine norm_ (a' := ?_) ?_ ?_
                                        rotate_left
                                        · show Act.put _ (some 110) _ = _
                                          exact pz
                                        refine pureZ (i := 5) (N := some 111) (bs 21 63) HT_ ?_
                                        refine pureZ (i := 6) (N := some 112) (bs 21 127) HT_ ?_
                                        refine pureZ (i := 7) (N := some 113) (bs 21 255) HT_ ?_
                                        refine pure_ (i := 8) (N := some 114) (v := undef) (a' := ?_) (bs 21 511) rfl rfl (any_of HT_.out (by kernel_rfl)) (fun _ _ _ h => h) (Or.inr ⟨by rfl, rfl⟩) ?_ ?_
                                        rotate_left
                                        · exact pz
                                        refine pure_ (i := 9) (N := some 115) (v := undef) (a' := ?_) (bs 21 1023) rfl rfl (any_of HT_.out (by kernel_rfl)) (fun _ _ _ h => h) (Or.inr ⟨by rfl, rfl⟩) ?_ ?_
                                        rotate_left
                                        · exact pz
                                        refine pure_ (i := 10) (N := some 116) (v := undef) (a' := ?_) (bs 21 2047) rfl rfl (any_of HT_.out (by kernel_rfl)) (fun _ _ _ h => h) (Or.inr ⟨by rfl, rfl⟩) ?_ ?_
                                        rotate_left
                                        · exact pz
                                        refine pure_ (i := 11) (N := some 117) (v := undef) (a' := ?_) (bs 21 4095) rfl rfl (any_of HT_.out (by kernel_rfl)) (fun _ _ _ h => h) (Or.inr ⟨by rfl, rfl⟩) ?_ ?_
                                        rotate_left
                                        · exact pz
                                        refine pure_ (i := 12) (N := some 118) (v := undef) (a' := ?_) (bs 21 8191) rfl rfl (any_of HT_.out (by kernel_rfl)) (fun _ _ _ h => h) (Or.inr ⟨by rfl, rfl⟩) ?_ ?_
                                        rotate_left
                                        · exact pz
                                        refine pure_ (i := 13) (N := some 119) (v := undef) (a' := ?_) (bs 21 16383) rfl rfl (any_of HT_.out (by kernel_rfl)) (fun _ _ _ h => h) (Or.inr ⟨by rfl, rfl⟩) ?_ ?_
                                        rotate_left
                                        · exact pz
                                        refine pure_ (i := 14) (N := some 120) (v := undef) (a' := ?_) (bs 21 32767) rfl rfl (any_of HT_.out (by kernel_rfl)) (fun _ _ _ h => h) (Or.inr ⟨by rfl, rfl⟩) ?_ ?_
                                        rotate_left
                                        · exact pz
                                        refine pure_ (i := 15) (N := some 121) (v := undef) (a' := ?_) (bs 21 65535) rfl rfl (any_of HT_.out (by kernel_rfl)) (fun _ _ _ h => h) (Or.inr ⟨by rfl, rfl⟩) ?_ ?_
                                        rotate_left
                                        · exact pz
                                        refine pure_ (i := 16) (N := some 122) (v := undef) (a' := ?_) (bs 21 131071) rfl rfl (any_of HT_.out (by kernel_rfl)) (fun _ _ _ h => h) (Or.inr ⟨by rfl, rfl⟩) ?_ ?_
                                        rotate_left
                                        · exact pz
                                        refine pure_ (i := 17) (N := some 123) (v := undef) (a' := ?_) (bs 21 262143) rfl rfl (any_of HT_.out (by kernel_rfl)) (fun _ _ _ h => h) (Or.inr ⟨by rfl, rfl⟩) ?_ ?_
                                        rotate_left
                                        · exact pz
                                        refine pure_ (i := 18) (N := some 124) (v := undef) (a' := ?_) (bs 21 524287) rfl rfl (any_of HT_.out (by kernel_rfl)) (fun _ _ _ h => h) (Or.inr ⟨by rfl, rfl⟩) ?_ ?_
                                        rotate_left
                                        · exact pz
                                        refine pure_ (i := 19) (N := some 125) (v := undef) (a' := ?_) (bs 21 1048575) rfl rfl (any_of HT_.out (by kernel_rfl)) (fun _ _ _ h => h) (Or.inr ⟨by rfl, rfl⟩) ?_ ?_
                                        rotate_left
                                        · exact pz
                                        refine pureZ (i := 20) (N := some 126) (bs 21 2097151) HT_ ?_
                                        refine done_ (done_of HT_.out (by kernel_rfl)) ?_
                                        try go_wp2
                                        go_meet
                                        case rel => exact ⟨_, (false), (by first | rfl | (simp; done) | (simp [*]; done)), H', ⟨by have := HJ4.out; have := HK2.out; have := HJ31.out; have := HK4.out; have := HJ41.out; first | omega | exact Nat.le_refl _⟩, ⟨by (with_reducible repeat (first | apply Kd.R_alloc | apply Kd.R_drewN | apply Kd.R_drew)); exact HO_5.out⟩, ⟨by (with_reducible repeat (first | apply Kd.R_alloc | apply Kd.R_drewN | apply Kd.R_drew)); exact HO_6.out⟩, ⟨by (with_reducible repeat (first | refine blk_drewN ?_ _ | refine blk_drew ?_ | refine blk_alloc ?_ _)); exact BK656.out⟩, ⟨by repeat (first | (with_reducible first | exact HB.out | apply below_alloc | apply pw_below_drewN | apply below_drew1 | refine below_set ?_ GE656.out) | exact HB.out)⟩⟩
                                    · rw [if_neg c77] at H
                                      have c77b0 := beq_eq_false_iff_ne.mpr c77
                                      have c77b1 := bne_iff_ne.mpr c77
                                      (first | rw [c77b0] | (simp only [i64_w, i32_w]; rw [c77b0]) | skip)
                                      have H' := Aside0.mk H
                                      clear H
                                      try go_wp2
                                      replace HO_5 := Aside0.mk (Kd.R_drew HO_5.out); replace HO_6 := Aside0.mk (Kd.R_drew HO_6.out); replace BK656 := Aside0.mk (blk_drew BK656.out); replace HB := Aside0.mk (below_drew1 HB.out)
                                      refine start_ (n := 21) (S := fun w' => True) (ds := []) #[false, false, false, false, false, false, false, false, false, false, false, false, false, false, false, false, false, false, false, false, false] (by kernel_rfl) rfl rfl trivial (fun hHeld => ?_); refine with_tabW glidepathlaw02_LineWithin.tab19 glidepathlaw02_LineWithin.bits19 (fun HT_ HW_ => ?_)
                                      generalize wc.drew = w84 at HO_5 HO_6 BK656 HB hHeld ⊢
                                      refine pureZ (i := 0) (N := some 106) (bs 21 1) HT_ ?_
                                      refine pureZ (i := 1) (N := some 107) (bs 21 3) HT_ ?_
                                      refine pureZ (i := 2) (N := some 108) (bs 21 7) HT_ ?_
                                      refine pure_ (i := 3) (N := some 109) (v := undef) (a' := ?_) (bs 21 15) rfl rfl (any_of HT_.out (by kernel_rfl)) (fun _ _ _ h => h) (Or.inr ⟨by rfl, rfl⟩) ?_ ?_
                                      rotate_left
                                      · exact pz
                                      refine pure_ (i := 4) (N := some 110) (v := undef) (a' := ?_) (bs 21 31) rfl rfl (any_of HT_.out (by kernel_rfl)) (fun _ _ _ h => h) (Or.inr ⟨by rfl, rfl⟩) ?_ ?_
                                      rotate_left
                                      · exact pz
                                      refine pure_ (i := 5) (N := some 111) (v := undef) (a' := ?_) (bs 21 63) rfl rfl (any_of HT_.out (by kernel_rfl)) (fun _ _ _ h => h) (Or.inr ⟨by rfl, rfl⟩) ?_ ?_
                                      rotate_left
                                      · exact pz
                                      refine pureZ (i := 6) (N := some 112) (bs 21 127) HT_ ?_
                                      refine pureZ (i := 7) (N := some 113) (bs 21 255) HT_ ?_
                                      refine pure_ (i := 8) (N := some 114) (v := undef) (a' := ?_) (bs 21 511) rfl rfl (any_of HT_.out (by kernel_rfl)) (fun _ _ _ h => h) (Or.inr ⟨by rfl, rfl⟩) ?_ ?_
                                      rotate_left
                                      · exact pz
                                      refine pure_ (i := 9) (N := some 115) (v := undef) (a' := ?_) (bs 21 1023) rfl rfl (any_of HT_.out (by kernel_rfl)) (fun _ _ _ h => h) (Or.inr ⟨by rfl, rfl⟩) ?_ ?_
                                      rotate_left
                                      · exact pz
                                      refine pure_ (i := 10) (N := some 116) (v := undef) (a' := ?_) (bs 21 2047) rfl rfl (any_of HT_.out (by kernel_rfl)) (fun _ _ _ h => h) (Or.inr ⟨by rfl, rfl⟩) ?_ ?_
                                      rotate_left
                                      · exact pz
                                      refine pure_ (i := 11) (N := some 117) (v := undef) (a' := ?_) (bs 21 4095) rfl rfl (any_of HT_.out (by kernel_rfl)) (fun _ _ _ h => h) (Or.inr ⟨by rfl, rfl⟩) ?_ ?_
                                      rotate_left
                                      · exact pz
                                      refine pure_ (i := 12) (N := some 118) (v := undef) (a' := ?_) (bs 21 8191) rfl rfl (any_of HT_.out (by kernel_rfl)) (fun _ _ _ h => h) (Or.inr ⟨by rfl, rfl⟩) ?_ ?_
                                      rotate_left
                                      · exact pz
                                      refine pure_ (i := 13) (N := some 119) (v := undef) (a' := ?_) (bs 21 16383) rfl rfl (any_of HT_.out (by kernel_rfl)) (fun _ _ _ h => h) (Or.inr ⟨by rfl, rfl⟩) ?_ ?_
                                      rotate_left
                                      · exact pz
                                      refine pure_ (i := 14) (N := some 120) (v := undef) (a' := ?_) (bs 21 32767) rfl rfl (any_of HT_.out (by kernel_rfl)) (fun _ _ _ h => h) (Or.inr ⟨by rfl, rfl⟩) ?_ ?_
                                      rotate_left
                                      · exact pz
                                      refine pure_ (i := 15) (N := some 121) (v := undef) (a' := ?_) (bs 21 65535) rfl rfl (any_of HT_.out (by kernel_rfl)) (fun _ _ _ h => h) (Or.inr ⟨by rfl, rfl⟩) ?_ ?_
                                      rotate_left
                                      · exact pz
                                      refine pure_ (i := 16) (N := some 122) (v := undef) (a' := ?_) (bs 21 131071) rfl rfl (any_of HT_.out (by kernel_rfl)) (fun _ _ _ h => h) (Or.inr ⟨by rfl, rfl⟩) ?_ ?_
                                      rotate_left
                                      · exact pz
                                      refine pure_ (i := 17) (N := some 123) (v := undef) (a' := ?_) (bs 21 262143) rfl rfl (any_of HT_.out (by kernel_rfl)) (fun _ _ _ h => h) (Or.inr ⟨by rfl, rfl⟩) ?_ ?_
                                      rotate_left
                                      · exact pz
                                      refine pure_ (i := 18) (N := some 124) (v := undef) (a' := ?_) (bs 21 524287) rfl rfl (any_of HT_.out (by kernel_rfl)) (fun _ _ _ h => h) (Or.inr ⟨by rfl, rfl⟩) ?_ ?_
                                      rotate_left
                                      · exact pz
                                      refine pure_ (i := 19) (N := some 125) (v := undef) (a' := ?_) (bs 21 1048575) rfl rfl (any_of HT_.out (by kernel_rfl)) (fun _ _ _ h => h) (Or.inr ⟨by rfl, rfl⟩) ?_ ?_
                                      rotate_left
                                      · exact pz
                                      refine pureZ (i := 20) (N := some 126) (bs 21 2097151) HT_ ?_
                                      refine done_ (done_of HT_.out (by kernel_rfl)) ?_
                                      try go_wp2
                                      go_meet
                                      case rel => exact ⟨_, (false), (by first | rfl | (simp; done) | (simp [*]; done)), H', ⟨by have := HJ4.out; have := HK2.out; have := HJ31.out; have := HK4.out; have := HJ41.out; first | omega | exact Nat.le_refl _⟩, ⟨by (with_reducible repeat (first | apply Kd.R_alloc | apply Kd.R_drewN | apply Kd.R_drew)); exact HO_5.out⟩, ⟨by (with_reducible repeat (first | apply Kd.R_alloc | apply Kd.R_drewN | apply Kd.R_drew)); exact HO_6.out⟩, ⟨by (with_reducible repeat (first | refine blk_drewN ?_ _ | refine blk_drew ?_ | refine blk_alloc ?_ _)); exact BK656.out⟩, ⟨by repeat (first | (with_reducible first | exact HB.out | apply below_alloc | apply pw_below_drewN | apply below_drew1 | refine below_set ?_ GE656.out) | exact HB.out)⟩⟩
                                  case rest =>
                                    as_aux_lemma =>
                                    clear HC76
                                    try clear p2
                                    try clear c3
                                    try clear c4
                                    try clear c5
                                    try clear p6
                                    try clear c7
                                    try clear c35
                                    try clear c36
                                    try clear c39
                                    try clear c40
                                    try clear c48
                                    try clear c48b0
                                    try clear c48b1
                                    try clear c50
                                    try clear p64
                                    try clear c75
                                    try clear c77
                                    try clear c77b0
                                    try clear c77b1
                                    try clear c79
                                    try clear c79b0
                                    try clear p2
                                    obtain ⟨kq, x126_75, rfl, HA, HJ75, HO_5, HO_6, BK656, HB⟩ := hcut
                                    cases kq with
                                    | zero => exact absurd HA.out (by simp [glidepathlaw02_LineWithin.j5])
                                    | succ kj75 =>
                                      have H := HA.out
                                      clear HA
                                      simp only [glidepathlaw02_LineWithin.j5] at H
                                      by_cases c85 : x126_75 = true
                                      · subst c85
                                        rw [if_pos rfl] at H
                                        exact absurd H (by simp)
                                      · replace c85 := Bool.eq_false_iff.mpr c85
                                        subst c85
                                        rw [if_neg (show ¬ (false = true) by decide)] at H
                                        replace H := Option.bind_eq_some_iff.mp H
                                        obtain ⟨t664, A860, H⟩ := H
                                        (try dsimp only at H)
                                        have A86 := Aside0.mk A860
                                        clear A860
                                        have HC87 := Aside0.mk H
                                        clear H
                                        obtain ⟨Ao88, co88, eo88⟩ := Kd.R_slice HO_5.out
                                        subst eo88
                                        go_upto_if 129 with (first | ((with_reducible refine gate_callee (f := 30) rfl ?_); refine gl (some 128) Tryd.func30 #[.slice Ao88 x5_2.length co88] ?_; (with_reducible refine (glidepathref02_SpectrumErr.calls kj75 _ _ x5_2 t664 _ ?side1 ?side2 A86.out).mono ?_); (case side1 => exact bc (Kd.R_reads' HO_5.out).2.2); (case side2 => exact (Kd.R_reads' HO_5.out).2.1); rintro e w' ⟨rfl, ⟨nd, rfl⟩⟩; refine ⟨_, rfl, ?_⟩))
                                        (try simp only [Act.put, List.setIfInBounds_toArray, List.set_cons_zero, List.set_cons_succ])
                                        go_cut [] (fun wc => ∃ (kq : Nat), Aside0 (glidepathlaw02_LineWithin.j6 kq l0 x5_2 x6_2 t647 x10_4 t653 t654 = some r) ∧ Aside0 (kq ≤ kj75) ∧ Aside0 (Kd.R (Kd.int .i64) 3 wc w.heap.size (fun k_ => some k_ ≠ (u6 : Value).ownBlock) (.slice Ao88 x5_2.length co88) x5_2) ∧ Aside0 (Kd.R (Kd.int .i64) 3 wc w.heap.size (fun k_ => some k_ ≠ ((.slice Ao88 x5_2.length co88) : Value).ownBlock) u6 x6_2) ∧ Aside0 (wc.heap[gb656]? = some (.cells #[.int .i64 t653, .int .i64 t654] 26 (0, 0))) ∧ Aside0 (Below w.heap.size w wc))
                                        case first =>
                                          have H := HC87.out
                                          clear HC87
                                          by_cases c89 : t664 = 0
                                          · rw [if_pos c89] at H
                                            have c89b0 := beq_iff_eq.mpr c89
                                            have c89b1 := bne_eq_false_iff_eq.mpr c89
                                            clear c89
                                            (first | rw [c89b0] | (simp only [i64_w, i32_w]; rw [c89b0]) | skip)
                                            replace H := Option.bind_eq_some_iff.mp H
                                            obtain ⟨t665, A900, H⟩ := H
                                            (try dsimp only at H)
                                            have A90 := Aside0.mk A900
                                            clear A900
                                            replace H := Option.bind_eq_some_iff.mp H
                                            obtain ⟨⟨t668, t669, t670⟩, A910, H⟩ := H
                                            (try dsimp only at H)
                                            have A91 := Aside0.mk A910
                                            clear A910
                                            by_cases c92 : t670 = 0
                                            · rw [if_pos c92] at H
                                              have c92b0 := beq_iff_eq.mpr c92
                                              have c92b1 := bne_eq_false_iff_eq.mpr c92
                                              clear c92
                                              by_cases c93 : (!(t668 == t653) || (!(t669 == t654))) = true
                                              · rw [if_pos c93] at H
                                                exact absurd H (by simp)
                                              · rw [if_neg c93] at H
                                                have c93b0 : (!(t668 == t653) || (!(t669 == t654))) = false := by simpa using c93
                                                clear c93
                                                have H' := Aside0.mk H
                                                clear H
                                                go_wp2_with (first | ((with_reducible refine gate_callee (f := 33) rfl ?_); refine gl (some 132) Tryd.func33 #[.slice Ao88 x5_2.length co88] ?_; (with_reducible refine (glidepathbase_CopyInts.calls _ _ x5_2 t665 _ ?side1 ?side2 A90.out).mono ?_); (case side1 => exact bc (Kd.R_reads' HO_5.out).2.2); (case side2 => exact (Kd.R_reads' HO_5.out).2.1); rintro e w94 ⟨v666, rfl, ho0, hb⟩; refine ⟨_, rfl, ?_⟩; have HO667 := Aside0.mk (Kd.R_lower (Kd.R_new' (Kd.R_new' ho0 (Kd.R_lt (br HO_5.out))) (Kd.R_lt (br HO_6.out))) (below_size bz)); replace HO_5 := Aside0.mk (Kd.R_elder' (br HO_5.out) (Kd.R_base ho0) hb); replace HO_6 := Aside0.mk (Kd.R_elder' (br HO_6.out) (Kd.R_base ho0) hb); replace BK656 := bb BK656 hb; replace HB := sb HB hb; (try clear hb); (try clear ho0); obtain ⟨Ao95, co95, eo95⟩ := Kd.R_slice HO667.out; subst eo95) | ((with_reducible refine gate_callee (f := 34) rfl ?_); refine gl (some 134) Tryd.func34 #[.slice Ao95 t665.length co95, .int .i64 x10_4] ?_; (with_reducible refine (line_Estimated.calls kj75 _ _ t665 x10_4 t668 t669 t670 _ ?side1 ?side2 ?side3 A91.out).mono ?_); (case side1 => exact bc (Kd.R_reads' HO667.out).2.2); (case side2 => exact (Kd.R_reads' HO667.out).2.1); (case side3 => exact EstG.below HG.out bz); rintro e w96 ⟨rfl, hb⟩; refine ⟨_, rfl, ?_⟩; replace HO_5 := rb HO_5 hb; replace HO_6 := rb HO_6 hb; replace HO667 := rb HO667 hb; replace BK656 := bb BK656 hb; replace HB := sb HB hb; (try clear hb)) | ((with_reducible refine gate_dst (N := 13) rfl ?_); (try (refine gate_guard (by rfl) ?_; dsimp only)); refine be 13 26 #[.int .i64 0, .int .i64 0] ?_; intro gb671 hg w97 hbox hb; replace HO_5 := rb HO_5 hb; replace HO_6 := rb HO_6 hb; replace HO667 := rb HO667 hb; have BK671 := Aside0.mk hbox; have GW671 := Aside0.mk (bg (n := w.heap.size) hg); have GE671 := Aside0.mk (bg (n := w.heap.size) hg); replace HB := sb HB hb; have NB656_671 := nl BK656 hg; have NB671_656 := ng (nl BK656 hg); replace BK656 := bb BK656 hb; clear hb hbox hg; have hnb98 := NB671_656.out; have hnc98 := NB656_671.out; obtain ⟨hcz99_0, hcz99_1, hfz99_0, hfz99_1⟩ := b2 BK671; obtain ⟨hcz100_0, hcz100_1, hfz100_0, hfz100_1⟩ := b2 BK656))
                                                go_meet
                                                case rel => exact ⟨_, H', ⟨by have := HJ4.out; have := HK2.out; have := HJ31.out; have := HK4.out; have := HJ41.out; have := HJ75.out; first | omega | exact Nat.le_refl _⟩, ⟨by (with_reducible repeat (first | apply Kd.R_alloc | apply Kd.R_drewN | apply Kd.R_drew)); exact Kd.R_mono (Kd.R_far (p := ⟨gb671, 1, none⟩) (Kd.R_far (p := ⟨gb671, 0, none⟩) (Kd.R_types HO_5.out BK671.out (by decide)) (fun _ hk => hk.2) (.int .i64 t668)) (fun _ hk => hk.2) (.int .i64 t669)) (fun _ hk => hk.1.1)⟩, ⟨by (with_reducible repeat (first | apply Kd.R_alloc | apply Kd.R_drewN | apply Kd.R_drew)); exact Kd.R_mono (Kd.R_far (p := ⟨gb671, 1, none⟩) (Kd.R_far (p := ⟨gb671, 0, none⟩) (Kd.R_types HO_6.out BK671.out (by decide)) (fun _ hk => hk.2) (.int .i64 t668)) (fun _ hk => hk.2) (.int .i64 t669)) (fun _ hk => hk.1.1)⟩, ⟨by (with_reducible repeat (first | refine blk_drewN ?_ _ | refine blk_drew ?_ | refine blk_alloc ?_ _)); refine blk_far ?_ NB656_671.out _; (with_reducible repeat (first | refine blk_drewN ?_ _ | refine blk_drew ?_ | refine blk_alloc ?_ _)); refine blk_far ?_ NB656_671.out _; (with_reducible repeat (first | refine blk_drewN ?_ _ | refine blk_drew ?_ | refine blk_alloc ?_ _)); exact BK656.out⟩, ⟨by repeat (first | (with_reducible first | exact HB.out | apply below_alloc | apply pw_below_drewN | apply below_drew1 | refine below_set ?_ GE656.out | refine below_set ?_ GE671.out) | exact HB.out)⟩⟩
                                            · rw [if_neg c92] at H
                                              exact absurd H (by simp)
                                          · rw [if_neg c89] at H
                                            have c89b0 := beq_eq_false_iff_ne.mpr c89
                                            have c89b1 := bne_iff_ne.mpr c89
                                            (first | rw [c89b0] | (simp only [i64_w, i32_w]; rw [c89b0]) | skip)
                                            have H' := Aside0.mk H
                                            clear H
                                            go_wp2
                                            go_meet
                                            case rel => exact ⟨_, H', ⟨by have := HJ4.out; have := HK2.out; have := HJ31.out; have := HK4.out; have := HJ41.out; have := HJ75.out; first | omega | exact Nat.le_refl _⟩, ⟨by (with_reducible repeat (first | apply Kd.R_alloc | apply Kd.R_drewN | apply Kd.R_drew)); exact HO_5.out⟩, ⟨by (with_reducible repeat (first | apply Kd.R_alloc | apply Kd.R_drewN | apply Kd.R_drew)); exact HO_6.out⟩, ⟨by (with_reducible repeat (first | refine blk_drewN ?_ _ | refine blk_drew ?_ | refine blk_alloc ?_ _)); exact BK656.out⟩, ⟨by repeat (first | (with_reducible first | exact HB.out | apply below_alloc | apply pw_below_drewN | apply below_drew1 | refine below_set ?_ GE656.out) | exact HB.out)⟩⟩
                                        case rest =>
                                          as_aux_lemma =>
                                          clear HC87
                                          try clear p2
                                          try clear c3
                                          try clear c4
                                          try clear c5
                                          try clear p6
                                          try clear c7
                                          try clear c8
                                          try clear c9
                                          try clear c30
                                          try clear c33
                                          try clear c34
                                          try clear c35
                                          try clear c36
                                          try clear c39
                                          try clear c40
                                          try clear c48
                                          try clear c48b0
                                          try clear c48b1
                                          try clear c50
                                          try clear p64
                                          try clear c75
                                          try clear c77
                                          try clear c77b0
                                          try clear c77b1
                                          try clear c79
                                          try clear c79b0
                                          try clear c85
                                          try clear c89
                                          try clear c89b0
                                          try clear c89b1
                                          try clear c92
                                          try clear c92b0
                                          try clear c92b1
                                          try clear c93
                                          try clear c93b0
                                          try clear c98
                                          try clear hcz100_0
                                          try clear hcz100_1
                                          try clear hcz99_0
                                          try clear hcz99_1
                                          try clear hfz100_0
                                          try clear hfz100_1
                                          try clear hfz99_0
                                          try clear hfz99_1
                                          try clear p2
                                          try clear p6
                                          try clear p64
                                          obtain ⟨kq, HA, HJ86, HO_5, HO_6, BK656, HB⟩ := hcut
                                          cases kq with
                                          | zero => exact absurd HA.out (by simp [glidepathlaw02_LineWithin.j6])
                                          | succ kj86 =>
                                            have H := HA.out
                                            clear HA
                                            simp only [glidepathlaw02_LineWithin.j6] at H
                                            have HC101 := Aside0.mk H
                                            clear H
                                            go_upto_region 25 with (fail)
                                            go_cut [150] (fun v150 wc => ∃ (kq : Nat) (x150_100 : Bool), v150 = .bool x150_100 ∧ Aside0 (glidepathlaw02_LineWithin.j7 kq l0 x5_2 x6_2 t647 x10_4 x150_100 t653 t654 = some r) ∧ Aside0 (kq ≤ kj86) ∧ Aside0 (Kd.R (Kd.int .i64) 3 wc w.heap.size (fun k_ => some k_ ≠ (u6 : Value).ownBlock) (.slice Ao88 x5_2.length co88) x5_2) ∧ Aside0 (Kd.R (Kd.int .i64) 3 wc w.heap.size (fun k_ => some k_ ≠ ((.slice Ao88 x5_2.length co88) : Value).ownBlock) u6 x6_2) ∧ Aside0 (wc.heap[gb656]? = some (.cells #[.int .i64 t653, .int .i64 t654] 26 (0, 0))) ∧ Aside0 (Below w.heap.size w wc))
                                            case first =>
                                              have H := HC101.out
                                              clear HC101
                                              by_cases c102 : x10_4 = 1
                                              · rw [if_pos c102] at H
                                                have c102b0 := beq_iff_eq.mpr c102
                                                have c102b1 := bne_eq_false_iff_eq.mpr c102
                                                clear c102
                                                (first | rw [c102b0] | (simp only [i64_w, i32_w]; rw [c102b0]) | skip)
                                                replace H := Option.bind_eq_some_iff.mp H
                                                obtain ⟨t672, A1030, H⟩ := H
                                                (try dsimp only at H)
                                                have A103 := Aside0.mk A1030
                                                clear A1030
                                                have H' := Aside0.mk H
                                                clear H
                                                go_wp2_with (first | (go_at_call 39; (with_reducible refine (glidepathref02_Sum.calls kj86 _ _ l0 t672 _ ?side1 ?side2 A103.out).mono ?_); (case side1 => exact bc (Kd.C_below HR0.out HB.out)); (case side2 => exact HC0.out); rintro e w' ⟨rfl, ⟨nd, rfl⟩⟩))
                                                go_meet
                                                case rel => exact ⟨_, (decide (t672 > 0)), (by first | rfl | (simp; done) | (simp [*]; done)), H', ⟨by have := HJ4.out; have := HK2.out; have := HJ31.out; have := HK4.out; have := HJ41.out; have := HJ75.out; have := HJ86.out; first | omega | exact Nat.le_refl _⟩, ⟨by (with_reducible repeat (first | apply Kd.R_alloc | apply Kd.R_drewN | apply Kd.R_drew)); exact HO_5.out⟩, ⟨by (with_reducible repeat (first | apply Kd.R_alloc | apply Kd.R_drewN | apply Kd.R_drew)); exact HO_6.out⟩, ⟨by (with_reducible repeat (first | refine blk_drewN ?_ _ | refine blk_drew ?_ | refine blk_alloc ?_ _)); exact BK656.out⟩, ⟨by repeat (first | (with_reducible first | exact HB.out | apply below_alloc | apply pw_below_drewN | apply below_drew1 | refine below_set ?_ GE656.out) | exact HB.out)⟩⟩
                                              · rw [if_neg c102] at H
                                                have c102b0 := beq_eq_false_iff_ne.mpr c102
                                                have c102b1 := bne_iff_ne.mpr c102
                                                (first | rw [c102b0] | (simp only [i64_w, i32_w]; rw [c102b0]) | skip)
                                                have H' := Aside0.mk H
                                                clear H
                                                go_wp2
                                                go_meet
                                                case rel => exact ⟨_, (false), (by first | rfl | (simp; done) | (simp [*]; done)), H', ⟨by have := HJ4.out; have := HK2.out; have := HJ31.out; have := HK4.out; have := HJ41.out; have := HJ75.out; have := HJ86.out; first | omega | exact Nat.le_refl _⟩, ⟨by (with_reducible repeat (first | apply Kd.R_alloc | apply Kd.R_drewN | apply Kd.R_drew)); exact HO_5.out⟩, ⟨by (with_reducible repeat (first | apply Kd.R_alloc | apply Kd.R_drewN | apply Kd.R_drew)); exact HO_6.out⟩, ⟨by (with_reducible repeat (first | refine blk_drewN ?_ _ | refine blk_drew ?_ | refine blk_alloc ?_ _)); exact BK656.out⟩, ⟨by repeat (first | (with_reducible first | exact HB.out | apply below_alloc | apply pw_below_drewN | apply below_drew1 | refine below_set ?_ GE656.out) | exact HB.out)⟩⟩
                                            case rest =>
                                              as_aux_lemma =>
                                              clear HC101
                                              try clear c1
                                              try clear p2
                                              try clear c3
                                              try clear c4
                                              try clear c5
                                              try clear p6
                                              try clear c7
                                              try clear c8
                                              try clear c9
                                              try clear c10
                                              try clear c30
                                              try clear c33
                                              try clear c34
                                              try clear c35
                                              try clear c36
                                              try clear c39
                                              try clear c40
                                              try clear c48
                                              try clear c48b0
                                              try clear c48b1
                                              try clear c50
                                              try clear p64
                                              try clear c75
                                              try clear c77
                                              try clear c77b0
                                              try clear c77b1
                                              try clear c79
                                              try clear c79b0
                                              try clear c85
                                              try clear c89
                                              try clear c89b0
                                              try clear c89b1
                                              try clear c92
                                              try clear c92b0
                                              try clear c92b1
                                              try clear c93
                                              try clear c93b0
                                              try clear c98
                                              try clear c102
                                              try clear c102b0
                                              try clear c102b1
                                              try clear hcz100_0
                                              try clear hcz100_1
                                              try clear hcz99_0
                                              try clear hcz99_1
                                              try clear hfz100_0
                                              try clear hfz100_1
                                              try clear hfz99_0
                                              try clear hfz99_1
                                              try clear p2
                                              try clear p6
                                              try clear p64
                                              obtain ⟨kq, x150_100, rfl, HA, HJ100, HO_5, HO_6, BK656, HB⟩ := hcut
                                              cases kq with
                                              | zero => exact absurd HA.out (by simp [glidepathlaw02_LineWithin.j7])
                                              | succ kj100 =>
                                                have H := HA.out
                                                clear HA
                                                simp only [glidepathlaw02_LineWithin.j7] at H
                                                by_cases c104 : x150_100 = true
                                                · subst c104
                                                  rw [if_pos rfl] at H
                                                  replace H := Option.bind_eq_some_iff.mp H
                                                  obtain ⟨t673, A1050, H⟩ := H
                                                  (try dsimp only at H)
                                                  have A105 := Aside0.mk A1050
                                                  clear A1050
                                                  replace H := Option.bind_eq_some_iff.mp H
                                                  obtain ⟨⟨t676, t677, t678⟩, A1060, H⟩ := H
                                                  (try dsimp only at H)
                                                  have A106 := Aside0.mk A1060
                                                  clear A1060
                                                  by_cases c107 : t678 = 0
                                                  · rw [if_pos c107] at H
                                                    have c107b0 := beq_iff_eq.mpr c107
                                                    have c107b1 := bne_eq_false_iff_eq.mpr c107
                                                    clear c107
                                                    replace H := Option.bind_eq_some_iff.mp H
                                                    obtain ⟨⟨t680, t681⟩, A1080, H⟩ := H
                                                    (try dsimp only at H)
                                                    have A108 := Aside0.mk A1080
                                                    clear A1080
                                                    by_cases c109 : (!(t676 == t680) || (!(t677 == t681))) = true
                                                    · rw [if_pos c109] at H
                                                      exact absurd H (by simp)
                                                    · rw [if_neg c109] at H
                                                      have c109b0 : (!(t676 == t680) || (!(t677 == t681))) = false := by simpa using c109
                                                      clear c109
                                                      have H' := Aside0.mk H
                                                      clear H
                                                      obtain ⟨Ao110, co110, eo110⟩ := Kd.R_slice HO_6.out
                                                      subst eo110
                                                      try go_wp2_with (first | ((with_reducible refine gate_callee (f := 33) rfl ?_); refine gl (some 153) Tryd.func33 #[.slice Ao110 x6_2.length co110] ?_; (with_reducible refine (glidepathbase_CopyInts.calls _ _ x6_2 t673 _ ?side1 ?side2 A105.out).mono ?_); (case side1 => exact bc (Kd.R_reads' HO_6.out).2.2); (case side2 => exact (Kd.R_reads' HO_6.out).2.1); rintro e w111 ⟨v674, rfl, ho0, hb⟩; refine ⟨_, rfl, ?_⟩; have HO675 := Aside0.mk (Kd.R_lower (Kd.R_new' (Kd.R_new' ho0 (Kd.R_lt (br HO_5.out))) (Kd.R_lt (br HO_6.out))) (below_size bz)); replace HO_5 := Aside0.mk (Kd.R_elder' (br HO_5.out) (Kd.R_base ho0) hb); replace HO_6 := Aside0.mk (Kd.R_elder' (br HO_6.out) (Kd.R_base ho0) hb); replace BK656 := bb BK656 hb; replace HB := sb HB hb; (try clear hb); (try clear ho0); obtain ⟨Ao112, co112, eo112⟩ := Kd.R_slice HO675.out; subst eo112) | ((with_reducible refine gate_callee (f := 34) rfl ?_); refine gl (some 155) Tryd.func34 #[.slice Ao112 t673.length co112, .int .i64 x10_4] ?_; (with_reducible refine (line_Estimated.calls kj100 _ _ t673 x10_4 t676 t677 t678 _ ?side1 ?side2 ?side3 A106.out).mono ?_); (case side1 => exact bc (Kd.R_reads' HO675.out).2.2); (case side2 => exact (Kd.R_reads' HO675.out).2.1); (case side3 => exact EstG.below HG.out bz); rintro e w113 ⟨rfl, hb⟩; refine ⟨_, rfl, ?_⟩; replace HO_5 := rb HO_5 hb; replace HO_6 := rb HO_6 hb; replace HO675 := rb HO675 hb; replace BK656 := bb BK656 hb; replace HB := sb HB hb; (try clear hb)) | ((with_reducible refine gate_dst (N := 15) rfl ?_); (try (refine gate_guard (by rfl) ?_; dsimp only)); refine be 15 26 #[.int .i64 0, .int .i64 0] ?_; intro gb679 hg w114 hbox hb; replace HO_5 := rb HO_5 hb; replace HO_6 := rb HO_6 hb; replace HO675 := rb HO675 hb; have BK679 := Aside0.mk hbox; have GW679 := Aside0.mk (bg (n := w.heap.size) hg); have GE679 := Aside0.mk (bg (n := w.heap.size) hg); replace HB := sb HB hb; have NB656_679 := nl BK656 hg; have NB679_656 := ng (nl BK656 hg); replace BK656 := bb BK656 hb; clear hb hbox hg; have hnb115 := NB679_656.out; have hnc115 := NB656_679.out; obtain ⟨_, _, _, _⟩ := b2 BK679))
                                                      have n0_ : Aside0 (Kd.R (Kd.int .i64) 3 ((w114.setCell ⟨gb679, 0, none⟩ (.int .i64 t676)).setCell ⟨gb679, 1, none⟩ (.int .i64 t677)) w.heap.size (fun k_ => some k_ ≠ (.slice Ao110 x6_2.length co110 : Value).ownBlock ∧ some k_ ≠ (.slice Ao112 t673.length co112 : Value).ownBlock) (.slice Ao88 x5_2.length co88) x5_2) := ⟨by (with_reducible repeat (first | apply Kd.R_alloc | apply Kd.R_drewN | apply Kd.R_drew)); exact Kd.R_mono (Kd.R_far (p := ⟨gb679, 1, none⟩) (Kd.R_far (p := ⟨gb679, 0, none⟩) (Kd.R_types HO_5.out BK679.out (by decide)) (fun _ hk => hk.2) (.int .i64 t676)) (fun _ hk => hk.2) (.int .i64 t677)) (fun _ hk => ⟨hk.1.1, hk.1.2⟩)⟩
                                                      have n1_ : Aside0 (Kd.R (Kd.int .i64) 3 ((w114.setCell ⟨gb679, 0, none⟩ (.int .i64 t676)).setCell ⟨gb679, 1, none⟩ (.int .i64 t677)) w.heap.size (fun k_ => some k_ ≠ (.slice Ao88 x5_2.length co88 : Value).ownBlock ∧ some k_ ≠ (.slice Ao112 t673.length co112 : Value).ownBlock) (.slice Ao110 x6_2.length co110) x6_2) := ⟨by (with_reducible repeat (first | apply Kd.R_alloc | apply Kd.R_drewN | apply Kd.R_drew)); exact Kd.R_mono (Kd.R_far (p := ⟨gb679, 1, none⟩) (Kd.R_far (p := ⟨gb679, 0, none⟩) (Kd.R_types HO_6.out BK679.out (by decide)) (fun _ hk => hk.2) (.int .i64 t676)) (fun _ hk => hk.2) (.int .i64 t677)) (fun _ hk => ⟨hk.1.1, hk.1.2⟩)⟩
                                                      have n2_ : Aside0 (Kd.R (Kd.int .i64) 3 ((w114.setCell ⟨gb679, 0, none⟩ (.int .i64 t676)).setCell ⟨gb679, 1, none⟩ (.int .i64 t677)) w.heap.size (fun k_ => some k_ ≠ (.slice Ao88 x5_2.length co88 : Value).ownBlock ∧ some k_ ≠ (.slice Ao110 x6_2.length co110 : Value).ownBlock) (.slice Ao112 t673.length co112) t673) := ⟨by (with_reducible repeat (first | apply Kd.R_alloc | apply Kd.R_drewN | apply Kd.R_drew)); exact Kd.R_mono (Kd.R_far (p := ⟨gb679, 1, none⟩) (Kd.R_far (p := ⟨gb679, 0, none⟩) (Kd.R_types HO675.out BK679.out (by decide)) (fun _ hk => hk.2) (.int .i64 t676)) (fun _ hk => hk.2) (.int .i64 t677)) (fun _ hk => ⟨hk.1.1.2, hk.1.2⟩)⟩
                                                      have n3_ : Aside0 (((w114.setCell ⟨gb679, 0, none⟩ (.int .i64 t676)).setCell ⟨gb679, 1, none⟩ (.int .i64 t677)).heap[gb656]? = some (.cells #[.int .i64 t653, .int .i64 t654] 26 (0, 0))) := ⟨by (with_reducible repeat (first | refine blk_drewN ?_ _ | refine blk_drew ?_ | refine blk_alloc ?_ _)); refine blk_far ?_ NB656_679.out _; (with_reducible repeat (first | refine blk_drewN ?_ _ | refine blk_drew ?_ | refine blk_alloc ?_ _)); refine blk_far ?_ NB656_679.out _; (with_reducible repeat (first | refine blk_drewN ?_ _ | refine blk_drew ?_ | refine blk_alloc ?_ _)); exact BK656.out⟩
                                                      have n4_ : Aside0 (((w114.setCell ⟨gb679, 0, none⟩ (.int .i64 t676)).setCell ⟨gb679, 1, none⟩ (.int .i64 t677)).heap[gb679]? = some (.cells #[.int .i64 t676, .int .i64 t677] 26 (0, 0))) := ⟨by (with_reducible repeat (first | refine blk_drewN ?_ _ | refine blk_drew ?_ | refine blk_alloc ?_ _)); refine blk_put (cs := #[.int .i64 t676, .int .i64 0]) ?_ 1 _ rfl; (with_reducible repeat (first | refine blk_drewN ?_ _ | refine blk_drew ?_ | refine blk_alloc ?_ _)); refine blk_put (cs := #[.int .i64 0, .int .i64 0]) ?_ 0 _ rfl; (with_reducible repeat (first | refine blk_drewN ?_ _ | refine blk_drew ?_ | refine blk_alloc ?_ _)); exact BK679.out⟩
                                                      have n5_ : Aside0 (Below w.heap.size w ((w114.setCell ⟨gb679, 0, none⟩ (.int .i64 t676)).setCell ⟨gb679, 1, none⟩ (.int .i64 t677))) := ⟨by repeat (first | (with_reducible first | exact HB.out | apply below_alloc | apply pw_below_drewN | apply below_drew1 | refine below_set ?_ GE656.out | refine below_set ?_ GE679.out) | exact HB.out)⟩
                                                      (try clear HO_5)
                                                      (try clear HO_6)
                                                      (try clear HO675)
                                                      (try clear BK656)
                                                      (try clear BK679)
                                                      (try clear HB)
                                                      generalize ((w114.setCell ⟨gb679, 0, none⟩ (.int .i64 t676)).setCell ⟨gb679, 1, none⟩ (.int .i64 t677)) = w117 at n0_ n1_ n2_ n3_ n4_ n5_ ⊢
                                                      have HO_5 := n0_
                                                      have HO_6 := n1_
                                                      have HO675 := n2_
                                                      have BK656 := n3_
                                                      have BK679 := n4_
                                                      have HB := n5_
                                                      clear n0_ n1_ n2_ n3_ n4_ n5_
                                                      replace HO_5 := Aside0.mk (Kd.R_drew HO_5.out); replace HO_6 := Aside0.mk (Kd.R_drew HO_6.out); replace HO675 := Aside0.mk (Kd.R_drew HO675.out); replace BK656 := Aside0.mk (blk_drew BK656.out); replace BK679 := Aside0.mk (blk_drew BK679.out); replace HB := Aside0.mk (below_drew1 HB.out)
                                                      refine start_ (n := 18) (S := fun w' => w'.cell? ⟨gb679, 0, none⟩ = some (.int .i64 t676) ∧ w'.cell? ⟨gb679, 1, none⟩ = some (.int .i64 t677) ∧ w'.cell? ⟨gb656, 0, none⟩ = some (.int .i64 t653) ∧ w'.cell? ⟨gb656, 1, none⟩ = some (.int .i64 t654)) (ds := []) #[false, false, false, false, false, false, false, false, false, false, false, false, false, false, false, false, false, false] (by kernel_rfl) rfl rfl ⟨(blk_cell BK679.out 0).trans rfl, (blk_cell BK679.out 1).trans rfl, (blk_cell BK656.out 0).trans rfl, (blk_cell BK656.out 1).trans rfl⟩ (fun hHeld => ?_); refine with_tabW glidepathlaw02_LineWithin.tab27 glidepathlaw02_LineWithin.bits27 (fun HT_ HW_ => ?_)
                                                      generalize w117.drew = w118 at HO_5 HO_6 HO675 BK656 BK679 HB hHeld ⊢
                                                      refine pureZ (i := 0) (N := some 158) (bs 18 1) HT_ ?_
                                                      refine pureZ (i := 1) (N := some 159) (bs 18 3) HT_ ?_
                                                      refine pureZ (i := 2) (N := some 160) (bs 18 7) HT_ ?_
                                                      refine pureZ (i := 4) (N := some 162) (bs 18 23) HT_ ?_
                                                      refine pureZ (i := 5) (N := some 163) (bs 18 55) HT_ ?_
                                                      refine pureZ (i := 6) (N := some 164) (bs 18 119) HT_ ?_
                                                      refine pureZ (i := 7) (N := some 165) (bs 18 247) HT_ ?_
                                                      refine pureZ (i := 10) (N := some 168) (bs 18 1271) HT_ ?_
                                                      refine pureZ (i := 13) (N := some 171) (bs 18 9463) HT_ ?_
                                                      refine take_ (i := 3) (N := some 161) (v := ?_) (a' := ?_) (bs 18 9471) rfl rfl (take_ofW HT_.out HW_.out (by kernel_rfl)) (fun _ _ _ h => h) (Or.inl ⟨by rfl, ?_⟩) hHeld ?_ ?_
                                                      rotate_left
                                                      · rintro w' ⟨s0, s1, s2, s3⟩
                                                        go_simp
                                                        with_reducible rfl
                                                      rotate_left
                                                      · exact pz
                                                      refine take_ (i := 8) (N := some 166) (v := ?_) (a' := ?_) (bs 18 9727) rfl rfl (take_ofW HT_.out HW_.out (by kernel_rfl)) (fun _ _ _ h => h) (Or.inl ⟨by rfl, ?_⟩) hHeld ?_ ?_
                                                      rotate_left
                                                      · rintro w' ⟨s0, s1, s2, s3⟩
                                                        go_simp
                                                        with_reducible rfl
                                                      rotate_left
                                                      · exact pz
                                                      refine pureZ (i := 9) (N := some 167) (bs 18 10239) HT_ ?_
                                                      refine take_ (i := 11) (N := some 169) (v := ?_) (a' := ?_) (bs 18 12287) rfl rfl (take_ofW HT_.out HW_.out (by kernel_rfl)) (fun _ _ _ h => h) (Or.inl ⟨by rfl, ?_⟩) hHeld ?_ ?_
                                                      rotate_left
                                                      · rintro w' ⟨s0, s1, s2, s3⟩
                                                        go_simp
                                                        with_reducible rfl
                                                      rotate_left
                                                      · exact pz
                                                      refine pureZ (i := 12) (N := some 170) (bs 18 16383) HT_ ?_
                                                      refine take_ (i := 14) (N := some 172) (v := ?_) (a' := ?_) (bs 18 32767) rfl rfl (take_ofW HT_.out HW_.out (by kernel_rfl)) (fun _ _ _ h => h) (Or.inl ⟨by rfl, ?_⟩) hHeld ?_ ?_
                                                      rotate_left
                                                      · rintro w' ⟨s0, s1, s2, s3⟩
                                                        go_simp
                                                        with_reducible rfl
                                                      rotate_left
                                                      · exact pz
                                                      refine one_ (i := 15) (N := some 173) (bs 18 65535) rfl rfl (one_of HT_.out (by kernel_rfl)) (by decide) (fun K hK => ?_)
                                                      refine goes_ Tryd.func41 (by kernel_rfl) rfl #[.int .i64 (wrap64 ((wrap64 ((wrap64 ((l0.length : Int) - 1)) * t654)) - t653)), .int .i64 t654] (by rfl) rfl rfl mz ?_
                                                      with_reducible refine (glidepathbase_Lowest.calls kj100 (wrap64 ((wrap64 ((wrap64 ((l0.length : Int) - 1)) * t654)) - t653)) t654 t680 t681 _ A108.out).mono ?_
                                                      rintro e w119 ⟨rfl, hb⟩
                                                      refine ⟨_, rfl, ?_⟩
                                                      replace HO_5 := rb HO_5 hb; replace HO_6 := rb HO_6 hb; replace HO675 := rb HO675 hb; replace BK656 := bb BK656 hb; replace BK679 := bb BK679 hb; replace HB := sb HB hb
                                                      (try clear hb)
                                                      (try clear hb2)
                                                      (try clear hk)
                                                      (try clear hi)
                                                      refine hK.out _ _ ⟨(blk_cell BK679.out 0).trans rfl, (blk_cell BK679.out 1).trans rfl, (blk_cell BK656.out 0).trans rfl, (blk_cell BK656.out 1).trans rfl⟩ (fun hHeld => ?_)
                                                      clear hK K
                                                      refine norm_ (a' := ?_) ?_ ?_
                                                      rotate_left
                                                      · show Act.put _ (some 173) _ = _
                                                        exact pz
                                                      refine pureZ (i := 16) (N := some 174) (bs 18 131071) HT_ ?_
                                                      refine pureZ (i := 17) (N := some 175) (bs 18 262143) HT_ ?_
                                                      refine done_ (done_of HT_.out (by kernel_rfl)) ?_
                                                      try go_wp2
                                                      go_roundg kj100
                                                      case measure => have := HJ4.out; have := HK2.out; have := HJ31.out; have := HK4.out; have := HJ41.out; have := HJ75.out; have := HJ86.out; have := HJ100.out; omega
                                                      case rel => exact ⟨(wrap64 (x10_4 + 1)), (by first | rfl | (simp; done) | (simp [*]; done)), H', ⟨by have := HJ4.out; have := HK2.out; have := HJ31.out; have := HK4.out; have := HJ41.out; have := HJ75.out; have := HJ86.out; have := HJ100.out; omega⟩, ⟨by (with_reducible repeat (first | apply Kd.R_alloc | apply Kd.R_drewN | apply Kd.R_drew)); exact Kd.R_mono HO_5.out (fun _ hk => hk.1)⟩, ⟨by (with_reducible repeat (first | apply Kd.R_alloc | apply Kd.R_drewN | apply Kd.R_drew)); exact Kd.R_mono HO_6.out (fun _ hk => hk.1)⟩, ⟨by repeat (first | (with_reducible first | exact HB.out | apply below_alloc | apply pw_below_drewN | apply below_drew1 | refine below_set ?_ GE656.out | refine below_set ?_ GE679.out) | exact HB.out)⟩⟩
                                                  · rw [if_neg c107] at H
                                                    have c107b0 := beq_eq_false_iff_ne.mpr c107
                                                    have c107b1 := bne_iff_ne.mpr c107
                                                    exact absurd H (by simp)
                                                · replace c104 := Bool.eq_false_iff.mpr c104
                                                  subst c104
                                                  rw [if_neg (show ¬ (false = true) by decide)] at H
                                                  have H' := Aside0.mk H
                                                  clear H
                                                  go_wp2
                                                  go_roundg kj100
                                                  case measure => have := HJ4.out; have := HK2.out; have := HJ31.out; have := HK4.out; have := HJ41.out; have := HJ75.out; have := HJ86.out; have := HJ100.out; omega
                                                  case rel => exact ⟨(wrap64 (x10_4 + 1)), (by first | rfl | (simp; done) | (simp [*]; done)), H', ⟨by have := HJ4.out; have := HK2.out; have := HJ31.out; have := HK4.out; have := HJ41.out; have := HJ75.out; have := HJ86.out; have := HJ100.out; omega⟩, ⟨by (with_reducible repeat (first | apply Kd.R_alloc | apply Kd.R_drewN | apply Kd.R_drew)); exact HO_5.out⟩, ⟨by (with_reducible repeat (first | apply Kd.R_alloc | apply Kd.R_drewN | apply Kd.R_drew)); exact HO_6.out⟩, ⟨by repeat (first | (with_reducible first | exact HB.out | apply below_alloc | apply pw_below_drewN | apply below_drew1 | refine below_set ?_ GE656.out) | exact HB.out)⟩⟩
                          · rw [if_neg c39] at H
                            have c39b0 := decide_eq_false c39
                            clear c39
                            obtain rfl := Option.some.inj H
                            go_wp2
                            go_ret
                            exact ez
  · replace c4 := Bool.eq_false_iff.mpr c4
    subst c4
    rw [if_neg (show ¬ (false = true) by decide)] at H
    exact absurd H (by simp)
end Go.Proofs.YtjnkphmcndaijaaDoor.A
