/- Walks of the program's functions (printed, made shorter), each with what it computes. -/
import Derived.Test.YtjnkphmcndaijaaDoorRea04
import Derived.Test.YtjnkphmcndaijaaDoorRea08
import Derived.Test.YtjnkphmcndaijaaDoorRea09
import Derived.Test.YtjnkphmcndaijaaDoorRea12
import Derived.Test.YtjnkphmcndaijaaDoorRea13
import Derived.Test.YtjnkphmcndaijaaDoorRea14
import Derived.Test.YtjnkphmcndaijaaDoorRea03
namespace Go.Proofs.YtjnkphmcndaijaaDoor.A
set_option maxHeartbeats 8000000
set_option maxRecDepth 100000
open Go.RowKit Go.Proofs.YtjnkphmcndaijaaDoorW.PrintWords Go.Proofs.YtjnkphmcndaijaaDoorW.PrintLast Go.Proofs.YtjnkphmcndaijaaDoorW.PrintMore
attribute [local go_sem] max2_int min2_int max_two min_two max_three min_three max_four min_four
set_option linter.unusedVariables false
set_option linter.unusedSimpArgs false
attribute [local go_sem high] eqA26
mutual
def Lw_LineReached.j0 : Nat → Int → Bool → List Int → List Int → Int → Int → Option (Bool)
  | 0, _, _, _, _, _, _ => none
  | k + 1, x1, x34, x1638000, x1638001, x1638002, x1638003 => if x34 = true then (some true) else ((Rf_CopyCase.f x1638000 x1638001 x1638002 x1638003).bind fun bt1642 => ((line_WorstOf.f k bt1642.1 bt1642.2.1 bt1642.2.2.1 bt1642.2.2.2 x1).bind fun bt1650 => (if bt1650.2.2.2 = 0 then ((Bs_IsLowest.f k bt1650.1 bt1650.2.1).bind fun t1655 => (if t1655 = true then ((Bs_IsSmall.f bt1650.1 bt1650.2.1).bind fun t1656 => (if t1656 = true then (Lw_LineReached.j1 k x1 (decide (bt1650.1 < 0)) x1638000 x1638001 x1638002 x1638003 bt1650.1 bt1650.2.1 bt1650.2.2.1) else (Lw_LineReached.j1 k x1 true x1638000 x1638001 x1638002 x1638003 bt1650.1 bt1650.2.1 bt1650.2.2.1))) else (Lw_LineReached.j1 k x1 true x1638000 x1638001 x1638002 x1638003 bt1650.1 bt1650.2.1 bt1650.2.2.1))) else (Lw_LineReached.j1 k x1 true x1638000 x1638001 x1638002 x1638003 bt1650.1 bt1650.2.1 bt1650.2.2.1))))
def Lw_LineReached.j1 : Nat → Int → Bool → List Int → List Int → Int → Int → Int → Int → Int → Option (Bool)
  | 0, _, _, _, _, _, _, _, _, _ => none
  | k + 1, x1, x61, x1638000, x1638001, x1638002, x1638003, x1655000, x1655001, x1655002 => if x61 = true then (none) else ((Rf_Cases.f k x1638001 (x1638000.length : Int)).bind fun t1657 => (Lw_LineReached.l0 k x1 t1657 0 (-1) 0 x1638000 x1638001 x1638002 x1638003 x1655000 x1655001 x1655002))
def Lw_LineReached.l0 : Nat → Int → Int → Int → Int → Int → List Int → List Int → Int → Int → Int → Int → Int → Option (Bool)
  | 0, _, _, _, _, _, _, _, _, _, _, _, _ => none
  | k + 1, x1, x7, x8, x9, x10, x1638000, x1638001, x1638002, x1638003, x1655000, x1655001, x1655002 => if x10 < x7 then ((Rf_CopyCase.f x1638000 x1638001 x1638002 x1638003).bind fun bt1658 => ((line_Noisy.f k bt1658.1 bt1658.2.1 bt1658.2.2.1 bt1658.2.2.2 x10).bind fun bt1666 => (if bt1666.2 = 0 then (Lw_LineReached.j3 k x1 x7 x8 x9 x10 bt1666.1 ((bt1666.1.length : Int) != (x1638000.length : Int)) x1638000 x1638001 x1638002 x1638003 x1655000 x1655001 x1655002) else (Lw_LineReached.j3 k x1 x7 x8 x9 x10 bt1666.1 true x1638000 x1638001 x1638002 x1638003 x1655000 x1655001 x1655002)))) else ((Rf_CopyCase.f x1638000 x1638001 x1638002 x1638003).bind fun bt1684 => ((line_CheckWorst.f k bt1684.1 bt1684.2.1 bt1684.2.2.1 bt1684.2.2.2 x1 x1655000 x1655001 x1655002).bind fun bt1692 => (if x9 = x1655002 then (if bt1692.2 = 0 then (Lw_LineReached.j5 k x1 x7 x8 (bt1692.1 != 0) x1638000 x1638001 x1638002 x1638003 x1655000 x1655001 x1655002) else (Lw_LineReached.j5 k x1 x7 x8 true x1638000 x1638001 x1638002 x1638003 x1655000 x1655001 x1655002)) else (Lw_LineReached.j5 k x1 x7 x8 true x1638000 x1638001 x1638002 x1638003 x1655000 x1655001 x1655002))))
def Lw_LineReached.j3 : Nat → Int → Int → Int → Int → Int → List Int → Bool → List Int → List Int → Int → Int → Int → Int → Int → Option (Bool)
  | 0, _, _, _, _, _, _, _, _, _, _, _, _, _, _ => none
  | k + 1, x1, x7, x8, x9, x10, x11, x89, x1638000, x1638001, x1638002, x1638003, x1655000, x1655001, x1655002 => if x89 = true then (none) else ((line_Estimated.f k x11 x1).bind fun bt1670 => (if bt1670.2.2 = 0 then ((Bs_IsLowest.f k bt1670.1 bt1670.2.1).bind fun t1674 => (if t1674 = true then ((Bs_IsSmall.f bt1670.1 bt1670.2.1).bind fun t1675 => (if t1675 = true then (if bt1670.1 < 0 then (Lw_LineReached.j4 k x1 x7 x8 x9 x10 true x1638000 x1638001 x1638002 x1638003 x1655000 x1655001 x1655002 bt1670.1 bt1670.2.1) else ((Bs_Whole.f (x11.length : Int)).bind fun bt1676 => ((Bs_Cmp.f bt1670.1 bt1670.2.1 bt1676.1 bt1676.2).bind fun t1678 => (Lw_LineReached.j4 k x1 x7 x8 x9 x10 (decide (t1678 > 0)) x1638000 x1638001 x1638002 x1638003 x1655000 x1655001 x1655002 bt1670.1 bt1670.2.1)))) else (Lw_LineReached.j4 k x1 x7 x8 x9 x10 true x1638000 x1638001 x1638002 x1638003 x1655000 x1655001 x1655002 bt1670.1 bt1670.2.1))) else (Lw_LineReached.j4 k x1 x7 x8 x9 x10 true x1638000 x1638001 x1638002 x1638003 x1655000 x1655001 x1655002 bt1670.1 bt1670.2.1))) else (Lw_LineReached.j4 k x1 x7 x8 x9 x10 true x1638000 x1638001 x1638002 x1638003 x1655000 x1655001 x1655002 bt1670.1 bt1670.2.1)))
def Lw_LineReached.j4 : Nat → Int → Int → Int → Int → Int → Bool → List Int → List Int → Int → Int → Int → Int → Int → Int → Int → Option (Bool)
  | 0, _, _, _, _, _, _, _, _, _, _, _, _, _, _, _ => none
  | k + 1, x1, x7, x8, x9, x10, x120, x1638000, x1638001, x1638002, x1638003, x1655000, x1655001, x1655002, x1674000, x1674001 => if x120 = true then (none) else ((Bs_Size.f (wrap64 ((wrap64 (x1674000 * x1638003)) - (wrap64 (x1638002 * x1674001))))).bind fun t1679 => ((Bs_Lowest.f k t1679 (wrap64 (x1674001 * x1638003))).bind fun bt1680 => ((Bs_Cmp.f bt1680.1 bt1680.2 x1655000 x1655001).bind fun t1683 => (if t1683 > 0 then (none) else (if (bt1680.1 == x1655000 && (bt1680.2 == x1655001)) = true then (if x9 < 0 then (Lw_LineReached.l0 k x1 x7 (wrap64 (x8 + x1674000)) x10 (wrap64 (x10 + 1)) x1638000 x1638001 x1638002 x1638003 x1655000 x1655001 x1655002) else (Lw_LineReached.l0 k x1 x7 (wrap64 (x8 + x1674000)) x9 (wrap64 (x10 + 1)) x1638000 x1638001 x1638002 x1638003 x1655000 x1655001 x1655002)) else (Lw_LineReached.l0 k x1 x7 (wrap64 (x8 + x1674000)) x9 (wrap64 (x10 + 1)) x1638000 x1638001 x1638002 x1638003 x1655000 x1655001 x1655002))))))
def Lw_LineReached.j5 : Nat → Int → Int → Int → Bool → List Int → List Int → Int → Int → Int → Int → Int → Option (Bool)
  | 0, _, _, _, _, _, _, _, _, _, _, _ => none
  | k + 1, x1, x7, x8, x179, x1638000, x1638001, x1638002, x1638003, x1655000, x1655001, x1655002 => if x179 = true then (none) else (if x1 = 0 then (Lw_LineReached.j6 k x1 x7 x8 false x1638000 x1638001 x1638002 x1638003 x1655000 x1655001 x1655002) else (Lw_LineReached.j6 k x1 x7 x8 (x1 != 3) x1638000 x1638001 x1638002 x1638003 x1655000 x1655001 x1655002))
def Lw_LineReached.j6 : Nat → Int → Int → Int → Bool → List Int → List Int → Int → Int → Int → Int → Int → Option (Bool)
  | 0, _, _, _, _, _, _, _, _, _, _, _ => none
  | k + 1, x1, x7, x8, x185, x1638000, x1638001, x1638002, x1638003, x1655000, x1655001, x1655002 => if x185 = true then (some true) else ((Rf_CopyCase.f x1638000 x1638001 x1638002 x1638003).bind fun bt1694 => ((line_BiasOf.f k bt1694.1 bt1694.2.1 bt1694.2.2.1 bt1694.2.2.2 x1).bind fun bt1702 => (if bt1702.2.2 = 0 then ((Bs_Lowest.f k (wrap64 ((wrap64 (x8 * x1638003)) - (wrap64 (x1638002 * x7)))) (wrap64 (x7 * x1638003))).bind fun bt1706 => (if (bt1702.1 == bt1706.1 && (bt1702.2.1 == bt1706.2)) = true then ((Bs_Size.f bt1702.1).bind fun t1708 => ((Bs_Lowest.f k t1708 bt1702.2.1).bind fun bt1709 => ((Bs_Cmp.f bt1709.1 bt1709.2 x1655000 x1655001).bind fun t1711 => (some (decide (t1711 ≤ 0)))))) else (none))) else (none))))
end
def Lw_LineReached.f (k : Nat) (l0_0 : List Int) (l0_1 : List Int) (a0_2 : Int) (a0_3 : Int) (a1 : Int) : Option (Bool) := (Lw_awake.f k).bind fun t1638 => (if t1638 = true then ((Lw_light.f k l0_0 l0_1 a0_2 a0_3).bind fun t1639 => (if t1639 = true then ((Rf_CaseErr.f k l0_0 l0_1 a0_2 a0_3).bind fun t1640 => (if t1640 = 0 then ((Rf_KindErr.f a1).bind fun t1641 => (Lw_LineReached.j0 k a1 (t1641 != 0) l0_0 l0_1 a0_2 a0_3)) else (Lw_LineReached.j0 k a1 true l0_0 l0_1 a0_2 a0_3))) else (Lw_LineReached.j0 k a1 true l0_0 l0_1 a0_2 a0_3))) else (none))
theorem Lw_LineReached.mono_l : ∀ k, (∀ y0 y1 y2 y3 y4 y5, LeO (Lw_LineReached.j0 k y0 y1 y2 y3 y4 y5) (Lw_LineReached.j0 (k + 1) y0 y1 y2 y3 y4 y5)) ∧ (∀ y0 y1 y2 y3 y4 y5 y6 y7 y8, LeO (Lw_LineReached.j1 k y0 y1 y2 y3 y4 y5 y6 y7 y8) (Lw_LineReached.j1 (k + 1) y0 y1 y2 y3 y4 y5 y6 y7 y8)) ∧ (∀ y0 y1 y2 y3 y4 y5 y6 y7 y8 y9 y10 y11, LeO (Lw_LineReached.l0 k y0 y1 y2 y3 y4 y5 y6 y7 y8 y9 y10 y11) (Lw_LineReached.l0 (k + 1) y0 y1 y2 y3 y4 y5 y6 y7 y8 y9 y10 y11)) ∧ (∀ y0 y1 y2 y3 y4 y5 y6 y7 y8 y9 y10 y11 y12 y13, LeO (Lw_LineReached.j3 k y0 y1 y2 y3 y4 y5 y6 y7 y8 y9 y10 y11 y12 y13) (Lw_LineReached.j3 (k + 1) y0 y1 y2 y3 y4 y5 y6 y7 y8 y9 y10 y11 y12 y13)) ∧ (∀ y0 y1 y2 y3 y4 y5 y6 y7 y8 y9 y10 y11 y12 y13 y14, LeO (Lw_LineReached.j4 k y0 y1 y2 y3 y4 y5 y6 y7 y8 y9 y10 y11 y12 y13 y14) (Lw_LineReached.j4 (k + 1) y0 y1 y2 y3 y4 y5 y6 y7 y8 y9 y10 y11 y12 y13 y14)) ∧ (∀ y0 y1 y2 y3 y4 y5 y6 y7 y8 y9 y10, LeO (Lw_LineReached.j5 k y0 y1 y2 y3 y4 y5 y6 y7 y8 y9 y10) (Lw_LineReached.j5 (k + 1) y0 y1 y2 y3 y4 y5 y6 y7 y8 y9 y10)) ∧ (∀ y0 y1 y2 y3 y4 y5 y6 y7 y8 y9 y10, LeO (Lw_LineReached.j6 k y0 y1 y2 y3 y4 y5 y6 y7 y8 y9 y10) (Lw_LineReached.j6 (k + 1) y0 y1 y2 y3 y4 y5 y6 y7 y8 y9 y10))
  | 0 => ⟨fun _ _ _ _ _ _ r h => by simp [Lw_LineReached.j0] at h, fun _ _ _ _ _ _ _ _ _ r h => by simp [Lw_LineReached.j1] at h, fun _ _ _ _ _ _ _ _ _ _ _ _ r h => by simp [Lw_LineReached.l0] at h, fun _ _ _ _ _ _ _ _ _ _ _ _ _ _ r h => by simp [Lw_LineReached.j3] at h, fun _ _ _ _ _ _ _ _ _ _ _ _ _ _ _ r h => by simp [Lw_LineReached.j4] at h, fun _ _ _ _ _ _ _ _ _ _ _ r h => by simp [Lw_LineReached.j5] at h, fun _ _ _ _ _ _ _ _ _ _ _ r h => by simp [Lw_LineReached.j6] at h⟩
  | k + 1 => by
    obtain ⟨ih0, ih1, ih2, ih3, ih4, ih5, ih6⟩ := Lw_LineReached.mono_l k
    refine ⟨?_, ?_, ?_, ?_, ?_, ?_, ?_⟩
    · intro y0 y1 y2 y3 y4 y5
      unfold Lw_LineReached.j0
      repeat' first
      | (with_reducible exact ih0 _ _ _ _ _ _)
      | (with_reducible exact ih1 _ _ _ _ _ _ _ _ _)
      | (with_reducible exact ih2 _ _ _ _ _ _ _ _ _ _ _ _)
      | (with_reducible exact ih3 _ _ _ _ _ _ _ _ _ _ _ _ _ _)
      | (with_reducible exact ih4 _ _ _ _ _ _ _ _ _ _ _ _ _ _ _)
      | (with_reducible exact ih5 _ _ _ _ _ _ _ _ _ _ _)
      | (with_reducible exact ih6 _ _ _ _ _ _ _ _ _ _ _)
      | (with_reducible exact Bs_IsLowest.mono _ _ _)
      | (with_reducible exact Bs_Lowest.mono _ _ _)
      | (with_reducible exact Lw_awake.mono _)
      | (with_reducible exact Lw_light.mono _ _ _ _ _)
      | (with_reducible exact Rf_CaseErr.mono _ _ _ _ _)
      | (with_reducible exact Rf_Cases.mono _ _ _)
      | (with_reducible exact line_BiasOf.mono _ _ _ _ _ _)
      | (with_reducible exact line_CheckWorst.mono _ _ _ _ _ _ _ _ _)
      | (with_reducible exact line_Estimated.mono _ _ _)
      | (with_reducible exact line_Noisy.mono _ _ _ _ _ _)
      | (with_reducible exact line_WorstOf.mono _ _ _ _ _ _)
      | (with_reducible exact LeO.refl _)
      | (with_reducible exact LeO.none _)
      | (with_reducible refine LeO.ite ?_ ?_)
      | (with_reducible refine LeO.bind ?_ (fun _ => ?_))
      | exact ih0 _ _ _ _ _ _
      | exact ih1 _ _ _ _ _ _ _ _ _
      | exact ih2 _ _ _ _ _ _ _ _ _ _ _ _
      | exact ih3 _ _ _ _ _ _ _ _ _ _ _ _ _ _
      | exact ih4 _ _ _ _ _ _ _ _ _ _ _ _ _ _ _
      | exact ih5 _ _ _ _ _ _ _ _ _ _ _
      | exact ih6 _ _ _ _ _ _ _ _ _ _ _
      | exact Bs_IsLowest.mono _ _ _
      | exact Bs_Lowest.mono _ _ _
      | exact Lw_awake.mono _
      | exact Lw_light.mono _ _ _ _ _
      | exact Rf_CaseErr.mono _ _ _ _ _
      | exact Rf_Cases.mono _ _ _
      | exact line_BiasOf.mono _ _ _ _ _ _
      | exact line_CheckWorst.mono _ _ _ _ _ _ _ _ _
      | exact line_Estimated.mono _ _ _
      | exact line_Noisy.mono _ _ _ _ _ _
      | exact line_WorstOf.mono _ _ _ _ _ _
      | exact LeO.none _
      | refine LeO.ite ?_ ?_
      | refine LeO.bind ?_ (fun _ => ?_)
    · intro y0 y1 y2 y3 y4 y5 y6 y7 y8
      unfold Lw_LineReached.j1
      repeat' first
      | (with_reducible exact ih0 _ _ _ _ _ _)
      | (with_reducible exact ih1 _ _ _ _ _ _ _ _ _)
      | (with_reducible exact ih2 _ _ _ _ _ _ _ _ _ _ _ _)
      | (with_reducible exact ih3 _ _ _ _ _ _ _ _ _ _ _ _ _ _)
      | (with_reducible exact ih4 _ _ _ _ _ _ _ _ _ _ _ _ _ _ _)
      | (with_reducible exact ih5 _ _ _ _ _ _ _ _ _ _ _)
      | (with_reducible exact ih6 _ _ _ _ _ _ _ _ _ _ _)
      | (with_reducible exact Bs_IsLowest.mono _ _ _)
      | (with_reducible exact Bs_Lowest.mono _ _ _)
      | (with_reducible exact Lw_awake.mono _)
      | (with_reducible exact Lw_light.mono _ _ _ _ _)
      | (with_reducible exact Rf_CaseErr.mono _ _ _ _ _)
      | (with_reducible exact Rf_Cases.mono _ _ _)
      | (with_reducible exact line_BiasOf.mono _ _ _ _ _ _)
      | (with_reducible exact line_CheckWorst.mono _ _ _ _ _ _ _ _ _)
      | (with_reducible exact line_Estimated.mono _ _ _)
      | (with_reducible exact line_Noisy.mono _ _ _ _ _ _)
      | (with_reducible exact line_WorstOf.mono _ _ _ _ _ _)
      | (with_reducible exact LeO.refl _)
      | (with_reducible exact LeO.none _)
      | (with_reducible refine LeO.ite ?_ ?_)
      | (with_reducible refine LeO.bind ?_ (fun _ => ?_))
      | exact ih0 _ _ _ _ _ _
      | exact ih1 _ _ _ _ _ _ _ _ _
      | exact ih2 _ _ _ _ _ _ _ _ _ _ _ _
      | exact ih3 _ _ _ _ _ _ _ _ _ _ _ _ _ _
      | exact ih4 _ _ _ _ _ _ _ _ _ _ _ _ _ _ _
      | exact ih5 _ _ _ _ _ _ _ _ _ _ _
      | exact ih6 _ _ _ _ _ _ _ _ _ _ _
      | exact Bs_IsLowest.mono _ _ _
      | exact Bs_Lowest.mono _ _ _
      | exact Lw_awake.mono _
      | exact Lw_light.mono _ _ _ _ _
      | exact Rf_CaseErr.mono _ _ _ _ _
      | exact Rf_Cases.mono _ _ _
      | exact line_BiasOf.mono _ _ _ _ _ _
      | exact line_CheckWorst.mono _ _ _ _ _ _ _ _ _
      | exact line_Estimated.mono _ _ _
      | exact line_Noisy.mono _ _ _ _ _ _
      | exact line_WorstOf.mono _ _ _ _ _ _
      | exact LeO.none _
      | refine LeO.ite ?_ ?_
      | refine LeO.bind ?_ (fun _ => ?_)
    · intro y0 y1 y2 y3 y4 y5 y6 y7 y8 y9 y10 y11
      unfold Lw_LineReached.l0
      repeat' first
      | (with_reducible exact ih0 _ _ _ _ _ _)
      | (with_reducible exact ih1 _ _ _ _ _ _ _ _ _)
      | (with_reducible exact ih2 _ _ _ _ _ _ _ _ _ _ _ _)
      | (with_reducible exact ih3 _ _ _ _ _ _ _ _ _ _ _ _ _ _)
      | (with_reducible exact ih4 _ _ _ _ _ _ _ _ _ _ _ _ _ _ _)
      | (with_reducible exact ih5 _ _ _ _ _ _ _ _ _ _ _)
      | (with_reducible exact ih6 _ _ _ _ _ _ _ _ _ _ _)
      | (with_reducible exact Bs_IsLowest.mono _ _ _)
      | (with_reducible exact Bs_Lowest.mono _ _ _)
      | (with_reducible exact Lw_awake.mono _)
      | (with_reducible exact Lw_light.mono _ _ _ _ _)
      | (with_reducible exact Rf_CaseErr.mono _ _ _ _ _)
      | (with_reducible exact Rf_Cases.mono _ _ _)
      | (with_reducible exact line_BiasOf.mono _ _ _ _ _ _)
      | (with_reducible exact line_CheckWorst.mono _ _ _ _ _ _ _ _ _)
      | (with_reducible exact line_Estimated.mono _ _ _)
      | (with_reducible exact line_Noisy.mono _ _ _ _ _ _)
      | (with_reducible exact line_WorstOf.mono _ _ _ _ _ _)
      | (with_reducible exact LeO.refl _)
      | (with_reducible exact LeO.none _)
      | (with_reducible refine LeO.ite ?_ ?_)
      | (with_reducible refine LeO.bind ?_ (fun _ => ?_))
      | exact ih0 _ _ _ _ _ _
      | exact ih1 _ _ _ _ _ _ _ _ _
      | exact ih2 _ _ _ _ _ _ _ _ _ _ _ _
      | exact ih3 _ _ _ _ _ _ _ _ _ _ _ _ _ _
      | exact ih4 _ _ _ _ _ _ _ _ _ _ _ _ _ _ _
      | exact ih5 _ _ _ _ _ _ _ _ _ _ _
      | exact ih6 _ _ _ _ _ _ _ _ _ _ _
      | exact Bs_IsLowest.mono _ _ _
      | exact Bs_Lowest.mono _ _ _
      | exact Lw_awake.mono _
      | exact Lw_light.mono _ _ _ _ _
      | exact Rf_CaseErr.mono _ _ _ _ _
      | exact Rf_Cases.mono _ _ _
      | exact line_BiasOf.mono _ _ _ _ _ _
      | exact line_CheckWorst.mono _ _ _ _ _ _ _ _ _
      | exact line_Estimated.mono _ _ _
      | exact line_Noisy.mono _ _ _ _ _ _
      | exact line_WorstOf.mono _ _ _ _ _ _
      | exact LeO.none _
      | refine LeO.ite ?_ ?_
      | refine LeO.bind ?_ (fun _ => ?_)
    · intro y0 y1 y2 y3 y4 y5 y6 y7 y8 y9 y10 y11 y12 y13
      unfold Lw_LineReached.j3
      repeat' first
      | (with_reducible exact ih0 _ _ _ _ _ _)
      | (with_reducible exact ih1 _ _ _ _ _ _ _ _ _)
      | (with_reducible exact ih2 _ _ _ _ _ _ _ _ _ _ _ _)
      | (with_reducible exact ih3 _ _ _ _ _ _ _ _ _ _ _ _ _ _)
      | (with_reducible exact ih4 _ _ _ _ _ _ _ _ _ _ _ _ _ _ _)
      | (with_reducible exact ih5 _ _ _ _ _ _ _ _ _ _ _)
      | (with_reducible exact ih6 _ _ _ _ _ _ _ _ _ _ _)
      | (with_reducible exact Bs_IsLowest.mono _ _ _)
      | (with_reducible exact Bs_Lowest.mono _ _ _)
      | (with_reducible exact Lw_awake.mono _)
      | (with_reducible exact Lw_light.mono _ _ _ _ _)
      | (with_reducible exact Rf_CaseErr.mono _ _ _ _ _)
      | (with_reducible exact Rf_Cases.mono _ _ _)
      | (with_reducible exact line_BiasOf.mono _ _ _ _ _ _)
      | (with_reducible exact line_CheckWorst.mono _ _ _ _ _ _ _ _ _)
      | (with_reducible exact line_Estimated.mono _ _ _)
      | (with_reducible exact line_Noisy.mono _ _ _ _ _ _)
      | (with_reducible exact line_WorstOf.mono _ _ _ _ _ _)
      | (with_reducible exact LeO.refl _)
      | (with_reducible exact LeO.none _)
      | (with_reducible refine LeO.ite ?_ ?_)
      | (with_reducible refine LeO.bind ?_ (fun _ => ?_))
      | exact ih0 _ _ _ _ _ _
      | exact ih1 _ _ _ _ _ _ _ _ _
      | exact ih2 _ _ _ _ _ _ _ _ _ _ _ _
      | exact ih3 _ _ _ _ _ _ _ _ _ _ _ _ _ _
      | exact ih4 _ _ _ _ _ _ _ _ _ _ _ _ _ _ _
      | exact ih5 _ _ _ _ _ _ _ _ _ _ _
      | exact ih6 _ _ _ _ _ _ _ _ _ _ _
      | exact Bs_IsLowest.mono _ _ _
      | exact Bs_Lowest.mono _ _ _
      | exact Lw_awake.mono _
      | exact Lw_light.mono _ _ _ _ _
      | exact Rf_CaseErr.mono _ _ _ _ _
      | exact Rf_Cases.mono _ _ _
      | exact line_BiasOf.mono _ _ _ _ _ _
      | exact line_CheckWorst.mono _ _ _ _ _ _ _ _ _
      | exact line_Estimated.mono _ _ _
      | exact line_Noisy.mono _ _ _ _ _ _
      | exact line_WorstOf.mono _ _ _ _ _ _
      | exact LeO.none _
      | refine LeO.ite ?_ ?_
      | refine LeO.bind ?_ (fun _ => ?_)
    · intro y0 y1 y2 y3 y4 y5 y6 y7 y8 y9 y10 y11 y12 y13 y14
      unfold Lw_LineReached.j4
      repeat' first
      | (with_reducible exact ih0 _ _ _ _ _ _)
      | (with_reducible exact ih1 _ _ _ _ _ _ _ _ _)
      | (with_reducible exact ih2 _ _ _ _ _ _ _ _ _ _ _ _)
      | (with_reducible exact ih3 _ _ _ _ _ _ _ _ _ _ _ _ _ _)
      | (with_reducible exact ih4 _ _ _ _ _ _ _ _ _ _ _ _ _ _ _)
      | (with_reducible exact ih5 _ _ _ _ _ _ _ _ _ _ _)
      | (with_reducible exact ih6 _ _ _ _ _ _ _ _ _ _ _)
      | (with_reducible exact Bs_IsLowest.mono _ _ _)
      | (with_reducible exact Bs_Lowest.mono _ _ _)
      | (with_reducible exact Lw_awake.mono _)
      | (with_reducible exact Lw_light.mono _ _ _ _ _)
      | (with_reducible exact Rf_CaseErr.mono _ _ _ _ _)
      | (with_reducible exact Rf_Cases.mono _ _ _)
      | (with_reducible exact line_BiasOf.mono _ _ _ _ _ _)
      | (with_reducible exact line_CheckWorst.mono _ _ _ _ _ _ _ _ _)
      | (with_reducible exact line_Estimated.mono _ _ _)
      | (with_reducible exact line_Noisy.mono _ _ _ _ _ _)
      | (with_reducible exact line_WorstOf.mono _ _ _ _ _ _)
      | (with_reducible exact LeO.refl _)
      | (with_reducible exact LeO.none _)
      | (with_reducible refine LeO.ite ?_ ?_)
      | (with_reducible refine LeO.bind ?_ (fun _ => ?_))
      | exact ih0 _ _ _ _ _ _
      | exact ih1 _ _ _ _ _ _ _ _ _
      | exact ih2 _ _ _ _ _ _ _ _ _ _ _ _
      | exact ih3 _ _ _ _ _ _ _ _ _ _ _ _ _ _
      | exact ih4 _ _ _ _ _ _ _ _ _ _ _ _ _ _ _
      | exact ih5 _ _ _ _ _ _ _ _ _ _ _
      | exact ih6 _ _ _ _ _ _ _ _ _ _ _
      | exact Bs_IsLowest.mono _ _ _
      | exact Bs_Lowest.mono _ _ _
      | exact Lw_awake.mono _
      | exact Lw_light.mono _ _ _ _ _
      | exact Rf_CaseErr.mono _ _ _ _ _
      | exact Rf_Cases.mono _ _ _
      | exact line_BiasOf.mono _ _ _ _ _ _
      | exact line_CheckWorst.mono _ _ _ _ _ _ _ _ _
      | exact line_Estimated.mono _ _ _
      | exact line_Noisy.mono _ _ _ _ _ _
      | exact line_WorstOf.mono _ _ _ _ _ _
      | exact LeO.none _
      | refine LeO.ite ?_ ?_
      | refine LeO.bind ?_ (fun _ => ?_)
    · intro y0 y1 y2 y3 y4 y5 y6 y7 y8 y9 y10
      unfold Lw_LineReached.j5
      repeat' first
      | (with_reducible exact ih0 _ _ _ _ _ _)
      | (with_reducible exact ih1 _ _ _ _ _ _ _ _ _)
      | (with_reducible exact ih2 _ _ _ _ _ _ _ _ _ _ _ _)
      | (with_reducible exact ih3 _ _ _ _ _ _ _ _ _ _ _ _ _ _)
      | (with_reducible exact ih4 _ _ _ _ _ _ _ _ _ _ _ _ _ _ _)
      | (with_reducible exact ih5 _ _ _ _ _ _ _ _ _ _ _)
      | (with_reducible exact ih6 _ _ _ _ _ _ _ _ _ _ _)
      | (with_reducible exact Bs_IsLowest.mono _ _ _)
      | (with_reducible exact Bs_Lowest.mono _ _ _)
      | (with_reducible exact Lw_awake.mono _)
      | (with_reducible exact Lw_light.mono _ _ _ _ _)
      | (with_reducible exact Rf_CaseErr.mono _ _ _ _ _)
      | (with_reducible exact Rf_Cases.mono _ _ _)
      | (with_reducible exact line_BiasOf.mono _ _ _ _ _ _)
      | (with_reducible exact line_CheckWorst.mono _ _ _ _ _ _ _ _ _)
      | (with_reducible exact line_Estimated.mono _ _ _)
      | (with_reducible exact line_Noisy.mono _ _ _ _ _ _)
      | (with_reducible exact line_WorstOf.mono _ _ _ _ _ _)
      | (with_reducible exact LeO.refl _)
      | (with_reducible exact LeO.none _)
      | (with_reducible refine LeO.ite ?_ ?_)
      | (with_reducible refine LeO.bind ?_ (fun _ => ?_))
      | exact ih0 _ _ _ _ _ _
      | exact ih1 _ _ _ _ _ _ _ _ _
      | exact ih2 _ _ _ _ _ _ _ _ _ _ _ _
      | exact ih3 _ _ _ _ _ _ _ _ _ _ _ _ _ _
      | exact ih4 _ _ _ _ _ _ _ _ _ _ _ _ _ _ _
      | exact ih5 _ _ _ _ _ _ _ _ _ _ _
      | exact ih6 _ _ _ _ _ _ _ _ _ _ _
      | exact Bs_IsLowest.mono _ _ _
      | exact Bs_Lowest.mono _ _ _
      | exact Lw_awake.mono _
      | exact Lw_light.mono _ _ _ _ _
      | exact Rf_CaseErr.mono _ _ _ _ _
      | exact Rf_Cases.mono _ _ _
      | exact line_BiasOf.mono _ _ _ _ _ _
      | exact line_CheckWorst.mono _ _ _ _ _ _ _ _ _
      | exact line_Estimated.mono _ _ _
      | exact line_Noisy.mono _ _ _ _ _ _
      | exact line_WorstOf.mono _ _ _ _ _ _
      | exact LeO.none _
      | refine LeO.ite ?_ ?_
      | refine LeO.bind ?_ (fun _ => ?_)
    · intro y0 y1 y2 y3 y4 y5 y6 y7 y8 y9 y10
      unfold Lw_LineReached.j6
      repeat' first
      | (with_reducible exact ih0 _ _ _ _ _ _)
      | (with_reducible exact ih1 _ _ _ _ _ _ _ _ _)
      | (with_reducible exact ih2 _ _ _ _ _ _ _ _ _ _ _ _)
      | (with_reducible exact ih3 _ _ _ _ _ _ _ _ _ _ _ _ _ _)
      | (with_reducible exact ih4 _ _ _ _ _ _ _ _ _ _ _ _ _ _ _)
      | (with_reducible exact ih5 _ _ _ _ _ _ _ _ _ _ _)
      | (with_reducible exact ih6 _ _ _ _ _ _ _ _ _ _ _)
      | (with_reducible exact Bs_IsLowest.mono _ _ _)
      | (with_reducible exact Bs_Lowest.mono _ _ _)
      | (with_reducible exact Lw_awake.mono _)
      | (with_reducible exact Lw_light.mono _ _ _ _ _)
      | (with_reducible exact Rf_CaseErr.mono _ _ _ _ _)
      | (with_reducible exact Rf_Cases.mono _ _ _)
      | (with_reducible exact line_BiasOf.mono _ _ _ _ _ _)
      | (with_reducible exact line_CheckWorst.mono _ _ _ _ _ _ _ _ _)
      | (with_reducible exact line_Estimated.mono _ _ _)
      | (with_reducible exact line_Noisy.mono _ _ _ _ _ _)
      | (with_reducible exact line_WorstOf.mono _ _ _ _ _ _)
      | (with_reducible exact LeO.refl _)
      | (with_reducible exact LeO.none _)
      | (with_reducible refine LeO.ite ?_ ?_)
      | (with_reducible refine LeO.bind ?_ (fun _ => ?_))
      | exact ih0 _ _ _ _ _ _
      | exact ih1 _ _ _ _ _ _ _ _ _
      | exact ih2 _ _ _ _ _ _ _ _ _ _ _ _
      | exact ih3 _ _ _ _ _ _ _ _ _ _ _ _ _ _
      | exact ih4 _ _ _ _ _ _ _ _ _ _ _ _ _ _ _
      | exact ih5 _ _ _ _ _ _ _ _ _ _ _
      | exact ih6 _ _ _ _ _ _ _ _ _ _ _
      | exact Bs_IsLowest.mono _ _ _
      | exact Bs_Lowest.mono _ _ _
      | exact Lw_awake.mono _
      | exact Lw_light.mono _ _ _ _ _
      | exact Rf_CaseErr.mono _ _ _ _ _
      | exact Rf_Cases.mono _ _ _
      | exact line_BiasOf.mono _ _ _ _ _ _
      | exact line_CheckWorst.mono _ _ _ _ _ _ _ _ _
      | exact line_Estimated.mono _ _ _
      | exact line_Noisy.mono _ _ _ _ _ _
      | exact line_WorstOf.mono _ _ _ _ _ _
      | exact LeO.none _
      | refine LeO.ite ?_ ?_
      | refine LeO.bind ?_ (fun _ => ?_)
theorem Lw_LineReached.mono : ∀ a0 a1 a2 a3 a4 k, LeO (Lw_LineReached.f k a0 a1 a2 a3 a4) (Lw_LineReached.f (k + 1) a0 a1 a2 a3 a4) := by
  intro a0 a1 a2 a3 a4 k
  obtain ⟨ih0, ih1, ih2, ih3, ih4, ih5, ih6⟩ := Lw_LineReached.mono_l k
  unfold Lw_LineReached.f
  repeat' first
      | (with_reducible exact ih0 _ _ _ _ _ _)
      | (with_reducible exact ih1 _ _ _ _ _ _ _ _ _)
      | (with_reducible exact ih2 _ _ _ _ _ _ _ _ _ _ _ _)
      | (with_reducible exact ih3 _ _ _ _ _ _ _ _ _ _ _ _ _ _)
      | (with_reducible exact ih4 _ _ _ _ _ _ _ _ _ _ _ _ _ _ _)
      | (with_reducible exact ih5 _ _ _ _ _ _ _ _ _ _ _)
      | (with_reducible exact ih6 _ _ _ _ _ _ _ _ _ _ _)
      | (with_reducible exact Bs_IsLowest.mono _ _ _)
      | (with_reducible exact Bs_Lowest.mono _ _ _)
      | (with_reducible exact Lw_awake.mono _)
      | (with_reducible exact Lw_light.mono _ _ _ _ _)
      | (with_reducible exact Rf_CaseErr.mono _ _ _ _ _)
      | (with_reducible exact Rf_Cases.mono _ _ _)
      | (with_reducible exact line_BiasOf.mono _ _ _ _ _ _)
      | (with_reducible exact line_CheckWorst.mono _ _ _ _ _ _ _ _ _)
      | (with_reducible exact line_Estimated.mono _ _ _)
      | (with_reducible exact line_Noisy.mono _ _ _ _ _ _)
      | (with_reducible exact line_WorstOf.mono _ _ _ _ _ _)
      | (with_reducible exact LeO.refl _)
      | (with_reducible exact LeO.none _)
      | (with_reducible refine LeO.ite ?_ ?_)
      | (with_reducible refine LeO.bind ?_ (fun _ => ?_))
      | exact ih0 _ _ _ _ _ _
      | exact ih1 _ _ _ _ _ _ _ _ _
      | exact ih2 _ _ _ _ _ _ _ _ _ _ _ _
      | exact ih3 _ _ _ _ _ _ _ _ _ _ _ _ _ _
      | exact ih4 _ _ _ _ _ _ _ _ _ _ _ _ _ _ _
      | exact ih5 _ _ _ _ _ _ _ _ _ _ _
      | exact ih6 _ _ _ _ _ _ _ _ _ _ _
      | exact Bs_IsLowest.mono _ _ _
      | exact Bs_Lowest.mono _ _ _
      | exact Lw_awake.mono _
      | exact Lw_light.mono _ _ _ _ _
      | exact Rf_CaseErr.mono _ _ _ _ _
      | exact Rf_Cases.mono _ _ _
      | exact line_BiasOf.mono _ _ _ _ _ _
      | exact line_CheckWorst.mono _ _ _ _ _ _ _ _ _
      | exact line_Estimated.mono _ _ _
      | exact line_Noisy.mono _ _ _ _ _ _
      | exact line_WorstOf.mono _ _ _ _ _ _
      | exact LeO.none _
      | refine LeO.ite ?_ ?_
      | refine LeO.bind ?_ (fun _ => ?_)
def Lw_LineReached.T16 : Bool × List (List Nat × List Nat) := (true, [([], []), ([0], [0]), ([1], [1]), ([2], [2]), ([3, 2, 2], [2, 3]), ([4, 2], [2, 4]), ([2, 5], [2, 5]), ([6, 4], [6]), ([7], [7]), ([8, 7, 7], [7, 8]), ([9, 7], [7, 9]), ([7, 10], [7, 10]), ([11, 9], [11]), ([12], [12]), ([13, 12], [12, 13]), ([14, 12], [12, 14]), ([12, 15], [12, 15]), ([16, 12], [16]), ([17], [17]), ([17], [17]), ([19, 17], [17, 19]), ([20, 17, 17], [17, 20]), ([18, 21, 21, 17], [17, 18, 21]), ([22, 17], [17, 22]), ([17, 23], [17, 23])])
def Lw_LineReached.B16 : List Nat := [0, 1, 3, 7, 15, 31, 63, 127, 255, 511, 1023, 2047, 4095, 8191, 16383, 32767, 65535, 131071, 262143, 262143, 786431, 1835007, 4194303, 8388607, 16777215]
theorem Lw_LineReached.tab16 : rtab .any (opsOf Tryd.f14 16) = Lw_LineReached.T16 := by kernel_rfl
theorem Lw_LineReached.bits16 : waitsOk Lw_LineReached.T16.2 Lw_LineReached.B16 = true := by kernel_rfl
def Lw_LineReached.T18 : Bool × List (List Nat × List Nat) := (true, [([], []), ([0], [0]), ([], []), ([2], [2]), ([3], [3]), ([1, 4], [1, 4]), ([], []), ([6], [6]), ([7], [7]), ([], []), ([9], [9]), ([8, 10], [8, 10]), ([5, 11], [5, 11]), ([12], [12]), ([], []), ([14], [14]), ([], []), ([16], [16]), ([17], [17]), ([15, 18], [15, 18]), ([13, 19, 13], [13, 19]), ([], []), ([21, 20, 20, 0, 1, 2, 3, 4, 5, 6, 7, 8, 9, 10, 11, 12, 13, 14, 15, 16, 17, 18, 19, 20, 21], [20, 21])])
def Lw_LineReached.B18 : List Nat := [0, 1, 0, 4, 12, 31, 0, 64, 192, 0, 512, 1984, 4095, 8191, 0, 16384, 0, 65536, 196608, 507904, 1048575, 0, 4194303]
theorem Lw_LineReached.tab18 : rtab .any (opsOf Tryd.f14 18) = Lw_LineReached.T18 := by kernel_rfl
theorem Lw_LineReached.bits18 : waitsOk Lw_LineReached.T18.2 Lw_LineReached.B18 = true := by kernel_rfl
def Lw_LineReached.T24 : Bool × List (List Nat × List Nat) := (true, [([], []), ([0], [0]), ([], []), ([], []), ([1, 2, 3, 1], [1, 2, 3]), ([4], [4]), ([5], [5]), ([5], [5]), ([6, 4, 0, 1, 2, 3, 4, 5, 6], [6]), ([7, 8, 0, 1, 2, 3, 4, 5, 6, 7, 8], [7])])
def Lw_LineReached.B24 : List Nat := [0, 1, 0, 0, 15, 31, 63, 63, 127, 511]
theorem Lw_LineReached.tab24 : rtab .any (opsOf Tryd.f14 24) = Lw_LineReached.T24 := by kernel_rfl
theorem Lw_LineReached.bits24 : waitsOk Lw_LineReached.T24.2 Lw_LineReached.B24 = true := by kernel_rfl
def Lw_LineReached.T30 : Bool × List (List Nat × List Nat) := (true, [([], []), ([0], [0]), ([1], [1]), ([2], [2]), ([2], [2]), ([2], [2]), ([5, 2], [2, 5]), ([6, 2], [2, 6]), ([4, 7, 2], [2, 4, 7]), ([2], [2]), ([9, 2], [2, 9]), ([10, 2], [2, 10]), ([2], [2]), ([11, 12, 2], [2, 11, 12]), ([8, 13, 2], [2, 8, 13]), ([2], [2]), ([2], [2]), ([16, 2], [2, 16]), ([17, 2], [2, 17]), ([15, 18, 2], [2, 15, 18]), ([14, 19, 2, 2], [2, 14, 19]), ([3, 20, 2], [2, 3, 20]), ([2, 21], [2, 21]), ([22, 20], [22]), ([23], [23]), ([24, 23], [23, 24]), ([25, 23, 23], [23, 25]), ([23], [23]), ([27, 23], [23, 27]), ([26, 28, 26, 23], [23, 26, 28]), ([23], [23]), ([30, 23], [23, 30]), ([29, 31, 29, 23], [23, 29, 31]), ([32, 23], [23, 32]), ([23, 33], [23, 33]), ([34, 32, 0, 1, 2, 3, 4, 5, 6, 7, 8, 9, 10, 11, 12, 13, 14, 15, 16, 17, 18, 19, 20, 21, 22, 23, 24, 25, 26, 27, 28, 29, 30, 31, 32, 33, 34], [34])])
def Lw_LineReached.B30 : List Nat := [0, 1, 3, 7, 7, 7, 39, 103, 247, 7, 519, 1543, 7, 7687, 16375, 7, 7, 65543, 196615, 491527, 1048567, 2097151, 4194303, 8388607, 16777215, 33554431, 67108863, 16777215, 150994943, 536870911, 16777215, 1090519039, 4294967295, 8589934591, 17179869183, 34359738367]
theorem Lw_LineReached.tab30 : rtab .any (opsOf Tryd.f14 30) = Lw_LineReached.T30 := by kernel_rfl
theorem Lw_LineReached.bits30 : waitsOk Lw_LineReached.T30.2 Lw_LineReached.B30 = true := by kernel_rfl
theorem Lw_LineReached.calls (k : Nat) (A0_0 : Option Addr) (c0_0 : Nat) (l0_0 : List Int) (A0_1 : Option Addr) (c0_1 : Nat) (l0_1 : List Int) (a0_2 : Int) (a0_3 : Int) (a1 : Int) (r : Bool) (w : World) (hr0_0 : Kd.C (Kd.int .i64) w A0_0 l0_0.length l0_0) (hc0_0 : l0_0.length ≤ c0_0) (hr0_1 : Kd.C (Kd.int .i64) w A0_1 l0_1.length l0_1) (hc0_1 : l0_1.length ≤ c0_1) (hG : EstG w) (h : Lw_LineReached.f k l0_0 l0_1 a0_2 a0_3 a1 = some r) :
    Calls Tryd.prog 14 #[.agg #[.slice A0_0 l0_0.length c0_0, .slice A0_1 l0_1.length c0_1, .int .i64 a0_2, .int .i64 a0_3], .int .i64 a1] w fun e w' => e = .returned (.bool r) ∧ Below w.heap.size w w' := by
  have hu28 := Tryd.underlying28
  have hu36 := Tryd.underlying36
  have hu26 := Tryd.underlying26
  have hu24 := Tryd.underlying24
  have HG := m0 hG
  clear hG
  have HR0_0 := m0 hr0_0
  have HC0_0 := m0 hc0_0
  clear hr0_0 hc0_0
  have HR0_1 := m0 hr0_1
  have HC0_1 := m0 hc0_1
  clear hr0_1 hc0_1
  have HB := m0 (Below.refl w.heap.size w)
  have H : ((Lw_awake.f k).bind fun t1638 => (if t1638 = true then ((Lw_light.f k l0_0 l0_1 a0_2 a0_3).bind fun t1639 => (if t1639 = true then ((Rf_CaseErr.f k l0_0 l0_1 a0_2 a0_3).bind fun t1640 => (if t1640 = 0 then ((Rf_KindErr.f a1).bind fun t1641 => (Lw_LineReached.j0 k a1 (t1641 != 0) l0_0 l0_1 a0_2 a0_3)) else (Lw_LineReached.j0 k a1 true l0_0 l0_1 a0_2 a0_3))) else (Lw_LineReached.j0 k a1 true l0_0 l0_1 a0_2 a0_3))) else (none))) = some r := h
  clear h
  replace H := ob H
  obtain ⟨t1638, A30, H⟩ := H
  (try dsimp only at H)
  have A3 := m0 A30
  clear A30
  by_cases c4 : t1638 = true
  · subst c4
    rw [if_pos rfl] at H
    have HC5 := m0 H
    clear H
    go_enter Tryd.func14, Tryd.ntmps14
    go_upto_region 3 with (first | ((with_reducible refine gate_dst (N := 2) rfl ?_); (try (refine gate_guard (by rfl) ?_; dsimp only)); refine be 2 28 #[.slice A0_0 l0_0.length c0_0, .slice A0_1 l0_1.length c0_1, .int .i64 a0_2, .int .i64 a0_3] ?_; intro gb1637 hg w6 hbox hb; have BK1637 := m0 hbox; have GW1637 := m0 (bg (n := w.heap.size) hg); have GE1637 := m0 (bg (n := w.heap.size) hg); replace HB := sb HB hb; clear hb hbox hg) | ((with_reducible refine gate_callee (f := 18) rfl ?_); refine gl (some 20) Tryd.func18 #[] ?_; (with_reducible refine (Lw_awake.calls k  true _ ?side1 A3.out).mono ?_); (case side1 => exact EstG.below HG.out bz); rintro e w7 ⟨rfl, hb⟩; refine ⟨_, rfl, ?_⟩; replace BK1637 := bb BK1637 hb; replace HB := sb HB hb; (try clear hb)))
    (try simp only [Act.put, List.setIfInBounds_toArray, List.set_cons_zero, List.set_cons_succ])
    go_cut [34] (fun v34 wc => ∃ (kq : Nat) (x34_4 : Bool), v34 = .bool x34_4 ∧ Aside0 (Lw_LineReached.j0 kq a1 x34_4 l0_0 l0_1 a0_2 a0_3 = some r) ∧ Aside0 (kq ≤ k) ∧ Aside0 (wc.heap[gb1637]? = some (.cells #[(.slice A0_0 l0_0.length c0_0), (.slice A0_1 l0_1.length c0_1), .int .i64 a0_2, .int .i64 a0_3] 28 (0, 0))) ∧ Aside0 (Below w.heap.size w wc))
    case first =>
      have H := HC5.out
      clear HC5
      replace H := ob H
      obtain ⟨t1639, A80, H⟩ := H
      (try dsimp only at H)
      have A8 := m0 A80
      clear A80
      by_cases c9 : t1639 = true
      · subst c9
        rw [if_pos rfl] at H
        replace H := ob H
        obtain ⟨t1640, A100, H⟩ := H
        (try dsimp only at H)
        have A10 := m0 A100
        clear A100
        by_cases c11 : t1640 = 0
        · rw [if_pos c11] at H
          have c11b0 := beq_iff_eq.mpr c11
          have c11b1 := bne_eq_false_iff_eq.mpr c11
          clear c11
          (first | rw [c11b0] | (simp only [i64_w, i32_w]; rw [c11b0]) | skip)
          replace H := ob H
          obtain ⟨t1641, A120, H⟩ := H
          (try dsimp only at H)
          have A12 := m0 A120
          clear A120
          have H' := m0 H
          clear H
          obtain ⟨hcz13_0, hcz13_1, hcz13_2, hcz13_3, hfz13_0, hfz13_1, hfz13_2, hfz13_3⟩ := b4 BK1637
          go_wp2_with (first | ((with_reducible refine gate_callee (f := 19) rfl ?_); refine gl (some 23) Tryd.func19 #[.agg #[.slice A0_0 l0_0.length c0_0, .slice A0_1 l0_1.length c0_1, .int .i64 a0_2, .int .i64 a0_3]] ?_; (with_reducible refine (Lw_light.calls k _ _ l0_0 _ _ l0_1 a0_2 a0_3 true _ ?side1 ?side2 ?side3 ?side4 A8.out).mono ?_); (case side1 => exact cb HR0_0 HB); (case side2 => exact HC0_0.out); (case side3 => exact cb HR0_1 HB); (case side4 => exact HC0_1.out); rintro e w14 ⟨rfl, hb⟩; refine ⟨_, rfl, ?_⟩; replace BK1637 := bb BK1637 hb; replace HB := sb HB hb; (try clear hb); obtain ⟨hcz15_0, hcz15_1, hcz15_2, hcz15_3, hfz15_0, hfz15_1, hfz15_2, hfz15_3⟩ := b4 BK1637) | (go_at_call 23; (with_reducible refine (Rf_CaseErr.calls k _ _ l0_0 _ _ l0_1 a0_2 a0_3 t1640 _ ?side1 ?side2 ?side3 ?side4 A10.out).mono ?_); (case side1 => exact cb HR0_0 HB); (case side2 => exact HC0_0.out); (case side3 => exact cb HR0_1 HB); (case side4 => exact HC0_1.out); rintro e w16 ⟨rfl, hb⟩; replace BK1637 := bb BK1637 hb; replace HB := sb HB hb; (try clear hb)) | (go_at_call 24; (with_reducible refine (Rf_KindErr.calls a1 t1641 _ A12.out).mono ?_); rintro e w' ⟨rfl, ⟨nd, rfl⟩⟩))
          go_meet
          case rel => exact ⟨_, ((t1641 != 0)), (by first | rfl | (simp; done) | (simp [*]; done)), H', ⟨by first | omega | exact Nat.le_refl _⟩, ⟨bk BK1637.out⟩, ⟨bz⟩⟩
        · rw [if_neg c11] at H
          have c11b0 := beq_eq_false_iff_ne.mpr c11
          have c11b1 := bne_iff_ne.mpr c11
          (first | rw [c11b0] | (simp only [i64_w, i32_w]; rw [c11b0]) | skip)
          have H' := m0 H
          clear H
          obtain ⟨hcz17_0, hcz17_1, hcz17_2, hcz17_3, hfz17_0, hfz17_1, hfz17_2, hfz17_3⟩ := b4 BK1637
          go_wp2_with (first | ((with_reducible refine gate_callee (f := 19) rfl ?_); refine gl (some 23) Tryd.func19 #[.agg #[.slice A0_0 l0_0.length c0_0, .slice A0_1 l0_1.length c0_1, .int .i64 a0_2, .int .i64 a0_3]] ?_; (with_reducible refine (Lw_light.calls k _ _ l0_0 _ _ l0_1 a0_2 a0_3 true _ ?side1 ?side2 ?side3 ?side4 A8.out).mono ?_); (case side1 => exact cb HR0_0 HB); (case side2 => exact HC0_0.out); (case side3 => exact cb HR0_1 HB); (case side4 => exact HC0_1.out); rintro e w18 ⟨rfl, hb⟩; refine ⟨_, rfl, ?_⟩; replace BK1637 := bb BK1637 hb; replace HB := sb HB hb; (try clear hb); obtain ⟨hcz19_0, hcz19_1, hcz19_2, hcz19_3, hfz19_0, hfz19_1, hfz19_2, hfz19_3⟩ := b4 BK1637) | (go_at_call 23; (with_reducible refine (Rf_CaseErr.calls k _ _ l0_0 _ _ l0_1 a0_2 a0_3 t1640 _ ?side1 ?side2 ?side3 ?side4 A10.out).mono ?_); (case side1 => exact cb HR0_0 HB); (case side2 => exact HC0_0.out); (case side3 => exact cb HR0_1 HB); (case side4 => exact HC0_1.out); rintro e w20 ⟨rfl, hb⟩; replace BK1637 := bb BK1637 hb; replace HB := sb HB hb; (try clear hb)))
          go_meet
          case rel => exact ⟨_, (true), (by first | rfl | (simp; done) | (simp [*]; done)), H', ⟨by first | omega | exact Nat.le_refl _⟩, ⟨bk BK1637.out⟩, ⟨bz⟩⟩
      · replace c9 := Bool.eq_false_iff.mpr c9
        subst c9
        rw [if_neg (show ¬ (false = true) by decide)] at H
        have H' := m0 H
        clear H
        obtain ⟨hcz21_0, hcz21_1, hcz21_2, hcz21_3, hfz21_0, hfz21_1, hfz21_2, hfz21_3⟩ := b4 BK1637
        go_wp2_with (first | ((with_reducible refine gate_callee (f := 19) rfl ?_); refine gl (some 23) Tryd.func19 #[.agg #[.slice A0_0 l0_0.length c0_0, .slice A0_1 l0_1.length c0_1, .int .i64 a0_2, .int .i64 a0_3]] ?_; (with_reducible refine (Lw_light.calls k _ _ l0_0 _ _ l0_1 a0_2 a0_3 false _ ?side1 ?side2 ?side3 ?side4 A8.out).mono ?_); (case side1 => exact cb HR0_0 HB); (case side2 => exact HC0_0.out); (case side3 => exact cb HR0_1 HB); (case side4 => exact HC0_1.out); rintro e w22 ⟨rfl, hb⟩; refine ⟨_, rfl, ?_⟩; replace BK1637 := bb BK1637 hb; replace HB := sb HB hb; (try clear hb)))
        go_meet
        case rel => exact ⟨_, (true), (by first | rfl | (simp; done) | (simp [*]; done)), H', ⟨by first | omega | exact Nat.le_refl _⟩, ⟨bk BK1637.out⟩, ⟨bz⟩⟩
    case rest =>
      as_aux_lemma =>
      clear HC5
      try clear c1
      try clear p2
      try clear c4
      try clear c9
      try clear c11
      try clear c11b0
      try clear c11b1
      try clear c14
      try clear c18
      try clear c19
      try clear hcz13_0
      try clear hcz13_1
      try clear hcz13_2
      try clear hcz13_3
      try clear hcz15_0
      try clear hcz15_1
      try clear hcz15_2
      try clear hcz15_3
      try clear hcz17_0
      try clear hcz17_1
      try clear hcz17_2
      try clear hcz17_3
      try clear hcz19_0
      try clear hcz19_1
      try clear hcz19_2
      try clear hcz19_3
      try clear hcz21_0
      try clear hcz21_1
      try clear hcz21_2
      try clear hcz21_3
      try clear hfz13_0
      try clear hfz13_1
      try clear hfz13_2
      try clear hfz13_3
      try clear hfz15_0
      try clear hfz15_1
      try clear hfz15_2
      try clear hfz15_3
      try clear hfz17_0
      try clear hfz17_1
      try clear hfz17_2
      try clear hfz17_3
      try clear hfz19_0
      try clear hfz19_1
      try clear hfz19_2
      try clear hfz19_3
      try clear hfz21_0
      try clear hfz21_1
      try clear hfz21_2
      try clear hfz21_3
      obtain ⟨kq, x34_4, rfl, HA, HJ4, BK1637, HB⟩ := hcut
      cases kq with
      | zero => exact absurd HA.out (by simp [Lw_LineReached.j0])
      | succ kj4 =>
        have H := HA.out
        clear HA
        simp only [Lw_LineReached.j0] at H
        by_cases c23 : x34_4 = true
        · subst c23
          rw [if_pos rfl] at H
          obtain rfl := Option.some.inj H
          go_wp2
          go_ret
          exact ez
        · replace c23 := Bool.eq_false_iff.mpr c23
          subst c23
          rw [if_neg (show ¬ (false = true) by decide)] at H
          replace H := ob H
          obtain ⟨⟨t1642, t1645, t1648, t1649⟩, A240, H⟩ := H
          (try dsimp only at H)
          have A24 := m0 A240
          clear A240
          replace H := ob H
          obtain ⟨⟨t1650, t1651, t1652, t1653⟩, A250, H⟩ := H
          (try dsimp only at H)
          have A25 := m0 A250
          clear A250
          have HC26 := m0 H
          clear H
          obtain ⟨hcz27_0, hcz27_1, hcz27_2, hcz27_3, hfz27_0, hfz27_1, hfz27_2, hfz27_3⟩ := b4 BK1637
          go_upto_region 6 with (first | ((with_reducible refine gate_callee (f := 21) rfl ?_); refine gl (some 37) Tryd.func21 #[.agg #[.slice A0_0 l0_0.length c0_0, .slice A0_1 l0_1.length c0_1, .int .i64 a0_2, .int .i64 a0_3]] ?_; (with_reducible refine (Rf_CopyCase.calls _ _ l0_0 _ _ l0_1 a0_2 a0_3 t1642 t1645 t1648 t1649 _ ?side1 ?side2 ?side3 ?side4 A24.out).mono ?_); (case side1 => exact cb HR0_0 HB); (case side2 => exact HC0_0.out); (case side3 => exact cb HR0_1 HB); (case side4 => exact HC0_1.out); rintro e w28 ⟨v1643, v1646, rfl, ho0, ho1, hb⟩; refine ⟨_, rfl, ?_⟩; have HO1644 := m0 (Kd.R_lower ho0 (below_size bz)); have HO1647 := m0 (Kd.R_lower ho1 (below_size bz)); replace BK1637 := bb BK1637 hb; replace HB := sb HB hb; (try clear hb); (try clear ho0); (try clear ho1); obtain ⟨Ao29, co29, eo29⟩ := Kd.R_slice HO1644.out; subst eo29; obtain ⟨Ao30, co30, eo30⟩ := Kd.R_slice HO1647.out; subst eo30) | ((with_reducible refine gate_callee (f := 22) rfl ?_); refine gl (some 39) Tryd.func22 #[.agg #[.slice Ao29 t1642.length co29, .slice Ao30 t1645.length co30, .int .i64 t1648, .int .i64 t1649], .int .i64 a1] ?_; (with_reducible refine (line_WorstOf.calls kj4 _ _ t1642 _ _ t1645 t1648 t1649 a1 t1650 t1651 t1652 t1653 _ ?side1 ?side2 ?side3 ?side4 ?side5 A25.out).mono ?_); (case side1 => exact bc (Kd.R_reads' HO1644.out).2.2); (case side2 => exact (Kd.R_reads' HO1644.out).2.1); (case side3 => exact bc (Kd.R_reads' HO1647.out).2.2); (case side4 => exact (Kd.R_reads' HO1647.out).2.1); (case side5 => exact EstG.below HG.out bz); rintro e w31 ⟨rfl, hb⟩; refine ⟨_, rfl, ?_⟩; replace HO1644 := rb HO1644 hb; replace HO1647 := rb HO1647 hb; replace BK1637 := bb BK1637 hb; replace HB := sb HB hb; (try clear hb)) | ((with_reducible refine gate_dst (N := 5) rfl ?_); (try (refine gate_guard (by rfl) ?_; dsimp only)); refine be 5 36 #[.int .i64 0, .int .i64 0, .int .i64 0] ?_; intro gb1654 hg w32 hbox hb; replace HO1644 := rb HO1644 hb; replace HO1647 := rb HO1647 hb; have BK1654 := m0 hbox; have GW1654 := m0 (bg (n := w.heap.size) hg); have GE1654 := m0 (bg (n := w.heap.size) hg); replace HB := sb HB hb; have NB1637_1654 := nl BK1637 hg; have NB1654_1637 := ng (nl BK1637 hg); replace BK1637 := bb BK1637 hb; clear hb hbox hg; have hnb33 := NB1654_1637.out; have hnc33 := NB1637_1654.out; obtain ⟨hcz34_0, hcz34_1, hcz34_2, hfz34_0, hfz34_1, hfz34_2⟩ := b3 BK1654))
          (try simp only [Act.put, List.setIfInBounds_toArray, List.set_cons_zero, List.set_cons_succ])
          go_cut [61] (fun v61 wc => ∃ (kq : Nat) (x61_25 : Bool), v61 = .bool x61_25 ∧ Aside0 (Lw_LineReached.j1 kq a1 x61_25 l0_0 l0_1 a0_2 a0_3 t1650 t1651 t1652 = some r) ∧ Aside0 (kq ≤ kj4) ∧ Aside0 (wc.heap[gb1637]? = some (.cells #[(.slice A0_0 l0_0.length c0_0), (.slice A0_1 l0_1.length c0_1), .int .i64 a0_2, .int .i64 a0_3] 28 (0, 0))) ∧ Aside0 (wc.heap[gb1654]? = some (.cells #[.int .i64 t1650, .int .i64 t1651, .int .i64 t1652] 36 (0, 0))) ∧ Aside0 (Below w.heap.size w wc))
          case first =>
            have H := HC26.out
            clear HC26
            by_cases c35 : t1653 = 0
            · rw [if_pos c35] at H
              have c35b0 := beq_iff_eq.mpr c35
              have c35b1 := bne_eq_false_iff_eq.mpr c35
              clear c35
              (first | rw [c35b0] | (simp only [i64_w, i32_w]; rw [c35b0]) | skip)
              replace H := ob H
              obtain ⟨t1655, A360, H⟩ := H
              (try dsimp only at H)
              have A36 := m0 A360
              clear A360
              by_cases c37 : t1655 = true
              · subst c37
                rw [if_pos rfl] at H
                replace H := ob H
                obtain ⟨t1656, A380, H⟩ := H
                (try dsimp only at H)
                have A38 := m0 A380
                clear A380
                by_cases c39 : t1656 = true
                · subst c39
                  rw [if_pos rfl] at H
                  have H' := m0 H
                  clear H
                  have hnb40 := NB1654_1637.out
                  have hnc40 := NB1637_1654.out
                  obtain ⟨hcz41_0, hcz41_1, hcz41_2, hfz41_0, hfz41_1, hfz41_2⟩ := b3 BK1654
                  go_wp2_with (first | (go_at_call 35; (with_reducible refine (Bs_IsLowest.calls kj4 t1650 t1651 true _ A36.out).mono ?_); rintro e w42 ⟨rfl, hb⟩; replace HO1644 := m0 (Kd.R_below (by (with_reducible repeat (first | apply Kd.R_alloc | apply Kd.R_drewN | apply Kd.R_drew)); exact (Kd.R_mono (Kd.R_far (p := ⟨gb1654, 2, none⟩) (Kd.R_far (p := ⟨gb1654, 1, none⟩) (Kd.R_far (p := ⟨gb1654, 0, none⟩) (Kd.R_types HO1644.out BK1654.out (by decide)) (fun _ hk => hk.2) (.int .i64 t1650)) (fun _ hk => hk.2) (.int .i64 t1651)) (fun _ hk => hk.2) (.int .i64 t1652)) (fun _ h_ => h_.1))) hb); replace HO1647 := m0 (Kd.R_below (by (with_reducible repeat (first | apply Kd.R_alloc | apply Kd.R_drewN | apply Kd.R_drew)); exact (Kd.R_mono (Kd.R_far (p := ⟨gb1654, 2, none⟩) (Kd.R_far (p := ⟨gb1654, 1, none⟩) (Kd.R_far (p := ⟨gb1654, 0, none⟩) (Kd.R_types HO1647.out BK1654.out (by decide)) (fun _ hk => hk.2) (.int .i64 t1650)) (fun _ hk => hk.2) (.int .i64 t1651)) (fun _ hk => hk.2) (.int .i64 t1652)) (fun _ h_ => h_.1))) hb); replace BK1637 := m0 (blk_below (g := gb1637) (o := .cells #[.slice A0_0 l0_0.length c0_0, .slice A0_1 l0_1.length c0_1, .int .i64 a0_2, .int .i64 a0_3] 28 (0, 0)) (bq BK1637.out) hb); replace BK1654 := m0 (blk_below (g := gb1654) (o := .cells #[.int .i64 t1650, .int .i64 t1651, .int .i64 t1652] 36 (0, 0)) (bq BK1654.out) hb); replace HB := sb HB hb; (try clear hb); obtain ⟨hcz43_0, hcz43_1, hcz43_2, hfz43_0, hfz43_1, hfz43_2⟩ := b3 BK1654) | (go_at_call 36; (with_reducible refine (Bs_IsSmall.calls t1650 t1651 true _ A38.out).mono ?_); rintro e w44 ⟨rfl, hb⟩; replace HO1644 := rb HO1644 hb; replace HO1647 := rb HO1647 hb; replace BK1637 := bb BK1637 hb; replace BK1654 := bb BK1654 hb; replace HB := sb HB hb; (try clear hb); obtain ⟨hcz45_0, hcz45_1, hcz45_2, hfz45_0, hfz45_1, hfz45_2⟩ := b3 BK1654))
                  go_meet
                  case rel => exact ⟨_, (decide (t1650 < 0)), (by first | rfl | (simp; done) | (simp [*]; done)), H', ⟨by have := HJ4.out; first | omega | exact Nat.le_refl _⟩, ⟨bk BK1637.out⟩, ⟨bk BK1654.out⟩, ⟨bz⟩⟩
                · replace c39 := Bool.eq_false_iff.mpr c39
                  subst c39
                  rw [if_neg (show ¬ (false = true) by decide)] at H
                  have H' := m0 H
                  clear H
                  have hnb46 := NB1654_1637.out
                  have hnc46 := NB1637_1654.out
                  obtain ⟨hcz47_0, hcz47_1, hcz47_2, hfz47_0, hfz47_1, hfz47_2⟩ := b3 BK1654
                  go_wp2_with (first | (go_at_call 35; (with_reducible refine (Bs_IsLowest.calls kj4 t1650 t1651 true _ A36.out).mono ?_); rintro e w48 ⟨rfl, hb⟩; replace HO1644 := m0 (Kd.R_below (by (with_reducible repeat (first | apply Kd.R_alloc | apply Kd.R_drewN | apply Kd.R_drew)); exact (Kd.R_mono (Kd.R_far (p := ⟨gb1654, 2, none⟩) (Kd.R_far (p := ⟨gb1654, 1, none⟩) (Kd.R_far (p := ⟨gb1654, 0, none⟩) (Kd.R_types HO1644.out BK1654.out (by decide)) (fun _ hk => hk.2) (.int .i64 t1650)) (fun _ hk => hk.2) (.int .i64 t1651)) (fun _ hk => hk.2) (.int .i64 t1652)) (fun _ h_ => h_.1))) hb); replace HO1647 := m0 (Kd.R_below (by (with_reducible repeat (first | apply Kd.R_alloc | apply Kd.R_drewN | apply Kd.R_drew)); exact (Kd.R_mono (Kd.R_far (p := ⟨gb1654, 2, none⟩) (Kd.R_far (p := ⟨gb1654, 1, none⟩) (Kd.R_far (p := ⟨gb1654, 0, none⟩) (Kd.R_types HO1647.out BK1654.out (by decide)) (fun _ hk => hk.2) (.int .i64 t1650)) (fun _ hk => hk.2) (.int .i64 t1651)) (fun _ hk => hk.2) (.int .i64 t1652)) (fun _ h_ => h_.1))) hb); replace BK1637 := m0 (blk_below (g := gb1637) (o := .cells #[.slice A0_0 l0_0.length c0_0, .slice A0_1 l0_1.length c0_1, .int .i64 a0_2, .int .i64 a0_3] 28 (0, 0)) (bq BK1637.out) hb); replace BK1654 := m0 (blk_below (g := gb1654) (o := .cells #[.int .i64 t1650, .int .i64 t1651, .int .i64 t1652] 36 (0, 0)) (bq BK1654.out) hb); replace HB := sb HB hb; (try clear hb); obtain ⟨hcz49_0, hcz49_1, hcz49_2, hfz49_0, hfz49_1, hfz49_2⟩ := b3 BK1654) | (go_at_call 36; (with_reducible refine (Bs_IsSmall.calls t1650 t1651 false _ A38.out).mono ?_); rintro e w50 ⟨rfl, hb⟩; replace HO1644 := rb HO1644 hb; replace HO1647 := rb HO1647 hb; replace BK1637 := bb BK1637 hb; replace BK1654 := bb BK1654 hb; replace HB := sb HB hb; (try clear hb)))
                  go_meet
                  case rel => exact ⟨_, (true), (by first | rfl | (simp; done) | (simp [*]; done)), H', ⟨by have := HJ4.out; first | omega | exact Nat.le_refl _⟩, ⟨bk BK1637.out⟩, ⟨bk BK1654.out⟩, ⟨bz⟩⟩
              · replace c37 := Bool.eq_false_iff.mpr c37
                subst c37
                rw [if_neg (show ¬ (false = true) by decide)] at H
                have H' := m0 H
                clear H
                have hnb51 := NB1654_1637.out
                have hnc51 := NB1637_1654.out
                obtain ⟨hcz52_0, hcz52_1, hcz52_2, hfz52_0, hfz52_1, hfz52_2⟩ := b3 BK1654
                go_wp2_with (first | (go_at_call 35; (with_reducible refine (Bs_IsLowest.calls kj4 t1650 t1651 false _ A36.out).mono ?_); rintro e w53 ⟨rfl, hb⟩; replace HO1644 := m0 (Kd.R_below (by (with_reducible repeat (first | apply Kd.R_alloc | apply Kd.R_drewN | apply Kd.R_drew)); exact (Kd.R_mono (Kd.R_far (p := ⟨gb1654, 2, none⟩) (Kd.R_far (p := ⟨gb1654, 1, none⟩) (Kd.R_far (p := ⟨gb1654, 0, none⟩) (Kd.R_types HO1644.out BK1654.out (by decide)) (fun _ hk => hk.2) (.int .i64 t1650)) (fun _ hk => hk.2) (.int .i64 t1651)) (fun _ hk => hk.2) (.int .i64 t1652)) (fun _ h_ => h_.1))) hb); replace HO1647 := m0 (Kd.R_below (by (with_reducible repeat (first | apply Kd.R_alloc | apply Kd.R_drewN | apply Kd.R_drew)); exact (Kd.R_mono (Kd.R_far (p := ⟨gb1654, 2, none⟩) (Kd.R_far (p := ⟨gb1654, 1, none⟩) (Kd.R_far (p := ⟨gb1654, 0, none⟩) (Kd.R_types HO1647.out BK1654.out (by decide)) (fun _ hk => hk.2) (.int .i64 t1650)) (fun _ hk => hk.2) (.int .i64 t1651)) (fun _ hk => hk.2) (.int .i64 t1652)) (fun _ h_ => h_.1))) hb); replace BK1637 := m0 (blk_below (g := gb1637) (o := .cells #[.slice A0_0 l0_0.length c0_0, .slice A0_1 l0_1.length c0_1, .int .i64 a0_2, .int .i64 a0_3] 28 (0, 0)) (bq BK1637.out) hb); replace BK1654 := m0 (blk_below (g := gb1654) (o := .cells #[.int .i64 t1650, .int .i64 t1651, .int .i64 t1652] 36 (0, 0)) (bq BK1654.out) hb); replace HB := sb HB hb; (try clear hb)))
                go_meet
                case rel => exact ⟨_, (true), (by first | rfl | (simp; done) | (simp [*]; done)), H', ⟨by have := HJ4.out; first | omega | exact Nat.le_refl _⟩, ⟨bk BK1637.out⟩, ⟨bk BK1654.out⟩, ⟨bz⟩⟩
            · rw [if_neg c35] at H
              have c35b0 := beq_eq_false_iff_ne.mpr c35
              have c35b1 := bne_iff_ne.mpr c35
              (first | rw [c35b0] | (simp only [i64_w, i32_w]; rw [c35b0]) | skip)
              have H' := m0 H
              clear H
              go_wp2
              go_meet
              case rel => exact ⟨_, (true), (by first | rfl | (simp; done) | (simp [*]; done)), H', ⟨by have := HJ4.out; first | omega | exact Nat.le_refl _⟩, ⟨bq BK1637.out⟩, ⟨bq BK1654.out⟩, ⟨bz⟩⟩
          case rest =>
            as_aux_lemma =>
            clear HC26
            try clear c1
            try clear c2
            try clear p2
            try clear c3
            try clear c4
            try clear c5
            try clear c9
            try clear c11
            try clear c11b0
            try clear c11b1
            try clear c14
            try clear c18
            try clear c19
            try clear c21
            try clear c22
            try clear c23
            try clear c33
            try clear c35
            try clear c35b0
            try clear c35b1
            try clear c37
            try clear c39
            try clear c40
            try clear c46
            try clear c51
            try clear hcz13_0
            try clear hcz13_1
            try clear hcz13_2
            try clear hcz13_3
            try clear hcz15_0
            try clear hcz15_1
            try clear hcz15_2
            try clear hcz15_3
            try clear hcz17_0
            try clear hcz17_1
            try clear hcz17_2
            try clear hcz17_3
            try clear hcz19_0
            try clear hcz19_1
            try clear hcz19_2
            try clear hcz19_3
            try clear hcz21_0
            try clear hcz21_1
            try clear hcz21_2
            try clear hcz21_3
            try clear hcz27_0
            try clear hcz27_1
            try clear hcz27_2
            try clear hcz27_3
            try clear hcz34_0
            try clear hcz34_1
            try clear hcz34_2
            try clear hcz41_0
            try clear hcz41_1
            try clear hcz41_2
            try clear hcz43_0
            try clear hcz43_1
            try clear hcz43_2
            try clear hcz45_0
            try clear hcz45_1
            try clear hcz45_2
            try clear hcz47_0
            try clear hcz47_1
            try clear hcz47_2
            try clear hcz49_0
            try clear hcz49_1
            try clear hcz49_2
            try clear hcz52_0
            try clear hcz52_1
            try clear hcz52_2
            try clear hfz13_0
            try clear hfz13_1
            try clear hfz13_2
            try clear hfz13_3
            try clear hfz15_0
            try clear hfz15_1
            try clear hfz15_2
            try clear hfz15_3
            try clear hfz17_0
            try clear hfz17_1
            try clear hfz17_2
            try clear hfz17_3
            try clear hfz19_0
            try clear hfz19_1
            try clear hfz19_2
            try clear hfz19_3
            try clear hfz21_0
            try clear hfz21_1
            try clear hfz21_2
            try clear hfz21_3
            try clear hfz27_0
            try clear hfz27_1
            try clear hfz27_2
            try clear hfz27_3
            try clear hfz34_0
            try clear hfz34_1
            try clear hfz34_2
            try clear hfz41_0
            try clear hfz41_1
            try clear hfz41_2
            try clear hfz43_0
            try clear hfz43_1
            try clear hfz43_2
            try clear hfz45_0
            try clear hfz45_1
            try clear hfz45_2
            try clear hfz47_0
            try clear hfz47_1
            try clear hfz47_2
            try clear hfz49_0
            try clear hfz49_1
            try clear hfz49_2
            try clear hfz52_0
            try clear hfz52_1
            try clear hfz52_2
            try clear p2
            obtain ⟨kq, x61_25, rfl, HA, HJ25, BK1637, BK1654, HB⟩ := hcut
            cases kq with
            | zero => exact absurd HA.out (by simp [Lw_LineReached.j1])
            | succ kj25 =>
              have H := HA.out
              clear HA
              simp only [Lw_LineReached.j1] at H
              by_cases c54 : x61_25 = true
              · subst c54
                rw [if_pos rfl] at H
                exact absurd H (by simp)
              · replace c54 := Bool.eq_false_iff.mpr c54
                subst c54
                rw [if_neg (show ¬ (false = true) by decide)] at H
                replace H := ob H
                obtain ⟨t1657, A550, H⟩ := H
                (try dsimp only at H)
                have A55 := m0 A550
                clear A550
                have H' := m0 H
                clear H
                have hnb56 := NB1637_1654.out
                have hnc56 := NB1654_1637.out
                obtain ⟨hcz57_0, hcz57_1, hcz57_2, hcz57_3, hfz57_0, hfz57_1, hfz57_2, hfz57_3⟩ := b4 BK1637
                go_wp2_with (first | ((with_reducible refine gate_callee (f := 56) rfl ?_); refine gl (some 67) Tryd.func56 #[.agg #[.slice A0_1 l0_1.length c0_1], .int .i64 (l0_0.length : Int)] ?_; (with_reducible refine (Rf_Cases.calls kj25 _ _ l0_1 (l0_0.length : Int) t1657 _ ?side1 ?side2 A55.out).mono ?_); (case side1 => exact cb HR0_1 HB); (case side2 => exact HC0_1.out); rintro e w58 ⟨rfl, hb⟩; refine ⟨_, rfl, ?_⟩; replace BK1637 := bb BK1637 hb; replace BK1654 := bb BK1654 hb; replace HB := sb HB hb; (try clear hb)))
                go_loopg [8, 9, 10] kj25 (fun kq v8 v9 v10 w' => ∃ (x8_3 : Int) (x9_3 : Int) (x10_3 : Int), v8 = .int .i64 x8_3 ∧ v9 = .int .i64 x9_3 ∧ v10 = .int .i64 x10_3 ∧ Aside0 (Lw_LineReached.l0 kq a1 t1657 x8_3 x9_3 x10_3 l0_0 l0_1 a0_2 a0_3 t1650 t1651 t1652 = some r) ∧ Aside0 (kq ≤ kj25) ∧ Aside0 (w'.heap[gb1637]? = some (.cells #[(.slice A0_0 l0_0.length c0_0), (.slice A0_1 l0_1.length c0_1), .int .i64 a0_2, .int .i64 a0_3] 28 (0, 0))) ∧ Aside0 (w'.heap[gb1654]? = some (.cells #[.int .i64 t1650, .int .i64 t1651, .int .i64 t1652] 36 (0, 0))) ∧ Aside0 (Below w.heap.size w w'))
                case atStart => exact ⟨(0), ((-1)), (0), (by first | rfl | (simp; done) | (simp [*]; done)), (by first | rfl | (simp; done) | (simp [*]; done)), (by first | rfl | (simp; done) | (simp [*]; done)), H', ⟨Nat.le_refl _⟩, ⟨bk BK1637.out⟩, ⟨bk BK1654.out⟩, ⟨bz⟩⟩
                case round =>
                  as_aux_lemma =>
                  clear H'
                  try clear c1
                  try clear c2
                  try clear p2
                  try clear c3
                  try clear c4
                  try clear c5
                  try clear c9
                  try clear c11
                  try clear c11b0
                  try clear c11b1
                  try clear c14
                  try clear c18
                  try clear c19
                  try clear c21
                  try clear c22
                  try clear c23
                  try clear c33
                  try clear c35
                  try clear c35b0
                  try clear c35b1
                  try clear c37
                  try clear c39
                  try clear c40
                  try clear c46
                  try clear c51
                  try clear c54
                  try clear c56
                  try clear hcz13_0
                  try clear hcz13_1
                  try clear hcz13_2
                  try clear hcz13_3
                  try clear hcz15_0
                  try clear hcz15_1
                  try clear hcz15_2
                  try clear hcz15_3
                  try clear hcz17_0
                  try clear hcz17_1
                  try clear hcz17_2
                  try clear hcz17_3
                  try clear hcz19_0
                  try clear hcz19_1
                  try clear hcz19_2
                  try clear hcz19_3
                  try clear hcz21_0
                  try clear hcz21_1
                  try clear hcz21_2
                  try clear hcz21_3
                  try clear hcz27_0
                  try clear hcz27_1
                  try clear hcz27_2
                  try clear hcz27_3
                  try clear hcz34_0
                  try clear hcz34_1
                  try clear hcz34_2
                  try clear hcz41_0
                  try clear hcz41_1
                  try clear hcz41_2
                  try clear hcz43_0
                  try clear hcz43_1
                  try clear hcz43_2
                  try clear hcz45_0
                  try clear hcz45_1
                  try clear hcz45_2
                  try clear hcz47_0
                  try clear hcz47_1
                  try clear hcz47_2
                  try clear hcz49_0
                  try clear hcz49_1
                  try clear hcz49_2
                  try clear hcz52_0
                  try clear hcz52_1
                  try clear hcz52_2
                  try clear hcz57_0
                  try clear hcz57_1
                  try clear hcz57_2
                  try clear hcz57_3
                  try clear hfz13_0
                  try clear hfz13_1
                  try clear hfz13_2
                  try clear hfz13_3
                  try clear hfz15_0
                  try clear hfz15_1
                  try clear hfz15_2
                  try clear hfz15_3
                  try clear hfz17_0
                  try clear hfz17_1
                  try clear hfz17_2
                  try clear hfz17_3
                  try clear hfz19_0
                  try clear hfz19_1
                  try clear hfz19_2
                  try clear hfz19_3
                  try clear hfz21_0
                  try clear hfz21_1
                  try clear hfz21_2
                  try clear hfz21_3
                  try clear hfz27_0
                  try clear hfz27_1
                  try clear hfz27_2
                  try clear hfz27_3
                  try clear hfz34_0
                  try clear hfz34_1
                  try clear hfz34_2
                  try clear hfz41_0
                  try clear hfz41_1
                  try clear hfz41_2
                  try clear hfz43_0
                  try clear hfz43_1
                  try clear hfz43_2
                  try clear hfz45_0
                  try clear hfz45_1
                  try clear hfz45_2
                  try clear hfz47_0
                  try clear hfz47_1
                  try clear hfz47_2
                  try clear hfz49_0
                  try clear hfz49_1
                  try clear hfz49_2
                  try clear hfz52_0
                  try clear hfz52_1
                  try clear hfz52_2
                  try clear hfz57_0
                  try clear hfz57_1
                  try clear hfz57_2
                  try clear hfz57_3
                  try clear p2
                  obtain ⟨x8_3, x9_3, x10_3, rfl, rfl, rfl, HA, HK3, BK1637, BK1654, HB⟩ := hrel
                  cases gk with
                  | zero => exact absurd HA.out (by simp [Lw_LineReached.l0])
                  | succ k3 =>
                    have H := HA.out
                    clear HA
                    simp only [Lw_LineReached.l0] at H
                    by_cases c59 : x10_3 < t1657
                    · rw [if_pos c59] at H
                      have c59b0 := decide_eq_true c59
                      clear c59
                      replace H := ob H
                      obtain ⟨⟨t1658, t1661, t1664, t1665⟩, A600, H⟩ := H
                      (try dsimp only at H)
                      have A60 := m0 A600
                      clear A600
                      replace H := ob H
                      obtain ⟨⟨t1666, t1669⟩, A610, H⟩ := H
                      (try dsimp only at H)
                      have A61 := m0 A610
                      clear A610
                      have HC62 := m0 H
                      clear H
                      have hnb63 := NB1637_1654.out
                      have hnc63 := NB1654_1637.out
                      obtain ⟨hcz64_0, hcz64_1, hcz64_2, hcz64_3, hfz64_0, hfz64_1, hfz64_2, hfz64_3⟩ := b4 BK1637
                      go_upto_region 13 with (first | ((with_reducible refine gate_callee (f := 21) rfl ?_); refine gl (some 75) Tryd.func21 #[.agg #[.slice A0_0 l0_0.length c0_0, .slice A0_1 l0_1.length c0_1, .int .i64 a0_2, .int .i64 a0_3]] ?_; (with_reducible refine (Rf_CopyCase.calls _ _ l0_0 _ _ l0_1 a0_2 a0_3 t1658 t1661 t1664 t1665 _ ?side1 ?side2 ?side3 ?side4 A60.out).mono ?_); (case side1 => exact cb HR0_0 HB); (case side2 => exact HC0_0.out); (case side3 => exact cb HR0_1 HB); (case side4 => exact HC0_1.out); rintro e w65 ⟨v1659, v1662, rfl, ho0, ho1, hb⟩; refine ⟨_, rfl, ?_⟩; have HO1660 := m0 (Kd.R_lower ho0 (below_size bz)); have HO1663 := m0 (Kd.R_lower ho1 (below_size bz)); replace BK1637 := bb BK1637 hb; replace BK1654 := bb BK1654 hb; replace HB := sb HB hb; (try clear hb); (try clear ho0); (try clear ho1); obtain ⟨Ao66, co66, eo66⟩ := Kd.R_slice HO1660.out; subst eo66; obtain ⟨Ao67, co67, eo67⟩ := Kd.R_slice HO1663.out; subst eo67) | ((with_reducible refine gate_callee (f := 54) rfl ?_); refine gl (some 77) Tryd.func54 #[.agg #[.slice Ao66 t1658.length co66, .slice Ao67 t1661.length co67, .int .i64 t1664, .int .i64 t1665], .int .i64 x10_3] ?_; (with_reducible refine (line_Noisy.calls k3 _ _ t1658 _ _ t1661 t1664 t1665 x10_3 t1666 t1669 _ ?side1 ?side2 ?side3 ?side4 A61.out).mono ?_); (case side1 => exact bc (Kd.R_reads' HO1660.out).2.2); (case side2 => exact (Kd.R_reads' HO1660.out).2.1); (case side3 => exact bc (Kd.R_reads' HO1663.out).2.2); (case side4 => exact (Kd.R_reads' HO1663.out).2.1); rintro e w68 ⟨v1667, rfl, ho0, hb⟩; refine ⟨_, rfl, ?_⟩; have HO1668 := m0 (Kd.R_lower (Kd.R_new' (Kd.R_new' ho0 (Kd.R_lt (br HO1660.out))) (Kd.R_lt (br HO1663.out))) (below_size bz)); replace HO1660 := m0 (Kd.R_elder' (br HO1660.out) (Kd.R_base ho0) hb); replace HO1663 := m0 (Kd.R_elder' (br HO1663.out) (Kd.R_base ho0) hb); replace BK1637 := bb BK1637 hb; replace BK1654 := bb BK1654 hb; replace HB := sb HB hb; (try clear hb); (try clear ho0)))
                      (try simp only [Act.put, List.setIfInBounds_toArray, List.set_cons_zero, List.set_cons_succ])
                      go_cut [89] (fun v89 wc => ∃ (kq : Nat) (x89_61 : Bool), v89 = .bool x89_61 ∧ Aside0 (Lw_LineReached.j3 kq a1 t1657 x8_3 x9_3 x10_3 t1666 x89_61 l0_0 l0_1 a0_2 a0_3 t1650 t1651 t1652 = some r) ∧ Aside0 (kq ≤ k3) ∧ Aside0 (Kd.R (Kd.int .i64) 3 wc w.heap.size (fun _ => True) v1667 t1666) ∧ Aside0 (wc.heap[gb1637]? = some (.cells #[(.slice A0_0 l0_0.length c0_0), (.slice A0_1 l0_1.length c0_1), .int .i64 a0_2, .int .i64 a0_3] 28 (0, 0))) ∧ Aside0 (wc.heap[gb1654]? = some (.cells #[.int .i64 t1650, .int .i64 t1651, .int .i64 t1652] 36 (0, 0))) ∧ Aside0 (Below w.heap.size w wc))
                      case first =>
                        have H := HC62.out
                        clear HC62
                        by_cases c69 : t1669 = 0
                        · rw [if_pos c69] at H
                          have c69b0 := beq_iff_eq.mpr c69
                          have c69b1 := bne_eq_false_iff_eq.mpr c69
                          clear c69
                          (first | rw [c69b0] | (simp only [i64_w, i32_w]; rw [c69b0]) | skip)
                          have H' := m0 H
                          clear H
                          obtain ⟨Ao70, co70, eo70⟩ := Kd.R_slice HO1668.out
                          subst eo70
                          have hnb71 := NB1637_1654.out
                          have hnc71 := NB1654_1637.out
                          obtain ⟨hcz72_0, hcz72_1, hcz72_2, hcz72_3, hfz72_0, hfz72_1, hfz72_2, hfz72_3⟩ := b4 BK1637
                          go_wp2
                          go_meet
                          case rel => exact ⟨_, (((t1666.length : Int) != (l0_0.length : Int))), (by first | rfl | (simp; done) | (simp [*]; done)), H', ⟨by have := HJ4.out; have := HJ25.out; have := HK3.out; first | omega | exact Nat.le_refl _⟩, ⟨by (with_reducible repeat (first | apply Kd.R_alloc | apply Kd.R_drewN | apply Kd.R_drew)); exact Kd.R_mono HO1668.out (fun _ hk => trivial)⟩, ⟨bk BK1637.out⟩, ⟨bk BK1654.out⟩, ⟨bz⟩⟩
                        · rw [if_neg c69] at H
                          have c69b0 := beq_eq_false_iff_ne.mpr c69
                          have c69b1 := bne_iff_ne.mpr c69
                          (first | rw [c69b0] | (simp only [i64_w, i32_w]; rw [c69b0]) | skip)
                          have H' := m0 H
                          clear H
                          go_wp2
                          go_meet
                          case rel => exact ⟨_, (true), (by first | rfl | (simp; done) | (simp [*]; done)), H', ⟨by have := HJ4.out; have := HJ25.out; have := HK3.out; first | omega | exact Nat.le_refl _⟩, ⟨by (with_reducible repeat (first | apply Kd.R_alloc | apply Kd.R_drewN | apply Kd.R_drew)); exact Kd.R_mono HO1668.out (fun _ hk => trivial)⟩, ⟨bk BK1637.out⟩, ⟨bk BK1654.out⟩, ⟨bz⟩⟩
                      case rest =>
                        as_aux_lemma =>
                        clear HC62
                        try clear c1
                        try clear c2
                        try clear p2
                        try clear c3
                        try clear c4
                        try clear c5
                        try clear c6
                        try clear c7
                        try clear c9
                        try clear c11
                        try clear c11b0
                        try clear c11b1
                        try clear c14
                        try clear c18
                        try clear c19
                        try clear c21
                        try clear c22
                        try clear c23
                        try clear c33
                        try clear c35
                        try clear c35b0
                        try clear c35b1
                        try clear c37
                        try clear c39
                        try clear c40
                        try clear c46
                        try clear c51
                        try clear c54
                        try clear c56
                        try clear c59
                        try clear c59b0
                        try clear c63
                        try clear c69
                        try clear c69b0
                        try clear c69b1
                        try clear c71
                        try clear hcz13_0
                        try clear hcz13_1
                        try clear hcz13_2
                        try clear hcz13_3
                        try clear hcz15_0
                        try clear hcz15_1
                        try clear hcz15_2
                        try clear hcz15_3
                        try clear hcz17_0
                        try clear hcz17_1
                        try clear hcz17_2
                        try clear hcz17_3
                        try clear hcz19_0
                        try clear hcz19_1
                        try clear hcz19_2
                        try clear hcz19_3
                        try clear hcz21_0
                        try clear hcz21_1
                        try clear hcz21_2
                        try clear hcz21_3
                        try clear hcz27_0
                        try clear hcz27_1
                        try clear hcz27_2
                        try clear hcz27_3
                        try clear hcz34_0
                        try clear hcz34_1
                        try clear hcz34_2
                        try clear hcz41_0
                        try clear hcz41_1
                        try clear hcz41_2
                        try clear hcz43_0
                        try clear hcz43_1
                        try clear hcz43_2
                        try clear hcz45_0
                        try clear hcz45_1
                        try clear hcz45_2
                        try clear hcz47_0
                        try clear hcz47_1
                        try clear hcz47_2
                        try clear hcz49_0
                        try clear hcz49_1
                        try clear hcz49_2
                        try clear hcz52_0
                        try clear hcz52_1
                        try clear hcz52_2
                        try clear hcz57_0
                        try clear hcz57_1
                        try clear hcz57_2
                        try clear hcz57_3
                        try clear hcz64_0
                        try clear hcz64_1
                        try clear hcz64_2
                        try clear hcz64_3
                        try clear hcz72_0
                        try clear hcz72_1
                        try clear hcz72_2
                        try clear hcz72_3
                        try clear hfz13_0
                        try clear hfz13_1
                        try clear hfz13_2
                        try clear hfz13_3
                        try clear hfz15_0
                        try clear hfz15_1
                        try clear hfz15_2
                        try clear hfz15_3
                        try clear hfz17_0
                        try clear hfz17_1
                        try clear hfz17_2
                        try clear hfz17_3
                        try clear hfz19_0
                        try clear hfz19_1
                        try clear hfz19_2
                        try clear hfz19_3
                        try clear hfz21_0
                        try clear hfz21_1
                        try clear hfz21_2
                        try clear hfz21_3
                        try clear hfz27_0
                        try clear hfz27_1
                        try clear hfz27_2
                        try clear hfz27_3
                        try clear hfz34_0
                        try clear hfz34_1
                        try clear hfz34_2
                        try clear hfz41_0
                        try clear hfz41_1
                        try clear hfz41_2
                        try clear hfz43_0
                        try clear hfz43_1
                        try clear hfz43_2
                        try clear hfz45_0
                        try clear hfz45_1
                        try clear hfz45_2
                        try clear hfz47_0
                        try clear hfz47_1
                        try clear hfz47_2
                        try clear hfz49_0
                        try clear hfz49_1
                        try clear hfz49_2
                        try clear hfz52_0
                        try clear hfz52_1
                        try clear hfz52_2
                        try clear hfz57_0
                        try clear hfz57_1
                        try clear hfz57_2
                        try clear hfz57_3
                        try clear hfz64_0
                        try clear hfz64_1
                        try clear hfz64_2
                        try clear hfz64_3
                        try clear hfz72_0
                        try clear hfz72_1
                        try clear hfz72_2
                        try clear hfz72_3
                        try clear p2
                        obtain ⟨kq, x89_61, rfl, HA, HJ61, HO_11, BK1637, BK1654, HB⟩ := hcut
                        cases kq with
                        | zero => exact absurd HA.out (by simp [Lw_LineReached.j3])
                        | succ kj61 =>
                          have H := HA.out
                          clear HA
                          simp only [Lw_LineReached.j3] at H
                          by_cases c73 : x89_61 = true
                          · subst c73
                            rw [if_pos rfl] at H
                            exact absurd H (by simp)
                          · replace c73 := Bool.eq_false_iff.mpr c73
                            subst c73
                            rw [if_neg (show ¬ (false = true) by decide)] at H
                            replace H := ob H
                            obtain ⟨⟨t1670, t1671, t1672⟩, A740, H⟩ := H
                            (try dsimp only at H)
                            have A74 := m0 A740
                            clear A740
                            have HC75 := m0 H
                            clear H
                            obtain ⟨Ao76, co76, eo76⟩ := Kd.R_slice HO_11.out
                            subst eo76
                            go_upto_region 16 with (first | ((with_reducible refine gate_callee (f := 34) rfl ?_); refine gl (some 93) Tryd.func34 #[.slice Ao76 t1666.length co76, .int .i64 a1] ?_; (with_reducible refine (line_Estimated.calls kj61 _ _ t1666 a1 t1670 t1671 t1672 _ ?side1 ?side2 ?side3 A74.out).mono ?_); (case side1 => exact bc (Kd.R_reads' HO_11.out).2.2); (case side2 => exact (Kd.R_reads' HO_11.out).2.1); (case side3 => exact EstG.below HG.out bz); rintro e w77 ⟨rfl, hb⟩; refine ⟨_, rfl, ?_⟩; replace HO_11 := rb HO_11 hb; replace BK1637 := bb BK1637 hb; replace BK1654 := bb BK1654 hb; replace HB := sb HB hb; (try clear hb)) | ((with_reducible refine gate_dst (N := 13) rfl ?_); (try (refine gate_guard (by rfl) ?_; dsimp only)); refine be 13 26 #[.int .i64 0, .int .i64 0] ?_; intro gb1673 hg w78 hbox hb; replace HO_11 := rb HO_11 hb; have BK1673 := m0 hbox; have GW1673 := m0 (bg (n := w.heap.size) hg); have GE1673 := m0 (bg (n := w.heap.size) hg); replace HB := sb HB hb; have NB1637_1673 := nl BK1637 hg; have NB1673_1637 := ng (nl BK1637 hg); replace BK1637 := bb BK1637 hb; have NB1654_1673 := nl BK1654 hg; have NB1673_1654 := ng (nl BK1654 hg); replace BK1654 := bb BK1654 hb; clear hb hbox hg; have hnb79 := NB1673_1637.out; have hnc79 := NB1637_1673.out; have hnb80 := NB1673_1654.out; have hnc80 := NB1654_1673.out; obtain ⟨_, _, _, _⟩ := b2 BK1673))
                            (try simp only [Act.put, List.setIfInBounds_toArray, List.set_cons_zero, List.set_cons_succ])
                            go_cut [120] (fun v120 wc => ∃ (kq : Nat) (x120_74 : Bool), v120 = .bool x120_74 ∧ Aside0 (Lw_LineReached.j4 kq a1 t1657 x8_3 x9_3 x10_3 x120_74 l0_0 l0_1 a0_2 a0_3 t1650 t1651 t1652 t1670 t1671 = some r) ∧ Aside0 (kq ≤ kj61) ∧ Aside0 (wc.heap[gb1637]? = some (.cells #[(.slice A0_0 l0_0.length c0_0), (.slice A0_1 l0_1.length c0_1), .int .i64 a0_2, .int .i64 a0_3] 28 (0, 0))) ∧ Aside0 (wc.heap[gb1654]? = some (.cells #[.int .i64 t1650, .int .i64 t1651, .int .i64 t1652] 36 (0, 0))) ∧ Aside0 (wc.heap[gb1673]? = some (.cells #[.int .i64 t1670, .int .i64 t1671] 26 (0, 0))) ∧ Aside0 (Below w.heap.size w wc))
                            case first =>
                              have H := HC75.out
                              clear HC75
                              by_cases c82 : t1672 = 0
                              · rw [if_pos c82] at H
                                have c82b0 := beq_iff_eq.mpr c82
                                have c82b1 := bne_eq_false_iff_eq.mpr c82
                                clear c82
                                (first | rw [c82b0] | (simp only [i64_w, i32_w]; rw [c82b0]) | skip)
                                replace H := ob H
                                obtain ⟨t1674, A830, H⟩ := H
                                (try dsimp only at H)
                                have A83 := m0 A830
                                clear A830
                                by_cases c84 : t1674 = true
                                · subst c84
                                  rw [if_pos rfl] at H
                                  replace H := ob H
                                  obtain ⟨t1675, A850, H⟩ := H
                                  (try dsimp only at H)
                                  have A85 := m0 A850
                                  clear A850
                                  by_cases c86 : t1675 = true
                                  · subst c86
                                    rw [if_pos rfl] at H
                                    by_cases c87 : t1670 < 0
                                    · rw [if_pos c87] at H
                                      have c87b0 := decide_eq_true c87
                                      clear c87
                                      have H' := m0 H
                                      clear H
                                      try go_wp2
                                      have n0_ : Aside0 (Kd.R (Kd.int .i64) 3 ((w78.setCell ⟨gb1673, 0, none⟩ (.int .i64 t1670)).setCell ⟨gb1673, 1, none⟩ (.int .i64 t1671)) w.heap.size (fun _ => True) (.slice Ao76 t1666.length co76) t1666) := ⟨by (with_reducible repeat (first | apply Kd.R_alloc | apply Kd.R_drewN | apply Kd.R_drew)); exact Kd.R_mono (Kd.R_far (p := ⟨gb1673, 1, none⟩) (Kd.R_far (p := ⟨gb1673, 0, none⟩) (Kd.R_types HO_11.out BK1673.out (by decide)) (fun _ hk => hk.2) (.int .i64 t1670)) (fun _ hk => hk.2) (.int .i64 t1671)) (fun _ hk => trivial)⟩
                                      have n1_ : Aside0 (((w78.setCell ⟨gb1673, 0, none⟩ (.int .i64 t1670)).setCell ⟨gb1673, 1, none⟩ (.int .i64 t1671)).heap[gb1637]? = some (.cells #[.slice A0_0 l0_0.length c0_0, .slice A0_1 l0_1.length c0_1, .int .i64 a0_2, .int .i64 a0_3] 28 (0, 0))) := ⟨bq BK1637.out⟩
                                      have n2_ : Aside0 (((w78.setCell ⟨gb1673, 0, none⟩ (.int .i64 t1670)).setCell ⟨gb1673, 1, none⟩ (.int .i64 t1671)).heap[gb1654]? = some (.cells #[.int .i64 t1650, .int .i64 t1651, .int .i64 t1652] 36 (0, 0))) := ⟨bq BK1654.out⟩
                                      have n3_ : Aside0 (((w78.setCell ⟨gb1673, 0, none⟩ (.int .i64 t1670)).setCell ⟨gb1673, 1, none⟩ (.int .i64 t1671)).heap[gb1673]? = some (.cells #[.int .i64 t1670, .int .i64 t1671] 26 (0, 0))) := ⟨bq BK1673.out⟩
                                      have n4_ : Aside0 (Below w.heap.size w ((w78.setCell ⟨gb1673, 0, none⟩ (.int .i64 t1670)).setCell ⟨gb1673, 1, none⟩ (.int .i64 t1671))) := ⟨bz⟩
                                      (try clear HO_11)
                                      (try clear BK1637)
                                      (try clear BK1654)
                                      (try clear BK1673)
                                      (try clear HB)
                                      generalize ((w78.setCell ⟨gb1673, 0, none⟩ (.int .i64 t1670)).setCell ⟨gb1673, 1, none⟩ (.int .i64 t1671)) = w88 at n0_ n1_ n2_ n3_ n4_ ⊢
                                      have HO_11 := n0_
                                      have BK1637 := n1_
                                      have BK1654 := n2_
                                      have BK1673 := n3_
                                      have HB := n4_
                                      clear n0_ n1_ n2_ n3_ n4_
                                      replace HO_11 := m0 (Kd.R_drew HO_11.out); replace BK1637 := bd BK1637; replace BK1654 := bd BK1654; replace BK1673 := bd BK1673; replace HB := sd HB
                                      refine start_ (n := 25) (S := fun w' => w'.cell? ⟨gb1673, 0, none⟩ = some (.int .i64 t1670) ∧ w'.cell? ⟨gb1673, 1, none⟩ = some (.int .i64 t1671)) (ds := []) #[false, false, false, false, false, false, false, false, false, false, false, false, false, false, false, false, false, false, false, false, false, false, false, false, false] (by kernel_rfl) rfl rfl cz (fun hHeld => ?_); refine with_tabW Lw_LineReached.tab16 Lw_LineReached.bits16 (fun HT_ HW_ => ?_)
                                      generalize w88.drew = w89 at HO_11 BK1637 BK1654 BK1673 HB hHeld ⊢
                                      refine pureZ (i := 0) (N := some 96) (bs 25 1) HT_ ?_
                                      refine pureZ (i := 1) (N := some 97) (bs 25 3) HT_ ?_
                                      refine pureZ (i := 2) (N := some 98) (bs 25 7) HT_ ?_
                                      refine takeZ 3 (some 99) (bs 25 15) (take_ofW HT_.out HW_.out (by kernel_rfl)) hHeld ?_
                                      refine oneZ 4 (some 100) (bs 25 31) (one_of HT_.out (by kernel_rfl)) fun K hK => ?_
                                      refine goes_ Tryd.func35 (by kernel_rfl) rfl #[.agg #[.int .i64 t1670, .int .i64 t1671]] (by rfl) rfl rfl mz ?_
                                      with_reducible refine (Bs_IsLowest.calls kj61 t1670 t1671 true _ A83.out).mono ?_
                                      rintro e w90 ⟨rfl, hb⟩
                                      refine ⟨_, rfl, ?_⟩
                                      replace HO_11 := rb HO_11 hb; replace BK1637 := bb BK1637 hb; replace BK1654 := bb BK1654 hb; replace BK1673 := bb BK1673 hb; replace HB := sb HB hb
                                      (try clear hb)
                                      refine hK.out _ _ cz (fun hHeld => ?_)
                                      clear hK K
                                      refine norm_ (a' := ?_) ?_ ?_
                                      rotate_left
                                      · show Act.put _ (some 100) _ = _
                                        exact pz
                                      refine pureZ (i := 5) (N := some 101) (bs 25 63) HT_ ?_
                                      refine pureZ (i := 6) (N := some 102) (bs 25 127) HT_ ?_
                                      refine pureZ (i := 7) (N := some 103) (bs 25 255) HT_ ?_
                                      refine takeZ 8 (some 104) (bs 25 511) (take_ofW HT_.out HW_.out (by kernel_rfl)) hHeld ?_
                                      refine oneZ 9 (some 105) (bs 25 1023) (one_of HT_.out (by kernel_rfl)) fun K hK => ?_
                                      refine goes_ Tryd.func36 (by kernel_rfl) rfl #[.agg #[.int .i64 t1670, .int .i64 t1671]] (by rfl) rfl rfl mz ?_
                                      with_reducible refine (Bs_IsSmall.calls t1670 t1671 true _ A85.out).mono ?_
                                      rintro e w91 ⟨rfl, hb⟩
                                      refine ⟨_, rfl, ?_⟩
                                      replace HO_11 := rb HO_11 hb; replace BK1637 := bb BK1637 hb; replace BK1654 := bb BK1654 hb; replace BK1673 := bb BK1673 hb; replace HB := sb HB hb
                                      (try clear hb)
                                      refine hK.out _ _ cz (fun hHeld => ?_)
                                      clear hK K
                                      refine norm_ (a' := ?_) ?_ ?_
                                      rotate_left
                                      · show Act.put _ (some 105) _ = _
                                        exact pz
                                      refine pureZ (i := 10) (N := some 106) (bs 25 2047) HT_ ?_
                                      refine pureZ (i := 11) (N := some 107) (bs 25 4095) HT_ ?_
                                      refine pureZ (i := 12) (N := some 108) (bs 25 8191) HT_ ?_
                                      refine pureZ (i := 13) (N := some 109) (bs 25 16383) HT_ ?_
                                      refine takeZ 14 (some 110) (bs 25 32767) (take_ofW HT_.out HW_.out (by kernel_rfl)) hHeld ?_
                                      refine pureZ (i := 15) (N := some 111) (bs 25 65535) HT_ ?_
                                      refine pureZ (i := 16) (N := some 112) (bs 25 131071) HT_ ?_
                                      refine pureZ (i := 17) (N := some 113) (bs 25 262143) HT_ ?_
                                      refine pure_ (i := 18) (N := some 114) (v := undef) (a' := ?_) (bs 25 524287) rfl rfl (any_of HT_.out (by kernel_rfl)) (fun _ _ _ h => h) (Or.inr ⟨by rfl, rfl⟩) ?_ ?_
                                      rotate_left
                                      · exact pz
                                      refine pure_ (i := 19) (N := some 115) (v := undef) (a' := ?_) (bs 25 1048575) rfl rfl (any_of HT_.out (by kernel_rfl)) (fun _ _ _ h => h) (Or.inr ⟨by rfl, rfl⟩) ?_ ?_
                                      rotate_left
                                      · exact pz
                                      refine pure_ (i := 20) (N := some 116) (v := undef) (a' := ?_) (bs 25 2097151) rfl rfl (any_of HT_.out (by kernel_rfl)) (fun _ _ _ h => h) (Or.inr ⟨by rfl, rfl⟩) ?_ ?_
                                      rotate_left
                                      · exact pz
                                      refine pure_ (i := 21) (N := some 117) (v := undef) (a' := ?_) (bs 25 4194303) rfl rfl (any_of HT_.out (by kernel_rfl)) (fun _ _ _ h => h) (Or.inr ⟨by rfl, rfl⟩) ?_ ?_
                                      rotate_left
                                      · exact pz
                                      refine pure_ (i := 22) (N := some 118) (v := undef) (a' := ?_) (bs 25 8388607) rfl rfl (any_of HT_.out (by kernel_rfl)) (fun _ _ _ h => h) (Or.inr ⟨by rfl, rfl⟩) ?_ ?_
                                      rotate_left
                                      · exact pz
                                      refine pure_ (i := 23) (N := some 119) (v := undef) (a' := ?_) (bs 25 16777215) rfl rfl (any_of HT_.out (by kernel_rfl)) (fun _ _ _ h => h) (Or.inr ⟨by rfl, rfl⟩) ?_ ?_
                                      rotate_left
                                      · exact pz
                                      refine pureZ (i := 24) (N := some 120) (bs 25 33554431) HT_ ?_
                                      refine done_ (done_of HT_.out (by kernel_rfl)) ?_
                                      try go_wp2
                                      go_meet
                                      case rel => exact ⟨_, (true), (by first | rfl | (simp; done) | (simp [*]; done)), H', ⟨by have := HJ4.out; have := HJ25.out; have := HK3.out; have := HJ61.out; first | omega | exact Nat.le_refl _⟩, ⟨bk BK1637.out⟩, ⟨bk BK1654.out⟩, ⟨bk BK1673.out⟩, ⟨bz⟩⟩
                                    · rw [if_neg c87] at H
                                      have c87b0 := decide_eq_false c87
                                      clear c87
                                      replace H := ob H
                                      obtain ⟨⟨t1676, t1677⟩, A920, H⟩ := H
                                      (try dsimp only at H)
                                      have A92 := m0 A920
                                      clear A920
                                      replace H := ob H
                                      obtain ⟨t1678, A930, H⟩ := H
                                      (try dsimp only at H)
                                      have A93 := m0 A930
                                      clear A930
                                      have H' := m0 H
                                      clear H
                                      try go_wp2
                                      have n0_ : Aside0 (Kd.R (Kd.int .i64) 3 ((w78.setCell ⟨gb1673, 0, none⟩ (.int .i64 t1670)).setCell ⟨gb1673, 1, none⟩ (.int .i64 t1671)) w.heap.size (fun _ => True) (.slice Ao76 t1666.length co76) t1666) := ⟨by (with_reducible repeat (first | apply Kd.R_alloc | apply Kd.R_drewN | apply Kd.R_drew)); exact Kd.R_mono (Kd.R_far (p := ⟨gb1673, 1, none⟩) (Kd.R_far (p := ⟨gb1673, 0, none⟩) (Kd.R_types HO_11.out BK1673.out (by decide)) (fun _ hk => hk.2) (.int .i64 t1670)) (fun _ hk => hk.2) (.int .i64 t1671)) (fun _ hk => trivial)⟩
                                      have n1_ : Aside0 (((w78.setCell ⟨gb1673, 0, none⟩ (.int .i64 t1670)).setCell ⟨gb1673, 1, none⟩ (.int .i64 t1671)).heap[gb1637]? = some (.cells #[.slice A0_0 l0_0.length c0_0, .slice A0_1 l0_1.length c0_1, .int .i64 a0_2, .int .i64 a0_3] 28 (0, 0))) := ⟨bq BK1637.out⟩
                                      have n2_ : Aside0 (((w78.setCell ⟨gb1673, 0, none⟩ (.int .i64 t1670)).setCell ⟨gb1673, 1, none⟩ (.int .i64 t1671)).heap[gb1654]? = some (.cells #[.int .i64 t1650, .int .i64 t1651, .int .i64 t1652] 36 (0, 0))) := ⟨bq BK1654.out⟩
                                      have n3_ : Aside0 (((w78.setCell ⟨gb1673, 0, none⟩ (.int .i64 t1670)).setCell ⟨gb1673, 1, none⟩ (.int .i64 t1671)).heap[gb1673]? = some (.cells #[.int .i64 t1670, .int .i64 t1671] 26 (0, 0))) := ⟨bq BK1673.out⟩
                                      have n4_ : Aside0 (Below w.heap.size w ((w78.setCell ⟨gb1673, 0, none⟩ (.int .i64 t1670)).setCell ⟨gb1673, 1, none⟩ (.int .i64 t1671))) := ⟨bz⟩
                                      (try clear HO_11)
                                      (try clear BK1637)
                                      (try clear BK1654)
                                      (try clear BK1673)
                                      (try clear HB)
                                      generalize ((w78.setCell ⟨gb1673, 0, none⟩ (.int .i64 t1670)).setCell ⟨gb1673, 1, none⟩ (.int .i64 t1671)) = w94 at n0_ n1_ n2_ n3_ n4_ ⊢
                                      have HO_11 := n0_
                                      have BK1637 := n1_
                                      have BK1654 := n2_
                                      have BK1673 := n3_
                                      have HB := n4_
                                      clear n0_ n1_ n2_ n3_ n4_
                                      replace HO_11 := m0 (Kd.R_drew HO_11.out); replace BK1637 := bd BK1637; replace BK1654 := bd BK1654; replace BK1673 := bd BK1673; replace HB := sd HB
                                      refine start_ (n := 25) (S := fun w' => w'.cell? ⟨gb1673, 0, none⟩ = some (.int .i64 t1670) ∧ w'.cell? ⟨gb1673, 1, none⟩ = some (.int .i64 t1671)) (ds := []) #[false, false, false, false, false, false, false, false, false, false, false, false, false, false, false, false, false, false, false, false, false, false, false, false, false] (by kernel_rfl) rfl rfl cz (fun hHeld => ?_); refine with_tabW Lw_LineReached.tab16 Lw_LineReached.bits16 (fun HT_ HW_ => ?_)
                                      generalize w94.drew = w95 at HO_11 BK1637 BK1654 BK1673 HB hHeld ⊢
                                      refine pureZ (i := 0) (N := some 96) (bs 25 1) HT_ ?_
                                      refine pureZ (i := 1) (N := some 97) (bs 25 3) HT_ ?_
                                      refine pureZ (i := 2) (N := some 98) (bs 25 7) HT_ ?_
                                      refine takeZ 3 (some 99) (bs 25 15) (take_ofW HT_.out HW_.out (by kernel_rfl)) hHeld ?_
                                      refine oneZ 4 (some 100) (bs 25 31) (one_of HT_.out (by kernel_rfl)) fun K hK => ?_
                                      refine goes_ Tryd.func35 (by kernel_rfl) rfl #[.agg #[.int .i64 t1670, .int .i64 t1671]] (by rfl) rfl rfl mz ?_
                                      with_reducible refine (Bs_IsLowest.calls kj61 t1670 t1671 true _ A83.out).mono ?_
                                      rintro e w96 ⟨rfl, hb⟩
                                      refine ⟨_, rfl, ?_⟩
                                      replace HO_11 := rb HO_11 hb; replace BK1637 := bb BK1637 hb; replace BK1654 := bb BK1654 hb; replace BK1673 := bb BK1673 hb; replace HB := sb HB hb
                                      (try clear hb)
                                      refine hK.out _ _ cz (fun hHeld => ?_)
                                      clear hK K
                                      refine norm_ (a' := ?_) ?_ ?_
                                      rotate_left
                                      · show Act.put _ (some 100) _ = _
                                        exact pz
                                      refine pureZ (i := 5) (N := some 101) (bs 25 63) HT_ ?_
                                      refine pureZ (i := 6) (N := some 102) (bs 25 127) HT_ ?_
                                      refine pureZ (i := 7) (N := some 103) (bs 25 255) HT_ ?_
                                      refine takeZ 8 (some 104) (bs 25 511) (take_ofW HT_.out HW_.out (by kernel_rfl)) hHeld ?_
                                      refine oneZ 9 (some 105) (bs 25 1023) (one_of HT_.out (by kernel_rfl)) fun K hK => ?_
                                      refine goes_ Tryd.func36 (by kernel_rfl) rfl #[.agg #[.int .i64 t1670, .int .i64 t1671]] (by rfl) rfl rfl mz ?_
                                      with_reducible refine (Bs_IsSmall.calls t1670 t1671 true _ A85.out).mono ?_
                                      rintro e w97 ⟨rfl, hb⟩
                                      refine ⟨_, rfl, ?_⟩
                                      replace HO_11 := rb HO_11 hb; replace BK1637 := bb BK1637 hb; replace BK1654 := bb BK1654 hb; replace BK1673 := bb BK1673 hb; replace HB := sb HB hb
                                      (try clear hb)
                                      refine hK.out _ _ cz (fun hHeld => ?_)
                                      clear hK K
                                      refine norm_ (a' := ?_) ?_ ?_
                                      rotate_left
                                      · show Act.put _ (some 105) _ = _
                                        exact pz
                                      refine pureZ (i := 10) (N := some 106) (bs 25 2047) HT_ ?_
                                      refine pureZ (i := 11) (N := some 107) (bs 25 4095) HT_ ?_
                                      refine pureZ (i := 12) (N := some 108) (bs 25 8191) HT_ ?_
                                      refine pureZ (i := 13) (N := some 109) (bs 25 16383) HT_ ?_
                                      refine takeZ 14 (some 110) (bs 25 32767) (take_ofW HT_.out HW_.out (by kernel_rfl)) hHeld ?_
                                      refine pureZ (i := 15) (N := some 111) (bs 25 65535) HT_ ?_
                                      refine pureZ (i := 16) (N := some 112) (bs 25 131071) HT_ ?_
                                      refine pureZ (i := 17) (N := some 113) (bs 25 262143) HT_ ?_
                                      refine pureZ (i := 19) (N := some 115) (bs 25 786431) HT_ ?_
                                      refine pureZ (i := 20) (N := some 116) (bs 25 1835007) HT_ ?_
                                      refine takeZ 18 (some 114) (bs 25 2097151) (take_ofW HT_.out HW_.out (by kernel_rfl)) hHeld ?_
                                      refine oneZ 21 (some 117) (bs 25 4194303) (one_of HT_.out (by kernel_rfl)) fun K hK => ?_
                                      refine goes_ Tryd.func38 (by kernel_rfl) rfl #[.int .i64 (t1666.length : Int)] (by rfl) rfl rfl mz ?_
                                      with_reducible refine (Bs_Whole.calls (t1666.length : Int) t1676 t1677 _ A92.out).mono ?_
                                      rintro e w98 ⟨rfl, hb⟩
                                      refine ⟨_, rfl, ?_⟩
                                      replace HO_11 := rb HO_11 hb; replace BK1637 := bb BK1637 hb; replace BK1654 := bb BK1654 hb; replace BK1673 := bb BK1673 hb; replace HB := sb HB hb
                                      (try clear hb)
                                      refine hK.out _ _ cz (fun hHeld => ?_)
                                      clear hK K
                                      refine norm_ (a' := ?_) ?_ ?_
                                      rotate_left
                                      · show Act.put _ (some 117) _ = _
                                        exact pz
                                      refine oneZ 22 (some 118) (bs 25 8388607) (one_of HT_.out (by kernel_rfl)) fun K hK => ?_
                                      refine goes_ Tryd.func37 (by kernel_rfl) rfl #[.agg #[.int .i64 t1670, .int .i64 t1671], .agg #[.int .i64 t1676, .int .i64 t1677]] (by rfl) rfl rfl mz ?_
                                      with_reducible refine (Bs_Cmp.calls t1670 t1671 t1676 t1677 t1678 _ A93.out).mono ?_
                                      rintro e w99 ⟨rfl, hb⟩
                                      refine ⟨_, rfl, ?_⟩
                                      replace HO_11 := rb HO_11 hb; replace BK1637 := bb BK1637 hb; replace BK1654 := bb BK1654 hb; replace BK1673 := bb BK1673 hb; replace HB := sb HB hb
                                      (try clear hb)
                                      refine hK.out _ _ cz (fun hHeld => ?_)
                                      clear hK K
                                      refine norm_ (a' := ?_) ?_ ?_
                                      rotate_left
                                      · show Act.put _ (some 118) _ = _
                                        exact pz
                                      refine pureZ (i := 23) (N := some 119) (bs 25 16777215) HT_ ?_
                                      refine pureZ (i := 24) (N := some 120) (bs 25 33554431) HT_ ?_
                                      refine done_ (done_of HT_.out (by kernel_rfl)) ?_
                                      try go_wp2
                                      go_meet
                                      case rel => exact ⟨_, (decide (t1678 > 0)), (by first | rfl | (simp; done) | (simp [*]; done)), H', ⟨by have := HJ4.out; have := HJ25.out; have := HK3.out; have := HJ61.out; first | omega | exact Nat.le_refl _⟩, ⟨bk BK1637.out⟩, ⟨bk BK1654.out⟩, ⟨bk BK1673.out⟩, ⟨bz⟩⟩
                                  · replace c86 := Bool.eq_false_iff.mpr c86
                                    subst c86
                                    rw [if_neg (show ¬ (false = true) by decide)] at H
                                    have H' := m0 H
                                    clear H
                                    try go_wp2
                                    have n0_ : Aside0 (Kd.R (Kd.int .i64) 3 ((w78.setCell ⟨gb1673, 0, none⟩ (.int .i64 t1670)).setCell ⟨gb1673, 1, none⟩ (.int .i64 t1671)) w.heap.size (fun _ => True) (.slice Ao76 t1666.length co76) t1666) := ⟨by (with_reducible repeat (first | apply Kd.R_alloc | apply Kd.R_drewN | apply Kd.R_drew)); exact Kd.R_mono (Kd.R_far (p := ⟨gb1673, 1, none⟩) (Kd.R_far (p := ⟨gb1673, 0, none⟩) (Kd.R_types HO_11.out BK1673.out (by decide)) (fun _ hk => hk.2) (.int .i64 t1670)) (fun _ hk => hk.2) (.int .i64 t1671)) (fun _ hk => trivial)⟩
                                    have n1_ : Aside0 (((w78.setCell ⟨gb1673, 0, none⟩ (.int .i64 t1670)).setCell ⟨gb1673, 1, none⟩ (.int .i64 t1671)).heap[gb1637]? = some (.cells #[.slice A0_0 l0_0.length c0_0, .slice A0_1 l0_1.length c0_1, .int .i64 a0_2, .int .i64 a0_3] 28 (0, 0))) := ⟨bq BK1637.out⟩
                                    have n2_ : Aside0 (((w78.setCell ⟨gb1673, 0, none⟩ (.int .i64 t1670)).setCell ⟨gb1673, 1, none⟩ (.int .i64 t1671)).heap[gb1654]? = some (.cells #[.int .i64 t1650, .int .i64 t1651, .int .i64 t1652] 36 (0, 0))) := ⟨bq BK1654.out⟩
                                    have n3_ : Aside0 (((w78.setCell ⟨gb1673, 0, none⟩ (.int .i64 t1670)).setCell ⟨gb1673, 1, none⟩ (.int .i64 t1671)).heap[gb1673]? = some (.cells #[.int .i64 t1670, .int .i64 t1671] 26 (0, 0))) := ⟨bq BK1673.out⟩
                                    have n4_ : Aside0 (Below w.heap.size w ((w78.setCell ⟨gb1673, 0, none⟩ (.int .i64 t1670)).setCell ⟨gb1673, 1, none⟩ (.int .i64 t1671))) := ⟨bz⟩
                                    (try clear HO_11)
                                    (try clear BK1637)
                                    (try clear BK1654)
                                    (try clear BK1673)
                                    (try clear HB)
                                    generalize ((w78.setCell ⟨gb1673, 0, none⟩ (.int .i64 t1670)).setCell ⟨gb1673, 1, none⟩ (.int .i64 t1671)) = w100 at n0_ n1_ n2_ n3_ n4_ ⊢
                                    have HO_11 := n0_
                                    have BK1637 := n1_
                                    have BK1654 := n2_
                                    have BK1673 := n3_
                                    have HB := n4_
                                    clear n0_ n1_ n2_ n3_ n4_
                                    replace HO_11 := m0 (Kd.R_drew HO_11.out); replace BK1637 := bd BK1637; replace BK1654 := bd BK1654; replace BK1673 := bd BK1673; replace HB := sd HB
                                    refine start_ (n := 25) (S := fun w' => w'.cell? ⟨gb1673, 0, none⟩ = some (.int .i64 t1670) ∧ w'.cell? ⟨gb1673, 1, none⟩ = some (.int .i64 t1671)) (ds := []) #[false, false, false, false, false, false, false, false, false, false, false, false, false, false, false, false, false, false, false, false, false, false, false, false, false] (by kernel_rfl) rfl rfl cz (fun hHeld => ?_); refine with_tabW Lw_LineReached.tab16 Lw_LineReached.bits16 (fun HT_ HW_ => ?_)
                                    generalize w100.drew = w101 at HO_11 BK1637 BK1654 BK1673 HB hHeld ⊢
                                    refine pureZ (i := 0) (N := some 96) (bs 25 1) HT_ ?_
                                    refine pureZ (i := 1) (N := some 97) (bs 25 3) HT_ ?_
                                    refine pureZ (i := 2) (N := some 98) (bs 25 7) HT_ ?_
                                    refine takeZ 3 (some 99) (bs 25 15) (take_ofW HT_.out HW_.out (by kernel_rfl)) hHeld ?_
                                    refine oneZ 4 (some 100) (bs 25 31) (one_of HT_.out (by kernel_rfl)) fun K hK => ?_
                                    refine goes_ Tryd.func35 (by kernel_rfl) rfl #[.agg #[.int .i64 t1670, .int .i64 t1671]] (by rfl) rfl rfl mz ?_
                                    with_reducible refine (Bs_IsLowest.calls kj61 t1670 t1671 true _ A83.out).mono ?_
                                    rintro e w102 ⟨rfl, hb⟩
                                    refine ⟨_, rfl, ?_⟩
                                    replace HO_11 := rb HO_11 hb; replace BK1637 := bb BK1637 hb; replace BK1654 := bb BK1654 hb; replace BK1673 := bb BK1673 hb; replace HB := sb HB hb
                                    (try clear hb)
                                    refine hK.out _ _ cz (fun hHeld => ?_)
                                    clear hK K
                                    refine norm_ (a' := ?_) ?_ ?_
                                    rotate_left
                                    · show Act.put _ (some 100) _ = _
                                      exact pz
                                    refine pureZ (i := 5) (N := some 101) (bs 25 63) HT_ ?_
                                    refine pureZ (i := 6) (N := some 102) (bs 25 127) HT_ ?_
                                    refine pureZ (i := 7) (N := some 103) (bs 25 255) HT_ ?_
                                    refine takeZ 8 (some 104) (bs 25 511) (take_ofW HT_.out HW_.out (by kernel_rfl)) hHeld ?_
                                    refine oneZ 9 (some 105) (bs 25 1023) (one_of HT_.out (by kernel_rfl)) fun K hK => ?_
                                    refine goes_ Tryd.func36 (by kernel_rfl) rfl #[.agg #[.int .i64 t1670, .int .i64 t1671]] (by rfl) rfl rfl mz ?_
                                    with_reducible refine (Bs_IsSmall.calls t1670 t1671 false _ A85.out).mono ?_
                                    rintro e w103 ⟨rfl, hb⟩
                                    refine ⟨_, rfl, ?_⟩
                                    replace HO_11 := rb HO_11 hb; replace BK1637 := bb BK1637 hb; replace BK1654 := bb BK1654 hb; replace BK1673 := bb BK1673 hb; replace HB := sb HB hb
                                    (try clear hb)
                                    refine hK.out _ _ cz (fun hHeld => ?_)
                                    clear hK K
                                    refine norm_ (a' := ?_) ?_ ?_
                                    rotate_left
                                    · show Act.put _ (some 105) _ = _
                                      exact pz
                                    refine pureZ (i := 10) (N := some 106) (bs 25 2047) HT_ ?_
                                    refine pureZ (i := 11) (N := some 107) (bs 25 4095) HT_ ?_
                                    refine pureZ (i := 12) (N := some 108) (bs 25 8191) HT_ ?_
                                    refine pure_ (i := 13) (N := some 109) (v := undef) (a' := ?_) (bs 25 16383) rfl rfl (any_of HT_.out (by kernel_rfl)) (fun _ _ _ h => h) (Or.inr ⟨by rfl, rfl⟩) ?_ ?_
                                    rotate_left
                                    · exact pz
                                    refine pure_ (i := 14) (N := some 110) (v := undef) (a' := ?_) (bs 25 32767) rfl rfl (any_of HT_.out (by kernel_rfl)) (fun _ _ _ h => h) (Or.inr ⟨by rfl, rfl⟩) ?_ ?_
                                    rotate_left
                                    · exact pz
                                    refine pure_ (i := 15) (N := some 111) (v := undef) (a' := ?_) (bs 25 65535) rfl rfl (any_of HT_.out (by kernel_rfl)) (fun _ _ _ h => h) (Or.inr ⟨by rfl, rfl⟩) ?_ ?_
                                    rotate_left
                                    · exact pz
                                    refine pureZ (i := 16) (N := some 112) (bs 25 131071) HT_ ?_
                                    refine pureZ (i := 17) (N := some 113) (bs 25 262143) HT_ ?_
                                    refine pure_ (i := 18) (N := some 114) (v := undef) (a' := ?_) (bs 25 524287) rfl rfl (any_of HT_.out (by kernel_rfl)) (fun _ _ _ h => h) (Or.inr ⟨by rfl, rfl⟩) ?_ ?_
                                    rotate_left
                                    · exact pz
                                    refine pure_ (i := 19) (N := some 115) (v := undef) (a' := ?_) (bs 25 1048575) rfl rfl (any_of HT_.out (by kernel_rfl)) (fun _ _ _ h => h) (Or.inr ⟨by rfl, rfl⟩) ?_ ?_
                                    rotate_left
                                    · exact pz
                                    refine pure_ (i := 20) (N := some 116) (v := undef) (a' := ?_) (bs 25 2097151) rfl rfl (any_of HT_.out (by kernel_rfl)) (fun _ _ _ h => h) (Or.inr ⟨by rfl, rfl⟩) ?_ ?_
                                    rotate_left
                                    · exact pz
                                    refine pure_ (i := 21) (N := some 117) (v := undef) (a' := ?_) (bs 25 4194303) rfl rfl (any_of HT_.out (by kernel_rfl)) (fun _ _ _ h => h) (Or.inr ⟨by rfl, rfl⟩) ?_ ?_
                                    rotate_left
                                    · exact pz
                                    refine pure_ (i := 22) (N := some 118) (v := undef) (a' := ?_) (bs 25 8388607) rfl rfl (any_of HT_.out (by kernel_rfl)) (fun _ _ _ h => h) (Or.inr ⟨by rfl, rfl⟩) ?_ ?_
                                    rotate_left
                                    · exact pz
                                    refine pure_ (i := 23) (N := some 119) (v := undef) (a' := ?_) (bs 25 16777215) rfl rfl (any_of HT_.out (by kernel_rfl)) (fun _ _ _ h => h) (Or.inr ⟨by rfl, rfl⟩) ?_ ?_
                                    rotate_left
                                    · exact pz
                                    refine pureZ (i := 24) (N := some 120) (bs 25 33554431) HT_ ?_
                                    refine done_ (done_of HT_.out (by kernel_rfl)) ?_
                                    try go_wp2
                                    go_meet
                                    case rel => exact ⟨_, (true), (by first | rfl | (simp; done) | (simp [*]; done)), H', ⟨by have := HJ4.out; have := HJ25.out; have := HK3.out; have := HJ61.out; first | omega | exact Nat.le_refl _⟩, ⟨bk BK1637.out⟩, ⟨bk BK1654.out⟩, ⟨bk BK1673.out⟩, ⟨bz⟩⟩
                                · replace c84 := Bool.eq_false_iff.mpr c84
                                  subst c84
                                  rw [if_neg (show ¬ (false = true) by decide)] at H
                                  have H' := m0 H
                                  clear H
                                  try go_wp2
                                  have n0_ : Aside0 (Kd.R (Kd.int .i64) 3 ((w78.setCell ⟨gb1673, 0, none⟩ (.int .i64 t1670)).setCell ⟨gb1673, 1, none⟩ (.int .i64 t1671)) w.heap.size (fun _ => True) (.slice Ao76 t1666.length co76) t1666) := ⟨by (with_reducible repeat (first | apply Kd.R_alloc | apply Kd.R_drewN | apply Kd.R_drew)); exact Kd.R_mono (Kd.R_far (p := ⟨gb1673, 1, none⟩) (Kd.R_far (p := ⟨gb1673, 0, none⟩) (Kd.R_types HO_11.out BK1673.out (by decide)) (fun _ hk => hk.2) (.int .i64 t1670)) (fun _ hk => hk.2) (.int .i64 t1671)) (fun _ hk => trivial)⟩
                                  have n1_ : Aside0 (((w78.setCell ⟨gb1673, 0, none⟩ (.int .i64 t1670)).setCell ⟨gb1673, 1, none⟩ (.int .i64 t1671)).heap[gb1637]? = some (.cells #[.slice A0_0 l0_0.length c0_0, .slice A0_1 l0_1.length c0_1, .int .i64 a0_2, .int .i64 a0_3] 28 (0, 0))) := ⟨bq BK1637.out⟩
                                  have n2_ : Aside0 (((w78.setCell ⟨gb1673, 0, none⟩ (.int .i64 t1670)).setCell ⟨gb1673, 1, none⟩ (.int .i64 t1671)).heap[gb1654]? = some (.cells #[.int .i64 t1650, .int .i64 t1651, .int .i64 t1652] 36 (0, 0))) := ⟨bq BK1654.out⟩
                                  have n3_ : Aside0 (((w78.setCell ⟨gb1673, 0, none⟩ (.int .i64 t1670)).setCell ⟨gb1673, 1, none⟩ (.int .i64 t1671)).heap[gb1673]? = some (.cells #[.int .i64 t1670, .int .i64 t1671] 26 (0, 0))) := ⟨bq BK1673.out⟩
                                  have n4_ : Aside0 (Below w.heap.size w ((w78.setCell ⟨gb1673, 0, none⟩ (.int .i64 t1670)).setCell ⟨gb1673, 1, none⟩ (.int .i64 t1671))) := ⟨bz⟩
                                  (try clear HO_11)
                                  (try clear BK1637)
                                  (try clear BK1654)
                                  (try clear BK1673)
                                  (try clear HB)
                                  generalize ((w78.setCell ⟨gb1673, 0, none⟩ (.int .i64 t1670)).setCell ⟨gb1673, 1, none⟩ (.int .i64 t1671)) = w104 at n0_ n1_ n2_ n3_ n4_ ⊢
                                  have HO_11 := n0_
                                  have BK1637 := n1_
                                  have BK1654 := n2_
                                  have BK1673 := n3_
                                  have HB := n4_
                                  clear n0_ n1_ n2_ n3_ n4_
                                  replace HO_11 := m0 (Kd.R_drew HO_11.out); replace BK1637 := bd BK1637; replace BK1654 := bd BK1654; replace BK1673 := bd BK1673; replace HB := sd HB
                                  refine start_ (n := 25) (S := fun w' => w'.cell? ⟨gb1673, 0, none⟩ = some (.int .i64 t1670) ∧ w'.cell? ⟨gb1673, 1, none⟩ = some (.int .i64 t1671)) (ds := []) #[false, false, false, false, false, false, false, false, false, false, false, false, false, false, false, false, false, false, false, false, false, false, false, false, false] (by kernel_rfl) rfl rfl cz (fun hHeld => ?_); refine with_tabW Lw_LineReached.tab16 Lw_LineReached.bits16 (fun HT_ HW_ => ?_)
                                  generalize w104.drew = w105 at HO_11 BK1637 BK1654 BK1673 HB hHeld ⊢
                                  refine pureZ (i := 0) (N := some 96) (bs 25 1) HT_ ?_
                                  refine pureZ (i := 1) (N := some 97) (bs 25 3) HT_ ?_
                                  refine pureZ (i := 2) (N := some 98) (bs 25 7) HT_ ?_
                                  refine takeZ 3 (some 99) (bs 25 15) (take_ofW HT_.out HW_.out (by kernel_rfl)) hHeld ?_
                                  refine oneZ 4 (some 100) (bs 25 31) (one_of HT_.out (by kernel_rfl)) fun K hK => ?_
                                  refine goes_ Tryd.func35 (by kernel_rfl) rfl #[.agg #[.int .i64 t1670, .int .i64 t1671]] (by rfl) rfl rfl mz ?_
                                  with_reducible refine (Bs_IsLowest.calls kj61 t1670 t1671 false _ A83.out).mono ?_
                                  rintro e w106 ⟨rfl, hb⟩
                                  refine ⟨_, rfl, ?_⟩
                                  replace HO_11 := rb HO_11 hb; replace BK1637 := bb BK1637 hb; replace BK1654 := bb BK1654 hb; replace BK1673 := bb BK1673 hb; replace HB := sb HB hb
                                  (try clear hb)
                                  refine hK.out _ _ cz (fun hHeld => ?_)
                                  clear hK K
                                  refine norm_ (a' := ?_) ?_ ?_
                                  rotate_left
                                  · show Act.put _ (some 100) _ = _
                                    exact pz
                                  refine pureZ (i := 5) (N := some 101) (bs 25 63) HT_ ?_
                                  refine pureZ (i := 6) (N := some 102) (bs 25 127) HT_ ?_
                                  refine pureZ (i := 7) (N := some 103) (bs 25 255) HT_ ?_
                                  refine pure_ (i := 8) (N := some 104) (v := undef) (a' := ?_) (bs 25 511) rfl rfl (any_of HT_.out (by kernel_rfl)) (fun _ _ _ h => h) (Or.inr ⟨by rfl, rfl⟩) ?_ ?_
                                  rotate_left
                                  · exact pz
                                  refine pure_ (i := 9) (N := some 105) (v := undef) (a' := ?_) (bs 25 1023) rfl rfl (any_of HT_.out (by kernel_rfl)) (fun _ _ _ h => h) (Or.inr ⟨by rfl, rfl⟩) ?_ ?_
                                  rotate_left
                                  · exact pz
                                  refine pure_ (i := 10) (N := some 106) (v := undef) (a' := ?_) (bs 25 2047) rfl rfl (any_of HT_.out (by kernel_rfl)) (fun _ _ _ h => h) (Or.inr ⟨by rfl, rfl⟩) ?_ ?_
                                  rotate_left
                                  · exact pz
                                  refine pureZ (i := 11) (N := some 107) (bs 25 4095) HT_ ?_
                                  refine pureZ (i := 12) (N := some 108) (bs 25 8191) HT_ ?_
                                  refine pure_ (i := 13) (N := some 109) (v := undef) (a' := ?_) (bs 25 16383) rfl rfl (any_of HT_.out (by kernel_rfl)) (fun _ _ _ h => h) (Or.inr ⟨by rfl, rfl⟩) ?_ ?_
                                  rotate_left
                                  · exact pz
                                  refine pure_ (i := 14) (N := some 110) (v := undef) (a' := ?_) (bs 25 32767) rfl rfl (any_of HT_.out (by kernel_rfl)) (fun _ _ _ h => h) (Or.inr ⟨by rfl, rfl⟩) ?_ ?_
                                  rotate_left
                                  · exact pz
                                  refine pure_ (i := 15) (N := some 111) (v := undef) (a' := ?_) (bs 25 65535) rfl rfl (any_of HT_.out (by kernel_rfl)) (fun _ _ _ h => h) (Or.inr ⟨by rfl, rfl⟩) ?_ ?_
                                  rotate_left
                                  · exact pz
                                  refine pureZ (i := 16) (N := some 112) (bs 25 131071) HT_ ?_
                                  refine pureZ (i := 17) (N := some 113) (bs 25 262143) HT_ ?_
                                  refine pure_ (i := 18) (N := some 114) (v := undef) (a' := ?_) (bs 25 524287) rfl rfl (any_of HT_.out (by kernel_rfl)) (fun _ _ _ h => h) (Or.inr ⟨by rfl, rfl⟩) ?_ ?_
                                  rotate_left
                                  · exact pz
                                  refine pure_ (i := 19) (N := some 115) (v := undef) (a' := ?_) (bs 25 1048575) rfl rfl (any_of HT_.out (by kernel_rfl)) (fun _ _ _ h => h) (Or.inr ⟨by rfl, rfl⟩) ?_ ?_
                                  rotate_left
                                  · exact pz
                                  refine pure_ (i := 20) (N := some 116) (v := undef) (a' := ?_) (bs 25 2097151) rfl rfl (any_of HT_.out (by kernel_rfl)) (fun _ _ _ h => h) (Or.inr ⟨by rfl, rfl⟩) ?_ ?_
                                  rotate_left
                                  · exact pz
                                  refine pure_ (i := 21) (N := some 117) (v := undef) (a' := ?_) (bs 25 4194303) rfl rfl (any_of HT_.out (by kernel_rfl)) (fun _ _ _ h => h) (Or.inr ⟨by rfl, rfl⟩) ?_ ?_
                                  rotate_left
                                  · exact pz
                                  refine pure_ (i := 22) (N := some 118) (v := undef) (a' := ?_) (bs 25 8388607) rfl rfl (any_of HT_.out (by kernel_rfl)) (fun _ _ _ h => h) (Or.inr ⟨by rfl, rfl⟩) ?_ ?_
                                  rotate_left
                                  · exact pz
                                  refine pure_ (i := 23) (N := some 119) (v := undef) (a' := ?_) (bs 25 16777215) rfl rfl (any_of HT_.out (by kernel_rfl)) (fun _ _ _ h => h) (Or.inr ⟨by rfl, rfl⟩) ?_ ?_
                                  rotate_left
                                  · exact pz
                                  refine pureZ (i := 24) (N := some 120) (bs 25 33554431) HT_ ?_
                                  refine done_ (done_of HT_.out (by kernel_rfl)) ?_
                                  try go_wp2
                                  go_meet
                                  case rel => exact ⟨_, (true), (by first | rfl | (simp; done) | (simp [*]; done)), H', ⟨by have := HJ4.out; have := HJ25.out; have := HK3.out; have := HJ61.out; first | omega | exact Nat.le_refl _⟩, ⟨bk BK1637.out⟩, ⟨bk BK1654.out⟩, ⟨bk BK1673.out⟩, ⟨bz⟩⟩
                              · rw [if_neg c82] at H
                                have c82b0 := beq_eq_false_iff_ne.mpr c82
                                have c82b1 := bne_iff_ne.mpr c82
                                (first | rw [c82b0] | (simp only [i64_w, i32_w]; rw [c82b0]) | skip)
                                have H' := m0 H
                                clear H
                                try go_wp2
                                have n0_ : Aside0 (Kd.R (Kd.int .i64) 3 ((w78.setCell ⟨gb1673, 0, none⟩ (.int .i64 t1670)).setCell ⟨gb1673, 1, none⟩ (.int .i64 t1671)) w.heap.size (fun _ => True) (.slice Ao76 t1666.length co76) t1666) := ⟨by (with_reducible repeat (first | apply Kd.R_alloc | apply Kd.R_drewN | apply Kd.R_drew)); exact Kd.R_mono (Kd.R_far (p := ⟨gb1673, 1, none⟩) (Kd.R_far (p := ⟨gb1673, 0, none⟩) (Kd.R_types HO_11.out BK1673.out (by decide)) (fun _ hk => hk.2) (.int .i64 t1670)) (fun _ hk => hk.2) (.int .i64 t1671)) (fun _ hk => trivial)⟩
                                have n1_ : Aside0 (((w78.setCell ⟨gb1673, 0, none⟩ (.int .i64 t1670)).setCell ⟨gb1673, 1, none⟩ (.int .i64 t1671)).heap[gb1637]? = some (.cells #[.slice A0_0 l0_0.length c0_0, .slice A0_1 l0_1.length c0_1, .int .i64 a0_2, .int .i64 a0_3] 28 (0, 0))) := ⟨bq BK1637.out⟩
                                have n2_ : Aside0 (((w78.setCell ⟨gb1673, 0, none⟩ (.int .i64 t1670)).setCell ⟨gb1673, 1, none⟩ (.int .i64 t1671)).heap[gb1654]? = some (.cells #[.int .i64 t1650, .int .i64 t1651, .int .i64 t1652] 36 (0, 0))) := ⟨bq BK1654.out⟩
                                have n3_ : Aside0 (((w78.setCell ⟨gb1673, 0, none⟩ (.int .i64 t1670)).setCell ⟨gb1673, 1, none⟩ (.int .i64 t1671)).heap[gb1673]? = some (.cells #[.int .i64 t1670, .int .i64 t1671] 26 (0, 0))) := ⟨bq BK1673.out⟩
                                have n4_ : Aside0 (Below w.heap.size w ((w78.setCell ⟨gb1673, 0, none⟩ (.int .i64 t1670)).setCell ⟨gb1673, 1, none⟩ (.int .i64 t1671))) := ⟨bz⟩
                                (try clear HO_11)
                                (try clear BK1637)
                                (try clear BK1654)
                                (try clear BK1673)
                                (try clear HB)
                                generalize ((w78.setCell ⟨gb1673, 0, none⟩ (.int .i64 t1670)).setCell ⟨gb1673, 1, none⟩ (.int .i64 t1671)) = w107 at n0_ n1_ n2_ n3_ n4_ ⊢
                                have HO_11 := n0_
                                have BK1637 := n1_
                                have BK1654 := n2_
                                have BK1673 := n3_
                                have HB := n4_
                                clear n0_ n1_ n2_ n3_ n4_
                                replace HO_11 := m0 (Kd.R_drew HO_11.out); replace BK1637 := bd BK1637; replace BK1654 := bd BK1654; replace BK1673 := bd BK1673; replace HB := sd HB
                                refine start_ (n := 25) (S := fun w' => True) (ds := []) #[false, false, false, false, false, false, false, false, false, false, false, false, false, false, false, false, false, false, false, false, false, false, false, false, false] (by kernel_rfl) rfl rfl trivial (fun hHeld => ?_); refine with_tabW Lw_LineReached.tab16 Lw_LineReached.bits16 (fun HT_ HW_ => ?_)
                                generalize w107.drew = w108 at HO_11 BK1637 BK1654 BK1673 HB hHeld ⊢
                                refine pureZ (i := 0) (N := some 96) (bs 25 1) HT_ ?_
                                refine pureZ (i := 1) (N := some 97) (bs 25 3) HT_ ?_
                                refine pureZ (i := 2) (N := some 98) (bs 25 7) HT_ ?_
                                refine pure_ (i := 3) (N := some 99) (v := undef) (a' := ?_) (bs 25 15) rfl rfl (any_of HT_.out (by kernel_rfl)) (fun _ _ _ h => h) (Or.inr ⟨by rfl, rfl⟩) ?_ ?_
                                rotate_left
                                · exact pz
                                refine pure_ (i := 4) (N := some 100) (v := undef) (a' := ?_) (bs 25 31) rfl rfl (any_of HT_.out (by kernel_rfl)) (fun _ _ _ h => h) (Or.inr ⟨by rfl, rfl⟩) ?_ ?_
                                rotate_left
                                · exact pz
                                refine pure_ (i := 5) (N := some 101) (v := undef) (a' := ?_) (bs 25 63) rfl rfl (any_of HT_.out (by kernel_rfl)) (fun _ _ _ h => h) (Or.inr ⟨by rfl, rfl⟩) ?_ ?_
                                rotate_left
                                · exact pz
                                refine pureZ (i := 6) (N := some 102) (bs 25 127) HT_ ?_
                                refine pureZ (i := 7) (N := some 103) (bs 25 255) HT_ ?_
                                refine pure_ (i := 8) (N := some 104) (v := undef) (a' := ?_) (bs 25 511) rfl rfl (any_of HT_.out (by kernel_rfl)) (fun _ _ _ h => h) (Or.inr ⟨by rfl, rfl⟩) ?_ ?_
                                rotate_left
                                · exact pz
                                refine pure_ (i := 9) (N := some 105) (v := undef) (a' := ?_) (bs 25 1023) rfl rfl (any_of HT_.out (by kernel_rfl)) (fun _ _ _ h => h) (Or.inr ⟨by rfl, rfl⟩) ?_ ?_
                                rotate_left
                                · exact pz
                                refine pure_ (i := 10) (N := some 106) (v := undef) (a' := ?_) (bs 25 2047) rfl rfl (any_of HT_.out (by kernel_rfl)) (fun _ _ _ h => h) (Or.inr ⟨by rfl, rfl⟩) ?_ ?_
                                rotate_left
                                · exact pz
                                refine pureZ (i := 11) (N := some 107) (bs 25 4095) HT_ ?_
                                refine pureZ (i := 12) (N := some 108) (bs 25 8191) HT_ ?_
                                refine pure_ (i := 13) (N := some 109) (v := undef) (a' := ?_) (bs 25 16383) rfl rfl (any_of HT_.out (by kernel_rfl)) (fun _ _ _ h => h) (Or.inr ⟨by rfl, rfl⟩) ?_ ?_
                                rotate_left
                                · exact pz
                                refine pure_ (i := 14) (N := some 110) (v := undef) (a' := ?_) (bs 25 32767) rfl rfl (any_of HT_.out (by kernel_rfl)) (fun _ _ _ h => h) (Or.inr ⟨by rfl, rfl⟩) ?_ ?_
                                rotate_left
                                · exact pz
                                refine pure_ (i := 15) (N := some 111) (v := undef) (a' := ?_) (bs 25 65535) rfl rfl (any_of HT_.out (by kernel_rfl)) (fun _ _ _ h => h) (Or.inr ⟨by rfl, rfl⟩) ?_ ?_
                                rotate_left
                                · exact pz
                                refine pureZ (i := 16) (N := some 112) (bs 25 131071) HT_ ?_
                                refine pureZ (i := 17) (N := some 113) (bs 25 262143) HT_ ?_
                                refine pure_ (i := 18) (N := some 114) (v := undef) (a' := ?_) (bs 25 524287) rfl rfl (any_of HT_.out (by kernel_rfl)) (fun _ _ _ h => h) (Or.inr ⟨by rfl, rfl⟩) ?_ ?_
                                rotate_left
                                · exact pz
                                refine pure_ (i := 19) (N := some 115) (v := undef) (a' := ?_) (bs 25 1048575) rfl rfl (any_of HT_.out (by kernel_rfl)) (fun _ _ _ h => h) (Or.inr ⟨by rfl, rfl⟩) ?_ ?_
                                rotate_left
                                · exact pz
                                refine pure_ (i := 20) (N := some 116) (v := undef) (a' := ?_) (bs 25 2097151) rfl rfl (any_of HT_.out (by kernel_rfl)) (fun _ _ _ h => h) (Or.inr ⟨by rfl, rfl⟩) ?_ ?_
                                rotate_left
                                · exact pz
                                refine pure_ (i := 21) (N := some 117) (v := undef) (a' := ?_) (bs 25 4194303) rfl rfl (any_of HT_.out (by kernel_rfl)) (fun _ _ _ h => h) (Or.inr ⟨by rfl, rfl⟩) ?_ ?_
                                rotate_left
                                · exact pz
                                refine pure_ (i := 22) (N := some 118) (v := undef) (a' := ?_) (bs 25 8388607) rfl rfl (any_of HT_.out (by kernel_rfl)) (fun _ _ _ h => h) (Or.inr ⟨by rfl, rfl⟩) ?_ ?_
                                rotate_left
                                · exact pz
                                refine pure_ (i := 23) (N := some 119) (v := undef) (a' := ?_) (bs 25 16777215) rfl rfl (any_of HT_.out (by kernel_rfl)) (fun _ _ _ h => h) (Or.inr ⟨by rfl, rfl⟩) ?_ ?_
                                rotate_left
                                · exact pz
                                refine pureZ (i := 24) (N := some 120) (bs 25 33554431) HT_ ?_
                                refine done_ (done_of HT_.out (by kernel_rfl)) ?_
                                try go_wp2
                                go_meet
                                case rel => exact ⟨_, (true), (by first | rfl | (simp; done) | (simp [*]; done)), H', ⟨by have := HJ4.out; have := HJ25.out; have := HK3.out; have := HJ61.out; first | omega | exact Nat.le_refl _⟩, ⟨bk BK1637.out⟩, ⟨bk BK1654.out⟩, ⟨bk BK1673.out⟩, ⟨bz⟩⟩
                            case rest =>
                              as_aux_lemma =>
                              clear HC75
                              try clear p2
                              try clear c3
                              try clear c8
                              try clear c35
                              try clear c36
                              try clear c82
                              try clear c82b0
                              try clear c82b1
                              try clear c84
                              obtain ⟨kq, x120_74, rfl, HA, HJ74, BK1637, BK1654, BK1673, HB⟩ := hcut
                              cases kq with
                              | zero => exact absurd HA.out (by simp [Lw_LineReached.j4])
                              | succ kj74 =>
                                have H := HA.out
                                clear HA
                                simp only [Lw_LineReached.j4] at H
                                by_cases c109 : x120_74 = true
                                · subst c109
                                  rw [if_pos rfl] at H
                                  exact absurd H (by simp)
                                · replace c109 := Bool.eq_false_iff.mpr c109
                                  subst c109
                                  rw [if_neg (show ¬ (false = true) by decide)] at H
                                  replace H := ob H
                                  obtain ⟨t1679, A1100, H⟩ := H
                                  (try dsimp only at H)
                                  have A110 := m0 A1100
                                  clear A1100
                                  replace H := ob H
                                  obtain ⟨⟨t1680, t1681⟩, A1110, H⟩ := H
                                  (try dsimp only at H)
                                  have A111 := m0 A1110
                                  clear A1110
                                  replace H := ob H
                                  obtain ⟨t1683, A1120, H⟩ := H
                                  (try dsimp only at H)
                                  have A112 := m0 A1120
                                  clear A1120
                                  by_cases c113 : t1683 > 0
                                  · rw [if_pos c113] at H
                                    exact absurd H (by simp)
                                  · rw [if_neg c113] at H
                                    have c113b0 := decide_eq_false c113
                                    clear c113
                                    by_cases c114 : (t1680 == t1650 && (t1681 == t1651)) = true
                                    · rw [if_pos c114] at H
                                      have c114b0 : (t1680 == t1650 && (t1681 == t1651)) = true := c114
                                      (try (have c114b1 : decide (t1680 = t1650 && (t1681 == t1651)) = true := by simpa using c114))
                                      (try (have c114b2 : (t1680 == t1650 && (t1681 == t1651)) = true := by simpa using c114))
                                      clear c114
                                      by_cases c115 : x9_3 < 0
                                      · rw [if_pos c115] at H
                                        have c115b0 := decide_eq_true c115
                                        clear c115
                                        have H' := m0 H
                                        clear H
                                        try go_wp2
                                        replace BK1637 := bd BK1637; replace BK1654 := bd BK1654; replace BK1673 := bd BK1673; replace HB := sd HB
                                        refine start_ (n := 23) (S := fun w' => w'.cell? ⟨gb1673, 0, none⟩ = some (.int .i64 t1670) ∧ w'.cell? ⟨gb1673, 1, none⟩ = some (.int .i64 t1671) ∧ w'.cell? ⟨gb1637, 0, none⟩ = some (.slice A0_0 l0_0.length c0_0) ∧ w'.cell? ⟨gb1637, 1, none⟩ = some (.slice A0_1 l0_1.length c0_1) ∧ w'.cell? ⟨gb1637, 2, none⟩ = some (.int .i64 a0_2) ∧ w'.cell? ⟨gb1637, 3, none⟩ = some (.int .i64 a0_3)) (ds := []) #[false, false, false, false, false, false, false, false, false, false, false, false, false, false, false, false, false, false, false, false, false, false, false] (by kernel_rfl) rfl rfl cz (fun hHeld => ?_); refine with_tabW Lw_LineReached.tab18 Lw_LineReached.bits18 (fun HT_ HW_ => ?_)
                                        generalize wc.drew = w116 at BK1637 BK1654 BK1673 HB hHeld ⊢
                                        refine pureZ (i := 0) (N := some 121) (bs 23 1) HT_ ?_
                                        refine pureZ (i := 2) (N := some 123) (bs 23 5) HT_ ?_
                                        refine pureZ (i := 3) (N := some 124) (bs 23 13) HT_ ?_
                                        refine pureZ (i := 6) (N := some 127) (bs 23 77) HT_ ?_
                                        refine pureZ (i := 7) (N := some 128) (bs 23 205) HT_ ?_
                                        refine pureZ (i := 9) (N := some 130) (bs 23 717) HT_ ?_
                                        refine pureZ (i := 14) (N := some 135) (bs 23 17101) HT_ ?_
                                        refine pureZ (i := 16) (N := some 137) (bs 23 82637) HT_ ?_
                                        refine pureZ (i := 17) (N := some 138) (bs 23 213709) HT_ ?_
                                        refine takeZ 1 (some 122) (bs 23 213711) (take_ofW HT_.out HW_.out (by kernel_rfl)) hHeld ?_
                                        refine takeZ 4 (some 125) (bs 23 213727) (take_ofW HT_.out HW_.out (by kernel_rfl)) hHeld ?_
                                        refine pureZ (i := 5) (N := some 126) (bs 23 213759) HT_ ?_
                                        refine takeZ 8 (some 129) (bs 23 214015) (take_ofW HT_.out HW_.out (by kernel_rfl)) hHeld ?_
                                        refine takeZ 10 (some 131) (bs 23 215039) (take_ofW HT_.out HW_.out (by kernel_rfl)) hHeld ?_
                                        refine pureZ (i := 11) (N := some 132) (bs 23 217087) HT_ ?_
                                        refine pureZ (i := 12) (N := some 133) (bs 23 221183) HT_ ?_
                                        refine takeZ 15 (some 136) (bs 23 253951) (take_ofW HT_.out HW_.out (by kernel_rfl)) hHeld ?_
                                        refine takeZ 18 (some 139) (bs 23 516095) (take_ofW HT_.out HW_.out (by kernel_rfl)) hHeld ?_
                                        refine pureZ (i := 19) (N := some 140) (bs 23 1040383) HT_ ?_
                                        refine join_ (σ := Nat) 1 (bs 23 4194303) (fun s_ => [(134, .int .i64 t1679), (141, .agg #[.int .i64 t1680, .int .i64 t1681]), (15, .pointer (some ⟨s_, 0, none⟩))]) (fun s_ w' => (w'.cell? ⟨gb1673, 0, none⟩ = some (.int .i64 t1670) ∧ w'.cell? ⟨gb1673, 1, none⟩ = some (.int .i64 t1671) ∧ w'.cell? ⟨gb1637, 0, none⟩ = some (.slice A0_0 l0_0.length c0_0) ∧ w'.cell? ⟨gb1637, 1, none⟩ = some (.slice A0_1 l0_1.length c0_1) ∧ w'.cell? ⟨gb1637, 2, none⟩ = some (.int .i64 a0_2) ∧ w'.cell? ⟨gb1637, 3, none⟩ = some (.int .i64 a0_3)) ∧ (w'.heap[gb1637]? = some (.cells #[.slice A0_0 l0_0.length c0_0, .slice A0_1 l0_1.length c0_1, .int .i64 a0_2, .int .i64 a0_3] 28 (0, 0))) ∧ (w'.heap[gb1654]? = some (.cells #[.int .i64 t1650, .int .i64 t1651, .int .i64 t1652] 36 (0, 0))) ∧ (w'.heap[gb1673]? = some (.cells #[.int .i64 t1670, .int .i64 t1671] 26 (0, 0))) ∧ (w'.heap[s_]? = some (.cells #[.int .i64 0, .int .i64 0] 26 (0, 0))) ∧ (w.heap.size ≤ s_) ∧ (w.heap.size ≤ s_) ∧ (gb1637 ≠ s_) ∧ (s_ ≠ gb1637) ∧ (gb1654 ≠ s_) ∧ (s_ ≠ gb1654) ∧ (gb1673 ≠ s_) ∧ (s_ ≠ gb1673) ∧ (Below w.heap.size w w')) ?_ ?_
                                        rotate_left
                                        · intro hCont
                                          refine two_ (i := 13) (j := 21) (Ni := some 134) (Nj := some 15) (bs 23 1048575) (bs 23 3137535) rfl rfl rfl rfl (two_of HT_.out (by kernel_rfl)) (by decide) (by decide) (fun K hK => ?_) (fun K hK => ?_)
                                          · skip
                                            refine goes_ Tryd.func40 (by kernel_rfl) rfl #[.int .i64 (wrap64 ((wrap64 (t1670 * a0_3)) - (wrap64 (a0_2 * t1671))))] (by rfl) rfl rfl mz ?_
                                            with_reducible refine (Bs_Size.calls (wrap64 ((wrap64 (t1670 * a0_3)) - (wrap64 (a0_2 * t1671)))) t1679 _ A110.out).mono ?_
                                            rintro e w117 ⟨rfl, hb⟩
                                            refine ⟨_, rfl, ?_⟩
                                            replace BK1637 := bb BK1637 hb; replace BK1654 := bb BK1654 hb; replace BK1673 := bb BK1673 hb; replace HB := sb HB hb
                                            (try clear hb)
                                            refine hK.out _ _ cz (fun hHeld => ?_)
                                            clear hK K
                                            refine norm_ (a' := ?_) ?_ ?_
                                            rotate_left
                                            · show Act.put _ (some 134) _ = _
                                              exact pz
                                            refine two_ (i := 20) (j := 21) (Ni := some 141) (Nj := some 15) (bs 23 2097151) (bs 23 3145727) rfl rfl rfl rfl (two_of HT_.out (by kernel_rfl)) (by decide) (by decide) (fun K hK => ?_) (fun K hK => ?_)
                                            · skip
                                              refine goes_ Tryd.func41 (by kernel_rfl) rfl #[.int .i64 t1679, .int .i64 (wrap64 (t1671 * a0_3))] (by rfl) rfl rfl mz ?_
                                              with_reducible refine (Bs_Lowest.calls kj74 t1679 (wrap64 (t1671 * a0_3)) t1680 t1681 _ A111.out).mono ?_
                                              rintro e w118 ⟨rfl, hb⟩
                                              refine ⟨_, rfl, ?_⟩
                                              replace BK1637 := bb BK1637 hb; replace BK1654 := bb BK1654 hb; replace BK1673 := bb BK1673 hb; replace HB := sb HB hb
                                              (try clear hb)
                                              refine hK.out _ _ cz (fun hHeld => ?_)
                                              clear hK K
                                              refine norm_ (a' := ?_) ?_ ?_
                                              rotate_left
                                              · show Act.put _ (some 141) _ = _
                                                exact pz
                                              refine oneZ 21 (some 15) (bs 23 4194303) (one_of HT_.out (by kernel_rfl)) fun K hK => ?_
                                              refine box_step ?hg (N := 15) ?hd (cs := #[.int .i64 0, .int .i64 0]) (t := 26) ?hr ?_; (case hd => rfl); (case hg => rfl); (case hr => first | (go_simp; done) | (go_simp; rfl))
                                              intro gb1682 hg w119 hbox hb
                                              have BK1682 := m0 hbox; have GW1682 := m0 (bg (n := w.heap.size) hg); have GE1682 := m0 (bg (n := w.heap.size) hg); replace HB := sb HB hb; have NB1637_1682 := nl BK1637 hg; have NB1682_1637 := ng (nl BK1637 hg); replace BK1637 := bb BK1637 hb; have NB1654_1682 := nl BK1654 hg; have NB1682_1654 := ng (nl BK1654 hg); replace BK1654 := bb BK1654 hb; have NB1673_1682 := nl BK1673 hg; have NB1682_1673 := ng (nl BK1673 hg); replace BK1673 := bb BK1673 hb
                                              clear hb hbox hg
                                              refine hK.out _ _ cz (fun hHeld => ?_)
                                              clear hK K
                                              refine norm_ (a' := ?_) ?_ ?_
                                              rotate_left
                                              · show Act.put _ (some 15) _ = _
                                                exact pz
                                              exact norm_ (by simp only [putAll, Act.put, List.setIfInBounds_toArray, List.set_cons_zero, List.set_cons_succ]) (hCont (gb1682) _ ⟨hHeld, (bk BK1637.out), (bk BK1654.out), (bk BK1673.out), (bk BK1682.out), GW1682.out, GE1682.out, NB1637_1682.out, NB1682_1637.out, NB1654_1682.out, NB1682_1654.out, NB1673_1682.out, NB1682_1673.out, bz⟩)
                                            · skip
                                              refine box_step ?hg (N := 15) ?hd (cs := #[.int .i64 0, .int .i64 0]) (t := 26) ?hr ?_; (case hd => rfl); (case hg => rfl); (case hr => first | (go_simp; done) | (go_simp; rfl))
                                              intro gb1682 hg w118 hbox hb
                                              have BK1682 := m0 hbox; have GW1682 := m0 (bg (n := w.heap.size) hg); have GE1682 := m0 (bg (n := w.heap.size) hg); replace HB := sb HB hb; have NB1637_1682 := nl BK1637 hg; have NB1682_1637 := ng (nl BK1637 hg); replace BK1637 := bb BK1637 hb; have NB1654_1682 := nl BK1654 hg; have NB1682_1654 := ng (nl BK1654 hg); replace BK1654 := bb BK1654 hb; have NB1673_1682 := nl BK1673 hg; have NB1682_1673 := ng (nl BK1673 hg); replace BK1673 := bb BK1673 hb
                                              clear hb hbox hg
                                              refine hK.out _ _ cz (fun hHeld => ?_)
                                              clear hK K
                                              refine norm_ (a' := ?_) ?_ ?_
                                              rotate_left
                                              · show Act.put _ (some 15) _ = _
                                                exact pz
                                              refine oneZ 20 (some 141) (bs 23 4194303) (one_of HT_.out (by kernel_rfl)) fun K hK => ?_
                                              refine goes_ Tryd.func41 (by kernel_rfl) rfl #[.int .i64 t1679, .int .i64 (wrap64 (t1671 * a0_3))] (by rfl) rfl rfl mz ?_
                                              with_reducible refine (Bs_Lowest.calls kj74 t1679 (wrap64 (t1671 * a0_3)) t1680 t1681 _ A111.out).mono ?_
                                              rintro e w119 ⟨rfl, hb⟩
                                              refine ⟨_, rfl, ?_⟩
                                              replace BK1637 := bb BK1637 hb; replace BK1654 := bb BK1654 hb; replace BK1673 := bb BK1673 hb; replace BK1682 := bb BK1682 hb; replace HB := sb HB hb
                                              (try clear hb)
                                              refine hK.out _ _ cz (fun hHeld => ?_)
                                              clear hK K
                                              refine norm_ (a' := ?_) ?_ ?_
                                              rotate_left
                                              · show Act.put _ (some 141) _ = _
                                                exact pz
                                              exact norm_ (by simp only [putAll, Act.put, List.setIfInBounds_toArray, List.set_cons_zero, List.set_cons_succ]) (hCont (gb1682) _ ⟨hHeld, (bk BK1637.out), (bk BK1654.out), (bk BK1673.out), (bk BK1682.out), GW1682.out, GE1682.out, NB1637_1682.out, NB1682_1637.out, NB1654_1682.out, NB1682_1654.out, NB1673_1682.out, NB1682_1673.out, bz⟩)
                                          · skip
                                            refine box_step ?hg (N := 15) ?hd (cs := #[.int .i64 0, .int .i64 0]) (t := 26) ?hr ?_; (case hd => rfl); (case hg => rfl); (case hr => first | (go_simp; done) | (go_simp; rfl))
                                            intro gb1682 hg w117 hbox hb
                                            have BK1682 := m0 hbox; have GW1682 := m0 (bg (n := w.heap.size) hg); have GE1682 := m0 (bg (n := w.heap.size) hg); replace HB := sb HB hb; have NB1637_1682 := nl BK1637 hg; have NB1682_1637 := ng (nl BK1637 hg); replace BK1637 := bb BK1637 hb; have NB1654_1682 := nl BK1654 hg; have NB1682_1654 := ng (nl BK1654 hg); replace BK1654 := bb BK1654 hb; have NB1673_1682 := nl BK1673 hg; have NB1682_1673 := ng (nl BK1673 hg); replace BK1673 := bb BK1673 hb
                                            clear hb hbox hg
                                            refine hK.out _ _ cz (fun hHeld => ?_)
                                            clear hK K
                                            refine norm_ (a' := ?_) ?_ ?_
                                            rotate_left
                                            · show Act.put _ (some 15) _ = _
                                              exact pz
                                            refine oneZ 13 (some 134) (bs 23 3145727) (one_of HT_.out (by kernel_rfl)) fun K hK => ?_
                                            refine goes_ Tryd.func40 (by kernel_rfl) rfl #[.int .i64 (wrap64 ((wrap64 (t1670 * a0_3)) - (wrap64 (a0_2 * t1671))))] (by rfl) rfl rfl mz ?_
                                            with_reducible refine (Bs_Size.calls (wrap64 ((wrap64 (t1670 * a0_3)) - (wrap64 (a0_2 * t1671)))) t1679 _ A110.out).mono ?_
                                            rintro e w118 ⟨rfl, hb⟩
                                            refine ⟨_, rfl, ?_⟩
                                            replace BK1637 := bb BK1637 hb; replace BK1654 := bb BK1654 hb; replace BK1673 := bb BK1673 hb; replace BK1682 := bb BK1682 hb; replace HB := sb HB hb
                                            (try clear hb)
                                            refine hK.out _ _ cz (fun hHeld => ?_)
                                            clear hK K
                                            refine norm_ (a' := ?_) ?_ ?_
                                            rotate_left
                                            · show Act.put _ (some 134) _ = _
                                              exact pz
                                            refine oneZ 20 (some 141) (bs 23 4194303) (one_of HT_.out (by kernel_rfl)) fun K hK => ?_
                                            refine goes_ Tryd.func41 (by kernel_rfl) rfl #[.int .i64 t1679, .int .i64 (wrap64 (t1671 * a0_3))] (by rfl) rfl rfl mz ?_
                                            with_reducible refine (Bs_Lowest.calls kj74 t1679 (wrap64 (t1671 * a0_3)) t1680 t1681 _ A111.out).mono ?_
                                            rintro e w119 ⟨rfl, hb⟩
                                            refine ⟨_, rfl, ?_⟩
                                            replace BK1637 := bb BK1637 hb; replace BK1654 := bb BK1654 hb; replace BK1673 := bb BK1673 hb; replace BK1682 := bb BK1682 hb; replace HB := sb HB hb
                                            (try clear hb)
                                            refine hK.out _ _ cz (fun hHeld => ?_)
                                            clear hK K
                                            refine norm_ (a' := ?_) ?_ ?_
                                            rotate_left
                                            · show Act.put _ (some 141) _ = _
                                              exact pz
                                            exact norm_ (by simp only [putAll, Act.put, List.setIfInBounds_toArray, List.set_cons_zero, List.set_cons_succ]) (hCont (gb1682) _ ⟨hHeld, (bk BK1637.out), (bk BK1654.out), (bk BK1673.out), (bk BK1682.out), GW1682.out, GE1682.out, NB1637_1682.out, NB1682_1637.out, NB1654_1682.out, NB1682_1654.out, NB1673_1682.out, NB1682_1673.out, bz⟩)
                                        rintro gb1682 w120 ⟨hS_, h0_, h1_, h2_, h3_, h4_, h5_, h6_, h7_, h8_, h9_, h10_, h11_, h12_⟩
                                        have n0_ : Aside0 (w120.heap[gb1637]? = some (.cells #[.slice A0_0 l0_0.length c0_0, .slice A0_1 l0_1.length c0_1, .int .i64 a0_2, .int .i64 a0_3] 28 (0, 0))) := ⟨h0_⟩
                                        have n1_ : Aside0 (w120.heap[gb1654]? = some (.cells #[.int .i64 t1650, .int .i64 t1651, .int .i64 t1652] 36 (0, 0))) := ⟨h1_⟩
                                        have n2_ : Aside0 (w120.heap[gb1673]? = some (.cells #[.int .i64 t1670, .int .i64 t1671] 26 (0, 0))) := ⟨h2_⟩
                                        have n3_ : Aside0 (w120.heap[gb1682]? = some (.cells #[.int .i64 0, .int .i64 0] 26 (0, 0))) := ⟨h3_⟩
                                        have n4_ : Aside0 (w.heap.size ≤ gb1682) := ⟨h4_⟩
                                        have n5_ : Aside0 (w.heap.size ≤ gb1682) := ⟨h5_⟩
                                        have n6_ : Aside0 (gb1637 ≠ gb1682) := ⟨h6_⟩
                                        have n7_ : Aside0 (gb1682 ≠ gb1637) := ⟨h7_⟩
                                        have n8_ : Aside0 (gb1654 ≠ gb1682) := ⟨h8_⟩
                                        have n9_ : Aside0 (gb1682 ≠ gb1654) := ⟨h9_⟩
                                        have n10_ : Aside0 (gb1673 ≠ gb1682) := ⟨h10_⟩
                                        have n11_ : Aside0 (gb1682 ≠ gb1673) := ⟨h11_⟩
                                        have n12_ : Aside0 (Below w.heap.size w w120) := ⟨h12_⟩
                                        clear BK1637
                                        clear BK1654
                                        clear BK1673
                                        clear HB
                                        clear h0_ h1_ h2_ h3_ h4_ h5_ h6_ h7_ h8_ h9_ h10_ h11_ h12_
                                        have BK1637 := n0_
                                        have BK1654 := n1_
                                        have BK1673 := n2_
                                        have BK1682 := n3_
                                        have GW1682 := n4_
                                        have GE1682 := n5_
                                        have NB1637_1682 := n6_
                                        have NB1682_1637 := n7_
                                        have NB1654_1682 := n8_
                                        have NB1682_1654 := n9_
                                        have NB1673_1682 := n10_
                                        have NB1682_1673 := n11_
                                        have HB := n12_
                                        clear n0_ n1_ n2_ n3_ n4_ n5_ n6_ n7_ n8_ n9_ n10_ n11_ n12_
                                        have hHeld : w120.cell? ⟨gb1673, 0, none⟩ = some (.int .i64 t1670) ∧ w120.cell? ⟨gb1673, 1, none⟩ = some (.int .i64 t1671) ∧ w120.cell? ⟨gb1637, 0, none⟩ = some (.slice A0_0 l0_0.length c0_0) ∧ w120.cell? ⟨gb1637, 1, none⟩ = some (.slice A0_1 l0_1.length c0_1) ∧ w120.cell? ⟨gb1637, 2, none⟩ = some (.int .i64 a0_2) ∧ w120.cell? ⟨gb1637, 3, none⟩ = some (.int .i64 a0_3) := hS_
                                        refine norm_ (a' := ?_) ?_ ?_
                                        rotate_left
                                        · simp only [putAll, Act.put, List.setIfInBounds_toArray, List.set_cons_zero, List.set_cons_succ]
                                          rfl
                                        refine oneZ 22 (none) (bs 23 8388607) (one_of HT_.out (by kernel_rfl)) fun K hK => ?_
                                        have hs121 : w120.cell? ⟨gb1682, 0, none⟩ = some (.int .i64 0) := (blk_cell BK1682.out 0).trans rfl
                                        have hfs121 := blk_frozen BK1682.out 0
                                        have hns121_0 := NB1637_1682.out
                                        have hns121_1 := NB1654_1682.out
                                        have hns121_2 := NB1673_1682.out
                                        have hms121_0 := NB1682_1637.out
                                        have hms121_1 := NB1682_1654.out
                                        have hms121_2 := NB1682_1673.out
                                        have hs122 : w120.cell? ⟨gb1682, 1, none⟩ = some (.int .i64 0) := (blk_cell BK1682.out 1).trans rfl
                                        have hfs122 := blk_frozen BK1682.out 1
                                        have hns122_0 := NB1637_1682.out
                                        have hns122_1 := NB1654_1682.out
                                        have hns122_2 := NB1673_1682.out
                                        have hms122_0 := NB1682_1637.out
                                        have hms122_1 := NB1682_1654.out
                                        have hms122_2 := NB1682_1673.out
                                        refine skip_ (w1 := ?_) (by rfl) rfl ?_ ?_
                                        rotate_left
                                        · go_simp
                                          rfl
                                        refine hK.out _ _ ⟨((cell_far (p := ⟨gb1682, _, none⟩) NB1673_1682.out _).trans (((cell_far (p := ⟨gb1682, _, none⟩) NB1673_1682.out _).trans (hHeld.1)))), ((cell_far (p := ⟨gb1682, _, none⟩) NB1673_1682.out _).trans (((cell_far (p := ⟨gb1682, _, none⟩) NB1673_1682.out _).trans (hHeld.2.1)))), ((cell_far (p := ⟨gb1682, _, none⟩) NB1637_1682.out _).trans (((cell_far (p := ⟨gb1682, _, none⟩) NB1637_1682.out _).trans (hHeld.2.2.1)))), ((cell_far (p := ⟨gb1682, _, none⟩) NB1637_1682.out _).trans (((cell_far (p := ⟨gb1682, _, none⟩) NB1637_1682.out _).trans (hHeld.2.2.2.1)))), ((cell_far (p := ⟨gb1682, _, none⟩) NB1637_1682.out _).trans (((cell_far (p := ⟨gb1682, _, none⟩) NB1637_1682.out _).trans (hHeld.2.2.2.2.1)))), ((cell_far (p := ⟨gb1682, _, none⟩) NB1637_1682.out _).trans (((cell_far (p := ⟨gb1682, _, none⟩) NB1637_1682.out _).trans (hHeld.2.2.2.2.2))))⟩ (fun hHeld => ?_)
                                        clear hK K
                                        refine done_ (done_of HT_.out (by kernel_rfl)) ?_
                                        have hnb123 := NB1682_1637.out
                                        have hnc123 := NB1637_1682.out
                                        have hnb124 := NB1682_1654.out
                                        have hnc124 := NB1654_1682.out
                                        have hnb125 := NB1682_1673.out
                                        have hnc125 := NB1673_1682.out
                                        obtain ⟨_, _, _, _⟩ := b2 BK1682
                                        have hnb127 := NB1654_1637.out
                                        have hnc127 := NB1637_1654.out
                                        have hnb128 := NB1654_1673.out
                                        have hnc128 := NB1673_1654.out
                                        obtain ⟨_, _, _, _, _, _⟩ := b3 BK1654
                                        try go_wp2_with (first | ((with_reducible refine gate_callee (f := 37) rfl ?_); refine gl (some 145) Tryd.func37 #[.agg #[.int .i64 t1680, .int .i64 t1681], .agg #[.int .i64 t1650, .int .i64 t1651]] ?_; (with_reducible refine (Bs_Cmp.calls t1680 t1681 t1650 t1651 t1683 _ A112.out).mono ?_); rintro e w130 ⟨rfl, hb⟩; refine ⟨_, rfl, ?_⟩; replace BK1637 := m0 (blk_below (g := gb1637) (o := .cells #[.slice A0_0 l0_0.length c0_0, .slice A0_1 l0_1.length c0_1, .int .i64 a0_2, .int .i64 a0_3] 28 (0, 0)) (bq BK1637.out) hb); replace BK1654 := m0 (blk_below (g := gb1654) (o := .cells #[.int .i64 t1650, .int .i64 t1651, .int .i64 t1652] 36 (0, 0)) (bq BK1654.out) hb); replace BK1673 := m0 (blk_below (g := gb1673) (o := .cells #[.int .i64 t1670, .int .i64 t1671] 26 (0, 0)) (bq BK1673.out) hb); replace BK1682 := m0 (blk_below (g := gb1682) (o := .cells #[.int .i64 t1680, .int .i64 t1681] 26 (0, 0)) (bq BK1682.out) hb); replace HB := sb HB hb; (try clear hb); obtain ⟨_, _, _, _⟩ := b2 BK1682; obtain ⟨_, _, _, _, _, _⟩ := b3 BK1654; have hnb133 := NB1673_1637.out; have hnc133 := NB1637_1673.out; obtain ⟨_, _, _, _⟩ := b2 BK1673))
                                        go_roundg kj74
                                        case measure => have := HJ4.out; have := HJ25.out; have := HK3.out; have := HJ61.out; have := HJ74.out; omega
                                        case rel => exact ⟨(wrap64 (x8_3 + t1670)), (x10_3), (wrap64 (x10_3 + 1)), (by first | rfl | (simp; done) | (simp [*]; done)), (by first | rfl | (simp; done) | (simp [*]; done)), (by first | rfl | (simp; done) | (simp [*]; done)), H', ⟨by have := HJ4.out; have := HJ25.out; have := HK3.out; have := HJ61.out; have := HJ74.out; omega⟩, ⟨bk BK1637.out⟩, ⟨bk BK1654.out⟩, ⟨bz⟩⟩
                                      · rw [if_neg c115] at H
                                        have c115b0 := decide_eq_false c115
                                        clear c115
                                        have H' := m0 H
                                        clear H
                                        try go_wp2
                                        replace BK1637 := bd BK1637; replace BK1654 := bd BK1654; replace BK1673 := bd BK1673; replace HB := sd HB
                                        refine start_ (n := 23) (S := fun w' => w'.cell? ⟨gb1673, 0, none⟩ = some (.int .i64 t1670) ∧ w'.cell? ⟨gb1673, 1, none⟩ = some (.int .i64 t1671) ∧ w'.cell? ⟨gb1637, 0, none⟩ = some (.slice A0_0 l0_0.length c0_0) ∧ w'.cell? ⟨gb1637, 1, none⟩ = some (.slice A0_1 l0_1.length c0_1) ∧ w'.cell? ⟨gb1637, 2, none⟩ = some (.int .i64 a0_2) ∧ w'.cell? ⟨gb1637, 3, none⟩ = some (.int .i64 a0_3)) (ds := []) #[false, false, false, false, false, false, false, false, false, false, false, false, false, false, false, false, false, false, false, false, false, false, false] (by kernel_rfl) rfl rfl cz (fun hHeld => ?_); refine with_tabW Lw_LineReached.tab18 Lw_LineReached.bits18 (fun HT_ HW_ => ?_)
                                        generalize wc.drew = w135 at BK1637 BK1654 BK1673 HB hHeld ⊢
                                        refine pureZ (i := 0) (N := some 121) (bs 23 1) HT_ ?_
                                        refine pureZ (i := 2) (N := some 123) (bs 23 5) HT_ ?_
                                        refine pureZ (i := 3) (N := some 124) (bs 23 13) HT_ ?_
                                        refine pureZ (i := 6) (N := some 127) (bs 23 77) HT_ ?_
                                        refine pureZ (i := 7) (N := some 128) (bs 23 205) HT_ ?_
                                        refine pureZ (i := 9) (N := some 130) (bs 23 717) HT_ ?_
                                        refine pureZ (i := 14) (N := some 135) (bs 23 17101) HT_ ?_
                                        refine pureZ (i := 16) (N := some 137) (bs 23 82637) HT_ ?_
                                        refine pureZ (i := 17) (N := some 138) (bs 23 213709) HT_ ?_
                                        refine takeZ 1 (some 122) (bs 23 213711) (take_ofW HT_.out HW_.out (by kernel_rfl)) hHeld ?_
                                        refine takeZ 4 (some 125) (bs 23 213727) (take_ofW HT_.out HW_.out (by kernel_rfl)) hHeld ?_
                                        refine pureZ (i := 5) (N := some 126) (bs 23 213759) HT_ ?_
                                        refine takeZ 8 (some 129) (bs 23 214015) (take_ofW HT_.out HW_.out (by kernel_rfl)) hHeld ?_
                                        refine takeZ 10 (some 131) (bs 23 215039) (take_ofW HT_.out HW_.out (by kernel_rfl)) hHeld ?_
                                        refine pureZ (i := 11) (N := some 132) (bs 23 217087) HT_ ?_
                                        refine pureZ (i := 12) (N := some 133) (bs 23 221183) HT_ ?_
                                        refine takeZ 15 (some 136) (bs 23 253951) (take_ofW HT_.out HW_.out (by kernel_rfl)) hHeld ?_
                                        refine takeZ 18 (some 139) (bs 23 516095) (take_ofW HT_.out HW_.out (by kernel_rfl)) hHeld ?_
                                        refine pureZ (i := 19) (N := some 140) (bs 23 1040383) HT_ ?_
                                        refine join_ (σ := Nat) 1 (bs 23 4194303) (fun s_ => [(134, .int .i64 t1679), (141, .agg #[.int .i64 t1680, .int .i64 t1681]), (15, .pointer (some ⟨s_, 0, none⟩))]) (fun s_ w' => (w'.cell? ⟨gb1673, 0, none⟩ = some (.int .i64 t1670) ∧ w'.cell? ⟨gb1673, 1, none⟩ = some (.int .i64 t1671) ∧ w'.cell? ⟨gb1637, 0, none⟩ = some (.slice A0_0 l0_0.length c0_0) ∧ w'.cell? ⟨gb1637, 1, none⟩ = some (.slice A0_1 l0_1.length c0_1) ∧ w'.cell? ⟨gb1637, 2, none⟩ = some (.int .i64 a0_2) ∧ w'.cell? ⟨gb1637, 3, none⟩ = some (.int .i64 a0_3)) ∧ (w'.heap[gb1637]? = some (.cells #[.slice A0_0 l0_0.length c0_0, .slice A0_1 l0_1.length c0_1, .int .i64 a0_2, .int .i64 a0_3] 28 (0, 0))) ∧ (w'.heap[gb1654]? = some (.cells #[.int .i64 t1650, .int .i64 t1651, .int .i64 t1652] 36 (0, 0))) ∧ (w'.heap[gb1673]? = some (.cells #[.int .i64 t1670, .int .i64 t1671] 26 (0, 0))) ∧ (w'.heap[s_]? = some (.cells #[.int .i64 0, .int .i64 0] 26 (0, 0))) ∧ (w.heap.size ≤ s_) ∧ (w.heap.size ≤ s_) ∧ (gb1637 ≠ s_) ∧ (s_ ≠ gb1637) ∧ (gb1654 ≠ s_) ∧ (s_ ≠ gb1654) ∧ (gb1673 ≠ s_) ∧ (s_ ≠ gb1673) ∧ (Below w.heap.size w w')) ?_ ?_
                                        rotate_left
                                        · intro hCont
                                          refine two_ (i := 13) (j := 21) (Ni := some 134) (Nj := some 15) (bs 23 1048575) (bs 23 3137535) rfl rfl rfl rfl (two_of HT_.out (by kernel_rfl)) (by decide) (by decide) (fun K hK => ?_) (fun K hK => ?_)
                                          · skip
                                            refine goes_ Tryd.func40 (by kernel_rfl) rfl #[.int .i64 (wrap64 ((wrap64 (t1670 * a0_3)) - (wrap64 (a0_2 * t1671))))] (by rfl) rfl rfl mz ?_
                                            with_reducible refine (Bs_Size.calls (wrap64 ((wrap64 (t1670 * a0_3)) - (wrap64 (a0_2 * t1671)))) t1679 _ A110.out).mono ?_
                                            rintro e w136 ⟨rfl, hb⟩
                                            refine ⟨_, rfl, ?_⟩
                                            replace BK1637 := bb BK1637 hb; replace BK1654 := bb BK1654 hb; replace BK1673 := bb BK1673 hb; replace HB := sb HB hb
                                            (try clear hb)
                                            refine hK.out _ _ cz (fun hHeld => ?_)
                                            clear hK K
                                            refine norm_ (a' := ?_) ?_ ?_
                                            rotate_left
                                            · show Act.put _ (some 134) _ = _
                                              exact pz
                                            refine two_ (i := 20) (j := 21) (Ni := some 141) (Nj := some 15) (bs 23 2097151) (bs 23 3145727) rfl rfl rfl rfl (two_of HT_.out (by kernel_rfl)) (by decide) (by decide) (fun K hK => ?_) (fun K hK => ?_)
                                            · skip
                                              refine goes_ Tryd.func41 (by kernel_rfl) rfl #[.int .i64 t1679, .int .i64 (wrap64 (t1671 * a0_3))] (by rfl) rfl rfl mz ?_
                                              with_reducible refine (Bs_Lowest.calls kj74 t1679 (wrap64 (t1671 * a0_3)) t1680 t1681 _ A111.out).mono ?_
                                              rintro e w137 ⟨rfl, hb⟩
                                              refine ⟨_, rfl, ?_⟩
                                              replace BK1637 := bb BK1637 hb; replace BK1654 := bb BK1654 hb; replace BK1673 := bb BK1673 hb; replace HB := sb HB hb
                                              (try clear hb)
                                              refine hK.out _ _ cz (fun hHeld => ?_)
                                              clear hK K
                                              refine norm_ (a' := ?_) ?_ ?_
                                              rotate_left
                                              · show Act.put _ (some 141) _ = _
                                                exact pz
                                              refine oneZ 21 (some 15) (bs 23 4194303) (one_of HT_.out (by kernel_rfl)) fun K hK => ?_
                                              refine box_step ?hg (N := 15) ?hd (cs := #[.int .i64 0, .int .i64 0]) (t := 26) ?hr ?_; (case hd => rfl); (case hg => rfl); (case hr => first | (go_simp; done) | (go_simp; rfl))
                                              intro gb1682 hg w138 hbox hb
                                              have BK1682 := m0 hbox; have GW1682 := m0 (bg (n := w.heap.size) hg); have GE1682 := m0 (bg (n := w.heap.size) hg); replace HB := sb HB hb; have NB1637_1682 := nl BK1637 hg; have NB1682_1637 := ng (nl BK1637 hg); replace BK1637 := bb BK1637 hb; have NB1654_1682 := nl BK1654 hg; have NB1682_1654 := ng (nl BK1654 hg); replace BK1654 := bb BK1654 hb; have NB1673_1682 := nl BK1673 hg; have NB1682_1673 := ng (nl BK1673 hg); replace BK1673 := bb BK1673 hb
                                              clear hb hbox hg
                                              refine hK.out _ _ cz (fun hHeld => ?_)
                                              clear hK K
                                              refine norm_ (a' := ?_) ?_ ?_
                                              rotate_left
                                              · show Act.put _ (some 15) _ = _
                                                exact pz
                                              exact norm_ (by simp only [putAll, Act.put, List.setIfInBounds_toArray, List.set_cons_zero, List.set_cons_succ]) (hCont (gb1682) _ ⟨hHeld, (bk BK1637.out), (bk BK1654.out), (bk BK1673.out), (bk BK1682.out), GW1682.out, GE1682.out, NB1637_1682.out, NB1682_1637.out, NB1654_1682.out, NB1682_1654.out, NB1673_1682.out, NB1682_1673.out, bz⟩)
                                            · skip
                                              refine box_step ?hg (N := 15) ?hd (cs := #[.int .i64 0, .int .i64 0]) (t := 26) ?hr ?_; (case hd => rfl); (case hg => rfl); (case hr => first | (go_simp; done) | (go_simp; rfl))
                                              intro gb1682 hg w137 hbox hb
                                              have BK1682 := m0 hbox; have GW1682 := m0 (bg (n := w.heap.size) hg); have GE1682 := m0 (bg (n := w.heap.size) hg); replace HB := sb HB hb; have NB1637_1682 := nl BK1637 hg; have NB1682_1637 := ng (nl BK1637 hg); replace BK1637 := bb BK1637 hb; have NB1654_1682 := nl BK1654 hg; have NB1682_1654 := ng (nl BK1654 hg); replace BK1654 := bb BK1654 hb; have NB1673_1682 := nl BK1673 hg; have NB1682_1673 := ng (nl BK1673 hg); replace BK1673 := bb BK1673 hb
                                              clear hb hbox hg
                                              refine hK.out _ _ cz (fun hHeld => ?_)
                                              clear hK K
                                              refine norm_ (a' := ?_) ?_ ?_
                                              rotate_left
                                              · show Act.put _ (some 15) _ = _
                                                exact pz
                                              refine oneZ 20 (some 141) (bs 23 4194303) (one_of HT_.out (by kernel_rfl)) fun K hK => ?_
                                              refine goes_ Tryd.func41 (by kernel_rfl) rfl #[.int .i64 t1679, .int .i64 (wrap64 (t1671 * a0_3))] (by rfl) rfl rfl mz ?_
                                              with_reducible refine (Bs_Lowest.calls kj74 t1679 (wrap64 (t1671 * a0_3)) t1680 t1681 _ A111.out).mono ?_
                                              rintro e w138 ⟨rfl, hb⟩
                                              refine ⟨_, rfl, ?_⟩
                                              replace BK1637 := bb BK1637 hb; replace BK1654 := bb BK1654 hb; replace BK1673 := bb BK1673 hb; replace BK1682 := bb BK1682 hb; replace HB := sb HB hb
                                              (try clear hb)
                                              refine hK.out _ _ cz (fun hHeld => ?_)
                                              clear hK K
                                              refine norm_ (a' := ?_) ?_ ?_
                                              rotate_left
                                              · show Act.put _ (some 141) _ = _
                                                exact pz
                                              exact norm_ (by simp only [putAll, Act.put, List.setIfInBounds_toArray, List.set_cons_zero, List.set_cons_succ]) (hCont (gb1682) _ ⟨hHeld, (bk BK1637.out), (bk BK1654.out), (bk BK1673.out), (bk BK1682.out), GW1682.out, GE1682.out, NB1637_1682.out, NB1682_1637.out, NB1654_1682.out, NB1682_1654.out, NB1673_1682.out, NB1682_1673.out, bz⟩)
                                          · skip
                                            refine box_step ?hg (N := 15) ?hd (cs := #[.int .i64 0, .int .i64 0]) (t := 26) ?hr ?_; (case hd => rfl); (case hg => rfl); (case hr => first | (go_simp; done) | (go_simp; rfl))
                                            intro gb1682 hg w136 hbox hb
                                            have BK1682 := m0 hbox; have GW1682 := m0 (bg (n := w.heap.size) hg); have GE1682 := m0 (bg (n := w.heap.size) hg); replace HB := sb HB hb; have NB1637_1682 := nl BK1637 hg; have NB1682_1637 := ng (nl BK1637 hg); replace BK1637 := bb BK1637 hb; have NB1654_1682 := nl BK1654 hg; have NB1682_1654 := ng (nl BK1654 hg); replace BK1654 := bb BK1654 hb; have NB1673_1682 := nl BK1673 hg; have NB1682_1673 := ng (nl BK1673 hg); replace BK1673 := bb BK1673 hb
                                            clear hb hbox hg
                                            refine hK.out _ _ cz (fun hHeld => ?_)
                                            clear hK K
                                            refine norm_ (a' := ?_) ?_ ?_
                                            rotate_left
                                            · show Act.put _ (some 15) _ = _
                                              exact pz
                                            refine oneZ 13 (some 134) (bs 23 3145727) (one_of HT_.out (by kernel_rfl)) fun K hK => ?_
                                            refine goes_ Tryd.func40 (by kernel_rfl) rfl #[.int .i64 (wrap64 ((wrap64 (t1670 * a0_3)) - (wrap64 (a0_2 * t1671))))] (by rfl) rfl rfl mz ?_
                                            with_reducible refine (Bs_Size.calls (wrap64 ((wrap64 (t1670 * a0_3)) - (wrap64 (a0_2 * t1671)))) t1679 _ A110.out).mono ?_
                                            rintro e w137 ⟨rfl, hb⟩
                                            refine ⟨_, rfl, ?_⟩
                                            replace BK1637 := bb BK1637 hb; replace BK1654 := bb BK1654 hb; replace BK1673 := bb BK1673 hb; replace BK1682 := bb BK1682 hb; replace HB := sb HB hb
                                            (try clear hb)
                                            refine hK.out _ _ cz (fun hHeld => ?_)
                                            clear hK K
                                            refine norm_ (a' := ?_) ?_ ?_
                                            rotate_left
                                            · show Act.put _ (some 134) _ = _
                                              exact pz
                                            refine oneZ 20 (some 141) (bs 23 4194303) (one_of HT_.out (by kernel_rfl)) fun K hK => ?_
                                            refine goes_ Tryd.func41 (by kernel_rfl) rfl #[.int .i64 t1679, .int .i64 (wrap64 (t1671 * a0_3))] (by rfl) rfl rfl mz ?_
                                            with_reducible refine (Bs_Lowest.calls kj74 t1679 (wrap64 (t1671 * a0_3)) t1680 t1681 _ A111.out).mono ?_
                                            rintro e w138 ⟨rfl, hb⟩
                                            refine ⟨_, rfl, ?_⟩
                                            replace BK1637 := bb BK1637 hb; replace BK1654 := bb BK1654 hb; replace BK1673 := bb BK1673 hb; replace BK1682 := bb BK1682 hb; replace HB := sb HB hb
                                            (try clear hb)
                                            refine hK.out _ _ cz (fun hHeld => ?_)
                                            clear hK K
                                            refine norm_ (a' := ?_) ?_ ?_
                                            rotate_left
                                            · show Act.put _ (some 141) _ = _
                                              exact pz
                                            exact norm_ (by simp only [putAll, Act.put, List.setIfInBounds_toArray, List.set_cons_zero, List.set_cons_succ]) (hCont (gb1682) _ ⟨hHeld, (bk BK1637.out), (bk BK1654.out), (bk BK1673.out), (bk BK1682.out), GW1682.out, GE1682.out, NB1637_1682.out, NB1682_1637.out, NB1654_1682.out, NB1682_1654.out, NB1673_1682.out, NB1682_1673.out, bz⟩)
                                        rintro gb1682 w139 ⟨hS_, h0_, h1_, h2_, h3_, h4_, h5_, h6_, h7_, h8_, h9_, h10_, h11_, h12_⟩
                                        have n0_ : Aside0 (w139.heap[gb1637]? = some (.cells #[.slice A0_0 l0_0.length c0_0, .slice A0_1 l0_1.length c0_1, .int .i64 a0_2, .int .i64 a0_3] 28 (0, 0))) := ⟨h0_⟩
                                        have n1_ : Aside0 (w139.heap[gb1654]? = some (.cells #[.int .i64 t1650, .int .i64 t1651, .int .i64 t1652] 36 (0, 0))) := ⟨h1_⟩
                                        have n2_ : Aside0 (w139.heap[gb1673]? = some (.cells #[.int .i64 t1670, .int .i64 t1671] 26 (0, 0))) := ⟨h2_⟩
                                        have n3_ : Aside0 (w139.heap[gb1682]? = some (.cells #[.int .i64 0, .int .i64 0] 26 (0, 0))) := ⟨h3_⟩
                                        have n4_ : Aside0 (w.heap.size ≤ gb1682) := ⟨h4_⟩
                                        have n5_ : Aside0 (w.heap.size ≤ gb1682) := ⟨h5_⟩
                                        have n6_ : Aside0 (gb1637 ≠ gb1682) := ⟨h6_⟩
                                        have n7_ : Aside0 (gb1682 ≠ gb1637) := ⟨h7_⟩
                                        have n8_ : Aside0 (gb1654 ≠ gb1682) := ⟨h8_⟩
                                        have n9_ : Aside0 (gb1682 ≠ gb1654) := ⟨h9_⟩
                                        have n10_ : Aside0 (gb1673 ≠ gb1682) := ⟨h10_⟩
                                        have n11_ : Aside0 (gb1682 ≠ gb1673) := ⟨h11_⟩
                                        have n12_ : Aside0 (Below w.heap.size w w139) := ⟨h12_⟩
                                        clear BK1637
                                        clear BK1654
                                        clear BK1673
                                        clear HB
                                        clear h0_ h1_ h2_ h3_ h4_ h5_ h6_ h7_ h8_ h9_ h10_ h11_ h12_
                                        have BK1637 := n0_
                                        have BK1654 := n1_
                                        have BK1673 := n2_
                                        have BK1682 := n3_
                                        have GW1682 := n4_
                                        have GE1682 := n5_
                                        have NB1637_1682 := n6_
                                        have NB1682_1637 := n7_
                                        have NB1654_1682 := n8_
                                        have NB1682_1654 := n9_
                                        have NB1673_1682 := n10_
                                        have NB1682_1673 := n11_
                                        have HB := n12_
                                        clear n0_ n1_ n2_ n3_ n4_ n5_ n6_ n7_ n8_ n9_ n10_ n11_ n12_
                                        have hHeld : w139.cell? ⟨gb1673, 0, none⟩ = some (.int .i64 t1670) ∧ w139.cell? ⟨gb1673, 1, none⟩ = some (.int .i64 t1671) ∧ w139.cell? ⟨gb1637, 0, none⟩ = some (.slice A0_0 l0_0.length c0_0) ∧ w139.cell? ⟨gb1637, 1, none⟩ = some (.slice A0_1 l0_1.length c0_1) ∧ w139.cell? ⟨gb1637, 2, none⟩ = some (.int .i64 a0_2) ∧ w139.cell? ⟨gb1637, 3, none⟩ = some (.int .i64 a0_3) := hS_
                                        refine norm_ (a' := ?_) ?_ ?_
                                        rotate_left
                                        · simp only [putAll, Act.put, List.setIfInBounds_toArray, List.set_cons_zero, List.set_cons_succ]
                                          rfl
                                        refine oneZ 22 (none) (bs 23 8388607) (one_of HT_.out (by kernel_rfl)) fun K hK => ?_
                                        have hs140 : w139.cell? ⟨gb1682, 0, none⟩ = some (.int .i64 0) := (blk_cell BK1682.out 0).trans rfl
                                        have hfs140 := blk_frozen BK1682.out 0
                                        have hns140_0 := NB1637_1682.out
                                        have hns140_1 := NB1654_1682.out
                                        have hns140_2 := NB1673_1682.out
                                        have hms140_0 := NB1682_1637.out
                                        have hms140_1 := NB1682_1654.out
                                        have hms140_2 := NB1682_1673.out
                                        have hs141 : w139.cell? ⟨gb1682, 1, none⟩ = some (.int .i64 0) := (blk_cell BK1682.out 1).trans rfl
                                        have hfs141 := blk_frozen BK1682.out 1
                                        have hns141_0 := NB1637_1682.out
                                        have hns141_1 := NB1654_1682.out
                                        have hns141_2 := NB1673_1682.out
                                        have hms141_0 := NB1682_1637.out
                                        have hms141_1 := NB1682_1654.out
                                        have hms141_2 := NB1682_1673.out
                                        refine skip_ (w1 := ?_) (by rfl) rfl ?_ ?_
                                        rotate_left
                                        · go_simp
                                          rfl
                                        refine hK.out _ _ ⟨((cell_far (p := ⟨gb1682, _, none⟩) NB1673_1682.out _).trans (((cell_far (p := ⟨gb1682, _, none⟩) NB1673_1682.out _).trans (hHeld.1)))), ((cell_far (p := ⟨gb1682, _, none⟩) NB1673_1682.out _).trans (((cell_far (p := ⟨gb1682, _, none⟩) NB1673_1682.out _).trans (hHeld.2.1)))), ((cell_far (p := ⟨gb1682, _, none⟩) NB1637_1682.out _).trans (((cell_far (p := ⟨gb1682, _, none⟩) NB1637_1682.out _).trans (hHeld.2.2.1)))), ((cell_far (p := ⟨gb1682, _, none⟩) NB1637_1682.out _).trans (((cell_far (p := ⟨gb1682, _, none⟩) NB1637_1682.out _).trans (hHeld.2.2.2.1)))), ((cell_far (p := ⟨gb1682, _, none⟩) NB1637_1682.out _).trans (((cell_far (p := ⟨gb1682, _, none⟩) NB1637_1682.out _).trans (hHeld.2.2.2.2.1)))), ((cell_far (p := ⟨gb1682, _, none⟩) NB1637_1682.out _).trans (((cell_far (p := ⟨gb1682, _, none⟩) NB1637_1682.out _).trans (hHeld.2.2.2.2.2))))⟩ (fun hHeld => ?_)
                                        clear hK K
                                        refine done_ (done_of HT_.out (by kernel_rfl)) ?_
                                        have hnb142 := NB1682_1637.out
                                        have hnc142 := NB1637_1682.out
                                        have hnb143 := NB1682_1654.out
                                        have hnc143 := NB1654_1682.out
                                        have hnb144 := NB1682_1673.out
                                        have hnc144 := NB1673_1682.out
                                        obtain ⟨_, _, _, _⟩ := b2 BK1682
                                        have hnb146 := NB1654_1637.out
                                        have hnc146 := NB1637_1654.out
                                        have hnb147 := NB1654_1673.out
                                        have hnc147 := NB1673_1654.out
                                        obtain ⟨_, _, _, _, _, _⟩ := b3 BK1654
                                        try go_wp2_with (first | ((with_reducible refine gate_callee (f := 37) rfl ?_); refine gl (some 145) Tryd.func37 #[.agg #[.int .i64 t1680, .int .i64 t1681], .agg #[.int .i64 t1650, .int .i64 t1651]] ?_; (with_reducible refine (Bs_Cmp.calls t1680 t1681 t1650 t1651 t1683 _ A112.out).mono ?_); rintro e w149 ⟨rfl, hb⟩; refine ⟨_, rfl, ?_⟩; replace BK1637 := m0 (blk_below (g := gb1637) (o := .cells #[.slice A0_0 l0_0.length c0_0, .slice A0_1 l0_1.length c0_1, .int .i64 a0_2, .int .i64 a0_3] 28 (0, 0)) (bq BK1637.out) hb); replace BK1654 := m0 (blk_below (g := gb1654) (o := .cells #[.int .i64 t1650, .int .i64 t1651, .int .i64 t1652] 36 (0, 0)) (bq BK1654.out) hb); replace BK1673 := m0 (blk_below (g := gb1673) (o := .cells #[.int .i64 t1670, .int .i64 t1671] 26 (0, 0)) (bq BK1673.out) hb); replace BK1682 := m0 (blk_below (g := gb1682) (o := .cells #[.int .i64 t1680, .int .i64 t1681] 26 (0, 0)) (bq BK1682.out) hb); replace HB := sb HB hb; (try clear hb); obtain ⟨_, _, _, _⟩ := b2 BK1682; obtain ⟨_, _, _, _, _, _⟩ := b3 BK1654; have hnb152 := NB1673_1637.out; have hnc152 := NB1637_1673.out; obtain ⟨_, _, _, _⟩ := b2 BK1673))
                                        go_roundg kj74
                                        case measure => have := HJ4.out; have := HJ25.out; have := HK3.out; have := HJ61.out; have := HJ74.out; omega
                                        case rel => exact ⟨(wrap64 (x8_3 + t1670)), (x9_3), (wrap64 (x10_3 + 1)), (by first | rfl | (simp; done) | (simp [*]; done)), (by first | rfl | (simp; done) | (simp [*]; done)), (by first | rfl | (simp; done) | (simp [*]; done)), H', ⟨by have := HJ4.out; have := HJ25.out; have := HK3.out; have := HJ61.out; have := HJ74.out; omega⟩, ⟨bk BK1637.out⟩, ⟨bk BK1654.out⟩, ⟨bz⟩⟩
                                    · rw [if_neg c114] at H
                                      have c114b0 : (t1680 == t1650 && (t1681 == t1651)) = false := by simpa using c114
                                      (try (have c114b1 : decide (t1680 = t1650 && (t1681 == t1651)) = false := by simpa using c114))
                                      (try (have c114b2 : (t1680 == t1650 && (t1681 == t1651)) = false := by simpa using c114))
                                      (try (have c114b3 : ¬ (t1680 = t1650 && (t1681 == t1651)) := by simpa using c114))
                                      clear c114
                                      have H' := m0 H
                                      clear H
                                      try go_wp2
                                      replace BK1637 := bd BK1637; replace BK1654 := bd BK1654; replace BK1673 := bd BK1673; replace HB := sd HB
                                      refine start_ (n := 23) (S := fun w' => w'.cell? ⟨gb1673, 0, none⟩ = some (.int .i64 t1670) ∧ w'.cell? ⟨gb1673, 1, none⟩ = some (.int .i64 t1671) ∧ w'.cell? ⟨gb1637, 0, none⟩ = some (.slice A0_0 l0_0.length c0_0) ∧ w'.cell? ⟨gb1637, 1, none⟩ = some (.slice A0_1 l0_1.length c0_1) ∧ w'.cell? ⟨gb1637, 2, none⟩ = some (.int .i64 a0_2) ∧ w'.cell? ⟨gb1637, 3, none⟩ = some (.int .i64 a0_3)) (ds := []) #[false, false, false, false, false, false, false, false, false, false, false, false, false, false, false, false, false, false, false, false, false, false, false] (by kernel_rfl) rfl rfl cz (fun hHeld => ?_); refine with_tabW Lw_LineReached.tab18 Lw_LineReached.bits18 (fun HT_ HW_ => ?_)
                                      generalize wc.drew = w154 at BK1637 BK1654 BK1673 HB hHeld ⊢
                                      refine pureZ (i := 0) (N := some 121) (bs 23 1) HT_ ?_
                                      refine pureZ (i := 2) (N := some 123) (bs 23 5) HT_ ?_
                                      refine pureZ (i := 3) (N := some 124) (bs 23 13) HT_ ?_
                                      refine pureZ (i := 6) (N := some 127) (bs 23 77) HT_ ?_
                                      refine pureZ (i := 7) (N := some 128) (bs 23 205) HT_ ?_
                                      refine pureZ (i := 9) (N := some 130) (bs 23 717) HT_ ?_
                                      refine pureZ (i := 14) (N := some 135) (bs 23 17101) HT_ ?_
                                      refine pureZ (i := 16) (N := some 137) (bs 23 82637) HT_ ?_
                                      refine pureZ (i := 17) (N := some 138) (bs 23 213709) HT_ ?_
                                      refine takeZ 1 (some 122) (bs 23 213711) (take_ofW HT_.out HW_.out (by kernel_rfl)) hHeld ?_
                                      refine takeZ 4 (some 125) (bs 23 213727) (take_ofW HT_.out HW_.out (by kernel_rfl)) hHeld ?_
                                      refine pureZ (i := 5) (N := some 126) (bs 23 213759) HT_ ?_
                                      refine takeZ 8 (some 129) (bs 23 214015) (take_ofW HT_.out HW_.out (by kernel_rfl)) hHeld ?_
                                      refine takeZ 10 (some 131) (bs 23 215039) (take_ofW HT_.out HW_.out (by kernel_rfl)) hHeld ?_
                                      refine pureZ (i := 11) (N := some 132) (bs 23 217087) HT_ ?_
                                      refine pureZ (i := 12) (N := some 133) (bs 23 221183) HT_ ?_
                                      refine takeZ 15 (some 136) (bs 23 253951) (take_ofW HT_.out HW_.out (by kernel_rfl)) hHeld ?_
                                      refine takeZ 18 (some 139) (bs 23 516095) (take_ofW HT_.out HW_.out (by kernel_rfl)) hHeld ?_
                                      refine pureZ (i := 19) (N := some 140) (bs 23 1040383) HT_ ?_
                                      refine join_ (σ := Nat) 1 (bs 23 4194303) (fun s_ => [(134, .int .i64 t1679), (141, .agg #[.int .i64 t1680, .int .i64 t1681]), (15, .pointer (some ⟨s_, 0, none⟩))]) (fun s_ w' => (w'.cell? ⟨gb1673, 0, none⟩ = some (.int .i64 t1670) ∧ w'.cell? ⟨gb1673, 1, none⟩ = some (.int .i64 t1671) ∧ w'.cell? ⟨gb1637, 0, none⟩ = some (.slice A0_0 l0_0.length c0_0) ∧ w'.cell? ⟨gb1637, 1, none⟩ = some (.slice A0_1 l0_1.length c0_1) ∧ w'.cell? ⟨gb1637, 2, none⟩ = some (.int .i64 a0_2) ∧ w'.cell? ⟨gb1637, 3, none⟩ = some (.int .i64 a0_3)) ∧ (w'.heap[gb1637]? = some (.cells #[.slice A0_0 l0_0.length c0_0, .slice A0_1 l0_1.length c0_1, .int .i64 a0_2, .int .i64 a0_3] 28 (0, 0))) ∧ (w'.heap[gb1654]? = some (.cells #[.int .i64 t1650, .int .i64 t1651, .int .i64 t1652] 36 (0, 0))) ∧ (w'.heap[gb1673]? = some (.cells #[.int .i64 t1670, .int .i64 t1671] 26 (0, 0))) ∧ (w'.heap[s_]? = some (.cells #[.int .i64 0, .int .i64 0] 26 (0, 0))) ∧ (w.heap.size ≤ s_) ∧ (w.heap.size ≤ s_) ∧ (gb1637 ≠ s_) ∧ (s_ ≠ gb1637) ∧ (gb1654 ≠ s_) ∧ (s_ ≠ gb1654) ∧ (gb1673 ≠ s_) ∧ (s_ ≠ gb1673) ∧ (Below w.heap.size w w')) ?_ ?_
                                      rotate_left
                                      · intro hCont
                                        refine two_ (i := 13) (j := 21) (Ni := some 134) (Nj := some 15) (bs 23 1048575) (bs 23 3137535) rfl rfl rfl rfl (two_of HT_.out (by kernel_rfl)) (by decide) (by decide) (fun K hK => ?_) (fun K hK => ?_)
                                        · skip
                                          refine goes_ Tryd.func40 (by kernel_rfl) rfl #[.int .i64 (wrap64 ((wrap64 (t1670 * a0_3)) - (wrap64 (a0_2 * t1671))))] (by rfl) rfl rfl mz ?_
                                          with_reducible refine (Bs_Size.calls (wrap64 ((wrap64 (t1670 * a0_3)) - (wrap64 (a0_2 * t1671)))) t1679 _ A110.out).mono ?_
                                          rintro e w155 ⟨rfl, hb⟩
                                          refine ⟨_, rfl, ?_⟩
                                          replace BK1637 := bb BK1637 hb; replace BK1654 := bb BK1654 hb; replace BK1673 := bb BK1673 hb; replace HB := sb HB hb
                                          (try clear hb)
                                          refine hK.out _ _ cz (fun hHeld => ?_)
                                          clear hK K
                                          refine norm_ (a' := ?_) ?_ ?_
                                          rotate_left
                                          · show Act.put _ (some 134) _ = _
                                            exact pz
                                          refine two_ (i := 20) (j := 21) (Ni := some 141) (Nj := some 15) (bs 23 2097151) (bs 23 3145727) rfl rfl rfl rfl (two_of HT_.out (by kernel_rfl)) (by decide) (by decide) (fun K hK => ?_) (fun K hK => ?_)
                                          · skip
                                            refine goes_ Tryd.func41 (by kernel_rfl) rfl #[.int .i64 t1679, .int .i64 (wrap64 (t1671 * a0_3))] (by rfl) rfl rfl mz ?_
                                            with_reducible refine (Bs_Lowest.calls kj74 t1679 (wrap64 (t1671 * a0_3)) t1680 t1681 _ A111.out).mono ?_
                                            rintro e w156 ⟨rfl, hb⟩
                                            refine ⟨_, rfl, ?_⟩
                                            replace BK1637 := bb BK1637 hb; replace BK1654 := bb BK1654 hb; replace BK1673 := bb BK1673 hb; replace HB := sb HB hb
                                            (try clear hb)
                                            refine hK.out _ _ cz (fun hHeld => ?_)
                                            clear hK K
                                            refine norm_ (a' := ?_) ?_ ?_
                                            rotate_left
                                            · show Act.put _ (some 141) _ = _
                                              exact pz
                                            refine oneZ 21 (some 15) (bs 23 4194303) (one_of HT_.out (by kernel_rfl)) fun K hK => ?_
                                            refine box_step ?hg (N := 15) ?hd (cs := #[.int .i64 0, .int .i64 0]) (t := 26) ?hr ?_; (case hd => rfl); (case hg => rfl); (case hr => first | (go_simp; done) | (go_simp; rfl))
                                            intro gb1682 hg w157 hbox hb
                                            have BK1682 := m0 hbox; have GW1682 := m0 (bg (n := w.heap.size) hg); have GE1682 := m0 (bg (n := w.heap.size) hg); replace HB := sb HB hb; have NB1637_1682 := nl BK1637 hg; have NB1682_1637 := ng (nl BK1637 hg); replace BK1637 := bb BK1637 hb; have NB1654_1682 := nl BK1654 hg; have NB1682_1654 := ng (nl BK1654 hg); replace BK1654 := bb BK1654 hb; have NB1673_1682 := nl BK1673 hg; have NB1682_1673 := ng (nl BK1673 hg); replace BK1673 := bb BK1673 hb
                                            clear hb hbox hg
                                            refine hK.out _ _ cz (fun hHeld => ?_)
                                            clear hK K
                                            refine norm_ (a' := ?_) ?_ ?_
                                            rotate_left
                                            · show Act.put _ (some 15) _ = _
                                              exact pz
                                            exact norm_ (by simp only [putAll, Act.put, List.setIfInBounds_toArray, List.set_cons_zero, List.set_cons_succ]) (hCont (gb1682) _ ⟨hHeld, (bk BK1637.out), (bk BK1654.out), (bk BK1673.out), (bk BK1682.out), GW1682.out, GE1682.out, NB1637_1682.out, NB1682_1637.out, NB1654_1682.out, NB1682_1654.out, NB1673_1682.out, NB1682_1673.out, bz⟩)
                                          · skip
                                            refine box_step ?hg (N := 15) ?hd (cs := #[.int .i64 0, .int .i64 0]) (t := 26) ?hr ?_; (case hd => rfl); (case hg => rfl); (case hr => first | (go_simp; done) | (go_simp; rfl))
                                            intro gb1682 hg w156 hbox hb
                                            have BK1682 := m0 hbox; have GW1682 := m0 (bg (n := w.heap.size) hg); have GE1682 := m0 (bg (n := w.heap.size) hg); replace HB := sb HB hb; have NB1637_1682 := nl BK1637 hg; have NB1682_1637 := ng (nl BK1637 hg); replace BK1637 := bb BK1637 hb; have NB1654_1682 := nl BK1654 hg; have NB1682_1654 := ng (nl BK1654 hg); replace BK1654 := bb BK1654 hb; have NB1673_1682 := nl BK1673 hg; have NB1682_1673 := ng (nl BK1673 hg); replace BK1673 := bb BK1673 hb
                                            clear hb hbox hg
                                            refine hK.out _ _ cz (fun hHeld => ?_)
                                            clear hK K
                                            refine norm_ (a' := ?_) ?_ ?_
                                            rotate_left
                                            · show Act.put _ (some 15) _ = _
                                              exact pz
                                            refine oneZ 20 (some 141) (bs 23 4194303) (one_of HT_.out (by kernel_rfl)) fun K hK => ?_
                                            refine goes_ Tryd.func41 (by kernel_rfl) rfl #[.int .i64 t1679, .int .i64 (wrap64 (t1671 * a0_3))] (by rfl) rfl rfl mz ?_
                                            with_reducible refine (Bs_Lowest.calls kj74 t1679 (wrap64 (t1671 * a0_3)) t1680 t1681 _ A111.out).mono ?_
                                            rintro e w157 ⟨rfl, hb⟩
                                            refine ⟨_, rfl, ?_⟩
                                            replace BK1637 := bb BK1637 hb; replace BK1654 := bb BK1654 hb; replace BK1673 := bb BK1673 hb; replace BK1682 := bb BK1682 hb; replace HB := sb HB hb
                                            (try clear hb)
                                            refine hK.out _ _ cz (fun hHeld => ?_)
                                            clear hK K
                                            refine norm_ (a' := ?_) ?_ ?_
                                            rotate_left
                                            · show Act.put _ (some 141) _ = _
                                              exact pz
                                            exact norm_ (by simp only [putAll, Act.put, List.setIfInBounds_toArray, List.set_cons_zero, List.set_cons_succ]) (hCont (gb1682) _ ⟨hHeld, (bk BK1637.out), (bk BK1654.out), (bk BK1673.out), (bk BK1682.out), GW1682.out, GE1682.out, NB1637_1682.out, NB1682_1637.out, NB1654_1682.out, NB1682_1654.out, NB1673_1682.out, NB1682_1673.out, bz⟩)
                                        · skip
                                          refine box_step ?hg (N := 15) ?hd (cs := #[.int .i64 0, .int .i64 0]) (t := 26) ?hr ?_; (case hd => rfl); (case hg => rfl); (case hr => first | (go_simp; done) | (go_simp; rfl))
                                          intro gb1682 hg w155 hbox hb
                                          have BK1682 := m0 hbox; have GW1682 := m0 (bg (n := w.heap.size) hg); have GE1682 := m0 (bg (n := w.heap.size) hg); replace HB := sb HB hb; have NB1637_1682 := nl BK1637 hg; have NB1682_1637 := ng (nl BK1637 hg); replace BK1637 := bb BK1637 hb; have NB1654_1682 := nl BK1654 hg; have NB1682_1654 := ng (nl BK1654 hg); replace BK1654 := bb BK1654 hb; have NB1673_1682 := nl BK1673 hg; have NB1682_1673 := ng (nl BK1673 hg); replace BK1673 := bb BK1673 hb
                                          clear hb hbox hg
                                          refine hK.out _ _ cz (fun hHeld => ?_)
                                          clear hK K
                                          refine norm_ (a' := ?_) ?_ ?_
                                          rotate_left
                                          · show Act.put _ (some 15) _ = _
                                            exact pz
                                          refine oneZ 13 (some 134) (bs 23 3145727) (one_of HT_.out (by kernel_rfl)) fun K hK => ?_
                                          refine goes_ Tryd.func40 (by kernel_rfl) rfl #[.int .i64 (wrap64 ((wrap64 (t1670 * a0_3)) - (wrap64 (a0_2 * t1671))))] (by rfl) rfl rfl mz ?_
                                          with_reducible refine (Bs_Size.calls (wrap64 ((wrap64 (t1670 * a0_3)) - (wrap64 (a0_2 * t1671)))) t1679 _ A110.out).mono ?_
                                          rintro e w156 ⟨rfl, hb⟩
                                          refine ⟨_, rfl, ?_⟩
                                          replace BK1637 := bb BK1637 hb; replace BK1654 := bb BK1654 hb; replace BK1673 := bb BK1673 hb; replace BK1682 := bb BK1682 hb; replace HB := sb HB hb
                                          (try clear hb)
                                          refine hK.out _ _ cz (fun hHeld => ?_)
                                          clear hK K
                                          refine norm_ (a' := ?_) ?_ ?_
                                          rotate_left
                                          · show Act.put _ (some 134) _ = _
                                            exact pz
                                          refine oneZ 20 (some 141) (bs 23 4194303) (one_of HT_.out (by kernel_rfl)) fun K hK => ?_
                                          refine goes_ Tryd.func41 (by kernel_rfl) rfl #[.int .i64 t1679, .int .i64 (wrap64 (t1671 * a0_3))] (by rfl) rfl rfl mz ?_
                                          with_reducible refine (Bs_Lowest.calls kj74 t1679 (wrap64 (t1671 * a0_3)) t1680 t1681 _ A111.out).mono ?_
                                          rintro e w157 ⟨rfl, hb⟩
                                          refine ⟨_, rfl, ?_⟩
                                          replace BK1637 := bb BK1637 hb; replace BK1654 := bb BK1654 hb; replace BK1673 := bb BK1673 hb; replace BK1682 := bb BK1682 hb; replace HB := sb HB hb
                                          (try clear hb)
                                          refine hK.out _ _ cz (fun hHeld => ?_)
                                          clear hK K
                                          refine norm_ (a' := ?_) ?_ ?_
                                          rotate_left
                                          · show Act.put _ (some 141) _ = _
                                            exact pz
                                          exact norm_ (by simp only [putAll, Act.put, List.setIfInBounds_toArray, List.set_cons_zero, List.set_cons_succ]) (hCont (gb1682) _ ⟨hHeld, (bk BK1637.out), (bk BK1654.out), (bk BK1673.out), (bk BK1682.out), GW1682.out, GE1682.out, NB1637_1682.out, NB1682_1637.out, NB1654_1682.out, NB1682_1654.out, NB1673_1682.out, NB1682_1673.out, bz⟩)
                                      rintro gb1682 w158 ⟨hS_, h0_, h1_, h2_, h3_, h4_, h5_, h6_, h7_, h8_, h9_, h10_, h11_, h12_⟩
                                      have n0_ : Aside0 (w158.heap[gb1637]? = some (.cells #[.slice A0_0 l0_0.length c0_0, .slice A0_1 l0_1.length c0_1, .int .i64 a0_2, .int .i64 a0_3] 28 (0, 0))) := ⟨h0_⟩
                                      have n1_ : Aside0 (w158.heap[gb1654]? = some (.cells #[.int .i64 t1650, .int .i64 t1651, .int .i64 t1652] 36 (0, 0))) := ⟨h1_⟩
                                      have n2_ : Aside0 (w158.heap[gb1673]? = some (.cells #[.int .i64 t1670, .int .i64 t1671] 26 (0, 0))) := ⟨h2_⟩
                                      have n3_ : Aside0 (w158.heap[gb1682]? = some (.cells #[.int .i64 0, .int .i64 0] 26 (0, 0))) := ⟨h3_⟩
                                      have n4_ : Aside0 (w.heap.size ≤ gb1682) := ⟨h4_⟩
                                      have n5_ : Aside0 (w.heap.size ≤ gb1682) := ⟨h5_⟩
                                      have n6_ : Aside0 (gb1637 ≠ gb1682) := ⟨h6_⟩
                                      have n7_ : Aside0 (gb1682 ≠ gb1637) := ⟨h7_⟩
                                      have n8_ : Aside0 (gb1654 ≠ gb1682) := ⟨h8_⟩
                                      have n9_ : Aside0 (gb1682 ≠ gb1654) := ⟨h9_⟩
                                      have n10_ : Aside0 (gb1673 ≠ gb1682) := ⟨h10_⟩
                                      have n11_ : Aside0 (gb1682 ≠ gb1673) := ⟨h11_⟩
                                      have n12_ : Aside0 (Below w.heap.size w w158) := ⟨h12_⟩
                                      clear BK1637
                                      clear BK1654
                                      clear BK1673
                                      clear HB
                                      clear h0_ h1_ h2_ h3_ h4_ h5_ h6_ h7_ h8_ h9_ h10_ h11_ h12_
                                      have BK1637 := n0_
                                      have BK1654 := n1_
                                      have BK1673 := n2_
                                      have BK1682 := n3_
                                      have GW1682 := n4_
                                      have GE1682 := n5_
                                      have NB1637_1682 := n6_
                                      have NB1682_1637 := n7_
                                      have NB1654_1682 := n8_
                                      have NB1682_1654 := n9_
                                      have NB1673_1682 := n10_
                                      have NB1682_1673 := n11_
                                      have HB := n12_
                                      clear n0_ n1_ n2_ n3_ n4_ n5_ n6_ n7_ n8_ n9_ n10_ n11_ n12_
                                      have hHeld : w158.cell? ⟨gb1673, 0, none⟩ = some (.int .i64 t1670) ∧ w158.cell? ⟨gb1673, 1, none⟩ = some (.int .i64 t1671) ∧ w158.cell? ⟨gb1637, 0, none⟩ = some (.slice A0_0 l0_0.length c0_0) ∧ w158.cell? ⟨gb1637, 1, none⟩ = some (.slice A0_1 l0_1.length c0_1) ∧ w158.cell? ⟨gb1637, 2, none⟩ = some (.int .i64 a0_2) ∧ w158.cell? ⟨gb1637, 3, none⟩ = some (.int .i64 a0_3) := hS_
                                      refine norm_ (a' := ?_) ?_ ?_
                                      rotate_left
                                      · simp only [putAll, Act.put, List.setIfInBounds_toArray, List.set_cons_zero, List.set_cons_succ]
                                        rfl
                                      refine oneZ 22 (none) (bs 23 8388607) (one_of HT_.out (by kernel_rfl)) fun K hK => ?_
                                      have hs159 : w158.cell? ⟨gb1682, 0, none⟩ = some (.int .i64 0) := (blk_cell BK1682.out 0).trans rfl
                                      have hfs159 := blk_frozen BK1682.out 0
                                      have hns159_0 := NB1637_1682.out
                                      have hns159_1 := NB1654_1682.out
                                      have hns159_2 := NB1673_1682.out
                                      have hms159_0 := NB1682_1637.out
                                      have hms159_1 := NB1682_1654.out
                                      have hms159_2 := NB1682_1673.out
                                      have hs160 : w158.cell? ⟨gb1682, 1, none⟩ = some (.int .i64 0) := (blk_cell BK1682.out 1).trans rfl
                                      have hfs160 := blk_frozen BK1682.out 1
                                      have hns160_0 := NB1637_1682.out
                                      have hns160_1 := NB1654_1682.out
                                      have hns160_2 := NB1673_1682.out
                                      have hms160_0 := NB1682_1637.out
                                      have hms160_1 := NB1682_1654.out
                                      have hms160_2 := NB1682_1673.out
                                      refine skip_ (w1 := ?_) (by rfl) rfl ?_ ?_
                                      rotate_left
                                      · go_simp
                                        rfl
                                      refine hK.out _ _ ⟨((cell_far (p := ⟨gb1682, _, none⟩) NB1673_1682.out _).trans (((cell_far (p := ⟨gb1682, _, none⟩) NB1673_1682.out _).trans (hHeld.1)))), ((cell_far (p := ⟨gb1682, _, none⟩) NB1673_1682.out _).trans (((cell_far (p := ⟨gb1682, _, none⟩) NB1673_1682.out _).trans (hHeld.2.1)))), ((cell_far (p := ⟨gb1682, _, none⟩) NB1637_1682.out _).trans (((cell_far (p := ⟨gb1682, _, none⟩) NB1637_1682.out _).trans (hHeld.2.2.1)))), ((cell_far (p := ⟨gb1682, _, none⟩) NB1637_1682.out _).trans (((cell_far (p := ⟨gb1682, _, none⟩) NB1637_1682.out _).trans (hHeld.2.2.2.1)))), ((cell_far (p := ⟨gb1682, _, none⟩) NB1637_1682.out _).trans (((cell_far (p := ⟨gb1682, _, none⟩) NB1637_1682.out _).trans (hHeld.2.2.2.2.1)))), ((cell_far (p := ⟨gb1682, _, none⟩) NB1637_1682.out _).trans (((cell_far (p := ⟨gb1682, _, none⟩) NB1637_1682.out _).trans (hHeld.2.2.2.2.2))))⟩ (fun hHeld => ?_)
                                      clear hK K
                                      refine done_ (done_of HT_.out (by kernel_rfl)) ?_
                                      have hnb161 := NB1682_1637.out
                                      have hnc161 := NB1637_1682.out
                                      have hnb162 := NB1682_1654.out
                                      have hnc162 := NB1654_1682.out
                                      have hnb163 := NB1682_1673.out
                                      have hnc163 := NB1673_1682.out
                                      obtain ⟨hcz164_0, hcz164_1, hfz164_0, hfz164_1⟩ := b2 BK1682
                                      have hnb165 := NB1654_1637.out
                                      have hnc165 := NB1637_1654.out
                                      have hnb166 := NB1654_1673.out
                                      have hnc166 := NB1673_1654.out
                                      obtain ⟨hcz167_0, hcz167_1, hcz167_2, hfz167_0, hfz167_1, hfz167_2⟩ := b3 BK1654
                                      try go_wp2_with (first | ((with_reducible refine gate_callee (f := 37) rfl ?_); refine gl (some 145) Tryd.func37 #[.agg #[.int .i64 t1680, .int .i64 t1681], .agg #[.int .i64 t1650, .int .i64 t1651]] ?_; (with_reducible refine (Bs_Cmp.calls t1680 t1681 t1650 t1651 t1683 _ A112.out).mono ?_); rintro e w168 ⟨rfl, hb⟩; refine ⟨_, rfl, ?_⟩; replace BK1637 := m0 (blk_below (g := gb1637) (o := .cells #[.slice A0_0 l0_0.length c0_0, .slice A0_1 l0_1.length c0_1, .int .i64 a0_2, .int .i64 a0_3] 28 (0, 0)) (bq BK1637.out) hb); replace BK1654 := m0 (blk_below (g := gb1654) (o := .cells #[.int .i64 t1650, .int .i64 t1651, .int .i64 t1652] 36 (0, 0)) (bq BK1654.out) hb); replace BK1673 := m0 (blk_below (g := gb1673) (o := .cells #[.int .i64 t1670, .int .i64 t1671] 26 (0, 0)) (bq BK1673.out) hb); replace BK1682 := m0 (blk_below (g := gb1682) (o := .cells #[.int .i64 t1680, .int .i64 t1681] 26 (0, 0)) (bq BK1682.out) hb); replace HB := sb HB hb; (try clear hb); obtain ⟨hcz169_0, hcz169_1, hfz169_0, hfz169_1⟩ := b2 BK1682; obtain ⟨hcz170_0, hcz170_1, hcz170_2, hfz170_0, hfz170_1, hfz170_2⟩ := b3 BK1654; have hnb171 := NB1673_1637.out; have hnc171 := NB1637_1673.out; obtain ⟨hcz172_0, hcz172_1, hfz172_0, hfz172_1⟩ := b2 BK1673))
                                      go_roundg kj74
                                      case measure => have := HJ4.out; have := HJ25.out; have := HK3.out; have := HJ61.out; have := HJ74.out; omega
                                      case rel => exact ⟨(wrap64 (x8_3 + t1670)), (x9_3), (wrap64 (x10_3 + 1)), (by first | rfl | (simp; done) | (simp [*]; done)), (by first | rfl | (simp; done) | (simp [*]; done)), (by first | rfl | (simp; done) | (simp [*]; done)), H', ⟨by have := HJ4.out; have := HJ25.out; have := HK3.out; have := HJ61.out; have := HJ74.out; omega⟩, ⟨bk BK1637.out⟩, ⟨bk BK1654.out⟩, ⟨bz⟩⟩
                    · rw [if_neg c59] at H
                      have c59b0 := decide_eq_false c59
                      clear c59
                      replace H := ob H
                      obtain ⟨⟨t1684, t1687, t1690, t1691⟩, A1730, H⟩ := H
                      (try dsimp only at H)
                      have A173 := m0 A1730
                      clear A1730
                      replace H := ob H
                      obtain ⟨⟨t1692, t1693⟩, A1740, H⟩ := H
                      (try dsimp only at H)
                      have A174 := m0 A1740
                      clear A1740
                      have HC175 := m0 H
                      clear H
                      try go_wp2
                      replace BK1637 := bd BK1637; replace BK1654 := bd BK1654; replace HB := sd HB
                      refine start_ (n := 10) (S := fun w' => w'.cell? ⟨gb1637, 0, none⟩ = some (.slice A0_0 l0_0.length c0_0) ∧ w'.cell? ⟨gb1637, 1, none⟩ = some (.slice A0_1 l0_1.length c0_1) ∧ w'.cell? ⟨gb1637, 2, none⟩ = some (.int .i64 a0_2) ∧ w'.cell? ⟨gb1637, 3, none⟩ = some (.int .i64 a0_3) ∧ w'.cell? ⟨gb1654, 0, none⟩ = some (.int .i64 t1650) ∧ w'.cell? ⟨gb1654, 1, none⟩ = some (.int .i64 t1651) ∧ w'.cell? ⟨gb1654, 2, none⟩ = some (.int .i64 t1652)) (ds := []) #[false, false, false, false, false, false, false, false, false, false] (by kernel_rfl) rfl rfl cz (fun hHeld => ?_); refine with_tabW Lw_LineReached.tab24 Lw_LineReached.bits24 (fun HT_ HW_ => ?_)
                      generalize wr.drew = w176 at BK1637 BK1654 HB hHeld ⊢
                      refine pureZ (i := 2) (N := some 163) #[false, false, true, false, false, false, false, false, false, false] HT_ ?_
                      refine takeZ 0 (some 161) #[true, false, true, false, false, false, false, false, false, false] (take_ofW HT_.out HW_.out (by kernel_rfl)) hHeld ?_
                      refine takeZ 3 (some 164) #[true, false, true, true, false, false, false, false, false, false] (take_ofW HT_.out HW_.out (by kernel_rfl)) hHeld ?_
                      refine oneZ 1 (some 162) #[true, true, true, true, false, false, false, false, false, false] (one_of HT_.out (by kernel_rfl)) fun K hK => ?_
                      refine goes_ Tryd.func21 (by kernel_rfl) rfl #[.agg #[.slice A0_0 l0_0.length c0_0, .slice A0_1 l0_1.length c0_1, .int .i64 a0_2, .int .i64 a0_3]] (by rfl) rfl rfl mz ?_
                      with_reducible refine (Rf_CopyCase.calls _ _ l0_0 _ _ l0_1 a0_2 a0_3 t1684 t1687 t1690 t1691 _ ?side1 ?side2 ?side3 ?side4 A173.out).mono ?_
                      (case side1 => exact cb HR0_0 HB)
                      (case side2 => exact HC0_0.out)
                      (case side3 => exact cb HR0_1 HB)
                      (case side4 => exact HC0_1.out)
                      rintro e w177 ⟨v1685, v1688, rfl, ho0, ho1, hb⟩
                      refine ⟨_, rfl, ?_⟩
                      have HO1686 := m0 (Kd.R_lower ho0 (below_size bz)); have HO1689 := m0 (Kd.R_lower ho1 (below_size bz)); replace BK1637 := bb BK1637 hb; replace BK1654 := bb BK1654 hb; replace HB := sb HB hb
                      (try clear hb)
                      (try clear ho0)
                      (try clear ho1)
                      obtain ⟨Ao178, co178, eo178⟩ := Kd.R_slice HO1686.out
                      (first | subst eo178 | (injection eo178 with f1_ f2_ f3_; have f4_ := f1_.symm; have f5_ := f3_.symm; clear f1_ f2_ f3_; subst f4_; subst f5_))
                      obtain ⟨Ao179, co179, eo179⟩ := Kd.R_slice HO1689.out
                      (first | subst eo179 | (injection eo179 with f1_ f2_ f3_; have f4_ := f1_.symm; have f5_ := f3_.symm; clear f1_ f2_ f3_; subst f4_; subst f5_))
                      refine hK.out _ _ cz (fun hHeld => ?_)
                      clear hK K
                      refine norm_ (a' := ?_) ?_ ?_
                      rotate_left
                      · show Act.put _ (some 162) _ = _
                        exact pz
                      refine oneZ 4 (some 165) #[true, true, true, true, true, false, false, false, false, false] (one_of HT_.out (by kernel_rfl)) fun K hK => ?_
                      refine goes_ Tryd.func69 (by kernel_rfl) rfl #[.agg #[.slice Ao178 t1684.length co178, .slice Ao179 t1687.length co179, .int .i64 t1690, .int .i64 t1691], .int .i64 a1, .agg #[.int .i64 t1650, .int .i64 t1651, .int .i64 t1652]] (by rfl) rfl rfl mz ?_
                      with_reducible refine (line_CheckWorst.calls k3 _ _ t1684 _ _ t1687 t1690 t1691 a1 t1650 t1651 t1652 t1692 t1693 _ ?side1 ?side2 ?side3 ?side4 ?side5 A174.out).mono ?_
                      (case side1 => exact bc (Kd.R_reads' HO1686.out).2.2)
                      (case side2 => exact (Kd.R_reads' HO1686.out).2.1)
                      (case side3 => exact bc (Kd.R_reads' HO1689.out).2.2)
                      (case side4 => exact (Kd.R_reads' HO1689.out).2.1)
                      (case side5 => exact EstG.below HG.out bz)
                      rintro e w180 ⟨rfl, hb⟩
                      refine ⟨_, rfl, ?_⟩
                      replace HO1686 := rb HO1686 hb; replace HO1689 := rb HO1689 hb; replace BK1637 := bb BK1637 hb; replace BK1654 := bb BK1654 hb; replace HB := sb HB hb
                      (try clear hb)
                      refine hK.out _ _ cz (fun hHeld => ?_)
                      clear hK K
                      refine norm_ (a' := ?_) ?_ ?_
                      rotate_left
                      · show Act.put _ (some 165) _ = _
                        exact pz
                      refine pureZ (i := 5) (N := some 160) #[true, true, true, true, true, true, false, false, false, false] HT_ ?_
                      refine pureZ (i := 6) (N := some 166) #[true, true, true, true, true, true, true, false, false, false] HT_ ?_
                      refine pureZ (i := 7) (N := some 167) #[true, true, true, true, true, true, true, true, false, false] HT_ ?_
                      refine pureZ (i := 8) (N := some 16) #[true, true, true, true, true, true, true, true, true, false] HT_ ?_
                      refine pureZ (i := 9) (N := some 17) #[true, true, true, true, true, true, true, true, true, true] HT_ ?_
                      refine done_ (done_of HT_.out (by kernel_rfl)) ?_
                      go_upto_region 25 with (fail)
                      go_cut [179] (fun v179 wc => ∃ (kq : Nat) (x179_174 : Bool), v179 = .bool x179_174 ∧ Aside0 (Lw_LineReached.j5 kq a1 t1657 x8_3 x179_174 l0_0 l0_1 a0_2 a0_3 t1650 t1651 t1652 = some r) ∧ Aside0 (kq ≤ k3) ∧ Aside0 (wc.heap[gb1637]? = some (.cells #[(.slice A0_0 l0_0.length c0_0), (.slice A0_1 l0_1.length c0_1), .int .i64 a0_2, .int .i64 a0_3] 28 (0, 0))) ∧ Aside0 (wc.heap[gb1654]? = some (.cells #[.int .i64 t1650, .int .i64 t1651, .int .i64 t1652] 36 (0, 0))) ∧ Aside0 (Below w.heap.size w wc))
                      case first =>
                        have H := HC175.out
                        clear HC175
                        by_cases c181 : x9_3 = t1652
                        · rw [if_pos c181] at H
                          have c181b0 := beq_iff_eq.mpr c181
                          have c181b1 := bne_eq_false_iff_eq.mpr c181
                          clear c181
                          (first | rw [c181b0] | (simp only [i64_w, i32_w]; rw [c181b0]) | skip)
                          by_cases c182 : t1693 = 0
                          · rw [if_pos c182] at H
                            have c182b0 := beq_iff_eq.mpr c182
                            have c182b1 := bne_eq_false_iff_eq.mpr c182
                            clear c182
                            have H' := m0 H
                            clear H
                            have hnb183 := NB1654_1637.out
                            have hnc183 := NB1637_1654.out
                            obtain ⟨hcz184_0, hcz184_1, hcz184_2, hfz184_0, hfz184_1, hfz184_2⟩ := b3 BK1654
                            go_wp2
                            go_meet
                            case rel => exact ⟨_, ((t1692 != 0)), (by first | rfl | (simp; done) | (simp [*]; done)), H', ⟨by have := HJ4.out; have := HJ25.out; have := HK3.out; first | omega | exact Nat.le_refl _⟩, ⟨bk BK1637.out⟩, ⟨bk BK1654.out⟩, ⟨bz⟩⟩
                          · rw [if_neg c182] at H
                            have c182b0 := beq_eq_false_iff_ne.mpr c182
                            have c182b1 := bne_iff_ne.mpr c182
                            have H' := m0 H
                            clear H
                            have hnb185 := NB1654_1637.out
                            have hnc185 := NB1637_1654.out
                            obtain ⟨hcz186_0, hcz186_1, hcz186_2, hfz186_0, hfz186_1, hfz186_2⟩ := b3 BK1654
                            go_wp2
                            go_meet
                            case rel => exact ⟨_, (true), (by first | rfl | (simp; done) | (simp [*]; done)), H', ⟨by have := HJ4.out; have := HJ25.out; have := HK3.out; first | omega | exact Nat.le_refl _⟩, ⟨bk BK1637.out⟩, ⟨bk BK1654.out⟩, ⟨bz⟩⟩
                        · rw [if_neg c181] at H
                          have c181b0 := beq_eq_false_iff_ne.mpr c181
                          have c181b1 := bne_iff_ne.mpr c181
                          (first | rw [c181b0] | (simp only [i64_w, i32_w]; rw [c181b0]) | skip)
                          have H' := m0 H
                          clear H
                          have hnb187 := NB1654_1637.out
                          have hnc187 := NB1637_1654.out
                          obtain ⟨hcz188_0, hcz188_1, hcz188_2, hfz188_0, hfz188_1, hfz188_2⟩ := b3 BK1654
                          go_wp2
                          go_meet
                          case rel => exact ⟨_, (true), (by first | rfl | (simp; done) | (simp [*]; done)), H', ⟨by have := HJ4.out; have := HJ25.out; have := HK3.out; first | omega | exact Nat.le_refl _⟩, ⟨bk BK1637.out⟩, ⟨bk BK1654.out⟩, ⟨bz⟩⟩
                      case rest =>
                        as_aux_lemma =>
                        clear HC175
                        try clear c1
                        try clear c2
                        try clear p2
                        try clear c3
                        try clear c4
                        try clear c5
                        try clear c6
                        try clear p6
                        try clear c16
                        try clear c17
                        try clear c18
                        try clear c21
                        try clear c37
                        try clear c40
                        try clear c41
                        try clear c59
                        try clear c59b0
                        try clear p64
                        try clear c69
                        try clear c161
                        try clear c162
                        try clear c163
                        try clear c165
                        try clear c166
                        try clear c171
                        try clear c181
                        try clear c181b0
                        try clear c181b1
                        try clear c182
                        try clear c182b0
                        try clear c182b1
                        try clear c183
                        try clear c185
                        try clear c187
                        try clear hcz164_0
                        try clear hcz164_1
                        try clear hcz167_0
                        try clear hcz167_1
                        try clear hcz167_2
                        try clear hcz169_0
                        try clear hcz169_1
                        try clear hcz170_0
                        try clear hcz170_1
                        try clear hcz170_2
                        try clear hcz172_0
                        try clear hcz172_1
                        try clear hcz184_0
                        try clear hcz184_1
                        try clear hcz184_2
                        try clear hcz186_0
                        try clear hcz186_1
                        try clear hcz186_2
                        try clear hcz188_0
                        try clear hcz188_1
                        try clear hcz188_2
                        try clear hfz164_0
                        try clear hfz164_1
                        try clear hfz167_0
                        try clear hfz167_1
                        try clear hfz167_2
                        try clear hfz169_0
                        try clear hfz169_1
                        try clear hfz170_0
                        try clear hfz170_1
                        try clear hfz170_2
                        try clear hfz172_0
                        try clear hfz172_1
                        try clear hfz184_0
                        try clear hfz184_1
                        try clear hfz184_2
                        try clear hfz186_0
                        try clear hfz186_1
                        try clear hfz186_2
                        try clear hfz188_0
                        try clear hfz188_1
                        try clear hfz188_2
                        obtain ⟨kq, x179_174, rfl, HA, HJ174, BK1637, BK1654, HB⟩ := hcut
                        cases kq with
                        | zero => exact absurd HA.out (by simp [Lw_LineReached.j5])
                        | succ kj174 =>
                          have H := HA.out
                          clear HA
                          simp only [Lw_LineReached.j5] at H
                          by_cases c189 : x179_174 = true
                          · subst c189
                            rw [if_pos rfl] at H
                            exact absurd H (by simp)
                          · replace c189 := Bool.eq_false_iff.mpr c189
                            subst c189
                            rw [if_neg (show ¬ (false = true) by decide)] at H
                            have HC190 := m0 H
                            clear H
                            go_upto_region 27 with (fail)
                            go_cut [185] (fun v185 wc => ∃ (kq : Nat) (x185_189 : Bool), v185 = .bool x185_189 ∧ Aside0 (Lw_LineReached.j6 kq a1 t1657 x8_3 x185_189 l0_0 l0_1 a0_2 a0_3 t1650 t1651 t1652 = some r) ∧ Aside0 (kq ≤ kj174) ∧ Aside0 (wc.heap[gb1637]? = some (.cells #[(.slice A0_0 l0_0.length c0_0), (.slice A0_1 l0_1.length c0_1), .int .i64 a0_2, .int .i64 a0_3] 28 (0, 0))) ∧ Aside0 (wc.heap[gb1654]? = some (.cells #[.int .i64 t1650, .int .i64 t1651, .int .i64 t1652] 36 (0, 0))) ∧ Aside0 (Below w.heap.size w wc))
                            case first =>
                              have H := HC190.out
                              clear HC190
                              by_cases c191 : a1 = 0
                              · rw [if_pos c191] at H
                                have c191b0 := beq_iff_eq.mpr c191
                                have c191b1 := bne_eq_false_iff_eq.mpr c191
                                clear c191
                                (first | rw [c191b0] | (simp only [i64_w, i32_w]; rw [c191b0]) | skip)
                                have H' := m0 H
                                clear H
                                go_wp2
                                go_meet
                                case rel => exact ⟨_, (false), (by first | rfl | (simp; done) | (simp [*]; done)), H', ⟨by have := HJ4.out; have := HJ25.out; have := HK3.out; have := HJ174.out; first | omega | exact Nat.le_refl _⟩, ⟨bk BK1637.out⟩, ⟨bk BK1654.out⟩, ⟨bz⟩⟩
                              · rw [if_neg c191] at H
                                have c191b0 := beq_eq_false_iff_ne.mpr c191
                                have c191b1 := bne_iff_ne.mpr c191
                                (first | rw [c191b0] | (simp only [i64_w, i32_w]; rw [c191b0]) | skip)
                                have H' := m0 H
                                clear H
                                go_wp2
                                go_meet
                                case rel => exact ⟨_, ((a1 != 3)), (by first | rfl | (simp; done) | (simp [*]; done)), H', ⟨by have := HJ4.out; have := HJ25.out; have := HK3.out; have := HJ174.out; first | omega | exact Nat.le_refl _⟩, ⟨bk BK1637.out⟩, ⟨bk BK1654.out⟩, ⟨bz⟩⟩
                            case rest =>
                              as_aux_lemma =>
                              clear HC190
                              try clear c1
                              try clear c2
                              try clear p2
                              try clear c3
                              try clear c4
                              try clear c5
                              try clear c6
                              try clear p6
                              try clear c16
                              try clear c17
                              try clear c18
                              try clear c19
                              try clear c21
                              try clear c37
                              try clear c40
                              try clear c41
                              try clear c59
                              try clear c59b0
                              try clear p64
                              try clear c69
                              try clear c161
                              try clear c162
                              try clear c163
                              try clear c165
                              try clear c166
                              try clear c171
                              try clear c181
                              try clear c181b0
                              try clear c181b1
                              try clear c182
                              try clear c182b0
                              try clear c182b1
                              try clear c183
                              try clear c185
                              try clear c187
                              try clear c189
                              try clear c191
                              try clear c191b0
                              try clear c191b1
                              try clear hcz164_0
                              try clear hcz164_1
                              try clear hcz167_0
                              try clear hcz167_1
                              try clear hcz167_2
                              try clear hcz169_0
                              try clear hcz169_1
                              try clear hcz170_0
                              try clear hcz170_1
                              try clear hcz170_2
                              try clear hcz172_0
                              try clear hcz172_1
                              try clear hcz184_0
                              try clear hcz184_1
                              try clear hcz184_2
                              try clear hcz186_0
                              try clear hcz186_1
                              try clear hcz186_2
                              try clear hcz188_0
                              try clear hcz188_1
                              try clear hcz188_2
                              try clear hfz164_0
                              try clear hfz164_1
                              try clear hfz167_0
                              try clear hfz167_1
                              try clear hfz167_2
                              try clear hfz169_0
                              try clear hfz169_1
                              try clear hfz170_0
                              try clear hfz170_1
                              try clear hfz170_2
                              try clear hfz172_0
                              try clear hfz172_1
                              try clear hfz184_0
                              try clear hfz184_1
                              try clear hfz184_2
                              try clear hfz186_0
                              try clear hfz186_1
                              try clear hfz186_2
                              try clear hfz188_0
                              try clear hfz188_1
                              try clear hfz188_2
                              try clear p2
                              try clear p6
                              try clear p64
                              obtain ⟨kq, x185_189, rfl, HA, HJ189, BK1637, BK1654, HB⟩ := hcut
                              cases kq with
                              | zero => exact absurd HA.out (by simp [Lw_LineReached.j6])
                              | succ kj189 =>
                                have H := HA.out
                                clear HA
                                simp only [Lw_LineReached.j6] at H
                                by_cases c192 : x185_189 = true
                                · subst c192
                                  rw [if_pos rfl] at H
                                  obtain rfl := Option.some.inj H
                                  go_wp2
                                  go_ret
                                  exact ez
                                · replace c192 := Bool.eq_false_iff.mpr c192
                                  subst c192
                                  rw [if_neg (show ¬ (false = true) by decide)] at H
                                  replace H := ob H
                                  obtain ⟨⟨t1694, t1697, t1700, t1701⟩, A1930, H⟩ := H
                                  (try dsimp only at H)
                                  have A193 := m0 A1930
                                  clear A1930
                                  replace H := ob H
                                  obtain ⟨⟨t1702, t1703, t1704⟩, A1940, H⟩ := H
                                  (try dsimp only at H)
                                  have A194 := m0 A1940
                                  clear A1940
                                  by_cases c195 : t1704 = 0
                                  · rw [if_pos c195] at H
                                    have c195b0 := beq_iff_eq.mpr c195
                                    have c195b1 := bne_eq_false_iff_eq.mpr c195
                                    clear c195
                                    replace H := ob H
                                    obtain ⟨⟨t1706, t1707⟩, A1960, H⟩ := H
                                    (try dsimp only at H)
                                    have A196 := m0 A1960
                                    clear A1960
                                    by_cases c197 : (t1702 == t1706 && (t1703 == t1707)) = true
                                    · rw [if_pos c197] at H
                                      have c197b0 : (t1702 == t1706 && (t1703 == t1707)) = true := c197
                                      (try (have c197b1 : decide (t1702 = t1706 && (t1703 == t1707)) = true := by simpa using c197))
                                      (try (have c197b2 : (t1702 == t1706 && (t1703 == t1707)) = true := by simpa using c197))
                                      clear c197
                                      replace H := ob H
                                      obtain ⟨t1708, A1980, H⟩ := H
                                      (try dsimp only at H)
                                      have A198 := m0 A1980
                                      clear A1980
                                      replace H := ob H
                                      obtain ⟨⟨t1709, t1710⟩, A1990, H⟩ := H
                                      (try dsimp only at H)
                                      have A199 := m0 A1990
                                      clear A1990
                                      replace H := ob H
                                      obtain ⟨t1711, A2000, H⟩ := H
                                      (try dsimp only at H)
                                      have A200 := m0 A2000
                                      clear A2000
                                      obtain rfl := Option.some.inj H
                                      have hnb201 := NB1637_1654.out
                                      have hnc201 := NB1654_1637.out
                                      obtain ⟨_, _, _, _, _, _, _, _⟩ := b4 BK1637
                                      try go_wp2_with (first | ((with_reducible refine gate_callee (f := 21) rfl ?_); refine gl (some 188) Tryd.func21 #[.agg #[.slice A0_0 l0_0.length c0_0, .slice A0_1 l0_1.length c0_1, .int .i64 a0_2, .int .i64 a0_3]] ?_; (with_reducible refine (Rf_CopyCase.calls _ _ l0_0 _ _ l0_1 a0_2 a0_3 t1694 t1697 t1700 t1701 _ ?side1 ?side2 ?side3 ?side4 A193.out).mono ?_); (case side1 => exact cb HR0_0 HB); (case side2 => exact HC0_0.out); (case side3 => exact cb HR0_1 HB); (case side4 => exact HC0_1.out); rintro e w203 ⟨v1695, v1698, rfl, ho0, ho1, hb⟩; refine ⟨_, rfl, ?_⟩; have HO1696 := m0 (Kd.R_lower ho0 (below_size bz)); have HO1699 := m0 (Kd.R_lower ho1 (below_size bz)); replace BK1637 := bb BK1637 hb; replace BK1654 := bb BK1654 hb; replace HB := sb HB hb; (try clear hb); (try clear ho0); (try clear ho1); obtain ⟨Ao204, co204, eo204⟩ := Kd.R_slice HO1696.out; subst eo204; obtain ⟨Ao205, co205, eo205⟩ := Kd.R_slice HO1699.out; subst eo205) | ((with_reducible refine gate_callee (f := 20) rfl ?_); refine gl (some 190) Tryd.func20 #[.agg #[.slice Ao204 t1694.length co204, .slice Ao205 t1697.length co205, .int .i64 t1700, .int .i64 t1701], .int .i64 a1] ?_; (with_reducible refine (line_BiasOf.calls kj189 _ _ t1694 _ _ t1697 t1700 t1701 a1 t1702 t1703 t1704 _ ?side1 ?side2 ?side3 ?side4 ?side5 A194.out).mono ?_); (case side1 => exact bc (Kd.R_reads' HO1696.out).2.2); (case side2 => exact (Kd.R_reads' HO1696.out).2.1); (case side3 => exact bc (Kd.R_reads' HO1699.out).2.2); (case side4 => exact (Kd.R_reads' HO1699.out).2.1); (case side5 => exact EstG.below HG.out bz); rintro e w206 ⟨rfl, hb⟩; refine ⟨_, rfl, ?_⟩; replace HO1696 := rb HO1696 hb; replace HO1699 := rb HO1699 hb; replace BK1637 := bb BK1637 hb; replace BK1654 := bb BK1654 hb; replace HB := sb HB hb; (try clear hb)) | ((with_reducible refine gate_dst (N := 18) rfl ?_); (try (refine gate_guard (by rfl) ?_; dsimp only)); refine be 18 26 #[.int .i64 0, .int .i64 0] ?_; intro gb1705 hg w207 hbox hb; replace HO1696 := rb HO1696 hb; replace HO1699 := rb HO1699 hb; have BK1705 := m0 hbox; have GW1705 := m0 (bg (n := w.heap.size) hg); have GE1705 := m0 (bg (n := w.heap.size) hg); replace HB := sb HB hb; have NB1637_1705 := nl BK1637 hg; have NB1705_1637 := ng (nl BK1637 hg); replace BK1637 := bb BK1637 hb; have NB1654_1705 := nl BK1654 hg; have NB1705_1654 := ng (nl BK1654 hg); replace BK1654 := bb BK1654 hb; clear hb hbox hg; have hnb208 := NB1705_1637.out; have hnc208 := NB1637_1705.out; have hnb209 := NB1705_1654.out; have hnc209 := NB1654_1705.out; obtain ⟨_, _, _, _⟩ := b2 BK1705))
                                      have n0_ : Aside0 (Kd.R (Kd.int .i64) 3 ((w207.setCell ⟨gb1705, 0, none⟩ (.int .i64 t1702)).setCell ⟨gb1705, 1, none⟩ (.int .i64 t1703)) w.heap.size (fun k_ => some k_ ≠ (.slice Ao205 t1697.length co205 : Value).ownBlock) (.slice Ao204 t1694.length co204) t1694) := ⟨by (with_reducible repeat (first | apply Kd.R_alloc | apply Kd.R_drewN | apply Kd.R_drew)); exact Kd.R_mono (Kd.R_far (p := ⟨gb1705, 1, none⟩) (Kd.R_far (p := ⟨gb1705, 0, none⟩) (Kd.R_types HO1696.out BK1705.out (by decide)) (fun _ hk => hk.2) (.int .i64 t1702)) (fun _ hk => hk.2) (.int .i64 t1703)) (fun _ hk => hk.1)⟩
                                      have n1_ : Aside0 (Kd.R (Kd.int .i64) 3 ((w207.setCell ⟨gb1705, 0, none⟩ (.int .i64 t1702)).setCell ⟨gb1705, 1, none⟩ (.int .i64 t1703)) w.heap.size (fun k_ => some k_ ≠ (.slice Ao204 t1694.length co204 : Value).ownBlock) (.slice Ao205 t1697.length co205) t1697) := ⟨by (with_reducible repeat (first | apply Kd.R_alloc | apply Kd.R_drewN | apply Kd.R_drew)); exact Kd.R_mono (Kd.R_far (p := ⟨gb1705, 1, none⟩) (Kd.R_far (p := ⟨gb1705, 0, none⟩) (Kd.R_types HO1699.out BK1705.out (by decide)) (fun _ hk => hk.2) (.int .i64 t1702)) (fun _ hk => hk.2) (.int .i64 t1703)) (fun _ hk => hk.1)⟩
                                      have n2_ : Aside0 (((w207.setCell ⟨gb1705, 0, none⟩ (.int .i64 t1702)).setCell ⟨gb1705, 1, none⟩ (.int .i64 t1703)).heap[gb1637]? = some (.cells #[.slice A0_0 l0_0.length c0_0, .slice A0_1 l0_1.length c0_1, .int .i64 a0_2, .int .i64 a0_3] 28 (0, 0))) := ⟨bq BK1637.out⟩
                                      have n3_ : Aside0 (((w207.setCell ⟨gb1705, 0, none⟩ (.int .i64 t1702)).setCell ⟨gb1705, 1, none⟩ (.int .i64 t1703)).heap[gb1654]? = some (.cells #[.int .i64 t1650, .int .i64 t1651, .int .i64 t1652] 36 (0, 0))) := ⟨bq BK1654.out⟩
                                      have n4_ : Aside0 (((w207.setCell ⟨gb1705, 0, none⟩ (.int .i64 t1702)).setCell ⟨gb1705, 1, none⟩ (.int .i64 t1703)).heap[gb1705]? = some (.cells #[.int .i64 t1702, .int .i64 t1703] 26 (0, 0))) := ⟨bq BK1705.out⟩
                                      have n5_ : Aside0 (Below w.heap.size w ((w207.setCell ⟨gb1705, 0, none⟩ (.int .i64 t1702)).setCell ⟨gb1705, 1, none⟩ (.int .i64 t1703))) := ⟨bz⟩
                                      (try clear HO1696)
                                      (try clear HO1699)
                                      (try clear BK1637)
                                      (try clear BK1654)
                                      (try clear BK1705)
                                      (try clear HB)
                                      generalize ((w207.setCell ⟨gb1705, 0, none⟩ (.int .i64 t1702)).setCell ⟨gb1705, 1, none⟩ (.int .i64 t1703)) = w211 at n0_ n1_ n2_ n3_ n4_ n5_ ⊢
                                      have HO1696 := n0_
                                      have HO1699 := n1_
                                      have BK1637 := n2_
                                      have BK1654 := n3_
                                      have BK1705 := n4_
                                      have HB := n5_
                                      clear n0_ n1_ n2_ n3_ n4_ n5_
                                      replace HO1696 := m0 (Kd.R_drew HO1696.out); replace HO1699 := m0 (Kd.R_drew HO1699.out); replace BK1637 := bd BK1637; replace BK1654 := bd BK1654; replace BK1705 := bd BK1705; replace HB := sd HB
                                      refine start_ (n := 36) (S := fun w' => w'.cell? ⟨gb1705, 0, none⟩ = some (.int .i64 t1702) ∧ w'.cell? ⟨gb1705, 1, none⟩ = some (.int .i64 t1703) ∧ w'.cell? ⟨gb1637, 0, none⟩ = some (.slice A0_0 l0_0.length c0_0) ∧ w'.cell? ⟨gb1637, 1, none⟩ = some (.slice A0_1 l0_1.length c0_1) ∧ w'.cell? ⟨gb1637, 2, none⟩ = some (.int .i64 a0_2) ∧ w'.cell? ⟨gb1637, 3, none⟩ = some (.int .i64 a0_3) ∧ w'.cell? ⟨gb1654, 0, none⟩ = some (.int .i64 t1650) ∧ w'.cell? ⟨gb1654, 1, none⟩ = some (.int .i64 t1651) ∧ w'.cell? ⟨gb1654, 2, none⟩ = some (.int .i64 t1652)) (ds := []) #[false, false, false, false, false, false, false, false, false, false, false, false, false, false, false, false, false, false, false, false, false, false, false, false, false, false, false, false, false, false, false, false, false, false, false, false] (by kernel_rfl) rfl rfl cz (fun hHeld => ?_); refine with_tabW Lw_LineReached.tab30 Lw_LineReached.bits30 (fun HT_ HW_ => ?_)
                                      generalize w211.drew = w212 at HO1696 HO1699 BK1637 BK1654 BK1705 HB hHeld ⊢
                                      refine pureZ (i := 0) (N := some 193) (bs 36 1) HT_ ?_
                                      refine pureZ (i := 1) (N := some 194) (bs 36 3) HT_ ?_
                                      refine pureZ (i := 2) (N := some 195) (bs 36 7) HT_ ?_
                                      refine pureZ (i := 4) (N := some 197) (bs 36 23) HT_ ?_
                                      refine pureZ (i := 5) (N := some 198) (bs 36 55) HT_ ?_
                                      refine pureZ (i := 6) (N := some 199) (bs 36 119) HT_ ?_
                                      refine pureZ (i := 9) (N := some 202) (bs 36 631) HT_ ?_
                                      refine pureZ (i := 10) (N := some 203) (bs 36 1655) HT_ ?_
                                      refine pureZ (i := 12) (N := some 205) (bs 36 5751) HT_ ?_
                                      refine pureZ (i := 15) (N := some 208) (bs 36 38519) HT_ ?_
                                      refine pureZ (i := 16) (N := some 209) (bs 36 104055) HT_ ?_
                                      refine pureZ (i := 17) (N := some 210) (bs 36 235127) HT_ ?_
                                      refine takeZ 3 (some 196) (bs 36 235135) (take_ofW HT_.out HW_.out (by kernel_rfl)) hHeld ?_
                                      refine takeZ 7 (some 200) (bs 36 235263) (take_ofW HT_.out HW_.out (by kernel_rfl)) hHeld ?_
                                      refine pureZ (i := 8) (N := some 201) (bs 36 235519) HT_ ?_
                                      refine takeZ 11 (some 204) (bs 36 237567) (take_ofW HT_.out HW_.out (by kernel_rfl)) hHeld ?_
                                      refine pureZ (i := 13) (N := some 206) (bs 36 245759) HT_ ?_
                                      refine pureZ (i := 14) (N := some 207) (bs 36 262143) HT_ ?_
                                      refine takeZ 18 (some 211) (bs 36 524287) (take_ofW HT_.out HW_.out (by kernel_rfl)) hHeld ?_
                                      refine pureZ (i := 19) (N := some 212) (bs 36 1048575) HT_ ?_
                                      refine oneZ 20 (some 213) (bs 36 2097151) (one_of HT_.out (by kernel_rfl)) fun K hK => ?_
                                      refine goes_ Tryd.func41 (by kernel_rfl) rfl #[.int .i64 (wrap64 ((wrap64 (x8_3 * a0_3)) - (wrap64 (a0_2 * t1657)))), .int .i64 (wrap64 (t1657 * a0_3))] (by rfl) rfl rfl mz ?_
                                      with_reducible refine (Bs_Lowest.calls kj189 (wrap64 ((wrap64 (x8_3 * a0_3)) - (wrap64 (a0_2 * t1657)))) (wrap64 (t1657 * a0_3)) t1706 t1707 _ A196.out).mono ?_
                                      rintro e w213 ⟨rfl, hb⟩
                                      refine ⟨_, rfl, ?_⟩
                                      replace HO1696 := rb HO1696 hb; replace HO1699 := rb HO1699 hb; replace BK1637 := bb BK1637 hb; replace BK1654 := bb BK1654 hb; replace BK1705 := bb BK1705 hb; replace HB := sb HB hb
                                      (try clear hb)
                                      refine hK.out _ _ cz (fun hHeld => ?_)
                                      clear hK K
                                      refine norm_ (a' := ?_) ?_ ?_
                                      rotate_left
                                      · show Act.put _ (some 213) _ = _
                                        exact pz
                                      refine pureZ (i := 21) (N := some 214) (bs 36 4194303) HT_ ?_
                                      refine pureZ (i := 22) (N := some 215) (bs 36 8388607) HT_ ?_
                                      refine pureZ (i := 23) (N := some 216) (bs 36 16777215) HT_ ?_
                                      refine pureZ (i := 24) (N := some 217) (bs 36 33554431) HT_ ?_
                                      refine pureZ (i := 27) (N := some 220) (bs 36 167772159) HT_ ?_
                                      refine pureZ (i := 30) (N := some 223) (bs 36 1241513983) HT_ ?_
                                      refine takeZ 25 (some 218) (bs 36 1275068415) (take_ofW HT_.out HW_.out (by kernel_rfl)) hHeld ?_
                                      refine takeZ 28 (some 221) (bs 36 1543503871) (take_ofW HT_.out HW_.out (by kernel_rfl)) hHeld ?_
                                      refine takeZ 31 (some 224) (bs 36 3690987519) (take_ofW HT_.out HW_.out (by kernel_rfl)) hHeld ?_
                                      refine oneZ 26 (some 219) (bs 36 3758096383) (one_of HT_.out (by kernel_rfl)) fun K hK => ?_
                                      refine goes_ Tryd.func40 (by kernel_rfl) rfl #[.int .i64 t1702] (by rfl) rfl rfl mz ?_
                                      with_reducible refine (Bs_Size.calls t1702 t1708 _ A198.out).mono ?_
                                      rintro e w214 ⟨rfl, hb⟩
                                      refine ⟨_, rfl, ?_⟩
                                      replace HO1696 := rb HO1696 hb; replace HO1699 := rb HO1699 hb; replace BK1637 := bb BK1637 hb; replace BK1654 := bb BK1654 hb; replace BK1705 := bb BK1705 hb; replace HB := sb HB hb
                                      (try clear hb)
                                      refine hK.out _ _ cz (fun hHeld => ?_)
                                      clear hK K
                                      refine norm_ (a' := ?_) ?_ ?_
                                      rotate_left
                                      · show Act.put _ (some 219) _ = _
                                        exact pz
                                      refine oneZ 29 (some 222) (bs 36 4294967295) (one_of HT_.out (by kernel_rfl)) fun K hK => ?_
                                      refine goes_ Tryd.func41 (by kernel_rfl) rfl #[.int .i64 t1708, .int .i64 t1703] (by rfl) rfl rfl mz ?_
                                      with_reducible refine (Bs_Lowest.calls kj189 t1708 t1703 t1709 t1710 _ A199.out).mono ?_
                                      rintro e w215 ⟨rfl, hb⟩
                                      refine ⟨_, rfl, ?_⟩
                                      replace HO1696 := rb HO1696 hb; replace HO1699 := rb HO1699 hb; replace BK1637 := bb BK1637 hb; replace BK1654 := bb BK1654 hb; replace BK1705 := bb BK1705 hb; replace HB := sb HB hb
                                      (try clear hb)
                                      refine hK.out _ _ cz (fun hHeld => ?_)
                                      clear hK K
                                      refine norm_ (a' := ?_) ?_ ?_
                                      rotate_left
                                      · show Act.put _ (some 222) _ = _
                                        exact pz
                                      refine oneZ 32 (some 225) (bs 36 8589934591) (one_of HT_.out (by kernel_rfl)) fun K hK => ?_
                                      refine goes_ Tryd.func37 (by kernel_rfl) rfl #[.agg #[.int .i64 t1709, .int .i64 t1710], .agg #[.int .i64 t1650, .int .i64 t1651]] (by rfl) rfl rfl mz ?_
                                      with_reducible refine (Bs_Cmp.calls t1709 t1710 t1650 t1651 t1711 _ A200.out).mono ?_
                                      rintro e w216 ⟨rfl, hb⟩
                                      refine ⟨_, rfl, ?_⟩
                                      replace HO1696 := rb HO1696 hb; replace HO1699 := rb HO1699 hb; replace BK1637 := bb BK1637 hb; replace BK1654 := bb BK1654 hb; replace BK1705 := bb BK1705 hb; replace HB := sb HB hb
                                      (try clear hb)
                                      refine hK.out _ _ cz (fun hHeld => ?_)
                                      clear hK K
                                      refine norm_ (a' := ?_) ?_ ?_
                                      rotate_left
                                      · show Act.put _ (some 225) _ = _
                                        exact pz
                                      refine pureZ (i := 33) (N := some 226) (bs 36 17179869183) HT_ ?_
                                      refine pureZ (i := 34) (N := some 227) (bs 36 34359738367) HT_ ?_
                                      refine pureZ (i := 35) (N := some 4) (bs 36 68719476735) HT_ ?_
                                      refine done_ (done_of HT_.out (by kernel_rfl)) ?_
                                      try go_wp2
                                      go_ret
                                      exact ez
                                    · rw [if_neg c197] at H
                                      have c197b0 : (t1702 == t1706 && (t1703 == t1707)) = false := by simpa using c197
                                      (try (have c197b1 : decide (t1702 = t1706 && (t1703 == t1707)) = false := by simpa using c197))
                                      (try (have c197b2 : (t1702 == t1706 && (t1703 == t1707)) = false := by simpa using c197))
                                      (try (have c197b3 : ¬ (t1702 = t1706 && (t1703 == t1707)) := by simpa using c197))
                                      clear c197
                                      exact absurd H (by simp)
                                  · rw [if_neg c195] at H
                                    have c195b0 := beq_eq_false_iff_ne.mpr c195
                                    have c195b1 := bne_iff_ne.mpr c195
                                    exact absurd H (by simp)
  · replace c4 := Bool.eq_false_iff.mpr c4
    subst c4
    rw [if_neg (show ¬ (false = true) by decide)] at H
    exact absurd H (by simp)
end Go.Proofs.YtjnkphmcndaijaaDoor.A
