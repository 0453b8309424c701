/- Walks of the program's functions (printed, made shorter), each with what it computes. -/
import Derived.Test.YtjnkphmcndaijaaDoorKep04
import Derived.Test.YtjnkphmcndaijaaDoorKep06
import Derived.Test.YtjnkphmcndaijaaDoorKep13
import Derived.Test.YtjnkphmcndaijaaDoorKep14
import Derived.Test.YtjnkphmcndaijaaDoorKep16
import Derived.Test.YtjnkphmcndaijaaDoorKep03
namespace Go.Proofs.YtjnkphmcndaijaaDoor.A
set_option maxHeartbeats 8000000
set_option maxRecDepth 100000
open Go.RowKit Go.Proofs.YtjnkphmcndaijaaDoorW.PrintWords Go.Proofs.YtjnkphmcndaijaaDoorW.PrintLast Go.Proofs.YtjnkphmcndaijaaDoorW.PrintMore
attribute [local go_sem] max2_int min2_int max_two min_two max_three min_three max_four min_four
set_option linter.unusedVariables false
set_option linter.unusedSimpArgs false
attribute [local go_sem high] eqA26
mutual
def Lw_LineKept.j0 : Nat → Int → Int → Bool → List Int → List Int → Int → Int → Option (Bool)
  | 0, _, _, _, _, _, _, _ => none
  | k + 1, x1, x2, x51, x1983000, x1983001, x1983002, x1983003 => if x51 = true then (some true) else ((Rf_CopyNoise.f x1983001).bind fun t1989 => ((line_ThresholdFor.f k t1989 (x1983000.length : Int) x2).bind fun bt1992 => (if bt1992.2 = 0 then ((Rf_ThresholdErr.f bt1992.1).bind fun t1994 => (Lw_LineKept.j1 k x1 x2 (x1983000.length : Int) bt1992.1 (t1994 != 0) x1983000 x1983001 x1983002 x1983003)) else (Lw_LineKept.j1 k x1 x2 (x1983000.length : Int) bt1992.1 true x1983000 x1983001 x1983002 x1983003))))
def Lw_LineKept.j1 : Nat → Int → Int → Int → Int → Bool → List Int → List Int → Int → Int → Option (Bool)
  | 0, _, _, _, _, _, _, _, _, _ => none
  | k + 1, x1, x2, x7, x8, x70, x1983000, x1983001, x1983002, x1983003 => if x70 = true then (none) else ((Rf_CopyNoise.f x1983001).bind fun t1995 => ((line_FalseRate.f k t1995 x7 x8).bind fun bt1998 => (if bt1998.2.2 = 0 then ((Lw_part.f k bt1998.1 bt1998.2.1).bind fun t2002 => (if t2002 = true then (Lw_LineKept.j2 k x1 x2 x7 x8 (decide ((wrap64 (1000 * bt1998.1)) > (wrap64 (x2 * bt1998.2.1)))) x1983000 x1983001 x1983002 x1983003) else (Lw_LineKept.j2 k x1 x2 x7 x8 true x1983000 x1983001 x1983002 x1983003))) else (Lw_LineKept.j2 k x1 x2 x7 x8 true x1983000 x1983001 x1983002 x1983003))))
def Lw_LineKept.j2 : Nat → Int → Int → Int → Int → Bool → List Int → List Int → Int → Int → Option (Bool)
  | 0, _, _, _, _, _, _, _, _, _ => none
  | k + 1, x1, x2, x7, x8, x96, x1983000, x1983001, x1983002, x1983003 => if x96 = true then (none) else (if x8 > 0 then ((Rf_CopyNoise.f x1983001).bind fun t2003 => ((line_FalseRate.f k t2003 x7 (wrap64 (x8 - 1))).bind fun bt2006 => (if bt2006.2.2 = 0 then ((Lw_part.f k bt2006.1 bt2006.2.1).bind fun t2010 => (if t2010 = true then (if (wrap64 (1000 * bt2006.1)) ≤ (wrap64 (x2 * bt2006.2.1)) then (none) else (Lw_LineKept.j3 k x1 x7 x1983000 x1983001 x1983002 x1983003)) else (none))) else (none)))) else (Lw_LineKept.j3 k x1 x7 x1983000 x1983001 x1983002 x1983003))
def Lw_LineKept.j3 : Nat → Int → Int → List Int → List Int → Int → Int → Option (Bool)
  | 0, _, _, _, _, _, _ => none
  | k + 1, x1, x7, x1983000, x1983001, x1983002, x1983003 => (Rf_CopyNoise.f x1983001).bind fun t2011 => ((line_FalseRate.f k t2011 x7 x1).bind fun bt2014 => ((Rf_CopyNoise.f x1983001).bind fun t2018 => ((line_FalseRate.f k t2018 x7 (wrap64 (x1 + 1))).bind fun bt2021 => ((Rf_CopyCase.f x1983000 x1983001 x1983002 x1983003).bind fun bt2025 => ((line_DetectedRate.f k bt2025.1 bt2025.2.1 bt2025.2.2.1 bt2025.2.2.2 x1).bind fun bt2033 => (if bt2014.2.2 = 0 then (if bt2021.2.2 = 0 then (if bt2033.2.2 = 0 then ((Lw_part.f k bt2014.1 bt2014.2.1).bind fun t2037 => (if t2037 = true then ((Lw_part.f k bt2021.1 bt2021.2.1).bind fun t2038 => (if t2038 = true then ((Lw_part.f k bt2033.1 bt2033.2.1).bind fun t2039 => (if t2039 = true then ((Bs_Cmp.f bt2021.1 bt2021.2.1 bt2014.1 bt2014.2.1).bind fun t2040 => (if t2040 > 0 then (Lw_LineKept.j4 k x1 x7 true x1983000 x1983001 x1983002 x1983003 bt2033.1 bt2033.2.1) else ((Bs_Cmp.f bt2033.1 bt2033.2.1 bt2014.1 bt2014.2.1).bind fun t2041 => (Lw_LineKept.j4 k x1 x7 (decide (t2041 < 0)) x1983000 x1983001 x1983002 x1983003 bt2033.1 bt2033.2.1)))) else (Lw_LineKept.j4 k x1 x7 true x1983000 x1983001 x1983002 x1983003 bt2033.1 bt2033.2.1))) else (Lw_LineKept.j4 k x1 x7 true x1983000 x1983001 x1983002 x1983003 bt2033.1 bt2033.2.1))) else (Lw_LineKept.j4 k x1 x7 true x1983000 x1983001 x1983002 x1983003 bt2033.1 bt2033.2.1))) else (Lw_LineKept.j4 k x1 x7 true x1983000 x1983001 x1983002 x1983003 bt2033.1 bt2033.2.1)) else (Lw_LineKept.j4 k x1 x7 true x1983000 x1983001 x1983002 x1983003 bt2033.1 bt2033.2.1)) else (Lw_LineKept.j4 k x1 x7 true x1983000 x1983001 x1983002 x1983003 bt2033.1 bt2033.2.1)))))))
def Lw_LineKept.j4 : Nat → Int → Int → Bool → List Int → List Int → Int → Int → Int → Int → Option (Bool)
  | 0, _, _, _, _, _, _, _, _, _ => none
  | k + 1, x1, x7, x188, x1983000, x1983001, x1983002, x1983003, x2037000, x2037001 => if x188 = true then (none) else ((Rf_Cases.f k x1983001 x7).bind fun t2042 => (Lw_LineKept.l0 k x1 x7 0 t2042 0 x1983000 x1983001 x1983002 x1983003 x2037000 x2037001))
def Lw_LineKept.l0 : Nat → Int → Int → Int → Int → Int → List Int → List Int → Int → Int → Int → Int → Option (Bool)
  | 0, _, _, _, _, _, _, _, _, _, _, _ => none
  | k + 1, x1, x7, x20, x21, x22, x1983000, x1983001, x1983002, x1983003, x2037000, x2037001 => if x22 < x21 then ((Rf_CopyCase.f x1983000 x1983001 x1983002 x1983003).bind fun bt2045 => ((line_Noisy.f k bt2045.1 bt2045.2.1 bt2045.2.2.1 bt2045.2.2.2 x22).bind fun bt2053 => (if bt2053.2 = 0 then (Lw_LineKept.j6 k x1 x7 x20 x21 x22 bt2053.1 ((bt2053.1.length : Int) != x7) x1983000 x1983001 x1983002 x1983003 x2037000 x2037001) else (Lw_LineKept.j6 k x1 x7 x20 x21 x22 bt2053.1 true x1983000 x1983001 x1983002 x1983003 x2037000 x2037001)))) else ((Bs_Lowest.f k x20 x21).bind fun bt2043 => (some (x2037000 == bt2043.1 && (x2037001 == bt2043.2))))
def Lw_LineKept.j6 : Nat → Int → Int → Int → Int → Int → List Int → Bool → List Int → List Int → Int → Int → Int → Int → Option (Bool)
  | 0, _, _, _, _, _, _, _, _, _, _, _, _, _ => none
  | k + 1, x1, x7, x20, x21, x22, x23, x212, x1983000, x1983001, x1983002, x1983003, x2037000, x2037001 => if x212 = true then (none) else (Lw_LineKept.l1 k x1 x7 x20 x21 x22 x23 false 0 x1983000 x1983001 x1983002 x1983003 x2037000 x2037001)
def Lw_LineKept.l1 : Nat → Int → Int → Int → Int → Int → List Int → Bool → Int → List Int → List Int → Int → Int → Int → Int → Option (Bool)
  | 0, _, _, _, _, _, _, _, _, _, _, _, _, _, _ => none
  | k + 1, x1, x7, x20, x21, x22, x23, x25, x26, x1983000, x1983001, x1983002, x1983003, x2037000, x2037001 => if x26 < x7 then (if x25 = true then (Lw_LineKept.l1 k x1 x7 x20 x21 x22 x23 true (wrap64 (x26 + 1)) x1983000 x1983001 x1983002 x1983003 x2037000 x2037001) else (if 0 ≤ x26 then (if x26 < (x23.length : Int) then (Lw_LineKept.l1 k x1 x7 x20 x21 x22 x23 (decide ((rd x23 x26) ≥ x1)) (wrap64 (x26 + 1)) x1983000 x1983001 x1983002 x1983003 x2037000 x2037001) else (none)) else (none))) else (if x25 = true then (Lw_LineKept.l0 k x1 x7 (wrap64 (x20 + 1)) x21 (wrap64 (x22 + 1)) x1983000 x1983001 x1983002 x1983003 x2037000 x2037001) else (Lw_LineKept.l0 k x1 x7 x20 x21 (wrap64 (x22 + 1)) x1983000 x1983001 x1983002 x1983003 x2037000 x2037001))
end
def Lw_LineKept.f (k : Nat) (l0_0 : List Int) (l0_1 : List Int) (a0_2 : Int) (a0_3 : Int) (a1 : Int) (a2 : Int) : Option (Bool) := (Lw_awake.f k).bind fun t1983 => (if t1983 = true then ((Lw_light.f k l0_0 l0_1 a0_2 a0_3).bind fun t1984 => (if t1984 = true then ((Rf_CaseErr.f k l0_0 l0_1 a0_2 a0_3).bind fun t1985 => (if t1985 = 0 then ((Rf_ThresholdErr.f a1).bind fun t1986 => (if t1986 = 0 then ((Bs_Within.f a1 0 10999).bind fun t1987 => (if t1987 = true then ((Bs_Within.f a2 0 1000).bind fun t1988 => (Lw_LineKept.j0 k a1 a2 (!t1988) l0_0 l0_1 a0_2 a0_3)) else (Lw_LineKept.j0 k a1 a2 true l0_0 l0_1 a0_2 a0_3))) else (Lw_LineKept.j0 k a1 a2 true l0_0 l0_1 a0_2 a0_3))) else (Lw_LineKept.j0 k a1 a2 true l0_0 l0_1 a0_2 a0_3))) else (Lw_LineKept.j0 k a1 a2 true l0_0 l0_1 a0_2 a0_3))) else (none))
theorem Lw_LineKept.mono_l : ∀ k, (∀ y0 y1 y2 y3 y4 y5 y6, LeO (Lw_LineKept.j0 k y0 y1 y2 y3 y4 y5 y6) (Lw_LineKept.j0 (k + 1) y0 y1 y2 y3 y4 y5 y6)) ∧ (∀ y0 y1 y2 y3 y4 y5 y6 y7 y8, LeO (Lw_LineKept.j1 k y0 y1 y2 y3 y4 y5 y6 y7 y8) (Lw_LineKept.j1 (k + 1) y0 y1 y2 y3 y4 y5 y6 y7 y8)) ∧ (∀ y0 y1 y2 y3 y4 y5 y6 y7 y8, LeO (Lw_LineKept.j2 k y0 y1 y2 y3 y4 y5 y6 y7 y8) (Lw_LineKept.j2 (k + 1) y0 y1 y2 y3 y4 y5 y6 y7 y8)) ∧ (∀ y0 y1 y2 y3 y4 y5, LeO (Lw_LineKept.j3 k y0 y1 y2 y3 y4 y5) (Lw_LineKept.j3 (k + 1) y0 y1 y2 y3 y4 y5)) ∧ (∀ y0 y1 y2 y3 y4 y5 y6 y7 y8, LeO (Lw_LineKept.j4 k y0 y1 y2 y3 y4 y5 y6 y7 y8) (Lw_LineKept.j4 (k + 1) y0 y1 y2 y3 y4 y5 y6 y7 y8)) ∧ (∀ y0 y1 y2 y3 y4 y5 y6 y7 y8 y9 y10, LeO (Lw_LineKept.l0 k y0 y1 y2 y3 y4 y5 y6 y7 y8 y9 y10) (Lw_LineKept.l0 (k + 1) y0 y1 y2 y3 y4 y5 y6 y7 y8 y9 y10)) ∧ (∀ y0 y1 y2 y3 y4 y5 y6 y7 y8 y9 y10 y11 y12, LeO (Lw_LineKept.j6 k y0 y1 y2 y3 y4 y5 y6 y7 y8 y9 y10 y11 y12) (Lw_LineKept.j6 (k + 1) y0 y1 y2 y3 y4 y5 y6 y7 y8 y9 y10 y11 y12)) ∧ (∀ y0 y1 y2 y3 y4 y5 y6 y7 y8 y9 y10 y11 y12 y13, LeO (Lw_LineKept.l1 k y0 y1 y2 y3 y4 y5 y6 y7 y8 y9 y10 y11 y12 y13) (Lw_LineKept.l1 (k + 1) y0 y1 y2 y3 y4 y5 y6 y7 y8 y9 y10 y11 y12 y13))
  | 0 => ⟨fun _ _ _ _ _ _ _ r h => by simp [Lw_LineKept.j0] at h, fun _ _ _ _ _ _ _ _ _ r h => by simp [Lw_LineKept.j1] at h, fun _ _ _ _ _ _ _ _ _ r h => by simp [Lw_LineKept.j2] at h, fun _ _ _ _ _ _ r h => by simp [Lw_LineKept.j3] at h, fun _ _ _ _ _ _ _ _ _ r h => by simp [Lw_LineKept.j4] at h, fun _ _ _ _ _ _ _ _ _ _ _ r h => by simp [Lw_LineKept.l0] at h, fun _ _ _ _ _ _ _ _ _ _ _ _ _ r h => by simp [Lw_LineKept.j6] at h, fun _ _ _ _ _ _ _ _ _ _ _ _ _ _ r h => by simp [Lw_LineKept.l1] at h⟩
  | k + 1 => by
    obtain ⟨ih0, ih1, ih2, ih3, ih4, ih5, ih6, ih7⟩ := Lw_LineKept.mono_l k
    refine ⟨?_, ?_, ?_, ?_, ?_, ?_, ?_, ?_⟩
    · intro y0 y1 y2 y3 y4 y5 y6
      unfold Lw_LineKept.j0
      repeat' first
      | (with_reducible exact ih0 _ _ _ _ _ _ _)
      | (with_reducible exact ih1 _ _ _ _ _ _ _ _ _)
      | (with_reducible exact ih2 _ _ _ _ _ _ _ _ _)
      | (with_reducible exact ih3 _ _ _ _ _ _)
      | (with_reducible exact ih4 _ _ _ _ _ _ _ _ _)
      | (with_reducible exact ih5 _ _ _ _ _ _ _ _ _ _ _)
      | (with_reducible exact ih6 _ _ _ _ _ _ _ _ _ _ _ _ _)
      | (with_reducible exact ih7 _ _ _ _ _ _ _ _ _ _ _ _ _ _)
      | (with_reducible exact Bs_Lowest.mono _ _ _)
      | (with_reducible exact Lw_awake.mono _)
      | (with_reducible exact Lw_light.mono _ _ _ _ _)
      | (with_reducible exact Lw_part.mono _ _ _)
      | (with_reducible exact Rf_CaseErr.mono _ _ _ _ _)
      | (with_reducible exact Rf_Cases.mono _ _ _)
      | (with_reducible exact line_DetectedRate.mono _ _ _ _ _ _)
      | (with_reducible exact line_FalseRate.mono _ _ _ _)
      | (with_reducible exact line_Noisy.mono _ _ _ _ _ _)
      | (with_reducible exact line_ThresholdFor.mono _ _ _ _)
      | (with_reducible exact LeO.refl _)
      | (with_reducible exact LeO.none _)
      | (with_reducible refine LeO.ite ?_ ?_)
      | (with_reducible refine LeO.bind ?_ (fun _ => ?_))
      | exact ih0 _ _ _ _ _ _ _
      | exact ih1 _ _ _ _ _ _ _ _ _
      | exact ih2 _ _ _ _ _ _ _ _ _
      | exact ih3 _ _ _ _ _ _
      | exact ih4 _ _ _ _ _ _ _ _ _
      | exact ih5 _ _ _ _ _ _ _ _ _ _ _
      | exact ih6 _ _ _ _ _ _ _ _ _ _ _ _ _
      | exact ih7 _ _ _ _ _ _ _ _ _ _ _ _ _ _
      | exact Bs_Lowest.mono _ _ _
      | exact Lw_awake.mono _
      | exact Lw_light.mono _ _ _ _ _
      | exact Lw_part.mono _ _ _
      | exact Rf_CaseErr.mono _ _ _ _ _
      | exact Rf_Cases.mono _ _ _
      | exact line_DetectedRate.mono _ _ _ _ _ _
      | exact line_FalseRate.mono _ _ _ _
      | exact line_Noisy.mono _ _ _ _ _ _
      | exact line_ThresholdFor.mono _ _ _ _
      | exact LeO.none _
      | refine LeO.ite ?_ ?_
      | refine LeO.bind ?_ (fun _ => ?_)
    · intro y0 y1 y2 y3 y4 y5 y6 y7 y8
      unfold Lw_LineKept.j1
      repeat' first
      | (with_reducible exact ih0 _ _ _ _ _ _ _)
      | (with_reducible exact ih1 _ _ _ _ _ _ _ _ _)
      | (with_reducible exact ih2 _ _ _ _ _ _ _ _ _)
      | (with_reducible exact ih3 _ _ _ _ _ _)
      | (with_reducible exact ih4 _ _ _ _ _ _ _ _ _)
      | (with_reducible exact ih5 _ _ _ _ _ _ _ _ _ _ _)
      | (with_reducible exact ih6 _ _ _ _ _ _ _ _ _ _ _ _ _)
      | (with_reducible exact ih7 _ _ _ _ _ _ _ _ _ _ _ _ _ _)
      | (with_reducible exact Bs_Lowest.mono _ _ _)
      | (with_reducible exact Lw_awake.mono _)
      | (with_reducible exact Lw_light.mono _ _ _ _ _)
      | (with_reducible exact Lw_part.mono _ _ _)
      | (with_reducible exact Rf_CaseErr.mono _ _ _ _ _)
      | (with_reducible exact Rf_Cases.mono _ _ _)
      | (with_reducible exact line_DetectedRate.mono _ _ _ _ _ _)
      | (with_reducible exact line_FalseRate.mono _ _ _ _)
      | (with_reducible exact line_Noisy.mono _ _ _ _ _ _)
      | (with_reducible exact line_ThresholdFor.mono _ _ _ _)
      | (with_reducible exact LeO.refl _)
      | (with_reducible exact LeO.none _)
      | (with_reducible refine LeO.ite ?_ ?_)
      | (with_reducible refine LeO.bind ?_ (fun _ => ?_))
      | exact ih0 _ _ _ _ _ _ _
      | exact ih1 _ _ _ _ _ _ _ _ _
      | exact ih2 _ _ _ _ _ _ _ _ _
      | exact ih3 _ _ _ _ _ _
      | exact ih4 _ _ _ _ _ _ _ _ _
      | exact ih5 _ _ _ _ _ _ _ _ _ _ _
      | exact ih6 _ _ _ _ _ _ _ _ _ _ _ _ _
      | exact ih7 _ _ _ _ _ _ _ _ _ _ _ _ _ _
      | exact Bs_Lowest.mono _ _ _
      | exact Lw_awake.mono _
      | exact Lw_light.mono _ _ _ _ _
      | exact Lw_part.mono _ _ _
      | exact Rf_CaseErr.mono _ _ _ _ _
      | exact Rf_Cases.mono _ _ _
      | exact line_DetectedRate.mono _ _ _ _ _ _
      | exact line_FalseRate.mono _ _ _ _
      | exact line_Noisy.mono _ _ _ _ _ _
      | exact line_ThresholdFor.mono _ _ _ _
      | exact LeO.none _
      | refine LeO.ite ?_ ?_
      | refine LeO.bind ?_ (fun _ => ?_)
    · intro y0 y1 y2 y3 y4 y5 y6 y7 y8
      unfold Lw_LineKept.j2
      repeat' first
      | (with_reducible exact ih0 _ _ _ _ _ _ _)
      | (with_reducible exact ih1 _ _ _ _ _ _ _ _ _)
      | (with_reducible exact ih2 _ _ _ _ _ _ _ _ _)
      | (with_reducible exact ih3 _ _ _ _ _ _)
      | (with_reducible exact ih4 _ _ _ _ _ _ _ _ _)
      | (with_reducible exact ih5 _ _ _ _ _ _ _ _ _ _ _)
      | (with_reducible exact ih6 _ _ _ _ _ _ _ _ _ _ _ _ _)
      | (with_reducible exact ih7 _ _ _ _ _ _ _ _ _ _ _ _ _ _)
      | (with_reducible exact Bs_Lowest.mono _ _ _)
      | (with_reducible exact Lw_awake.mono _)
      | (with_reducible exact Lw_light.mono _ _ _ _ _)
      | (with_reducible exact Lw_part.mono _ _ _)
      | (with_reducible exact Rf_CaseErr.mono _ _ _ _ _)
      | (with_reducible exact Rf_Cases.mono _ _ _)
      | (with_reducible exact line_DetectedRate.mono _ _ _ _ _ _)
      | (with_reducible exact line_FalseRate.mono _ _ _ _)
      | (with_reducible exact line_Noisy.mono _ _ _ _ _ _)
      | (with_reducible exact line_ThresholdFor.mono _ _ _ _)
      | (with_reducible exact LeO.refl _)
      | (with_reducible exact LeO.none _)
      | (with_reducible refine LeO.ite ?_ ?_)
      | (with_reducible refine LeO.bind ?_ (fun _ => ?_))
      | exact ih0 _ _ _ _ _ _ _
      | exact ih1 _ _ _ _ _ _ _ _ _
      | exact ih2 _ _ _ _ _ _ _ _ _
      | exact ih3 _ _ _ _ _ _
      | exact ih4 _ _ _ _ _ _ _ _ _
      | exact ih5 _ _ _ _ _ _ _ _ _ _ _
      | exact ih6 _ _ _ _ _ _ _ _ _ _ _ _ _
      | exact ih7 _ _ _ _ _ _ _ _ _ _ _ _ _ _
      | exact Bs_Lowest.mono _ _ _
      | exact Lw_awake.mono _
      | exact Lw_light.mono _ _ _ _ _
      | exact Lw_part.mono _ _ _
      | exact Rf_CaseErr.mono _ _ _ _ _
      | exact Rf_Cases.mono _ _ _
      | exact line_DetectedRate.mono _ _ _ _ _ _
      | exact line_FalseRate.mono _ _ _ _
      | exact line_Noisy.mono _ _ _ _ _ _
      | exact line_ThresholdFor.mono _ _ _ _
      | exact LeO.none _
      | refine LeO.ite ?_ ?_
      | refine LeO.bind ?_ (fun _ => ?_)
    · intro y0 y1 y2 y3 y4 y5
      unfold Lw_LineKept.j3
      repeat' first
      | (with_reducible exact ih0 _ _ _ _ _ _ _)
      | (with_reducible exact ih1 _ _ _ _ _ _ _ _ _)
      | (with_reducible exact ih2 _ _ _ _ _ _ _ _ _)
      | (with_reducible exact ih3 _ _ _ _ _ _)
      | (with_reducible exact ih4 _ _ _ _ _ _ _ _ _)
      | (with_reducible exact ih5 _ _ _ _ _ _ _ _ _ _ _)
      | (with_reducible exact ih6 _ _ _ _ _ _ _ _ _ _ _ _ _)
      | (with_reducible exact ih7 _ _ _ _ _ _ _ _ _ _ _ _ _ _)
      | (with_reducible exact Bs_Lowest.mono _ _ _)
      | (with_reducible exact Lw_awake.mono _)
      | (with_reducible exact Lw_light.mono _ _ _ _ _)
      | (with_reducible exact Lw_part.mono _ _ _)
      | (with_reducible exact Rf_CaseErr.mono _ _ _ _ _)
      | (with_reducible exact Rf_Cases.mono _ _ _)
      | (with_reducible exact line_DetectedRate.mono _ _ _ _ _ _)
      | (with_reducible exact line_FalseRate.mono _ _ _ _)
      | (with_reducible exact line_Noisy.mono _ _ _ _ _ _)
      | (with_reducible exact line_ThresholdFor.mono _ _ _ _)
      | (with_reducible exact LeO.refl _)
      | (with_reducible exact LeO.none _)
      | (with_reducible refine LeO.ite ?_ ?_)
      | (with_reducible refine LeO.bind ?_ (fun _ => ?_))
      | exact ih0 _ _ _ _ _ _ _
      | exact ih1 _ _ _ _ _ _ _ _ _
      | exact ih2 _ _ _ _ _ _ _ _ _
      | exact ih3 _ _ _ _ _ _
      | exact ih4 _ _ _ _ _ _ _ _ _
      | exact ih5 _ _ _ _ _ _ _ _ _ _ _
      | exact ih6 _ _ _ _ _ _ _ _ _ _ _ _ _
      | exact ih7 _ _ _ _ _ _ _ _ _ _ _ _ _ _
      | exact Bs_Lowest.mono _ _ _
      | exact Lw_awake.mono _
      | exact Lw_light.mono _ _ _ _ _
      | exact Lw_part.mono _ _ _
      | exact Rf_CaseErr.mono _ _ _ _ _
      | exact Rf_Cases.mono _ _ _
      | exact line_DetectedRate.mono _ _ _ _ _ _
      | exact line_FalseRate.mono _ _ _ _
      | exact line_Noisy.mono _ _ _ _ _ _
      | exact line_ThresholdFor.mono _ _ _ _
      | exact LeO.none _
      | refine LeO.ite ?_ ?_
      | refine LeO.bind ?_ (fun _ => ?_)
    · intro y0 y1 y2 y3 y4 y5 y6 y7 y8
      unfold Lw_LineKept.j4
      repeat' first
      | (with_reducible exact ih0 _ _ _ _ _ _ _)
      | (with_reducible exact ih1 _ _ _ _ _ _ _ _ _)
      | (with_reducible exact ih2 _ _ _ _ _ _ _ _ _)
      | (with_reducible exact ih3 _ _ _ _ _ _)
      | (with_reducible exact ih4 _ _ _ _ _ _ _ _ _)
      | (with_reducible exact ih5 _ _ _ _ _ _ _ _ _ _ _)
      | (with_reducible exact ih6 _ _ _ _ _ _ _ _ _ _ _ _ _)
      | (with_reducible exact ih7 _ _ _ _ _ _ _ _ _ _ _ _ _ _)
      | (with_reducible exact Bs_Lowest.mono _ _ _)
      | (with_reducible exact Lw_awake.mono _)
      | (with_reducible exact Lw_light.mono _ _ _ _ _)
      | (with_reducible exact Lw_part.mono _ _ _)
      | (with_reducible exact Rf_CaseErr.mono _ _ _ _ _)
      | (with_reducible exact Rf_Cases.mono _ _ _)
      | (with_reducible exact line_DetectedRate.mono _ _ _ _ _ _)
      | (with_reducible exact line_FalseRate.mono _ _ _ _)
      | (with_reducible exact line_Noisy.mono _ _ _ _ _ _)
      | (with_reducible exact line_ThresholdFor.mono _ _ _ _)
      | (with_reducible exact LeO.refl _)
      | (with_reducible exact LeO.none _)
      | (with_reducible refine LeO.ite ?_ ?_)
      | (with_reducible refine LeO.bind ?_ (fun _ => ?_))
      | exact ih0 _ _ _ _ _ _ _
      | exact ih1 _ _ _ _ _ _ _ _ _
      | exact ih2 _ _ _ _ _ _ _ _ _
      | exact ih3 _ _ _ _ _ _
      | exact ih4 _ _ _ _ _ _ _ _ _
      | exact ih5 _ _ _ _ _ _ _ _ _ _ _
      | exact ih6 _ _ _ _ _ _ _ _ _ _ _ _ _
      | exact ih7 _ _ _ _ _ _ _ _ _ _ _ _ _ _
      | exact Bs_Lowest.mono _ _ _
      | exact Lw_awake.mono _
      | exact Lw_light.mono _ _ _ _ _
      | exact Lw_part.mono _ _ _
      | exact Rf_CaseErr.mono _ _ _ _ _
      | exact Rf_Cases.mono _ _ _
      | exact line_DetectedRate.mono _ _ _ _ _ _
      | exact line_FalseRate.mono _ _ _ _
      | exact line_Noisy.mono _ _ _ _ _ _
      | exact line_ThresholdFor.mono _ _ _ _
      | exact LeO.none _
      | refine LeO.ite ?_ ?_
      | refine LeO.bind ?_ (fun _ => ?_)
    · intro y0 y1 y2 y3 y4 y5 y6 y7 y8 y9 y10
      unfold Lw_LineKept.l0
      repeat' first
      | (with_reducible exact ih0 _ _ _ _ _ _ _)
      | (with_reducible exact ih1 _ _ _ _ _ _ _ _ _)
      | (with_reducible exact ih2 _ _ _ _ _ _ _ _ _)
      | (with_reducible exact ih3 _ _ _ _ _ _)
      | (with_reducible exact ih4 _ _ _ _ _ _ _ _ _)
      | (with_reducible exact ih5 _ _ _ _ _ _ _ _ _ _ _)
      | (with_reducible exact ih6 _ _ _ _ _ _ _ _ _ _ _ _ _)
      | (with_reducible exact ih7 _ _ _ _ _ _ _ _ _ _ _ _ _ _)
      | (with_reducible exact Bs_Lowest.mono _ _ _)
      | (with_reducible exact Lw_awake.mono _)
      | (with_reducible exact Lw_light.mono _ _ _ _ _)
      | (with_reducible exact Lw_part.mono _ _ _)
      | (with_reducible exact Rf_CaseErr.mono _ _ _ _ _)
      | (with_reducible exact Rf_Cases.mono _ _ _)
      | (with_reducible exact line_DetectedRate.mono _ _ _ _ _ _)
      | (with_reducible exact line_FalseRate.mono _ _ _ _)
      | (with_reducible exact line_Noisy.mono _ _ _ _ _ _)
      | (with_reducible exact line_ThresholdFor.mono _ _ _ _)
      | (with_reducible exact LeO.refl _)
      | (with_reducible exact LeO.none _)
      | (with_reducible refine LeO.ite ?_ ?_)
      | (with_reducible refine LeO.bind ?_ (fun _ => ?_))
      | exact ih0 _ _ _ _ _ _ _
      | exact ih1 _ _ _ _ _ _ _ _ _
      | exact ih2 _ _ _ _ _ _ _ _ _
      | exact ih3 _ _ _ _ _ _
      | exact ih4 _ _ _ _ _ _ _ _ _
      | exact ih5 _ _ _ _ _ _ _ _ _ _ _
      | exact ih6 _ _ _ _ _ _ _ _ _ _ _ _ _
      | exact ih7 _ _ _ _ _ _ _ _ _ _ _ _ _ _
      | exact Bs_Lowest.mono _ _ _
      | exact Lw_awake.mono _
      | exact Lw_light.mono _ _ _ _ _
      | exact Lw_part.mono _ _ _
      | exact Rf_CaseErr.mono _ _ _ _ _
      | exact Rf_Cases.mono _ _ _
      | exact line_DetectedRate.mono _ _ _ _ _ _
      | exact line_FalseRate.mono _ _ _ _
      | exact line_Noisy.mono _ _ _ _ _ _
      | exact line_ThresholdFor.mono _ _ _ _
      | exact LeO.none _
      | refine LeO.ite ?_ ?_
      | refine LeO.bind ?_ (fun _ => ?_)
    · intro y0 y1 y2 y3 y4 y5 y6 y7 y8 y9 y10 y11 y12
      unfold Lw_LineKept.j6
      repeat' first
      | (with_reducible exact ih0 _ _ _ _ _ _ _)
      | (with_reducible exact ih1 _ _ _ _ _ _ _ _ _)
      | (with_reducible exact ih2 _ _ _ _ _ _ _ _ _)
      | (with_reducible exact ih3 _ _ _ _ _ _)
      | (with_reducible exact ih4 _ _ _ _ _ _ _ _ _)
      | (with_reducible exact ih5 _ _ _ _ _ _ _ _ _ _ _)
      | (with_reducible exact ih6 _ _ _ _ _ _ _ _ _ _ _ _ _)
      | (with_reducible exact ih7 _ _ _ _ _ _ _ _ _ _ _ _ _ _)
      | (with_reducible exact Bs_Lowest.mono _ _ _)
      | (with_reducible exact Lw_awake.mono _)
      | (with_reducible exact Lw_light.mono _ _ _ _ _)
      | (with_reducible exact Lw_part.mono _ _ _)
      | (with_reducible exact Rf_CaseErr.mono _ _ _ _ _)
      | (with_reducible exact Rf_Cases.mono _ _ _)
      | (with_reducible exact line_DetectedRate.mono _ _ _ _ _ _)
      | (with_reducible exact line_FalseRate.mono _ _ _ _)
      | (with_reducible exact line_Noisy.mono _ _ _ _ _ _)
      | (with_reducible exact line_ThresholdFor.mono _ _ _ _)
      | (with_reducible exact LeO.refl _)
      | (with_reducible exact LeO.none _)
      | (with_reducible refine LeO.ite ?_ ?_)
      | (with_reducible refine LeO.bind ?_ (fun _ => ?_))
      | exact ih0 _ _ _ _ _ _ _
      | exact ih1 _ _ _ _ _ _ _ _ _
      | exact ih2 _ _ _ _ _ _ _ _ _
      | exact ih3 _ _ _ _ _ _
      | exact ih4 _ _ _ _ _ _ _ _ _
      | exact ih5 _ _ _ _ _ _ _ _ _ _ _
      | exact ih6 _ _ _ _ _ _ _ _ _ _ _ _ _
      | exact ih7 _ _ _ _ _ _ _ _ _ _ _ _ _ _
      | exact Bs_Lowest.mono _ _ _
      | exact Lw_awake.mono _
      | exact Lw_light.mono _ _ _ _ _
      | exact Lw_part.mono _ _ _
      | exact Rf_CaseErr.mono _ _ _ _ _
      | exact Rf_Cases.mono _ _ _
      | exact line_DetectedRate.mono _ _ _ _ _ _
      | exact line_FalseRate.mono _ _ _ _
      | exact line_Noisy.mono _ _ _ _ _ _
      | exact line_ThresholdFor.mono _ _ _ _
      | exact LeO.none _
      | refine LeO.ite ?_ ?_
      | refine LeO.bind ?_ (fun _ => ?_)
    · intro y0 y1 y2 y3 y4 y5 y6 y7 y8 y9 y10 y11 y12 y13
      unfold Lw_LineKept.l1
      repeat' first
      | (with_reducible exact ih0 _ _ _ _ _ _ _)
      | (with_reducible exact ih1 _ _ _ _ _ _ _ _ _)
      | (with_reducible exact ih2 _ _ _ _ _ _ _ _ _)
      | (with_reducible exact ih3 _ _ _ _ _ _)
      | (with_reducible exact ih4 _ _ _ _ _ _ _ _ _)
      | (with_reducible exact ih5 _ _ _ _ _ _ _ _ _ _ _)
      | (with_reducible exact ih6 _ _ _ _ _ _ _ _ _ _ _ _ _)
      | (with_reducible exact ih7 _ _ _ _ _ _ _ _ _ _ _ _ _ _)
      | (with_reducible exact Bs_Lowest.mono _ _ _)
      | (with_reducible exact Lw_awake.mono _)
      | (with_reducible exact Lw_light.mono _ _ _ _ _)
      | (with_reducible exact Lw_part.mono _ _ _)
      | (with_reducible exact Rf_CaseErr.mono _ _ _ _ _)
      | (with_reducible exact Rf_Cases.mono _ _ _)
      | (with_reducible exact line_DetectedRate.mono _ _ _ _ _ _)
      | (with_reducible exact line_FalseRate.mono _ _ _ _)
      | (with_reducible exact line_Noisy.mono _ _ _ _ _ _)
      | (with_reducible exact line_ThresholdFor.mono _ _ _ _)
      | (with_reducible exact LeO.refl _)
      | (with_reducible exact LeO.none _)
      | (with_reducible refine LeO.ite ?_ ?_)
      | (with_reducible refine LeO.bind ?_ (fun _ => ?_))
      | exact ih0 _ _ _ _ _ _ _
      | exact ih1 _ _ _ _ _ _ _ _ _
      | exact ih2 _ _ _ _ _ _ _ _ _
      | exact ih3 _ _ _ _ _ _
      | exact ih4 _ _ _ _ _ _ _ _ _
      | exact ih5 _ _ _ _ _ _ _ _ _ _ _
      | exact ih6 _ _ _ _ _ _ _ _ _ _ _ _ _
      | exact ih7 _ _ _ _ _ _ _ _ _ _ _ _ _ _
      | exact Bs_Lowest.mono _ _ _
      | exact Lw_awake.mono _
      | exact Lw_light.mono _ _ _ _ _
      | exact Lw_part.mono _ _ _
      | exact Rf_CaseErr.mono _ _ _ _ _
      | exact Rf_Cases.mono _ _ _
      | exact line_DetectedRate.mono _ _ _ _ _ _
      | exact line_FalseRate.mono _ _ _ _
      | exact line_Noisy.mono _ _ _ _ _ _
      | exact line_ThresholdFor.mono _ _ _ _
      | exact LeO.none _
      | refine LeO.ite ?_ ?_
      | refine LeO.bind ?_ (fun _ => ?_)
theorem Lw_LineKept.mono : ∀ a0 a1 a2 a3 a4 a5 k, LeO (Lw_LineKept.f k a0 a1 a2 a3 a4 a5) (Lw_LineKept.f (k + 1) a0 a1 a2 a3 a4 a5) := by
  intro a0 a1 a2 a3 a4 a5 k
  obtain ⟨ih0, ih1, ih2, ih3, ih4, ih5, ih6, ih7⟩ := Lw_LineKept.mono_l k
  unfold Lw_LineKept.f
  repeat' first
      | (with_reducible exact ih0 _ _ _ _ _ _ _)
      | (with_reducible exact ih1 _ _ _ _ _ _ _ _ _)
      | (with_reducible exact ih2 _ _ _ _ _ _ _ _ _)
      | (with_reducible exact ih3 _ _ _ _ _ _)
      | (with_reducible exact ih4 _ _ _ _ _ _ _ _ _)
      | (with_reducible exact ih5 _ _ _ _ _ _ _ _ _ _ _)
      | (with_reducible exact ih6 _ _ _ _ _ _ _ _ _ _ _ _ _)
      | (with_reducible exact ih7 _ _ _ _ _ _ _ _ _ _ _ _ _ _)
      | (with_reducible exact Bs_Lowest.mono _ _ _)
      | (with_reducible exact Lw_awake.mono _)
      | (with_reducible exact Lw_light.mono _ _ _ _ _)
      | (with_reducible exact Lw_part.mono _ _ _)
      | (with_reducible exact Rf_CaseErr.mono _ _ _ _ _)
      | (with_reducible exact Rf_Cases.mono _ _ _)
      | (with_reducible exact line_DetectedRate.mono _ _ _ _ _ _)
      | (with_reducible exact line_FalseRate.mono _ _ _ _)
      | (with_reducible exact line_Noisy.mono _ _ _ _ _ _)
      | (with_reducible exact line_ThresholdFor.mono _ _ _ _)
      | (with_reducible exact LeO.refl _)
      | (with_reducible exact LeO.none _)
      | (with_reducible refine LeO.ite ?_ ?_)
      | (with_reducible refine LeO.bind ?_ (fun _ => ?_))
      | exact ih0 _ _ _ _ _ _ _
      | exact ih1 _ _ _ _ _ _ _ _ _
      | exact ih2 _ _ _ _ _ _ _ _ _
      | exact ih3 _ _ _ _ _ _
      | exact ih4 _ _ _ _ _ _ _ _ _
      | exact ih5 _ _ _ _ _ _ _ _ _ _ _
      | exact ih6 _ _ _ _ _ _ _ _ _ _ _ _ _
      | exact ih7 _ _ _ _ _ _ _ _ _ _ _ _ _ _
      | exact Bs_Lowest.mono _ _ _
      | exact Lw_awake.mono _
      | exact Lw_light.mono _ _ _ _ _
      | exact Lw_part.mono _ _ _
      | exact Rf_CaseErr.mono _ _ _ _ _
      | exact Rf_Cases.mono _ _ _
      | exact line_DetectedRate.mono _ _ _ _ _ _
      | exact line_FalseRate.mono _ _ _ _
      | exact line_Noisy.mono _ _ _ _ _ _
      | exact line_ThresholdFor.mono _ _ _ _
      | exact LeO.none _
      | refine LeO.ite ?_ ?_
      | refine LeO.bind ?_ (fun _ => ?_)
theorem Lw_LineKept.calls (k : Nat) (A0_0 : Option Addr) (c0_0 : Nat) (l0_0 : List Int) (A0_1 : Option Addr) (c0_1 : Nat) (l0_1 : List Int) (a0_2 : Int) (a0_3 : Int) (a1 : Int) (a2 : Int) (r : Bool) (w : World) (hr0_0 : Kd.C (Kd.int .i64) w A0_0 l0_0.length l0_0) (hc0_0 : l0_0.length ≤ c0_0) (hr0_1 : Kd.C (Kd.int .i64) w A0_1 l0_1.length l0_1) (hc0_1 : l0_1.length ≤ c0_1) (hG : EstG w) (h : Lw_LineKept.f k l0_0 l0_1 a0_2 a0_3 a1 a2 = some r) :
    Calls Tryd.prog 17 #[.agg #[.slice A0_0 l0_0.length c0_0, .slice A0_1 l0_1.length c0_1, .int .i64 a0_2, .int .i64 a0_3], .int .i64 a1, .int .i64 a2] w fun e w' => e = .returned (.bool r) ∧ Below w.heap.size w w' := by
  have hu28 := Tryd.underlying28
  have hu24 := Tryd.underlying24
  have hu26 := Tryd.underlying26
  have HG := m0 hG
  clear hG
  have HR0_0 := m0 hr0_0
  have HC0_0 := m0 hc0_0
  clear hr0_0 hc0_0
  have HR0_1 := m0 hr0_1
  have HC0_1 := m0 hc0_1
  clear hr0_1 hc0_1
  have HB := m0 (Below.refl w.heap.size w)
  have H : ((Lw_awake.f k).bind fun t1983 => (if t1983 = true then ((Lw_light.f k l0_0 l0_1 a0_2 a0_3).bind fun t1984 => (if t1984 = true then ((Rf_CaseErr.f k l0_0 l0_1 a0_2 a0_3).bind fun t1985 => (if t1985 = 0 then ((Rf_ThresholdErr.f a1).bind fun t1986 => (if t1986 = 0 then ((Bs_Within.f a1 0 10999).bind fun t1987 => (if t1987 = true then ((Bs_Within.f a2 0 1000).bind fun t1988 => (Lw_LineKept.j0 k a1 a2 (!t1988) l0_0 l0_1 a0_2 a0_3)) else (Lw_LineKept.j0 k a1 a2 true l0_0 l0_1 a0_2 a0_3))) else (Lw_LineKept.j0 k a1 a2 true l0_0 l0_1 a0_2 a0_3))) else (Lw_LineKept.j0 k a1 a2 true l0_0 l0_1 a0_2 a0_3))) else (Lw_LineKept.j0 k a1 a2 true l0_0 l0_1 a0_2 a0_3))) else (none))) = some r := h
  clear h
  replace H := ob H
  obtain ⟨t1983, A40, H⟩ := H
  (try dsimp only at H)
  have A4 := m0 A40
  clear A40
  by_cases c5 : t1983 = true
  · subst c5
    rw [if_pos rfl] at H
    have HC6 := m0 H
    clear H
    go_enter Tryd.func17, Tryd.ntmps17
    go_upto_region 3 with (first | ((with_reducible refine gate_dst (N := 3) rfl ?_); (try (refine gate_guard (by rfl) ?_; dsimp only)); refine be 3 28 #[.slice A0_0 l0_0.length c0_0, .slice A0_1 l0_1.length c0_1, .int .i64 a0_2, .int .i64 a0_3] ?_; intro gb1982 hg w7 hbox hb; have BK1982 := m0 hbox; have GW1982 := m0 (bg (n := w.heap.size) hg); have GE1982 := m0 (bg (n := w.heap.size) hg); replace HB := sb HB hb; clear hb hbox hg) | ((with_reducible refine gate_callee (f := 18) rfl ?_); refine gl (some 27) Tryd.func18 #[] ?_; (with_reducible refine (Lw_awake.calls k  true _ ?side1 A4.out).mono ?_); (case side1 => exact EstG.below HG.out bz); rintro e w8 ⟨rfl, hb⟩; refine ⟨_, rfl, ?_⟩; replace BK1982 := bb BK1982 hb; replace HB := sb HB hb; (try clear hb)))
    (try simp only [Act.put, List.setIfInBounds_toArray, List.set_cons_zero, List.set_cons_succ])
    go_cut [51] (fun v51 wc => ∃ (kq : Nat) (x51_5 : Bool), v51 = .bool x51_5 ∧ Aside0 (Lw_LineKept.j0 kq a1 a2 x51_5 l0_0 l0_1 a0_2 a0_3 = some r) ∧ Aside0 (kq ≤ k) ∧ Aside0 (wc.heap[gb1982]? = some (.cells #[(.slice A0_0 l0_0.length c0_0), (.slice A0_1 l0_1.length c0_1), .int .i64 a0_2, .int .i64 a0_3] 28 (0, 0))) ∧ Aside0 (Below w.heap.size w wc))
    case first =>
      have H := HC6.out
      clear HC6
      replace H := ob H
      obtain ⟨t1984, A90, H⟩ := H
      (try dsimp only at H)
      have A9 := m0 A90
      clear A90
      by_cases c10 : t1984 = true
      · subst c10
        rw [if_pos rfl] at H
        replace H := ob H
        obtain ⟨t1985, A110, H⟩ := H
        (try dsimp only at H)
        have A11 := m0 A110
        clear A110
        by_cases c12 : t1985 = 0
        · rw [if_pos c12] at H
          have c12b0 := beq_iff_eq.mpr c12
          have c12b1 := bne_eq_false_iff_eq.mpr c12
          clear c12
          (first | rw [c12b0] | (simp only [i64_w, i32_w]; rw [c12b0]) | skip)
          replace H := ob H
          obtain ⟨t1986, A130, H⟩ := H
          (try dsimp only at H)
          have A13 := m0 A130
          clear A130
          by_cases c14 : t1986 = 0
          · rw [if_pos c14] at H
            have c14b0 := beq_iff_eq.mpr c14
            have c14b1 := bne_eq_false_iff_eq.mpr c14
            clear c14
            replace H := ob H
            obtain ⟨t1987, A150, H⟩ := H
            (try dsimp only at H)
            have A15 := m0 A150
            clear A150
            by_cases c16 : t1987 = true
            · subst c16
              rw [if_pos rfl] at H
              replace H := ob H
              obtain ⟨t1988, A170, H⟩ := H
              (try dsimp only at H)
              have A17 := m0 A170
              clear A170
              have H' := m0 H
              clear H
              obtain ⟨hcz18_0, hcz18_1, hcz18_2, hcz18_3, hfz18_0, hfz18_1, hfz18_2, hfz18_3⟩ := b4 BK1982
              go_wp2_with (first | ((with_reducible refine gate_callee (f := 19) rfl ?_); refine gl (some 30) Tryd.func19 #[.agg #[.slice A0_0 l0_0.length c0_0, .slice A0_1 l0_1.length c0_1, .int .i64 a0_2, .int .i64 a0_3]] ?_; (with_reducible refine (Lw_light.calls k _ _ l0_0 _ _ l0_1 a0_2 a0_3 true _ ?side1 ?side2 ?side3 ?side4 A9.out).mono ?_); (case side1 => exact cb HR0_0 HB); (case side2 => exact HC0_0.out); (case side3 => exact cb HR0_1 HB); (case side4 => exact HC0_1.out); rintro e w19 ⟨rfl, hb⟩; refine ⟨_, rfl, ?_⟩; replace BK1982 := bb BK1982 hb; replace HB := sb HB hb; (try clear hb); obtain ⟨hcz20_0, hcz20_1, hcz20_2, hcz20_3, hfz20_0, hfz20_1, hfz20_2, hfz20_3⟩ := b4 BK1982) | (go_at_call 23; (with_reducible refine (Rf_CaseErr.calls k _ _ l0_0 _ _ l0_1 a0_2 a0_3 t1985 _ ?side1 ?side2 ?side3 ?side4 A11.out).mono ?_); (case side1 => exact cb HR0_0 HB); (case side2 => exact HC0_0.out); (case side3 => exact cb HR0_1 HB); (case side4 => exact HC0_1.out); rintro e w21 ⟨rfl, hb⟩; replace BK1982 := bb BK1982 hb; replace HB := sb HB hb; (try clear hb)) | (go_at_call 28; (with_reducible refine (Rf_ThresholdErr.calls a1 t1986 _ A13.out).mono ?_); rintro e w' ⟨rfl, ⟨nd, rfl⟩⟩) | (go_at_call 31; (with_reducible refine (Bs_Within.calls a1 0 10999 true _ A15.out).mono ?_); rintro e w' ⟨rfl, ⟨nd, rfl⟩⟩) | (go_at_call 31; (with_reducible refine (Bs_Within.calls a2 0 1000 t1988 _ A17.out).mono ?_); rintro e w' ⟨rfl, ⟨nd, rfl⟩⟩))
              go_meet
              case rel => exact ⟨_, (!t1988), (by first | rfl | (simp; done) | (simp [*]; done)), H', ⟨by first | omega | exact Nat.le_refl _⟩, ⟨bk BK1982.out⟩, ⟨bz⟩⟩
            · replace c16 := Bool.eq_false_iff.mpr c16
              subst c16
              rw [if_neg (show ¬ (false = true) by decide)] at H
              have H' := m0 H
              clear H
              obtain ⟨hcz22_0, hcz22_1, hcz22_2, hcz22_3, hfz22_0, hfz22_1, hfz22_2, hfz22_3⟩ := b4 BK1982
              go_wp2_with (first | ((with_reducible refine gate_callee (f := 19) rfl ?_); refine gl (some 30) Tryd.func19 #[.agg #[.slice A0_0 l0_0.length c0_0, .slice A0_1 l0_1.length c0_1, .int .i64 a0_2, .int .i64 a0_3]] ?_; (with_reducible refine (Lw_light.calls k _ _ l0_0 _ _ l0_1 a0_2 a0_3 true _ ?side1 ?side2 ?side3 ?side4 A9.out).mono ?_); (case side1 => exact cb HR0_0 HB); (case side2 => exact HC0_0.out); (case side3 => exact cb HR0_1 HB); (case side4 => exact HC0_1.out); rintro e w23 ⟨rfl, hb⟩; refine ⟨_, rfl, ?_⟩; replace BK1982 := bb BK1982 hb; replace HB := sb HB hb; (try clear hb); obtain ⟨hcz24_0, hcz24_1, hcz24_2, hcz24_3, hfz24_0, hfz24_1, hfz24_2, hfz24_3⟩ := b4 BK1982) | (go_at_call 23; (with_reducible refine (Rf_CaseErr.calls k _ _ l0_0 _ _ l0_1 a0_2 a0_3 t1985 _ ?side1 ?side2 ?side3 ?side4 A11.out).mono ?_); (case side1 => exact cb HR0_0 HB); (case side2 => exact HC0_0.out); (case side3 => exact cb HR0_1 HB); (case side4 => exact HC0_1.out); rintro e w25 ⟨rfl, hb⟩; replace BK1982 := bb BK1982 hb; replace HB := sb HB hb; (try clear hb)) | (go_at_call 28; (with_reducible refine (Rf_ThresholdErr.calls a1 t1986 _ A13.out).mono ?_); rintro e w' ⟨rfl, ⟨nd, rfl⟩⟩) | (go_at_call 31; (with_reducible refine (Bs_Within.calls a1 0 10999 false _ A15.out).mono ?_); rintro e w' ⟨rfl, ⟨nd, rfl⟩⟩))
              go_meet
              case rel => exact ⟨_, (true), (by first | rfl | (simp; done) | (simp [*]; done)), H', ⟨by first | omega | exact Nat.le_refl _⟩, ⟨bk BK1982.out⟩, ⟨bz⟩⟩
          · rw [if_neg c14] at H
            have c14b0 := beq_eq_false_iff_ne.mpr c14
            have c14b1 := bne_iff_ne.mpr c14
            have H' := m0 H
            clear H
            obtain ⟨hcz26_0, hcz26_1, hcz26_2, hcz26_3, hfz26_0, hfz26_1, hfz26_2, hfz26_3⟩ := b4 BK1982
            go_wp2_with (first | ((with_reducible refine gate_callee (f := 19) rfl ?_); refine gl (some 30) Tryd.func19 #[.agg #[.slice A0_0 l0_0.length c0_0, .slice A0_1 l0_1.length c0_1, .int .i64 a0_2, .int .i64 a0_3]] ?_; (with_reducible refine (Lw_light.calls k _ _ l0_0 _ _ l0_1 a0_2 a0_3 true _ ?side1 ?side2 ?side3 ?side4 A9.out).mono ?_); (case side1 => exact cb HR0_0 HB); (case side2 => exact HC0_0.out); (case side3 => exact cb HR0_1 HB); (case side4 => exact HC0_1.out); rintro e w27 ⟨rfl, hb⟩; refine ⟨_, rfl, ?_⟩; replace BK1982 := bb BK1982 hb; replace HB := sb HB hb; (try clear hb); obtain ⟨hcz28_0, hcz28_1, hcz28_2, hcz28_3, hfz28_0, hfz28_1, hfz28_2, hfz28_3⟩ := b4 BK1982) | (go_at_call 23; (with_reducible refine (Rf_CaseErr.calls k _ _ l0_0 _ _ l0_1 a0_2 a0_3 t1985 _ ?side1 ?side2 ?side3 ?side4 A11.out).mono ?_); (case side1 => exact cb HR0_0 HB); (case side2 => exact HC0_0.out); (case side3 => exact cb HR0_1 HB); (case side4 => exact HC0_1.out); rintro e w29 ⟨rfl, hb⟩; replace BK1982 := bb BK1982 hb; replace HB := sb HB hb; (try clear hb)) | (go_at_call 28; (with_reducible refine (Rf_ThresholdErr.calls a1 t1986 _ A13.out).mono ?_); rintro e w' ⟨rfl, ⟨nd, rfl⟩⟩))
            go_meet
            case rel => exact ⟨_, (true), (by first | rfl | (simp; done) | (simp [*]; done)), H', ⟨by first | omega | exact Nat.le_refl _⟩, ⟨bk BK1982.out⟩, ⟨bz⟩⟩
        · rw [if_neg c12] at H
          have c12b0 := beq_eq_false_iff_ne.mpr c12
          have c12b1 := bne_iff_ne.mpr c12
          (first | rw [c12b0] | (simp only [i64_w, i32_w]; rw [c12b0]) | skip)
          have H' := m0 H
          clear H
          obtain ⟨hcz30_0, hcz30_1, hcz30_2, hcz30_3, hfz30_0, hfz30_1, hfz30_2, hfz30_3⟩ := b4 BK1982
          go_wp2_with (first | ((with_reducible refine gate_callee (f := 19) rfl ?_); refine gl (some 30) Tryd.func19 #[.agg #[.slice A0_0 l0_0.length c0_0, .slice A0_1 l0_1.length c0_1, .int .i64 a0_2, .int .i64 a0_3]] ?_; (with_reducible refine (Lw_light.calls k _ _ l0_0 _ _ l0_1 a0_2 a0_3 true _ ?side1 ?side2 ?side3 ?side4 A9.out).mono ?_); (case side1 => exact cb HR0_0 HB); (case side2 => exact HC0_0.out); (case side3 => exact cb HR0_1 HB); (case side4 => exact HC0_1.out); rintro e w31 ⟨rfl, hb⟩; refine ⟨_, rfl, ?_⟩; replace BK1982 := bb BK1982 hb; replace HB := sb HB hb; (try clear hb); obtain ⟨hcz32_0, hcz32_1, hcz32_2, hcz32_3, hfz32_0, hfz32_1, hfz32_2, hfz32_3⟩ := b4 BK1982) | (go_at_call 23; (with_reducible refine (Rf_CaseErr.calls k _ _ l0_0 _ _ l0_1 a0_2 a0_3 t1985 _ ?side1 ?side2 ?side3 ?side4 A11.out).mono ?_); (case side1 => exact cb HR0_0 HB); (case side2 => exact HC0_0.out); (case side3 => exact cb HR0_1 HB); (case side4 => exact HC0_1.out); rintro e w33 ⟨rfl, hb⟩; replace BK1982 := bb BK1982 hb; replace HB := sb HB hb; (try clear hb)))
          go_meet
          case rel => exact ⟨_, (true), (by first | rfl | (simp; done) | (simp [*]; done)), H', ⟨by first | omega | exact Nat.le_refl _⟩, ⟨bk BK1982.out⟩, ⟨bz⟩⟩
      · replace c10 := Bool.eq_false_iff.mpr c10
        subst c10
        rw [if_neg (show ¬ (false = true) by decide)] at H
        have H' := m0 H
        clear H
        obtain ⟨hcz34_0, hcz34_1, hcz34_2, hcz34_3, hfz34_0, hfz34_1, hfz34_2, hfz34_3⟩ := b4 BK1982
        go_wp2_with (first | ((with_reducible refine gate_callee (f := 19) rfl ?_); refine gl (some 30) Tryd.func19 #[.agg #[.slice A0_0 l0_0.length c0_0, .slice A0_1 l0_1.length c0_1, .int .i64 a0_2, .int .i64 a0_3]] ?_; (with_reducible refine (Lw_light.calls k _ _ l0_0 _ _ l0_1 a0_2 a0_3 false _ ?side1 ?side2 ?side3 ?side4 A9.out).mono ?_); (case side1 => exact cb HR0_0 HB); (case side2 => exact HC0_0.out); (case side3 => exact cb HR0_1 HB); (case side4 => exact HC0_1.out); rintro e w35 ⟨rfl, hb⟩; refine ⟨_, rfl, ?_⟩; replace BK1982 := bb BK1982 hb; replace HB := sb HB hb; (try clear hb)))
        go_meet
        case rel => exact ⟨_, (true), (by first | rfl | (simp; done) | (simp [*]; done)), H', ⟨by first | omega | exact Nat.le_refl _⟩, ⟨bk BK1982.out⟩, ⟨bz⟩⟩
    case rest =>
      as_aux_lemma =>
      clear HC6
      try clear c1
      try clear p2
      try clear c5
      try clear c10
      try clear c12
      try clear c12b0
      try clear c12b1
      try clear c14
      try clear c14b0
      try clear c14b1
      try clear c16
      try clear c17
      try clear c18
      try clear c19
      try clear hcz18_0
      try clear hcz18_1
      try clear hcz18_2
      try clear hcz18_3
      try clear hcz20_0
      try clear hcz20_1
      try clear hcz20_2
      try clear hcz20_3
      try clear hcz22_0
      try clear hcz22_1
      try clear hcz22_2
      try clear hcz22_3
      try clear hcz24_0
      try clear hcz24_1
      try clear hcz24_2
      try clear hcz24_3
      try clear hcz26_0
      try clear hcz26_1
      try clear hcz26_2
      try clear hcz26_3
      try clear hcz28_0
      try clear hcz28_1
      try clear hcz28_2
      try clear hcz28_3
      try clear hcz30_0
      try clear hcz30_1
      try clear hcz30_2
      try clear hcz30_3
      try clear hcz32_0
      try clear hcz32_1
      try clear hcz32_2
      try clear hcz32_3
      try clear hcz34_0
      try clear hcz34_1
      try clear hcz34_2
      try clear hcz34_3
      try clear hfz18_0
      try clear hfz18_1
      try clear hfz18_2
      try clear hfz18_3
      try clear hfz20_0
      try clear hfz20_1
      try clear hfz20_2
      try clear hfz20_3
      try clear hfz22_0
      try clear hfz22_1
      try clear hfz22_2
      try clear hfz22_3
      try clear hfz24_0
      try clear hfz24_1
      try clear hfz24_2
      try clear hfz24_3
      try clear hfz26_0
      try clear hfz26_1
      try clear hfz26_2
      try clear hfz26_3
      try clear hfz28_0
      try clear hfz28_1
      try clear hfz28_2
      try clear hfz28_3
      try clear hfz30_0
      try clear hfz30_1
      try clear hfz30_2
      try clear hfz30_3
      try clear hfz32_0
      try clear hfz32_1
      try clear hfz32_2
      try clear hfz32_3
      try clear hfz34_0
      try clear hfz34_1
      try clear hfz34_2
      try clear hfz34_3
      obtain ⟨kq, x51_5, rfl, HA, HJ5, BK1982, HB⟩ := hcut
      cases kq with
      | zero => exact absurd HA.out (by simp [Lw_LineKept.j0])
      | succ kj5 =>
        have H := HA.out
        clear HA
        simp only [Lw_LineKept.j0] at H
        by_cases c36 : x51_5 = true
        · subst c36
          rw [if_pos rfl] at H
          obtain rfl := Option.some.inj H
          go_wp2
          go_ret
          exact ez
        · replace c36 := Bool.eq_false_iff.mpr c36
          subst c36
          rw [if_neg (show ¬ (false = true) by decide)] at H
          replace H := ob H
          obtain ⟨t1989, A370, H⟩ := H
          (try dsimp only at H)
          have A37 := m0 A370
          clear A370
          replace H := ob H
          obtain ⟨⟨t1992, t1993⟩, A380, H⟩ := H
          (try dsimp only at H)
          have A38 := m0 A380
          clear A380
          have HC39 := m0 H
          clear H
          obtain ⟨hcz40_0, hcz40_1, hcz40_2, hcz40_3, hfz40_0, hfz40_1, hfz40_2, hfz40_3⟩ := b4 BK1982
          go_upto_region 7 with (first | ((with_reducible refine gate_callee (f := 52) rfl ?_); refine gl (some 58) Tryd.func52 #[.agg #[.slice A0_1 l0_1.length c0_1]] ?_; (with_reducible refine (Rf_CopyNoise.calls _ _ l0_1 t1989 _ ?side1 ?side2 A37.out).mono ?_); (case side1 => exact cb HR0_1 HB); (case side2 => exact HC0_1.out); rintro e w41 ⟨v1990, rfl, ho0, hb⟩; refine ⟨_, rfl, ?_⟩; have HO1991 := m0 (Kd.R_lower ho0 (below_size bz)); replace BK1982 := bb BK1982 hb; replace HB := sb HB hb; (try clear hb); (try clear ho0); obtain ⟨Ao42, co42, eo42⟩ := Kd.R_slice HO1991.out; subst eo42) | ((with_reducible refine gate_callee (f := 84) rfl ?_); refine gl (some 61) Tryd.func84 #[.agg #[.slice Ao42 t1989.length co42], .int .i64 (l0_0.length : Int), .int .i64 a2] ?_; (with_reducible refine (line_ThresholdFor.calls kj5 _ _ t1989 (l0_0.length : Int) a2 t1992 t1993 _ ?side1 ?side2 A38.out).mono ?_); (case side1 => exact bc (Kd.R_reads' HO1991.out).2.2); (case side2 => exact (Kd.R_reads' HO1991.out).2.1); rintro e w43 ⟨rfl, hb⟩; refine ⟨_, rfl, ?_⟩; replace HO1991 := rb HO1991 hb; replace BK1982 := bb BK1982 hb; replace HB := sb HB hb; (try clear hb)))
          (try simp only [Act.put, List.setIfInBounds_toArray, List.set_cons_zero, List.set_cons_succ])
          go_cut [70] (fun v70 wc => ∃ (kq : Nat) (x70_38 : Bool), v70 = .bool x70_38 ∧ Aside0 (Lw_LineKept.j1 kq a1 a2 (l0_0.length : Int) t1992 x70_38 l0_0 l0_1 a0_2 a0_3 = some r) ∧ Aside0 (kq ≤ kj5) ∧ Aside0 (wc.heap[gb1982]? = some (.cells #[(.slice A0_0 l0_0.length c0_0), (.slice A0_1 l0_1.length c0_1), .int .i64 a0_2, .int .i64 a0_3] 28 (0, 0))) ∧ Aside0 (Below w.heap.size w wc))
          case first =>
            have H := HC39.out
            clear HC39
            by_cases c44 : t1993 = 0
            · rw [if_pos c44] at H
              have c44b0 := beq_iff_eq.mpr c44
              have c44b1 := bne_eq_false_iff_eq.mpr c44
              clear c44
              (first | rw [c44b0] | (simp only [i64_w, i32_w]; rw [c44b0]) | skip)
              replace H := ob H
              obtain ⟨t1994, A450, H⟩ := H
              (try dsimp only at H)
              have A45 := m0 A450
              clear A450
              have H' := m0 H
              clear H
              go_wp2_with (first | (go_at_call 28; (with_reducible refine (Rf_ThresholdErr.calls t1992 t1994 _ A45.out).mono ?_); rintro e w' ⟨rfl, ⟨nd, rfl⟩⟩))
              go_meet
              case rel => exact ⟨_, ((t1994 != 0)), (by first | rfl | (simp; done) | (simp [*]; done)), H', ⟨by have := HJ5.out; first | omega | exact Nat.le_refl _⟩, ⟨bk BK1982.out⟩, ⟨bz⟩⟩
            · rw [if_neg c44] at H
              have c44b0 := beq_eq_false_iff_ne.mpr c44
              have c44b1 := bne_iff_ne.mpr c44
              (first | rw [c44b0] | (simp only [i64_w, i32_w]; rw [c44b0]) | skip)
              have H' := m0 H
              clear H
              go_wp2
              go_meet
              case rel => exact ⟨_, (true), (by first | rfl | (simp; done) | (simp [*]; done)), H', ⟨by have := HJ5.out; first | omega | exact Nat.le_refl _⟩, ⟨bk BK1982.out⟩, ⟨bz⟩⟩
          case rest =>
            as_aux_lemma =>
            clear HC39
            try clear c1
            try clear p2
            try clear c3
            try clear c4
            try clear c5
            try clear c8
            try clear c10
            try clear c12
            try clear c12b0
            try clear c12b1
            try clear c14
            try clear c14b0
            try clear c14b1
            try clear c16
            try clear c17
            try clear c18
            try clear c19
            try clear c36
            try clear c44
            try clear c44b0
            try clear c44b1
            try clear hcz18_0
            try clear hcz18_1
            try clear hcz18_2
            try clear hcz18_3
            try clear hcz20_0
            try clear hcz20_1
            try clear hcz20_2
            try clear hcz20_3
            try clear hcz22_0
            try clear hcz22_1
            try clear hcz22_2
            try clear hcz22_3
            try clear hcz24_0
            try clear hcz24_1
            try clear hcz24_2
            try clear hcz24_3
            try clear hcz26_0
            try clear hcz26_1
            try clear hcz26_2
            try clear hcz26_3
            try clear hcz28_0
            try clear hcz28_1
            try clear hcz28_2
            try clear hcz28_3
            try clear hcz30_0
            try clear hcz30_1
            try clear hcz30_2
            try clear hcz30_3
            try clear hcz32_0
            try clear hcz32_1
            try clear hcz32_2
            try clear hcz32_3
            try clear hcz34_0
            try clear hcz34_1
            try clear hcz34_2
            try clear hcz34_3
            try clear hcz40_0
            try clear hcz40_1
            try clear hcz40_2
            try clear hcz40_3
            try clear hfz18_0
            try clear hfz18_1
            try clear hfz18_2
            try clear hfz18_3
            try clear hfz20_0
            try clear hfz20_1
            try clear hfz20_2
            try clear hfz20_3
            try clear hfz22_0
            try clear hfz22_1
            try clear hfz22_2
            try clear hfz22_3
            try clear hfz24_0
            try clear hfz24_1
            try clear hfz24_2
            try clear hfz24_3
            try clear hfz26_0
            try clear hfz26_1
            try clear hfz26_2
            try clear hfz26_3
            try clear hfz28_0
            try clear hfz28_1
            try clear hfz28_2
            try clear hfz28_3
            try clear hfz30_0
            try clear hfz30_1
            try clear hfz30_2
            try clear hfz30_3
            try clear hfz32_0
            try clear hfz32_1
            try clear hfz32_2
            try clear hfz32_3
            try clear hfz34_0
            try clear hfz34_1
            try clear hfz34_2
            try clear hfz34_3
            try clear hfz40_0
            try clear hfz40_1
            try clear hfz40_2
            try clear hfz40_3
            try clear p2
            obtain ⟨kq, x70_38, rfl, HA, HJ38, BK1982, HB⟩ := hcut
            cases kq with
            | zero => exact absurd HA.out (by simp [Lw_LineKept.j1])
            | succ kj38 =>
              have H := HA.out
              clear HA
              simp only [Lw_LineKept.j1] at H
              by_cases c46 : x70_38 = true
              · subst c46
                rw [if_pos rfl] at H
                exact absurd H (by simp)
              · replace c46 := Bool.eq_false_iff.mpr c46
                subst c46
                rw [if_neg (show ¬ (false = true) by decide)] at H
                replace H := ob H
                obtain ⟨t1995, A470, H⟩ := H
                (try dsimp only at H)
                have A47 := m0 A470
                clear A470
                replace H := ob H
                obtain ⟨⟨t1998, t1999, t2000⟩, A480, H⟩ := H
                (try dsimp only at H)
                have A48 := m0 A480
                clear A480
                have HC49 := m0 H
                clear H
                obtain ⟨hcz50_0, hcz50_1, hcz50_2, hcz50_3, hfz50_0, hfz50_1, hfz50_2, hfz50_3⟩ := b4 BK1982
                go_upto_region 10 with (first | ((with_reducible refine gate_callee (f := 52) rfl ?_); refine gl (some 74) Tryd.func52 #[.agg #[.slice A0_1 l0_1.length c0_1]] ?_; (with_reducible refine (Rf_CopyNoise.calls _ _ l0_1 t1995 _ ?side1 ?side2 A47.out).mono ?_); (case side1 => exact cb HR0_1 HB); (case side2 => exact HC0_1.out); rintro e w51 ⟨v1996, rfl, ho0, hb⟩; refine ⟨_, rfl, ?_⟩; have HO1997 := m0 (Kd.R_lower ho0 (below_size bz)); replace BK1982 := bb BK1982 hb; replace HB := sb HB hb; (try clear hb); (try clear ho0); obtain ⟨Ao52, co52, eo52⟩ := Kd.R_slice HO1997.out; subst eo52) | ((with_reducible refine gate_callee (f := 83) rfl ?_); refine gl (some 77) Tryd.func83 #[.agg #[.slice Ao52 t1995.length co52], .int .i64 (l0_0.length : Int), .int .i64 t1992] ?_; (with_reducible refine (line_FalseRate.calls kj38 _ _ t1995 (l0_0.length : Int) t1992 t1998 t1999 t2000 _ ?side1 ?side2 A48.out).mono ?_); (case side1 => exact bc (Kd.R_reads' HO1997.out).2.2); (case side2 => exact (Kd.R_reads' HO1997.out).2.1); rintro e w53 ⟨rfl, hb⟩; refine ⟨_, rfl, ?_⟩; replace HO1997 := rb HO1997 hb; replace BK1982 := bb BK1982 hb; replace HB := sb HB hb; (try clear hb)) | ((with_reducible refine gate_dst (N := 10) rfl ?_); (try (refine gate_guard (by rfl) ?_; dsimp only)); refine be 10 26 #[.int .i64 0, .int .i64 0] ?_; intro gb2001 hg w54 hbox hb; replace HO1997 := rb HO1997 hb; have BK2001 := m0 hbox; have GW2001 := m0 (bg (n := w.heap.size) hg); have GE2001 := m0 (bg (n := w.heap.size) hg); replace HB := sb HB hb; have NB1982_2001 := nl BK1982 hg; have NB2001_1982 := ng (nl BK1982 hg); replace BK1982 := bb BK1982 hb; clear hb hbox hg; have hnb55 := NB2001_1982.out; have hnc55 := NB1982_2001.out; obtain ⟨hcz56_0, hcz56_1, hfz56_0, hfz56_1⟩ := b2 BK2001))
                (try simp only [Act.put, List.setIfInBounds_toArray, List.set_cons_zero, List.set_cons_succ])
                go_cut [96] (fun v96 wc => ∃ (kq : Nat) (x96_48 : Bool), v96 = .bool x96_48 ∧ Aside0 (Lw_LineKept.j2 kq a1 a2 (l0_0.length : Int) t1992 x96_48 l0_0 l0_1 a0_2 a0_3 = some r) ∧ Aside0 (kq ≤ kj38) ∧ Aside0 (wc.heap[gb1982]? = some (.cells #[(.slice A0_0 l0_0.length c0_0), (.slice A0_1 l0_1.length c0_1), .int .i64 a0_2, .int .i64 a0_3] 28 (0, 0))) ∧ Aside0 (wc.heap[gb2001]? = some (.cells #[.int .i64 t1998, .int .i64 t1999] 26 (0, 0))) ∧ Aside0 (Below w.heap.size w wc))
                case first =>
                  have H := HC49.out
                  clear HC49
                  by_cases c57 : t2000 = 0
                  · rw [if_pos c57] at H
                    have c57b0 := beq_iff_eq.mpr c57
                    have c57b1 := bne_eq_false_iff_eq.mpr c57
                    clear c57
                    (first | rw [c57b0] | (simp only [i64_w, i32_w]; rw [c57b0]) | skip)
                    replace H := ob H
                    obtain ⟨t2002, A580, H⟩ := H
                    (try dsimp only at H)
                    have A58 := m0 A580
                    clear A580
                    by_cases c59 : t2002 = true
                    · subst c59
                      rw [if_pos rfl] at H
                      have H' := m0 H
                      clear H
                      have hnb60 := NB2001_1982.out
                      have hnc60 := NB1982_2001.out
                      obtain ⟨hcz61_0, hcz61_1, hfz61_0, hfz61_1⟩ := b2 BK2001
                      go_wp2_with (first | (go_at_call 88; (with_reducible refine (Lw_part.calls kj38 t1998 t1999 true _ A58.out).mono ?_); rintro e w62 ⟨rfl, hb⟩; replace HO1997 := m0 (Kd.R_below (by (with_reducible repeat (first | apply Kd.R_alloc | apply Kd.R_drewN | apply Kd.R_drew)); exact (Kd.R_mono (Kd.R_far (p := ⟨gb2001, 1, none⟩) (Kd.R_far (p := ⟨gb2001, 0, none⟩) (Kd.R_types HO1997.out BK2001.out (by decide)) (fun _ hk => hk.2) (.int .i64 t1998)) (fun _ hk => hk.2) (.int .i64 t1999)) (fun _ h_ => h_.1))) hb); replace BK1982 := m0 (blk_below (g := gb1982) (o := .cells #[.slice A0_0 l0_0.length c0_0, .slice A0_1 l0_1.length c0_1, .int .i64 a0_2, .int .i64 a0_3] 28 (0, 0)) (bq BK1982.out) hb); replace BK2001 := m0 (blk_below (g := gb2001) (o := .cells #[.int .i64 t1998, .int .i64 t1999] 26 (0, 0)) (bq BK2001.out) hb); replace HB := sb HB hb; (try clear hb); obtain ⟨hcz63_0, hcz63_1, hfz63_0, hfz63_1⟩ := b2 BK2001))
                      go_meet
                      case rel => exact ⟨_, (decide ((wrap64 (1000 * t1998)) > (wrap64 (a2 * t1999)))), (by first | rfl | (simp; done) | (simp [*]; done)), H', ⟨by have := HJ5.out; have := HJ38.out; first | omega | exact Nat.le_refl _⟩, ⟨bk BK1982.out⟩, ⟨bk BK2001.out⟩, ⟨bz⟩⟩
                    · replace c59 := Bool.eq_false_iff.mpr c59
                      subst c59
                      rw [if_neg (show ¬ (false = true) by decide)] at H
                      have H' := m0 H
                      clear H
                      have hnb64 := NB2001_1982.out
                      have hnc64 := NB1982_2001.out
                      obtain ⟨hcz65_0, hcz65_1, hfz65_0, hfz65_1⟩ := b2 BK2001
                      go_wp2_with (first | (go_at_call 88; (with_reducible refine (Lw_part.calls kj38 t1998 t1999 false _ A58.out).mono ?_); rintro e w66 ⟨rfl, hb⟩; replace HO1997 := m0 (Kd.R_below (by (with_reducible repeat (first | apply Kd.R_alloc | apply Kd.R_drewN | apply Kd.R_drew)); exact (Kd.R_mono (Kd.R_far (p := ⟨gb2001, 1, none⟩) (Kd.R_far (p := ⟨gb2001, 0, none⟩) (Kd.R_types HO1997.out BK2001.out (by decide)) (fun _ hk => hk.2) (.int .i64 t1998)) (fun _ hk => hk.2) (.int .i64 t1999)) (fun _ h_ => h_.1))) hb); replace BK1982 := m0 (blk_below (g := gb1982) (o := .cells #[.slice A0_0 l0_0.length c0_0, .slice A0_1 l0_1.length c0_1, .int .i64 a0_2, .int .i64 a0_3] 28 (0, 0)) (bq BK1982.out) hb); replace BK2001 := m0 (blk_below (g := gb2001) (o := .cells #[.int .i64 t1998, .int .i64 t1999] 26 (0, 0)) (bq BK2001.out) hb); replace HB := sb HB hb; (try clear hb)))
                      go_meet
                      case rel => exact ⟨_, (true), (by first | rfl | (simp; done) | (simp [*]; done)), H', ⟨by have := HJ5.out; have := HJ38.out; first | omega | exact Nat.le_refl _⟩, ⟨bk BK1982.out⟩, ⟨bk BK2001.out⟩, ⟨bz⟩⟩
                  · rw [if_neg c57] at H
                    have c57b0 := beq_eq_false_iff_ne.mpr c57
                    have c57b1 := bne_iff_ne.mpr c57
                    (first | rw [c57b0] | (simp only [i64_w, i32_w]; rw [c57b0]) | skip)
                    have H' := m0 H
                    clear H
                    go_wp2
                    go_meet
                    case rel => exact ⟨_, (true), (by first | rfl | (simp; done) | (simp [*]; done)), H', ⟨by have := HJ5.out; have := HJ38.out; first | omega | exact Nat.le_refl _⟩, ⟨bq BK1982.out⟩, ⟨bq BK2001.out⟩, ⟨bz⟩⟩
                case rest =>
                  as_aux_lemma =>
                  clear HC49
                  try clear c1
                  try clear p2
                  try clear c3
                  try clear c4
                  try clear c5
                  try clear c6
                  try clear p6
                  try clear c8
                  try clear c10
                  try clear c12
                  try clear c12b0
                  try clear c12b1
                  try clear c14
                  try clear c14b0
                  try clear c14b1
                  try clear c16
                  try clear c17
                  try clear c18
                  try clear c19
                  try clear c36
                  try clear c44
                  try clear c44b0
                  try clear c44b1
                  try clear c46
                  try clear c52
                  try clear c55
                  try clear c57
                  try clear c57b0
                  try clear c57b1
                  try clear c59
                  try clear c60
                  try clear c64
                  try clear p64
                  try clear hcz18_0
                  try clear hcz18_1
                  try clear hcz18_2
                  try clear hcz18_3
                  try clear hcz20_0
                  try clear hcz20_1
                  try clear hcz20_2
                  try clear hcz20_3
                  try clear hcz22_0
                  try clear hcz22_1
                  try clear hcz22_2
                  try clear hcz22_3
                  try clear hcz24_0
                  try clear hcz24_1
                  try clear hcz24_2
                  try clear hcz24_3
                  try clear hcz26_0
                  try clear hcz26_1
                  try clear hcz26_2
                  try clear hcz26_3
                  try clear hcz28_0
                  try clear hcz28_1
                  try clear hcz28_2
                  try clear hcz28_3
                  try clear hcz30_0
                  try clear hcz30_1
                  try clear hcz30_2
                  try clear hcz30_3
                  try clear hcz32_0
                  try clear hcz32_1
                  try clear hcz32_2
                  try clear hcz32_3
                  try clear hcz34_0
                  try clear hcz34_1
                  try clear hcz34_2
                  try clear hcz34_3
                  try clear hcz40_0
                  try clear hcz40_1
                  try clear hcz40_2
                  try clear hcz40_3
                  try clear hcz50_0
                  try clear hcz50_1
                  try clear hcz50_2
                  try clear hcz50_3
                  try clear hcz56_0
                  try clear hcz56_1
                  try clear hcz61_0
                  try clear hcz61_1
                  try clear hcz63_0
                  try clear hcz63_1
                  try clear hcz65_0
                  try clear hcz65_1
                  try clear hfz18_0
                  try clear hfz18_1
                  try clear hfz18_2
                  try clear hfz18_3
                  try clear hfz20_0
                  try clear hfz20_1
                  try clear hfz20_2
                  try clear hfz20_3
                  try clear hfz22_0
                  try clear hfz22_1
                  try clear hfz22_2
                  try clear hfz22_3
                  try clear hfz24_0
                  try clear hfz24_1
                  try clear hfz24_2
                  try clear hfz24_3
                  try clear hfz26_0
                  try clear hfz26_1
                  try clear hfz26_2
                  try clear hfz26_3
                  try clear hfz28_0
                  try clear hfz28_1
                  try clear hfz28_2
                  try clear hfz28_3
                  try clear hfz30_0
                  try clear hfz30_1
                  try clear hfz30_2
                  try clear hfz30_3
                  try clear hfz32_0
                  try clear hfz32_1
                  try clear hfz32_2
                  try clear hfz32_3
                  try clear hfz34_0
                  try clear hfz34_1
                  try clear hfz34_2
                  try clear hfz34_3
                  try clear hfz40_0
                  try clear hfz40_1
                  try clear hfz40_2
                  try clear hfz40_3
                  try clear hfz50_0
                  try clear hfz50_1
                  try clear hfz50_2
                  try clear hfz50_3
                  try clear hfz56_0
                  try clear hfz56_1
                  try clear hfz61_0
                  try clear hfz61_1
                  try clear hfz63_0
                  try clear hfz63_1
                  try clear hfz65_0
                  try clear hfz65_1
                  try clear p2
                  obtain ⟨kq, x96_48, rfl, HA, HJ48, BK1982, BK2001, HB⟩ := hcut
                  cases kq with
                  | zero => exact absurd HA.out (by simp [Lw_LineKept.j2])
                  | succ kj48 =>
                    have H := HA.out
                    clear HA
                    simp only [Lw_LineKept.j2] at H
                    by_cases c67 : x96_48 = true
                    · subst c67
                      rw [if_pos rfl] at H
                      exact absurd H (by simp)
                    · replace c67 := Bool.eq_false_iff.mpr c67
                      subst c67
                      rw [if_neg (show ¬ (false = true) by decide)] at H
                      have HC68 := m0 H
                      clear H
                      go_upto_if 98 with (fail)
                      go_cut [] (fun wc => ∃ (kq : Nat), Aside0 (Lw_LineKept.j3 kq a1 (l0_0.length : Int) l0_0 l0_1 a0_2 a0_3 = some r) ∧ Aside0 (kq ≤ kj48) ∧ Aside0 (wc.heap[gb1982]? = some (.cells #[(.slice A0_0 l0_0.length c0_0), (.slice A0_1 l0_1.length c0_1), .int .i64 a0_2, .int .i64 a0_3] 28 (0, 0))) ∧ Aside0 (wc.heap[gb2001]? = some (.cells #[.int .i64 t1998, .int .i64 t1999] 26 (0, 0))) ∧ Aside0 (Below w.heap.size w wc))
                      case first =>
                        have H := HC68.out
                        clear HC68
                        by_cases c69 : t1992 > 0
                        · rw [if_pos c69] at H
                          have c69b0 := decide_eq_true c69
                          clear c69
                          (first | rw [c69b0] | (simp only [i64_w, i32_w]; rw [c69b0]) | skip)
                          replace H := ob H
                          obtain ⟨t2003, A700, H⟩ := H
                          (try dsimp only at H)
                          have A70 := m0 A700
                          clear A700
                          replace H := ob H
                          obtain ⟨⟨t2006, t2007, t2008⟩, A710, H⟩ := H
                          (try dsimp only at H)
                          have A71 := m0 A710
                          clear A710
                          by_cases c72 : t2008 = 0
                          · rw [if_pos c72] at H
                            have c72b0 := beq_iff_eq.mpr c72
                            have c72b1 := bne_eq_false_iff_eq.mpr c72
                            clear c72
                            replace H := ob H
                            obtain ⟨t2010, A730, H⟩ := H
                            (try dsimp only at H)
                            have A73 := m0 A730
                            clear A730
                            by_cases c74 : t2010 = true
                            · subst c74
                              rw [if_pos rfl] at H
                              by_cases c75 : (wrap64 (1000 * t2006)) ≤ (wrap64 (a2 * t2007))
                              · rw [if_pos c75] at H
                                exact absurd H (by simp)
                              · rw [if_neg c75] at H
                                have c75b0 := decide_eq_false c75
                                clear c75
                                have H' := m0 H
                                clear H
                                have hnb76 := NB1982_2001.out
                                have hnc76 := NB2001_1982.out
                                obtain ⟨hcz77_0, hcz77_1, hcz77_2, hcz77_3, hfz77_0, hfz77_1, hfz77_2, hfz77_3⟩ := b4 BK1982
                                go_wp2_with (first | ((with_reducible refine gate_callee (f := 52) rfl ?_); refine gl (some 102) Tryd.func52 #[.agg #[.slice A0_1 l0_1.length c0_1]] ?_; (with_reducible refine (Rf_CopyNoise.calls _ _ l0_1 t2003 _ ?side1 ?side2 A70.out).mono ?_); (case side1 => exact cb HR0_1 HB); (case side2 => exact HC0_1.out); rintro e w78 ⟨v2004, rfl, ho0, hb⟩; refine ⟨_, rfl, ?_⟩; have HO2005 := m0 (Kd.R_lower ho0 (below_size bz)); replace BK1982 := bb BK1982 hb; replace BK2001 := bb BK2001 hb; replace HB := sb HB hb; (try clear hb); (try clear ho0); obtain ⟨Ao79, co79, eo79⟩ := Kd.R_slice HO2005.out; subst eo79) | ((with_reducible refine gate_callee (f := 83) rfl ?_); refine gl (some 106) Tryd.func83 #[.agg #[.slice Ao79 t2003.length co79], .int .i64 (l0_0.length : Int), .int .i64 (wrap64 (t1992 - 1))] ?_; (with_reducible refine (line_FalseRate.calls kj48 _ _ t2003 (l0_0.length : Int) (wrap64 (t1992 - 1)) t2006 t2007 t2008 _ ?side1 ?side2 A71.out).mono ?_); (case side1 => exact bc (Kd.R_reads' HO2005.out).2.2); (case side2 => exact (Kd.R_reads' HO2005.out).2.1); rintro e w80 ⟨rfl, hb⟩; refine ⟨_, rfl, ?_⟩; replace HO2005 := rb HO2005 hb; replace BK1982 := bb BK1982 hb; replace BK2001 := bb BK2001 hb; replace HB := sb HB hb; (try clear hb)) | ((with_reducible refine gate_dst (N := 12) rfl ?_); (try (refine gate_guard (by rfl) ?_; dsimp only)); refine be 12 26 #[.int .i64 0, .int .i64 0] ?_; intro gb2009 hg w81 hbox hb; replace HO2005 := rb HO2005 hb; have BK2009 := m0 hbox; have GW2009 := m0 (bg (n := w.heap.size) hg); have GE2009 := m0 (bg (n := w.heap.size) hg); replace HB := sb HB hb; have NB1982_2009 := nl BK1982 hg; have NB2009_1982 := ng (nl BK1982 hg); replace BK1982 := bb BK1982 hb; have NB2001_2009 := nl BK2001 hg; have NB2009_2001 := ng (nl BK2001 hg); replace BK2001 := bb BK2001 hb; clear hb hbox hg; have hnb82 := NB2009_1982.out; have hnc82 := NB1982_2009.out; have hnb83 := NB2009_2001.out; have hnc83 := NB2001_2009.out; obtain ⟨hcz84_0, hcz84_1, hfz84_0, hfz84_1⟩ := b2 BK2009) | (go_at_call 88; (with_reducible refine (Lw_part.calls kj48 t2006 t2007 true _ A73.out).mono ?_); rintro e w85 ⟨rfl, hb⟩; replace HO2005 := m0 (Kd.R_below (by (with_reducible repeat (first | apply Kd.R_alloc | apply Kd.R_drewN | apply Kd.R_drew)); exact (Kd.R_mono (Kd.R_far (p := ⟨gb2009, 1, none⟩) (Kd.R_far (p := ⟨gb2009, 0, none⟩) (Kd.R_types HO2005.out BK2009.out (by decide)) (fun _ hk => hk.2) (.int .i64 t2006)) (fun _ hk => hk.2) (.int .i64 t2007)) (fun _ h_ => h_.1))) hb); replace BK1982 := m0 (blk_below (g := gb1982) (o := .cells #[.slice A0_0 l0_0.length c0_0, .slice A0_1 l0_1.length c0_1, .int .i64 a0_2, .int .i64 a0_3] 28 (0, 0)) (bq BK1982.out) hb); replace BK2001 := m0 (blk_below (g := gb2001) (o := .cells #[.int .i64 t1998, .int .i64 t1999] 26 (0, 0)) (bq BK2001.out) hb); replace BK2009 := m0 (blk_below (g := gb2009) (o := .cells #[.int .i64 t2006, .int .i64 t2007] 26 (0, 0)) (bq BK2009.out) hb); replace HB := sb HB hb; (try clear hb); obtain ⟨hcz86_0, hcz86_1, hfz86_0, hfz86_1⟩ := b2 BK2009))
                                go_meet
                                case rel => exact ⟨_, H', ⟨by have := HJ5.out; have := HJ38.out; have := HJ48.out; first | omega | exact Nat.le_refl _⟩, ⟨bk BK1982.out⟩, ⟨bk BK2001.out⟩, ⟨bz⟩⟩
                            · replace c74 := Bool.eq_false_iff.mpr c74
                              subst c74
                              rw [if_neg (show ¬ (false = true) by decide)] at H
                              exact absurd H (by simp)
                          · rw [if_neg c72] at H
                            exact absurd H (by simp)
                        · rw [if_neg c69] at H
                          have c69b0 := decide_eq_false c69
                          clear c69
                          (first | rw [c69b0] | (simp only [i64_w, i32_w]; rw [c69b0]) | skip)
                          have H' := m0 H
                          clear H
                          go_wp2
                          go_meet
                          case rel => exact ⟨_, H', ⟨by have := HJ5.out; have := HJ38.out; have := HJ48.out; first | omega | exact Nat.le_refl _⟩, ⟨bk BK1982.out⟩, ⟨bk BK2001.out⟩, ⟨bz⟩⟩
                      case rest =>
                        as_aux_lemma =>
                        clear HC68
                        try clear c1
                        try clear p2
                        try clear c3
                        try clear c4
                        try clear c5
                        try clear c6
                        try clear p6
                        try clear c7
                        try clear c8
                        try clear c10
                        try clear c12
                        try clear c12b0
                        try clear c12b1
                        try clear c14
                        try clear c14b0
                        try clear c14b1
                        try clear c16
                        try clear c17
                        try clear c18
                        try clear c19
                        try clear c36
                        try clear c44
                        try clear c44b0
                        try clear c44b1
                        try clear c46
                        try clear c52
                        try clear c55
                        try clear c57
                        try clear c57b0
                        try clear c57b1
                        try clear c59
                        try clear c60
                        try clear c64
                        try clear p64
                        try clear c67
                        try clear c69
                        try clear c69b0
                        try clear c72
                        try clear c72b0
                        try clear c72b1
                        try clear c74
                        try clear c75
                        try clear c75b0
                        try clear c76
                        try clear c82
                        try clear c83
                        try clear c84
                        try clear hcz18_0
                        try clear hcz18_1
                        try clear hcz18_2
                        try clear hcz18_3
                        try clear hcz20_0
                        try clear hcz20_1
                        try clear hcz20_2
                        try clear hcz20_3
                        try clear hcz22_0
                        try clear hcz22_1
                        try clear hcz22_2
                        try clear hcz22_3
                        try clear hcz24_0
                        try clear hcz24_1
                        try clear hcz24_2
                        try clear hcz24_3
                        try clear hcz26_0
                        try clear hcz26_1
                        try clear hcz26_2
                        try clear hcz26_3
                        try clear hcz28_0
                        try clear hcz28_1
                        try clear hcz28_2
                        try clear hcz28_3
                        try clear hcz30_0
                        try clear hcz30_1
                        try clear hcz30_2
                        try clear hcz30_3
                        try clear hcz32_0
                        try clear hcz32_1
                        try clear hcz32_2
                        try clear hcz32_3
                        try clear hcz34_0
                        try clear hcz34_1
                        try clear hcz34_2
                        try clear hcz34_3
                        try clear hcz40_0
                        try clear hcz40_1
                        try clear hcz40_2
                        try clear hcz40_3
                        try clear hcz50_0
                        try clear hcz50_1
                        try clear hcz50_2
                        try clear hcz50_3
                        try clear hcz56_0
                        try clear hcz56_1
                        try clear hcz61_0
                        try clear hcz61_1
                        try clear hcz63_0
                        try clear hcz63_1
                        try clear hcz65_0
                        try clear hcz65_1
                        try clear hcz77_0
                        try clear hcz77_1
                        try clear hcz77_2
                        try clear hcz77_3
                        try clear hcz84_0
                        try clear hcz84_1
                        try clear hcz86_0
                        try clear hcz86_1
                        try clear hfz18_0
                        try clear hfz18_1
                        try clear hfz18_2
                        try clear hfz18_3
                        try clear hfz20_0
                        try clear hfz20_1
                        try clear hfz20_2
                        try clear hfz20_3
                        try clear hfz22_0
                        try clear hfz22_1
                        try clear hfz22_2
                        try clear hfz22_3
                        try clear hfz24_0
                        try clear hfz24_1
                        try clear hfz24_2
                        try clear hfz24_3
                        try clear hfz26_0
                        try clear hfz26_1
                        try clear hfz26_2
                        try clear hfz26_3
                        try clear hfz28_0
                        try clear hfz28_1
                        try clear hfz28_2
                        try clear hfz28_3
                        try clear hfz30_0
                        try clear hfz30_1
                        try clear hfz30_2
                        try clear hfz30_3
                        try clear hfz32_0
                        try clear hfz32_1
                        try clear hfz32_2
                        try clear hfz32_3
                        try clear hfz34_0
                        try clear hfz34_1
                        try clear hfz34_2
                        try clear hfz34_3
                        try clear hfz40_0
                        try clear hfz40_1
                        try clear hfz40_2
                        try clear hfz40_3
                        try clear hfz50_0
                        try clear hfz50_1
                        try clear hfz50_2
                        try clear hfz50_3
                        try clear hfz56_0
                        try clear hfz56_1
                        try clear hfz61_0
                        try clear hfz61_1
                        try clear hfz63_0
                        try clear hfz63_1
                        try clear hfz65_0
                        try clear hfz65_1
                        try clear hfz77_0
                        try clear hfz77_1
                        try clear hfz77_2
                        try clear hfz77_3
                        try clear hfz84_0
                        try clear hfz84_1
                        try clear hfz86_0
                        try clear hfz86_1
                        try clear p2
                        try clear p6
                        try clear p64
                        obtain ⟨kq, HA, HJ67, BK1982, BK2001, HB⟩ := hcut
                        cases kq with
                        | zero => exact absurd HA.out (by simp [Lw_LineKept.j3])
                        | succ kj67 =>
                          have H := HA.out
                          clear HA
                          simp only [Lw_LineKept.j3] at H
                          replace H := ob H
                          obtain ⟨t2011, A870, H⟩ := H
                          (try dsimp only at H)
                          have A87 := m0 A870
                          clear A870
                          replace H := ob H
                          obtain ⟨⟨t2014, t2015, t2016⟩, A880, H⟩ := H
                          (try dsimp only at H)
                          have A88 := m0 A880
                          clear A880
                          replace H := ob H
                          obtain ⟨t2018, A890, H⟩ := H
                          (try dsimp only at H)
                          have A89 := m0 A890
                          clear A890
                          replace H := ob H
                          obtain ⟨⟨t2021, t2022, t2023⟩, A900, H⟩ := H
                          (try dsimp only at H)
                          have A90 := m0 A900
                          clear A900
                          replace H := ob H
                          obtain ⟨⟨t2025, t2028, t2031, t2032⟩, A910, H⟩ := H
                          (try dsimp only at H)
                          have A91 := m0 A910
                          clear A910
                          replace H := ob H
                          obtain ⟨⟨t2033, t2034, t2035⟩, A920, H⟩ := H
                          (try dsimp only at H)
                          have A92 := m0 A920
                          clear A920
                          have HC93 := m0 H
                          clear H
                          have hnb94 := NB1982_2001.out
                          have hnc94 := NB2001_1982.out
                          obtain ⟨hcz95_0, hcz95_1, hcz95_2, hcz95_3, hfz95_0, hfz95_1, hfz95_2, hfz95_3⟩ := b4 BK1982
                          go_upto_region 19 with (first | ((with_reducible refine gate_callee (f := 52) rfl ?_); refine gl (some 129) Tryd.func52 #[.agg #[.slice A0_1 l0_1.length c0_1]] ?_; (with_reducible refine (Rf_CopyNoise.calls _ _ l0_1 t2011 _ ?side1 ?side2 A87.out).mono ?_); (case side1 => exact cb HR0_1 HB); (case side2 => exact HC0_1.out); rintro e w96 ⟨v2012, rfl, ho0, hb⟩; refine ⟨_, rfl, ?_⟩; have HO2013 := m0 (Kd.R_lower ho0 (below_size bz)); replace BK1982 := bb BK1982 hb; replace BK2001 := bb BK2001 hb; replace HB := sb HB hb; (try clear hb); (try clear ho0); obtain ⟨Ao97, co97, eo97⟩ := Kd.R_slice HO2013.out; subst eo97) | ((with_reducible refine gate_callee (f := 83) rfl ?_); refine gl (some 132) Tryd.func83 #[.agg #[.slice Ao97 t2011.length co97], .int .i64 (l0_0.length : Int), .int .i64 a1] ?_; (with_reducible refine (line_FalseRate.calls kj67 _ _ t2011 (l0_0.length : Int) a1 t2014 t2015 t2016 _ ?side1 ?side2 A88.out).mono ?_); (case side1 => exact bc (Kd.R_reads' HO2013.out).2.2); (case side2 => exact (Kd.R_reads' HO2013.out).2.1); rintro e w98 ⟨rfl, hb⟩; refine ⟨_, rfl, ?_⟩; replace HO2013 := rb HO2013 hb; replace BK1982 := bb BK1982 hb; replace BK2001 := bb BK2001 hb; replace HB := sb HB hb; (try clear hb)) | ((with_reducible refine gate_dst (N := 14) rfl ?_); (try (refine gate_guard (by rfl) ?_; dsimp only)); refine be 14 26 #[.int .i64 0, .int .i64 0] ?_; intro gb2017 hg w99 hbox hb; replace HO2013 := rb HO2013 hb; have BK2017 := m0 hbox; have GW2017 := m0 (bg (n := w.heap.size) hg); have GE2017 := m0 (bg (n := w.heap.size) hg); replace HB := sb HB hb; have NB1982_2017 := nl BK1982 hg; have NB2017_1982 := ng (nl BK1982 hg); replace BK1982 := bb BK1982 hb; have NB2001_2017 := nl BK2001 hg; have NB2017_2001 := ng (nl BK2001 hg); replace BK2001 := bb BK2001 hb; clear hb hbox hg; have hnb100 := NB2017_1982.out; have hnc100 := NB1982_2017.out; have hnb101 := NB2017_2001.out; have hnc101 := NB2001_2017.out; obtain ⟨hcz102_0, hcz102_1, hfz102_0, hfz102_1⟩ := b2 BK2017; obtain ⟨hcz103_0, hcz103_1, hcz103_2, hcz103_3, hfz103_0, hfz103_1, hfz103_2, hfz103_3⟩ := b4 BK1982) | ((with_reducible refine gate_callee (f := 52) rfl ?_); refine gl (some 138) Tryd.func52 #[.agg #[.slice A0_1 l0_1.length c0_1]] ?_; (with_reducible refine (Rf_CopyNoise.calls _ _ l0_1 t2018 _ ?side1 ?side2 A89.out).mono ?_); (case side1 => exact Kd.C_below HR0_1.out bz); (case side2 => exact HC0_1.out); rintro e w104 ⟨v2019, rfl, ho0, hb⟩; refine ⟨_, rfl, ?_⟩; have HO2020 := m0 (Kd.R_lower (Kd.R_new' ho0 (Kd.R_lt (by (with_reducible repeat (first | apply Kd.R_alloc | apply Kd.R_drewN | apply Kd.R_drew)); exact (Kd.R_mono (Kd.R_far (p := ⟨gb2017, 1, none⟩) (Kd.R_far (p := ⟨gb2017, 0, none⟩) (Kd.R_types HO2013.out BK2017.out (by decide)) (fun _ hk => hk.2) (.int .i64 t2014)) (fun _ hk => hk.2) (.int .i64 t2015)) (fun _ h_ => h_.1))))) (below_size bz)); replace HO2013 := m0 (Kd.R_elder' (by (with_reducible repeat (first | apply Kd.R_alloc | apply Kd.R_drewN | apply Kd.R_drew)); exact (Kd.R_mono (Kd.R_far (p := ⟨gb2017, 1, none⟩) (Kd.R_far (p := ⟨gb2017, 0, none⟩) (Kd.R_types HO2013.out BK2017.out (by decide)) (fun _ hk => hk.2) (.int .i64 t2014)) (fun _ hk => hk.2) (.int .i64 t2015)) (fun _ h_ => h_.1))) (Kd.R_base ho0) hb); replace BK1982 := m0 (blk_below (g := gb1982) (o := .cells #[.slice A0_0 l0_0.length c0_0, .slice A0_1 l0_1.length c0_1, .int .i64 a0_2, .int .i64 a0_3] 28 (0, 0)) (bq BK1982.out) hb); replace BK2001 := m0 (blk_below (g := gb2001) (o := .cells #[.int .i64 t1998, .int .i64 t1999] 26 (0, 0)) (bq BK2001.out) hb); replace BK2017 := m0 (blk_below (g := gb2017) (o := .cells #[.int .i64 t2014, .int .i64 t2015] 26 (0, 0)) (bq BK2017.out) hb); replace HB := sb HB hb; (try clear hb); (try clear ho0); obtain ⟨Ao105, co105, eo105⟩ := Kd.R_slice HO2020.out; subst eo105) | ((with_reducible refine gate_callee (f := 83) rfl ?_); refine gl (some 142) Tryd.func83 #[.agg #[.slice Ao105 t2018.length co105], .int .i64 (l0_0.length : Int), .int .i64 (wrap64 (a1 + 1))] ?_; (with_reducible refine (line_FalseRate.calls kj67 _ _ t2018 (l0_0.length : Int) (wrap64 (a1 + 1)) t2021 t2022 t2023 _ ?side1 ?side2 A90.out).mono ?_); (case side1 => exact bc (Kd.R_reads' HO2020.out).2.2); (case side2 => exact (Kd.R_reads' HO2020.out).2.1); rintro e w106 ⟨rfl, hb⟩; refine ⟨_, rfl, ?_⟩; replace HO2013 := rb HO2013 hb; replace HO2020 := rb HO2020 hb; replace BK1982 := bb BK1982 hb; replace BK2001 := bb BK2001 hb; replace BK2017 := bb BK2017 hb; replace HB := sb HB hb; (try clear hb)) | ((with_reducible refine gate_dst (N := 16) rfl ?_); (try (refine gate_guard (by rfl) ?_; dsimp only)); refine be 16 26 #[.int .i64 0, .int .i64 0] ?_; intro gb2024 hg w107 hbox hb; replace HO2013 := rb HO2013 hb; replace HO2020 := rb HO2020 hb; have BK2024 := m0 hbox; have GW2024 := m0 (bg (n := w.heap.size) hg); have GE2024 := m0 (bg (n := w.heap.size) hg); replace HB := sb HB hb; have NB1982_2024 := nl BK1982 hg; have NB2024_1982 := ng (nl BK1982 hg); replace BK1982 := bb BK1982 hb; have NB2001_2024 := nl BK2001 hg; have NB2024_2001 := ng (nl BK2001 hg); replace BK2001 := bb BK2001 hb; have NB2017_2024 := nl BK2017 hg; have NB2024_2017 := ng (nl BK2017 hg); replace BK2017 := bb BK2017 hb; clear hb hbox hg; have hnb108 := NB2024_1982.out; have hnc108 := NB1982_2024.out; have hnb109 := NB2024_2001.out; have hnc109 := NB2001_2024.out; have hnb110 := NB2024_2017.out; have hnc110 := NB2017_2024.out; obtain ⟨hcz111_0, hcz111_1, hfz111_0, hfz111_1⟩ := b2 BK2024; obtain ⟨hcz112_0, hcz112_1, hcz112_2, hcz112_3, hfz112_0, hfz112_1, hfz112_2, hfz112_3⟩ := b4 BK1982) | ((with_reducible refine gate_callee (f := 21) rfl ?_); refine gl (some 147) Tryd.func21 #[.agg #[.slice A0_0 l0_0.length c0_0, .slice A0_1 l0_1.length c0_1, .int .i64 a0_2, .int .i64 a0_3]] ?_; (with_reducible refine (Rf_CopyCase.calls _ _ l0_0 _ _ l0_1 a0_2 a0_3 t2025 t2028 t2031 t2032 _ ?side1 ?side2 ?side3 ?side4 A91.out).mono ?_); (case side1 => exact Kd.C_below HR0_0.out bz); (case side2 => exact HC0_0.out); (case side3 => exact Kd.C_below HR0_1.out bz); (case side4 => exact HC0_1.out); rintro e w113 ⟨v2026, v2029, rfl, ho0, ho1, hb⟩; refine ⟨_, rfl, ?_⟩; have HO2027 := m0 (Kd.R_lower (Kd.R_new' (Kd.R_new' ho0 (Kd.R_lt (by (with_reducible repeat (first | apply Kd.R_alloc | apply Kd.R_drewN | apply Kd.R_drew)); exact (Kd.R_mono (Kd.R_far (p := ⟨gb2024, 1, none⟩) (Kd.R_far (p := ⟨gb2024, 0, none⟩) (Kd.R_types HO2013.out BK2024.out (by decide)) (fun _ hk => hk.2) (.int .i64 t2021)) (fun _ hk => hk.2) (.int .i64 t2022)) (fun _ h_ => h_.1))))) (Kd.R_lt (by (with_reducible repeat (first | apply Kd.R_alloc | apply Kd.R_drewN | apply Kd.R_drew)); exact (Kd.R_mono (Kd.R_far (p := ⟨gb2024, 1, none⟩) (Kd.R_far (p := ⟨gb2024, 0, none⟩) (Kd.R_types HO2020.out BK2024.out (by decide)) (fun _ hk => hk.2) (.int .i64 t2021)) (fun _ hk => hk.2) (.int .i64 t2022)) (fun _ h_ => h_.1))))) (below_size bz)); have HO2030 := m0 (Kd.R_lower (Kd.R_new' (Kd.R_new' ho1 (Kd.R_lt (by (with_reducible repeat (first | apply Kd.R_alloc | apply Kd.R_drewN | apply Kd.R_drew)); exact (Kd.R_mono (Kd.R_far (p := ⟨gb2024, 1, none⟩) (Kd.R_far (p := ⟨gb2024, 0, none⟩) (Kd.R_types HO2013.out BK2024.out (by decide)) (fun _ hk => hk.2) (.int .i64 t2021)) (fun _ hk => hk.2) (.int .i64 t2022)) (fun _ h_ => h_.1))))) (Kd.R_lt (by (with_reducible repeat (first | apply Kd.R_alloc | apply Kd.R_drewN | apply Kd.R_drew)); exact (Kd.R_mono (Kd.R_far (p := ⟨gb2024, 1, none⟩) (Kd.R_far (p := ⟨gb2024, 0, none⟩) (Kd.R_types HO2020.out BK2024.out (by decide)) (fun _ hk => hk.2) (.int .i64 t2021)) (fun _ hk => hk.2) (.int .i64 t2022)) (fun _ h_ => h_.1))))) (below_size bz)); replace HO2013 := m0 (Kd.R_mono (Kd.R_told (Kd.R_told (Kd.R_old (by (with_reducible repeat (first | apply Kd.R_alloc | apply Kd.R_drewN | apply Kd.R_drew)); exact (Kd.R_mono (Kd.R_far (p := ⟨gb2024, 1, none⟩) (Kd.R_far (p := ⟨gb2024, 0, none⟩) (Kd.R_types HO2013.out BK2024.out (by decide)) (fun _ hk => hk.2) (.int .i64 t2021)) (fun _ hk => hk.2) (.int .i64 t2022)) (fun _ h_ => h_.1))) hb) (Kd.R_base ho0)) (Kd.R_base ho1)) (fun _ h_ => h_.1)); replace HO2020 := m0 (Kd.R_mono (Kd.R_told (Kd.R_told (Kd.R_old (by (with_reducible repeat (first | apply Kd.R_alloc | apply Kd.R_drewN | apply Kd.R_drew)); exact (Kd.R_mono (Kd.R_far (p := ⟨gb2024, 1, none⟩) (Kd.R_far (p := ⟨gb2024, 0, none⟩) (Kd.R_types HO2020.out BK2024.out (by decide)) (fun _ hk => hk.2) (.int .i64 t2021)) (fun _ hk => hk.2) (.int .i64 t2022)) (fun _ h_ => h_.1))) hb) (Kd.R_base ho0)) (Kd.R_base ho1)) (fun _ h_ => h_.1)); replace BK1982 := m0 (blk_below (g := gb1982) (o := .cells #[.slice A0_0 l0_0.length c0_0, .slice A0_1 l0_1.length c0_1, .int .i64 a0_2, .int .i64 a0_3] 28 (0, 0)) (bq BK1982.out) hb); replace BK2001 := m0 (blk_below (g := gb2001) (o := .cells #[.int .i64 t1998, .int .i64 t1999] 26 (0, 0)) (bq BK2001.out) hb); replace BK2017 := m0 (blk_below (g := gb2017) (o := .cells #[.int .i64 t2014, .int .i64 t2015] 26 (0, 0)) (bq BK2017.out) hb); replace BK2024 := m0 (blk_below (g := gb2024) (o := .cells #[.int .i64 t2021, .int .i64 t2022] 26 (0, 0)) (bq BK2024.out) hb); replace HB := sb HB hb; (try clear hb); (try clear ho0); (try clear ho1); obtain ⟨Ao114, co114, eo114⟩ := Kd.R_slice HO2027.out; subst eo114; obtain ⟨Ao115, co115, eo115⟩ := Kd.R_slice HO2030.out; subst eo115) | ((with_reducible refine gate_callee (f := 27) rfl ?_); refine gl (some 149) Tryd.func27 #[.agg #[.slice Ao114 t2025.length co114, .slice Ao115 t2028.length co115, .int .i64 t2031, .int .i64 t2032], .int .i64 a1] ?_; (with_reducible refine (line_DetectedRate.calls kj67 _ _ t2025 _ _ t2028 t2031 t2032 a1 t2033 t2034 t2035 _ ?side1 ?side2 ?side3 ?side4 A92.out).mono ?_); (case side1 => exact bc (Kd.R_reads' HO2027.out).2.2); (case side2 => exact (Kd.R_reads' HO2027.out).2.1); (case side3 => exact bc (Kd.R_reads' HO2030.out).2.2); (case side4 => exact (Kd.R_reads' HO2030.out).2.1); rintro e w116 ⟨rfl, hb⟩; refine ⟨_, rfl, ?_⟩; replace HO2013 := rb HO2013 hb; replace HO2020 := rb HO2020 hb; replace HO2027 := rb HO2027 hb; replace HO2030 := rb HO2030 hb; replace BK1982 := bb BK1982 hb; replace BK2001 := bb BK2001 hb; replace BK2017 := bb BK2017 hb; replace BK2024 := bb BK2024 hb; replace HB := sb HB hb; (try clear hb)) | ((with_reducible refine gate_dst (N := 18) rfl ?_); (try (refine gate_guard (by rfl) ?_; dsimp only)); refine be 18 26 #[.int .i64 0, .int .i64 0] ?_; intro gb2036 hg w117 hbox hb; replace HO2013 := rb HO2013 hb; replace HO2020 := rb HO2020 hb; replace HO2027 := rb HO2027 hb; replace HO2030 := rb HO2030 hb; have BK2036 := m0 hbox; have GW2036 := m0 (bg (n := w.heap.size) hg); have GE2036 := m0 (bg (n := w.heap.size) hg); replace HB := sb HB hb; have NB1982_2036 := nl BK1982 hg; have NB2036_1982 := ng (nl BK1982 hg); replace BK1982 := bb BK1982 hb; have NB2001_2036 := nl BK2001 hg; have NB2036_2001 := ng (nl BK2001 hg); replace BK2001 := bb BK2001 hb; have NB2017_2036 := nl BK2017 hg; have NB2036_2017 := ng (nl BK2017 hg); replace BK2017 := bb BK2017 hb; have NB2024_2036 := nl BK2024 hg; have NB2036_2024 := ng (nl BK2024 hg); replace BK2024 := bb BK2024 hb; clear hb hbox hg; have hnb118 := NB2036_1982.out; have hnc118 := NB1982_2036.out; have hnb119 := NB2036_2001.out; have hnc119 := NB2001_2036.out; have hnb120 := NB2036_2017.out; have hnc120 := NB2017_2036.out; have hnb121 := NB2036_2024.out; have hnc121 := NB2024_2036.out; obtain ⟨hcz122_0, hcz122_1, hfz122_0, hfz122_1⟩ := b2 BK2036))
                          (try simp only [Act.put, List.setIfInBounds_toArray, List.set_cons_zero, List.set_cons_succ])
                          go_cut [188] (fun v188 wc => ∃ (kq : Nat) (x188_92 : Bool), v188 = .bool x188_92 ∧ Aside0 (Lw_LineKept.j4 kq a1 (l0_0.length : Int) x188_92 l0_0 l0_1 a0_2 a0_3 t2033 t2034 = some r) ∧ Aside0 (kq ≤ kj67) ∧ Aside0 (wc.heap[gb1982]? = some (.cells #[(.slice A0_0 l0_0.length c0_0), (.slice A0_1 l0_1.length c0_1), .int .i64 a0_2, .int .i64 a0_3] 28 (0, 0))) ∧ Aside0 (wc.heap[gb2001]? = some (.cells #[.int .i64 t1998, .int .i64 t1999] 26 (0, 0))) ∧ Aside0 (wc.heap[gb2017]? = some (.cells #[.int .i64 t2014, .int .i64 t2015] 26 (0, 0))) ∧ Aside0 (wc.heap[gb2024]? = some (.cells #[.int .i64 t2021, .int .i64 t2022] 26 (0, 0))) ∧ Aside0 (wc.heap[gb2036]? = some (.cells #[.int .i64 t2033, .int .i64 t2034] 26 (0, 0))) ∧ Aside0 (Below w.heap.size w wc))
                          case first =>
                            have H := HC93.out
                            clear HC93
                            by_cases c123 : t2016 = 0
                            · rw [if_pos c123] at H
                              have c123b0 := beq_iff_eq.mpr c123
                              have c123b1 := bne_eq_false_iff_eq.mpr c123
                              clear c123
                              (first | rw [c123b0] | (simp only [i64_w, i32_w]; rw [c123b0]) | skip)
                              by_cases c124 : t2023 = 0
                              · rw [if_pos c124] at H
                                have c124b0 := beq_iff_eq.mpr c124
                                have c124b1 := bne_eq_false_iff_eq.mpr c124
                                clear c124
                                by_cases c125 : t2035 = 0
                                · rw [if_pos c125] at H
                                  have c125b0 := beq_iff_eq.mpr c125
                                  have c125b1 := bne_eq_false_iff_eq.mpr c125
                                  clear c125
                                  replace H := ob H
                                  obtain ⟨t2037, A1260, H⟩ := H
                                  (try dsimp only at H)
                                  have A126 := m0 A1260
                                  clear A1260
                                  by_cases c127 : t2037 = true
                                  · subst c127
                                    rw [if_pos rfl] at H
                                    replace H := ob H
                                    obtain ⟨t2038, A1280, H⟩ := H
                                    (try dsimp only at H)
                                    have A128 := m0 A1280
                                    clear A1280
                                    by_cases c129 : t2038 = true
                                    · subst c129
                                      rw [if_pos rfl] at H
                                      replace H := ob H
                                      obtain ⟨t2039, A1300, H⟩ := H
                                      (try dsimp only at H)
                                      have A130 := m0 A1300
                                      clear A1300
                                      by_cases c131 : t2039 = true
                                      · subst c131
                                        rw [if_pos rfl] at H
                                        replace H := ob H
                                        obtain ⟨t2040, A1320, H⟩ := H
                                        (try dsimp only at H)
                                        have A132 := m0 A1320
                                        clear A1320
                                        by_cases c133 : t2040 > 0
                                        · rw [if_pos c133] at H
                                          have c133b0 := decide_eq_true c133
                                          clear c133
                                          have H' := m0 H
                                          clear H
                                          have hnb134 := NB2017_1982.out
                                          have hnc134 := NB1982_2017.out
                                          have hnb135 := NB2017_2001.out
                                          have hnc135 := NB2001_2017.out
                                          have hnb136 := NB2017_2024.out
                                          have hnc136 := NB2024_2017.out
                                          have hnb137 := NB2017_2036.out
                                          have hnc137 := NB2036_2017.out
                                          obtain ⟨hcz138_0, hcz138_1, hfz138_0, hfz138_1⟩ := b2 BK2017
                                          go_wp2_with (first | (go_at_call 88; (with_reducible refine (Lw_part.calls kj67 t2014 t2015 true _ A126.out).mono ?_); rintro e w139 ⟨rfl, hb⟩; replace HO2013 := m0 (Kd.R_below (by (with_reducible repeat (first | apply Kd.R_alloc | apply Kd.R_drewN | apply Kd.R_drew)); exact (Kd.R_mono (Kd.R_far (p := ⟨gb2036, 1, none⟩) (Kd.R_far (p := ⟨gb2036, 0, none⟩) (Kd.R_types HO2013.out BK2036.out (by decide)) (fun _ hk => hk.2) (.int .i64 t2033)) (fun _ hk => hk.2) (.int .i64 t2034)) (fun _ h_ => h_.1))) hb); replace HO2020 := m0 (Kd.R_below (by (with_reducible repeat (first | apply Kd.R_alloc | apply Kd.R_drewN | apply Kd.R_drew)); exact (Kd.R_mono (Kd.R_far (p := ⟨gb2036, 1, none⟩) (Kd.R_far (p := ⟨gb2036, 0, none⟩) (Kd.R_types HO2020.out BK2036.out (by decide)) (fun _ hk => hk.2) (.int .i64 t2033)) (fun _ hk => hk.2) (.int .i64 t2034)) (fun _ h_ => h_.1))) hb); replace HO2027 := m0 (Kd.R_below (by (with_reducible repeat (first | apply Kd.R_alloc | apply Kd.R_drewN | apply Kd.R_drew)); exact (Kd.R_mono (Kd.R_far (p := ⟨gb2036, 1, none⟩) (Kd.R_far (p := ⟨gb2036, 0, none⟩) (Kd.R_types HO2027.out BK2036.out (by decide)) (fun _ hk => hk.2) (.int .i64 t2033)) (fun _ hk => hk.2) (.int .i64 t2034)) (fun _ h_ => h_.1))) hb); replace HO2030 := m0 (Kd.R_below (by (with_reducible repeat (first | apply Kd.R_alloc | apply Kd.R_drewN | apply Kd.R_drew)); exact (Kd.R_mono (Kd.R_far (p := ⟨gb2036, 1, none⟩) (Kd.R_far (p := ⟨gb2036, 0, none⟩) (Kd.R_types HO2030.out BK2036.out (by decide)) (fun _ hk => hk.2) (.int .i64 t2033)) (fun _ hk => hk.2) (.int .i64 t2034)) (fun _ h_ => h_.1))) hb); replace BK1982 := m0 (blk_below (g := gb1982) (o := .cells #[.slice A0_0 l0_0.length c0_0, .slice A0_1 l0_1.length c0_1, .int .i64 a0_2, .int .i64 a0_3] 28 (0, 0)) (bq BK1982.out) hb); replace BK2001 := m0 (blk_below (g := gb2001) (o := .cells #[.int .i64 t1998, .int .i64 t1999] 26 (0, 0)) (bq BK2001.out) hb); replace BK2017 := m0 (blk_below (g := gb2017) (o := .cells #[.int .i64 t2014, .int .i64 t2015] 26 (0, 0)) (bq BK2017.out) hb); replace BK2024 := m0 (blk_below (g := gb2024) (o := .cells #[.int .i64 t2021, .int .i64 t2022] 26 (0, 0)) (bq BK2024.out) hb); replace BK2036 := m0 (blk_below (g := gb2036) (o := .cells #[.int .i64 t2033, .int .i64 t2034] 26 (0, 0)) (bq BK2036.out) hb); replace HB := sb HB hb; (try clear hb); have hnb140 := NB2024_1982.out; have hnc140 := NB1982_2024.out; have hnb141 := NB2024_2001.out; have hnc141 := NB2001_2024.out; have hnb142 := NB2024_2036.out; have hnc142 := NB2036_2024.out; obtain ⟨hcz143_0, hcz143_1, hfz143_0, hfz143_1⟩ := b2 BK2024) | (go_at_call 88; (with_reducible refine (Lw_part.calls kj67 t2021 t2022 true _ A128.out).mono ?_); rintro e w144 ⟨rfl, hb⟩; replace HO2013 := rb HO2013 hb; replace HO2020 := rb HO2020 hb; replace HO2027 := rb HO2027 hb; replace HO2030 := rb HO2030 hb; replace BK1982 := bb BK1982 hb; replace BK2001 := bb BK2001 hb; replace BK2017 := bb BK2017 hb; replace BK2024 := bb BK2024 hb; replace BK2036 := bb BK2036 hb; replace HB := sb HB hb; (try clear hb); have hnb145 := NB2036_1982.out; have hnc145 := NB1982_2036.out; have hnb146 := NB2036_2001.out; have hnc146 := NB2001_2036.out; obtain ⟨hcz147_0, hcz147_1, hfz147_0, hfz147_1⟩ := b2 BK2036) | (go_at_call 88; (with_reducible refine (Lw_part.calls kj67 t2033 t2034 true _ A130.out).mono ?_); rintro e w148 ⟨rfl, hb⟩; replace HO2013 := rb HO2013 hb; replace HO2020 := rb HO2020 hb; replace HO2027 := rb HO2027 hb; replace HO2030 := rb HO2030 hb; replace BK1982 := bb BK1982 hb; replace BK2001 := bb BK2001 hb; replace BK2017 := bb BK2017 hb; replace BK2024 := bb BK2024 hb; replace BK2036 := bb BK2036 hb; replace HB := sb HB hb; (try clear hb); obtain ⟨hcz149_0, hcz149_1, hfz149_0, hfz149_1⟩ := b2 BK2024; obtain ⟨hcz150_0, hcz150_1, hfz150_0, hfz150_1⟩ := b2 BK2017) | (go_at_call 37; (with_reducible refine (Bs_Cmp.calls t2021 t2022 t2014 t2015 t2040 _ A132.out).mono ?_); rintro e w151 ⟨rfl, hb⟩; replace HO2013 := rb HO2013 hb; replace HO2020 := rb HO2020 hb; replace HO2027 := rb HO2027 hb; replace HO2030 := rb HO2030 hb; replace BK1982 := bb BK1982 hb; replace BK2001 := bb BK2001 hb; replace BK2017 := bb BK2017 hb; replace BK2024 := bb BK2024 hb; replace BK2036 := bb BK2036 hb; replace HB := sb HB hb; (try clear hb)))
                                          go_meet
                                          case rel => exact ⟨_, (true), (by first | rfl | (simp; done) | (simp [*]; done)), H', ⟨by have := HJ5.out; have := HJ38.out; have := HJ48.out; have := HJ67.out; first | omega | exact Nat.le_refl _⟩, ⟨bk BK1982.out⟩, ⟨bk BK2001.out⟩, ⟨bk BK2017.out⟩, ⟨bk BK2024.out⟩, ⟨bk BK2036.out⟩, ⟨bz⟩⟩
                                        · rw [if_neg c133] at H
                                          have c133b0 := decide_eq_false c133
                                          clear c133
                                          replace H := ob H
                                          obtain ⟨t2041, A1520, H⟩ := H
                                          (try dsimp only at H)
                                          have A152 := m0 A1520
                                          clear A1520
                                          have H' := m0 H
                                          clear H
                                          have hnb153 := NB2017_1982.out
                                          have hnc153 := NB1982_2017.out
                                          have hnb154 := NB2017_2001.out
                                          have hnc154 := NB2001_2017.out
                                          have hnb155 := NB2017_2024.out
                                          have hnc155 := NB2024_2017.out
                                          have hnb156 := NB2017_2036.out
                                          have hnc156 := NB2036_2017.out
                                          obtain ⟨hcz157_0, hcz157_1, hfz157_0, hfz157_1⟩ := b2 BK2017
                                          go_wp2_with (first | (go_at_call 88; (with_reducible refine (Lw_part.calls kj67 t2014 t2015 true _ A126.out).mono ?_); rintro e w158 ⟨rfl, hb⟩; replace HO2013 := m0 (Kd.R_below (by (with_reducible repeat (first | apply Kd.R_alloc | apply Kd.R_drewN | apply Kd.R_drew)); exact (Kd.R_mono (Kd.R_far (p := ⟨gb2036, 1, none⟩) (Kd.R_far (p := ⟨gb2036, 0, none⟩) (Kd.R_types HO2013.out BK2036.out (by decide)) (fun _ hk => hk.2) (.int .i64 t2033)) (fun _ hk => hk.2) (.int .i64 t2034)) (fun _ h_ => h_.1))) hb); replace HO2020 := m0 (Kd.R_below (by (with_reducible repeat (first | apply Kd.R_alloc | apply Kd.R_drewN | apply Kd.R_drew)); exact (Kd.R_mono (Kd.R_far (p := ⟨gb2036, 1, none⟩) (Kd.R_far (p := ⟨gb2036, 0, none⟩) (Kd.R_types HO2020.out BK2036.out (by decide)) (fun _ hk => hk.2) (.int .i64 t2033)) (fun _ hk => hk.2) (.int .i64 t2034)) (fun _ h_ => h_.1))) hb); replace HO2027 := m0 (Kd.R_below (by (with_reducible repeat (first | apply Kd.R_alloc | apply Kd.R_drewN | apply Kd.R_drew)); exact (Kd.R_mono (Kd.R_far (p := ⟨gb2036, 1, none⟩) (Kd.R_far (p := ⟨gb2036, 0, none⟩) (Kd.R_types HO2027.out BK2036.out (by decide)) (fun _ hk => hk.2) (.int .i64 t2033)) (fun _ hk => hk.2) (.int .i64 t2034)) (fun _ h_ => h_.1))) hb); replace HO2030 := m0 (Kd.R_below (by (with_reducible repeat (first | apply Kd.R_alloc | apply Kd.R_drewN | apply Kd.R_drew)); exact (Kd.R_mono (Kd.R_far (p := ⟨gb2036, 1, none⟩) (Kd.R_far (p := ⟨gb2036, 0, none⟩) (Kd.R_types HO2030.out BK2036.out (by decide)) (fun _ hk => hk.2) (.int .i64 t2033)) (fun _ hk => hk.2) (.int .i64 t2034)) (fun _ h_ => h_.1))) hb); replace BK1982 := m0 (blk_below (g := gb1982) (o := .cells #[.slice A0_0 l0_0.length c0_0, .slice A0_1 l0_1.length c0_1, .int .i64 a0_2, .int .i64 a0_3] 28 (0, 0)) (bq BK1982.out) hb); replace BK2001 := m0 (blk_below (g := gb2001) (o := .cells #[.int .i64 t1998, .int .i64 t1999] 26 (0, 0)) (bq BK2001.out) hb); replace BK2017 := m0 (blk_below (g := gb2017) (o := .cells #[.int .i64 t2014, .int .i64 t2015] 26 (0, 0)) (bq BK2017.out) hb); replace BK2024 := m0 (blk_below (g := gb2024) (o := .cells #[.int .i64 t2021, .int .i64 t2022] 26 (0, 0)) (bq BK2024.out) hb); replace BK2036 := m0 (blk_below (g := gb2036) (o := .cells #[.int .i64 t2033, .int .i64 t2034] 26 (0, 0)) (bq BK2036.out) hb); replace HB := sb HB hb; (try clear hb); have hnb159 := NB2024_1982.out; have hnc159 := NB1982_2024.out; have hnb160 := NB2024_2001.out; have hnc160 := NB2001_2024.out; have hnb161 := NB2024_2036.out; have hnc161 := NB2036_2024.out; obtain ⟨hcz162_0, hcz162_1, hfz162_0, hfz162_1⟩ := b2 BK2024) | (go_at_call 88; (with_reducible refine (Lw_part.calls kj67 t2021 t2022 true _ A128.out).mono ?_); rintro e w163 ⟨rfl, hb⟩; replace HO2013 := rb HO2013 hb; replace HO2020 := rb HO2020 hb; replace HO2027 := rb HO2027 hb; replace HO2030 := rb HO2030 hb; replace BK1982 := bb BK1982 hb; replace BK2001 := bb BK2001 hb; replace BK2017 := bb BK2017 hb; replace BK2024 := bb BK2024 hb; replace BK2036 := bb BK2036 hb; replace HB := sb HB hb; (try clear hb); have hnb164 := NB2036_1982.out; have hnc164 := NB1982_2036.out; have hnb165 := NB2036_2001.out; have hnc165 := NB2001_2036.out; obtain ⟨hcz166_0, hcz166_1, hfz166_0, hfz166_1⟩ := b2 BK2036) | (go_at_call 88; (with_reducible refine (Lw_part.calls kj67 t2033 t2034 true _ A130.out).mono ?_); rintro e w167 ⟨rfl, hb⟩; replace HO2013 := rb HO2013 hb; replace HO2020 := rb HO2020 hb; replace HO2027 := rb HO2027 hb; replace HO2030 := rb HO2030 hb; replace BK1982 := bb BK1982 hb; replace BK2001 := bb BK2001 hb; replace BK2017 := bb BK2017 hb; replace BK2024 := bb BK2024 hb; replace BK2036 := bb BK2036 hb; replace HB := sb HB hb; (try clear hb); obtain ⟨hcz168_0, hcz168_1, hfz168_0, hfz168_1⟩ := b2 BK2024; obtain ⟨hcz169_0, hcz169_1, hfz169_0, hfz169_1⟩ := b2 BK2017) | (go_at_call 37; (with_reducible refine (Bs_Cmp.calls t2021 t2022 t2014 t2015 t2040 _ A132.out).mono ?_); rintro e w170 ⟨rfl, hb⟩; replace HO2013 := rb HO2013 hb; replace HO2020 := rb HO2020 hb; replace HO2027 := rb HO2027 hb; replace HO2030 := rb HO2030 hb; replace BK1982 := bb BK1982 hb; replace BK2001 := bb BK2001 hb; replace BK2017 := bb BK2017 hb; replace BK2024 := bb BK2024 hb; replace BK2036 := bb BK2036 hb; replace HB := sb HB hb; (try clear hb); obtain ⟨hcz171_0, hcz171_1, hfz171_0, hfz171_1⟩ := b2 BK2036; obtain ⟨hcz172_0, hcz172_1, hfz172_0, hfz172_1⟩ := b2 BK2017) | (go_at_call 37; (with_reducible refine (Bs_Cmp.calls t2033 t2034 t2014 t2015 t2041 _ A152.out).mono ?_); rintro e w173 ⟨rfl, hb⟩; replace HO2013 := rb HO2013 hb; replace HO2020 := rb HO2020 hb; replace HO2027 := rb HO2027 hb; replace HO2030 := rb HO2030 hb; replace BK1982 := bb BK1982 hb; replace BK2001 := bb BK2001 hb; replace BK2017 := bb BK2017 hb; replace BK2024 := bb BK2024 hb; replace BK2036 := bb BK2036 hb; replace HB := sb HB hb; (try clear hb)))
                                          go_meet
                                          case rel => exact ⟨_, (decide (t2041 < 0)), (by first | rfl | (simp; done) | (simp [*]; done)), H', ⟨by have := HJ5.out; have := HJ38.out; have := HJ48.out; have := HJ67.out; first | omega | exact Nat.le_refl _⟩, ⟨bk BK1982.out⟩, ⟨bk BK2001.out⟩, ⟨bk BK2017.out⟩, ⟨bk BK2024.out⟩, ⟨bk BK2036.out⟩, ⟨bz⟩⟩
                                      · replace c131 := Bool.eq_false_iff.mpr c131
                                        subst c131
                                        rw [if_neg (show ¬ (false = true) by decide)] at H
                                        have H' := m0 H
                                        clear H
                                        have hnb174 := NB2017_1982.out
                                        have hnc174 := NB1982_2017.out
                                        have hnb175 := NB2017_2001.out
                                        have hnc175 := NB2001_2017.out
                                        have hnb176 := NB2017_2024.out
                                        have hnc176 := NB2024_2017.out
                                        have hnb177 := NB2017_2036.out
                                        have hnc177 := NB2036_2017.out
                                        obtain ⟨hcz178_0, hcz178_1, hfz178_0, hfz178_1⟩ := b2 BK2017
                                        go_wp2_with (first | (go_at_call 88; (with_reducible refine (Lw_part.calls kj67 t2014 t2015 true _ A126.out).mono ?_); rintro e w179 ⟨rfl, hb⟩; replace HO2013 := m0 (Kd.R_below (by (with_reducible repeat (first | apply Kd.R_alloc | apply Kd.R_drewN | apply Kd.R_drew)); exact (Kd.R_mono (Kd.R_far (p := ⟨gb2036, 1, none⟩) (Kd.R_far (p := ⟨gb2036, 0, none⟩) (Kd.R_types HO2013.out BK2036.out (by decide)) (fun _ hk => hk.2) (.int .i64 t2033)) (fun _ hk => hk.2) (.int .i64 t2034)) (fun _ h_ => h_.1))) hb); replace HO2020 := m0 (Kd.R_below (by (with_reducible repeat (first | apply Kd.R_alloc | apply Kd.R_drewN | apply Kd.R_drew)); exact (Kd.R_mono (Kd.R_far (p := ⟨gb2036, 1, none⟩) (Kd.R_far (p := ⟨gb2036, 0, none⟩) (Kd.R_types HO2020.out BK2036.out (by decide)) (fun _ hk => hk.2) (.int .i64 t2033)) (fun _ hk => hk.2) (.int .i64 t2034)) (fun _ h_ => h_.1))) hb); replace HO2027 := m0 (Kd.R_below (by (with_reducible repeat (first | apply Kd.R_alloc | apply Kd.R_drewN | apply Kd.R_drew)); exact (Kd.R_mono (Kd.R_far (p := ⟨gb2036, 1, none⟩) (Kd.R_far (p := ⟨gb2036, 0, none⟩) (Kd.R_types HO2027.out BK2036.out (by decide)) (fun _ hk => hk.2) (.int .i64 t2033)) (fun _ hk => hk.2) (.int .i64 t2034)) (fun _ h_ => h_.1))) hb); replace HO2030 := m0 (Kd.R_below (by (with_reducible repeat (first | apply Kd.R_alloc | apply Kd.R_drewN | apply Kd.R_drew)); exact (Kd.R_mono (Kd.R_far (p := ⟨gb2036, 1, none⟩) (Kd.R_far (p := ⟨gb2036, 0, none⟩) (Kd.R_types HO2030.out BK2036.out (by decide)) (fun _ hk => hk.2) (.int .i64 t2033)) (fun _ hk => hk.2) (.int .i64 t2034)) (fun _ h_ => h_.1))) hb); replace BK1982 := m0 (blk_below (g := gb1982) (o := .cells #[.slice A0_0 l0_0.length c0_0, .slice A0_1 l0_1.length c0_1, .int .i64 a0_2, .int .i64 a0_3] 28 (0, 0)) (bq BK1982.out) hb); replace BK2001 := m0 (blk_below (g := gb2001) (o := .cells #[.int .i64 t1998, .int .i64 t1999] 26 (0, 0)) (bq BK2001.out) hb); replace BK2017 := m0 (blk_below (g := gb2017) (o := .cells #[.int .i64 t2014, .int .i64 t2015] 26 (0, 0)) (bq BK2017.out) hb); replace BK2024 := m0 (blk_below (g := gb2024) (o := .cells #[.int .i64 t2021, .int .i64 t2022] 26 (0, 0)) (bq BK2024.out) hb); replace BK2036 := m0 (blk_below (g := gb2036) (o := .cells #[.int .i64 t2033, .int .i64 t2034] 26 (0, 0)) (bq BK2036.out) hb); replace HB := sb HB hb; (try clear hb); have hnb180 := NB2024_1982.out; have hnc180 := NB1982_2024.out; have hnb181 := NB2024_2001.out; have hnc181 := NB2001_2024.out; have hnb182 := NB2024_2036.out; have hnc182 := NB2036_2024.out; obtain ⟨hcz183_0, hcz183_1, hfz183_0, hfz183_1⟩ := b2 BK2024) | (go_at_call 88; (with_reducible refine (Lw_part.calls kj67 t2021 t2022 true _ A128.out).mono ?_); rintro e w184 ⟨rfl, hb⟩; replace HO2013 := rb HO2013 hb; replace HO2020 := rb HO2020 hb; replace HO2027 := rb HO2027 hb; replace HO2030 := rb HO2030 hb; replace BK1982 := bb BK1982 hb; replace BK2001 := bb BK2001 hb; replace BK2017 := bb BK2017 hb; replace BK2024 := bb BK2024 hb; replace BK2036 := bb BK2036 hb; replace HB := sb HB hb; (try clear hb); have hnb185 := NB2036_1982.out; have hnc185 := NB1982_2036.out; have hnb186 := NB2036_2001.out; have hnc186 := NB2001_2036.out; obtain ⟨hcz187_0, hcz187_1, hfz187_0, hfz187_1⟩ := b2 BK2036) | (go_at_call 88; (with_reducible refine (Lw_part.calls kj67 t2033 t2034 false _ A130.out).mono ?_); rintro e w188 ⟨rfl, hb⟩; replace HO2013 := rb HO2013 hb; replace HO2020 := rb HO2020 hb; replace HO2027 := rb HO2027 hb; replace HO2030 := rb HO2030 hb; replace BK1982 := bb BK1982 hb; replace BK2001 := bb BK2001 hb; replace BK2017 := bb BK2017 hb; replace BK2024 := bb BK2024 hb; replace BK2036 := bb BK2036 hb; replace HB := sb HB hb; (try clear hb)))
                                        go_meet
                                        case rel => exact ⟨_, (true), (by first | rfl | (simp; done) | (simp [*]; done)), H', ⟨by have := HJ5.out; have := HJ38.out; have := HJ48.out; have := HJ67.out; first | omega | exact Nat.le_refl _⟩, ⟨bk BK1982.out⟩, ⟨bk BK2001.out⟩, ⟨bk BK2017.out⟩, ⟨bk BK2024.out⟩, ⟨bk BK2036.out⟩, ⟨bz⟩⟩
                                    · replace c129 := Bool.eq_false_iff.mpr c129
                                      subst c129
                                      rw [if_neg (show ¬ (false = true) by decide)] at H
                                      have H' := m0 H
                                      clear H
                                      have hnb189 := NB2017_1982.out
                                      have hnc189 := NB1982_2017.out
                                      have hnb190 := NB2017_2001.out
                                      have hnc190 := NB2001_2017.out
                                      have hnb191 := NB2017_2024.out
                                      have hnc191 := NB2024_2017.out
                                      have hnb192 := NB2017_2036.out
                                      have hnc192 := NB2036_2017.out
                                      obtain ⟨hcz193_0, hcz193_1, hfz193_0, hfz193_1⟩ := b2 BK2017
                                      go_wp2_with (first | (go_at_call 88; (with_reducible refine (Lw_part.calls kj67 t2014 t2015 true _ A126.out).mono ?_); rintro e w194 ⟨rfl, hb⟩; replace HO2013 := m0 (Kd.R_below (by (with_reducible repeat (first | apply Kd.R_alloc | apply Kd.R_drewN | apply Kd.R_drew)); exact (Kd.R_mono (Kd.R_far (p := ⟨gb2036, 1, none⟩) (Kd.R_far (p := ⟨gb2036, 0, none⟩) (Kd.R_types HO2013.out BK2036.out (by decide)) (fun _ hk => hk.2) (.int .i64 t2033)) (fun _ hk => hk.2) (.int .i64 t2034)) (fun _ h_ => h_.1))) hb); replace HO2020 := m0 (Kd.R_below (by (with_reducible repeat (first | apply Kd.R_alloc | apply Kd.R_drewN | apply Kd.R_drew)); exact (Kd.R_mono (Kd.R_far (p := ⟨gb2036, 1, none⟩) (Kd.R_far (p := ⟨gb2036, 0, none⟩) (Kd.R_types HO2020.out BK2036.out (by decide)) (fun _ hk => hk.2) (.int .i64 t2033)) (fun _ hk => hk.2) (.int .i64 t2034)) (fun _ h_ => h_.1))) hb); replace HO2027 := m0 (Kd.R_below (by (with_reducible repeat (first | apply Kd.R_alloc | apply Kd.R_drewN | apply Kd.R_drew)); exact (Kd.R_mono (Kd.R_far (p := ⟨gb2036, 1, none⟩) (Kd.R_far (p := ⟨gb2036, 0, none⟩) (Kd.R_types HO2027.out BK2036.out (by decide)) (fun _ hk => hk.2) (.int .i64 t2033)) (fun _ hk => hk.2) (.int .i64 t2034)) (fun _ h_ => h_.1))) hb); replace HO2030 := m0 (Kd.R_below (by (with_reducible repeat (first | apply Kd.R_alloc | apply Kd.R_drewN | apply Kd.R_drew)); exact (Kd.R_mono (Kd.R_far (p := ⟨gb2036, 1, none⟩) (Kd.R_far (p := ⟨gb2036, 0, none⟩) (Kd.R_types HO2030.out BK2036.out (by decide)) (fun _ hk => hk.2) (.int .i64 t2033)) (fun _ hk => hk.2) (.int .i64 t2034)) (fun _ h_ => h_.1))) hb); replace BK1982 := m0 (blk_below (g := gb1982) (o := .cells #[.slice A0_0 l0_0.length c0_0, .slice A0_1 l0_1.length c0_1, .int .i64 a0_2, .int .i64 a0_3] 28 (0, 0)) (bq BK1982.out) hb); replace BK2001 := m0 (blk_below (g := gb2001) (o := .cells #[.int .i64 t1998, .int .i64 t1999] 26 (0, 0)) (bq BK2001.out) hb); replace BK2017 := m0 (blk_below (g := gb2017) (o := .cells #[.int .i64 t2014, .int .i64 t2015] 26 (0, 0)) (bq BK2017.out) hb); replace BK2024 := m0 (blk_below (g := gb2024) (o := .cells #[.int .i64 t2021, .int .i64 t2022] 26 (0, 0)) (bq BK2024.out) hb); replace BK2036 := m0 (blk_below (g := gb2036) (o := .cells #[.int .i64 t2033, .int .i64 t2034] 26 (0, 0)) (bq BK2036.out) hb); replace HB := sb HB hb; (try clear hb); have hnb195 := NB2024_1982.out; have hnc195 := NB1982_2024.out; have hnb196 := NB2024_2001.out; have hnc196 := NB2001_2024.out; have hnb197 := NB2024_2036.out; have hnc197 := NB2036_2024.out; obtain ⟨hcz198_0, hcz198_1, hfz198_0, hfz198_1⟩ := b2 BK2024) | (go_at_call 88; (with_reducible refine (Lw_part.calls kj67 t2021 t2022 false _ A128.out).mono ?_); rintro e w199 ⟨rfl, hb⟩; replace HO2013 := rb HO2013 hb; replace HO2020 := rb HO2020 hb; replace HO2027 := rb HO2027 hb; replace HO2030 := rb HO2030 hb; replace BK1982 := bb BK1982 hb; replace BK2001 := bb BK2001 hb; replace BK2017 := bb BK2017 hb; replace BK2024 := bb BK2024 hb; replace BK2036 := bb BK2036 hb; replace HB := sb HB hb; (try clear hb)))
                                      go_meet
                                      case rel => exact ⟨_, (true), (by first | rfl | (simp; done) | (simp [*]; done)), H', ⟨by have := HJ5.out; have := HJ38.out; have := HJ48.out; have := HJ67.out; first | omega | exact Nat.le_refl _⟩, ⟨bk BK1982.out⟩, ⟨bk BK2001.out⟩, ⟨bk BK2017.out⟩, ⟨bk BK2024.out⟩, ⟨bk BK2036.out⟩, ⟨bz⟩⟩
                                  · replace c127 := Bool.eq_false_iff.mpr c127
                                    subst c127
                                    rw [if_neg (show ¬ (false = true) by decide)] at H
                                    have H' := m0 H
                                    clear H
                                    have hnb200 := NB2017_1982.out
                                    have hnc200 := NB1982_2017.out
                                    have hnb201 := NB2017_2001.out
                                    have hnc201 := NB2001_2017.out
                                    have hnb202 := NB2017_2024.out
                                    have hnc202 := NB2024_2017.out
                                    have hnb203 := NB2017_2036.out
                                    have hnc203 := NB2036_2017.out
                                    obtain ⟨hcz204_0, hcz204_1, hfz204_0, hfz204_1⟩ := b2 BK2017
                                    go_wp2_with (first | (go_at_call 88; (with_reducible refine (Lw_part.calls kj67 t2014 t2015 false _ A126.out).mono ?_); rintro e w205 ⟨rfl, hb⟩; replace HO2013 := m0 (Kd.R_below (by (with_reducible repeat (first | apply Kd.R_alloc | apply Kd.R_drewN | apply Kd.R_drew)); exact (Kd.R_mono (Kd.R_far (p := ⟨gb2036, 1, none⟩) (Kd.R_far (p := ⟨gb2036, 0, none⟩) (Kd.R_types HO2013.out BK2036.out (by decide)) (fun _ hk => hk.2) (.int .i64 t2033)) (fun _ hk => hk.2) (.int .i64 t2034)) (fun _ h_ => h_.1))) hb); replace HO2020 := m0 (Kd.R_below (by (with_reducible repeat (first | apply Kd.R_alloc | apply Kd.R_drewN | apply Kd.R_drew)); exact (Kd.R_mono (Kd.R_far (p := ⟨gb2036, 1, none⟩) (Kd.R_far (p := ⟨gb2036, 0, none⟩) (Kd.R_types HO2020.out BK2036.out (by decide)) (fun _ hk => hk.2) (.int .i64 t2033)) (fun _ hk => hk.2) (.int .i64 t2034)) (fun _ h_ => h_.1))) hb); replace HO2027 := m0 (Kd.R_below (by (with_reducible repeat (first | apply Kd.R_alloc | apply Kd.R_drewN | apply Kd.R_drew)); exact (Kd.R_mono (Kd.R_far (p := ⟨gb2036, 1, none⟩) (Kd.R_far (p := ⟨gb2036, 0, none⟩) (Kd.R_types HO2027.out BK2036.out (by decide)) (fun _ hk => hk.2) (.int .i64 t2033)) (fun _ hk => hk.2) (.int .i64 t2034)) (fun _ h_ => h_.1))) hb); replace HO2030 := m0 (Kd.R_below (by (with_reducible repeat (first | apply Kd.R_alloc | apply Kd.R_drewN | apply Kd.R_drew)); exact (Kd.R_mono (Kd.R_far (p := ⟨gb2036, 1, none⟩) (Kd.R_far (p := ⟨gb2036, 0, none⟩) (Kd.R_types HO2030.out BK2036.out (by decide)) (fun _ hk => hk.2) (.int .i64 t2033)) (fun _ hk => hk.2) (.int .i64 t2034)) (fun _ h_ => h_.1))) hb); replace BK1982 := m0 (blk_below (g := gb1982) (o := .cells #[.slice A0_0 l0_0.length c0_0, .slice A0_1 l0_1.length c0_1, .int .i64 a0_2, .int .i64 a0_3] 28 (0, 0)) (bq BK1982.out) hb); replace BK2001 := m0 (blk_below (g := gb2001) (o := .cells #[.int .i64 t1998, .int .i64 t1999] 26 (0, 0)) (bq BK2001.out) hb); replace BK2017 := m0 (blk_below (g := gb2017) (o := .cells #[.int .i64 t2014, .int .i64 t2015] 26 (0, 0)) (bq BK2017.out) hb); replace BK2024 := m0 (blk_below (g := gb2024) (o := .cells #[.int .i64 t2021, .int .i64 t2022] 26 (0, 0)) (bq BK2024.out) hb); replace BK2036 := m0 (blk_below (g := gb2036) (o := .cells #[.int .i64 t2033, .int .i64 t2034] 26 (0, 0)) (bq BK2036.out) hb); replace HB := sb HB hb; (try clear hb)))
                                    go_meet
                                    case rel => exact ⟨_, (true), (by first | rfl | (simp; done) | (simp [*]; done)), H', ⟨by have := HJ5.out; have := HJ38.out; have := HJ48.out; have := HJ67.out; first | omega | exact Nat.le_refl _⟩, ⟨bk BK1982.out⟩, ⟨bk BK2001.out⟩, ⟨bk BK2017.out⟩, ⟨bk BK2024.out⟩, ⟨bk BK2036.out⟩, ⟨bz⟩⟩
                                · rw [if_neg c125] at H
                                  have c125b0 := beq_eq_false_iff_ne.mpr c125
                                  have c125b1 := bne_iff_ne.mpr c125
                                  have H' := m0 H
                                  clear H
                                  go_wp2
                                  go_meet
                                  case rel => exact ⟨_, (true), (by first | rfl | (simp; done) | (simp [*]; done)), H', ⟨by have := HJ5.out; have := HJ38.out; have := HJ48.out; have := HJ67.out; first | omega | exact Nat.le_refl _⟩, ⟨bq BK1982.out⟩, ⟨bq BK2001.out⟩, ⟨bq BK2017.out⟩, ⟨bq BK2024.out⟩, ⟨bq BK2036.out⟩, ⟨bz⟩⟩
                              · rw [if_neg c124] at H
                                have c124b0 := beq_eq_false_iff_ne.mpr c124
                                have c124b1 := bne_iff_ne.mpr c124
                                have H' := m0 H
                                clear H
                                go_wp2
                                go_meet
                                case rel => exact ⟨_, (true), (by first | rfl | (simp; done) | (simp [*]; done)), H', ⟨by have := HJ5.out; have := HJ38.out; have := HJ48.out; have := HJ67.out; first | omega | exact Nat.le_refl _⟩, ⟨bq BK1982.out⟩, ⟨bq BK2001.out⟩, ⟨bq BK2017.out⟩, ⟨bq BK2024.out⟩, ⟨bq BK2036.out⟩, ⟨bz⟩⟩
                            · rw [if_neg c123] at H
                              have c123b0 := beq_eq_false_iff_ne.mpr c123
                              have c123b1 := bne_iff_ne.mpr c123
                              (first | rw [c123b0] | (simp only [i64_w, i32_w]; rw [c123b0]) | skip)
                              have H' := m0 H
                              clear H
                              go_wp2
                              go_meet
                              case rel => exact ⟨_, (true), (by first | rfl | (simp; done) | (simp [*]; done)), H', ⟨by have := HJ5.out; have := HJ38.out; have := HJ48.out; have := HJ67.out; first | omega | exact Nat.le_refl _⟩, ⟨bq BK1982.out⟩, ⟨bq BK2001.out⟩, ⟨bq BK2017.out⟩, ⟨bq BK2024.out⟩, ⟨bq BK2036.out⟩, ⟨bz⟩⟩
                          case rest =>
                            as_aux_lemma =>
                            clear HC93
                            try clear c1
                            try clear c2
                            try clear p2
                            try clear c3
                            try clear c4
                            try clear c5
                            try clear c6
                            try clear p6
                            try clear c7
                            try clear c8
                            try clear c9
                            try clear c10
                            try clear c11
                            try clear c12
                            try clear c12b0
                            try clear c12b1
                            try clear c13
                            try clear c14
                            try clear c14b0
                            try clear c14b1
                            try clear c15
                            try clear c16
                            try clear c17
                            try clear c18
                            try clear c19
                            try clear c20
                            try clear c21
                            try clear c27
                            try clear c36
                            try clear c44
                            try clear c44b0
                            try clear c44b1
                            try clear c46
                            try clear c52
                            try clear c55
                            try clear c57
                            try clear c57b0
                            try clear c57b1
                            try clear c59
                            try clear c60
                            try clear c64
                            try clear p64
                            try clear c67
                            try clear c69
                            try clear c69b0
                            try clear c72
                            try clear c72b0
                            try clear c72b1
                            try clear c74
                            try clear c75
                            try clear c75b0
                            try clear c76
                            try clear c82
                            try clear c83
                            try clear c84
                            try clear c94
                            try clear c100
                            try clear c101
                            try clear c108
                            try clear c109
                            try clear c110
                            try clear c118
                            try clear c119
                            try clear c120
                            try clear c121
                            try clear c123
                            try clear c123b0
                            try clear c123b1
                            try clear c124
                            try clear c124b0
                            try clear c124b1
                            try clear c125
                            try clear c125b0
                            try clear c125b1
                            try clear c127
                            try clear c129
                            try clear c131
                            try clear c133
                            try clear c133b0
                            try clear c134
                            try clear c135
                            try clear c136
                            try clear c137
                            try clear c140
                            try clear c141
                            try clear c142
                            try clear c145
                            try clear c146
                            try clear c153
                            try clear c154
                            try clear c155
                            try clear c156
                            try clear c159
                            try clear c160
                            try clear c161
                            try clear c164
                            try clear c165
                            try clear c174
                            try clear c175
                            try clear c176
                            try clear c177
                            try clear c180
                            try clear c181
                            try clear c182
                            try clear c185
                            try clear c186
                            try clear c189
                            try clear c190
                            try clear c191
                            try clear c192
                            try clear c195
                            try clear c196
                            try clear c197
                            try clear c200
                            try clear c201
                            try clear c202
                            try clear c203
                            try clear hcz102_0
                            try clear hcz102_1
                            try clear hcz103_0
                            try clear hcz103_1
                            try clear hcz103_2
                            try clear hcz103_3
                            try clear hcz111_0
                            try clear hcz111_1
                            try clear hcz112_0
                            try clear hcz112_1
                            try clear hcz112_2
                            try clear hcz112_3
                            try clear hcz122_0
                            try clear hcz122_1
                            try clear hcz138_0
                            try clear hcz138_1
                            try clear hcz143_0
                            try clear hcz143_1
                            try clear hcz147_0
                            try clear hcz147_1
                            try clear hcz149_0
                            try clear hcz149_1
                            try clear hcz150_0
                            try clear hcz150_1
                            try clear hcz157_0
                            try clear hcz157_1
                            try clear hcz162_0
                            try clear hcz162_1
                            try clear hcz166_0
                            try clear hcz166_1
                            try clear hcz168_0
                            try clear hcz168_1
                            try clear hcz169_0
                            try clear hcz169_1
                            try clear hcz171_0
                            try clear hcz171_1
                            try clear hcz172_0
                            try clear hcz172_1
                            try clear hcz178_0
                            try clear hcz178_1
                            try clear hcz183_0
                            try clear hcz183_1
                            try clear hcz187_0
                            try clear hcz187_1
                            try clear hcz18_0
                            try clear hcz18_1
                            try clear hcz18_2
                            try clear hcz18_3
                            try clear hcz193_0
                            try clear hcz193_1
                            try clear hcz198_0
                            try clear hcz198_1
                            try clear hcz204_0
                            try clear hcz204_1
                            try clear hcz20_0
                            try clear hcz20_1
                            try clear hcz20_2
                            try clear hcz20_3
                            try clear hcz22_0
                            try clear hcz22_1
                            try clear hcz22_2
                            try clear hcz22_3
                            try clear hcz24_0
                            try clear hcz24_1
                            try clear hcz24_2
                            try clear hcz24_3
                            try clear hcz26_0
                            try clear hcz26_1
                            try clear hcz26_2
                            try clear hcz26_3
                            try clear hcz28_0
                            try clear hcz28_1
                            try clear hcz28_2
                            try clear hcz28_3
                            try clear hcz30_0
                            try clear hcz30_1
                            try clear hcz30_2
                            try clear hcz30_3
                            try clear hcz32_0
                            try clear hcz32_1
                            try clear hcz32_2
                            try clear hcz32_3
                            try clear hcz34_0
                            try clear hcz34_1
                            try clear hcz34_2
                            try clear hcz34_3
                            try clear hcz40_0
                            try clear hcz40_1
                            try clear hcz40_2
                            try clear hcz40_3
                            try clear hcz50_0
                            try clear hcz50_1
                            try clear hcz50_2
                            try clear hcz50_3
                            try clear hcz56_0
                            try clear hcz56_1
                            try clear hcz61_0
                            try clear hcz61_1
                            try clear hcz63_0
                            try clear hcz63_1
                            try clear hcz65_0
                            try clear hcz65_1
                            try clear hcz77_0
                            try clear hcz77_1
                            try clear hcz77_2
                            try clear hcz77_3
                            try clear hcz84_0
                            try clear hcz84_1
                            try clear hcz86_0
                            try clear hcz86_1
                            try clear hcz95_0
                            try clear hcz95_1
                            try clear hcz95_2
                            try clear hcz95_3
                            try clear hfz102_0
                            try clear hfz102_1
                            try clear hfz103_0
                            try clear hfz103_1
                            try clear hfz103_2
                            try clear hfz103_3
                            try clear hfz111_0
                            try clear hfz111_1
                            try clear hfz112_0
                            try clear hfz112_1
                            try clear hfz112_2
                            try clear hfz112_3
                            try clear hfz122_0
                            try clear hfz122_1
                            try clear hfz138_0
                            try clear hfz138_1
                            try clear hfz143_0
                            try clear hfz143_1
                            try clear hfz147_0
                            try clear hfz147_1
                            try clear hfz149_0
                            try clear hfz149_1
                            try clear hfz150_0
                            try clear hfz150_1
                            try clear hfz157_0
                            try clear hfz157_1
                            try clear hfz162_0
                            try clear hfz162_1
                            try clear hfz166_0
                            try clear hfz166_1
                            try clear hfz168_0
                            try clear hfz168_1
                            try clear hfz169_0
                            try clear hfz169_1
                            try clear hfz171_0
                            try clear hfz171_1
                            try clear hfz172_0
                            try clear hfz172_1
                            try clear hfz178_0
                            try clear hfz178_1
                            try clear hfz183_0
                            try clear hfz183_1
                            try clear hfz187_0
                            try clear hfz187_1
                            try clear hfz18_0
                            try clear hfz18_1
                            try clear hfz18_2
                            try clear hfz18_3
                            try clear hfz193_0
                            try clear hfz193_1
                            try clear hfz198_0
                            try clear hfz198_1
                            try clear hfz204_0
                            try clear hfz204_1
                            try clear hfz20_0
                            try clear hfz20_1
                            try clear hfz20_2
                            try clear hfz20_3
                            try clear hfz22_0
                            try clear hfz22_1
                            try clear hfz22_2
                            try clear hfz22_3
                            try clear hfz24_0
                            try clear hfz24_1
                            try clear hfz24_2
                            try clear hfz24_3
                            try clear hfz26_0
                            try clear hfz26_1
                            try clear hfz26_2
                            try clear hfz26_3
                            try clear hfz28_0
                            try clear hfz28_1
                            try clear hfz28_2
                            try clear hfz28_3
                            try clear hfz30_0
                            try clear hfz30_1
                            try clear hfz30_2
                            try clear hfz30_3
                            try clear hfz32_0
                            try clear hfz32_1
                            try clear hfz32_2
                            try clear hfz32_3
                            try clear hfz34_0
                            try clear hfz34_1
                            try clear hfz34_2
                            try clear hfz34_3
                            try clear hfz40_0
                            try clear hfz40_1
                            try clear hfz40_2
                            try clear hfz40_3
                            try clear hfz50_0
                            try clear hfz50_1
                            try clear hfz50_2
                            try clear hfz50_3
                            try clear hfz56_0
                            try clear hfz56_1
                            try clear hfz61_0
                            try clear hfz61_1
                            try clear hfz63_0
                            try clear hfz63_1
                            try clear hfz65_0
                            try clear hfz65_1
                            try clear hfz77_0
                            try clear hfz77_1
                            try clear hfz77_2
                            try clear hfz77_3
                            try clear hfz84_0
                            try clear hfz84_1
                            try clear hfz86_0
                            try clear hfz86_1
                            try clear hfz95_0
                            try clear hfz95_1
                            try clear hfz95_2
                            try clear hfz95_3
                            try clear p2
                            try clear p6
                            try clear p64
                            obtain ⟨kq, x188_92, rfl, HA, HJ92, BK1982, BK2001, BK2017, BK2024, BK2036, HB⟩ := hcut
                            cases kq with
                            | zero => exact absurd HA.out (by simp [Lw_LineKept.j4])
                            | succ kj92 =>
                              have H := HA.out
                              clear HA
                              simp only [Lw_LineKept.j4] at H
                              by_cases c206 : x188_92 = true
                              · subst c206
                                rw [if_pos rfl] at H
                                exact absurd H (by simp)
                              · replace c206 := Bool.eq_false_iff.mpr c206
                                subst c206
                                rw [if_neg (show ¬ (false = true) by decide)] at H
                                replace H := ob H
                                obtain ⟨t2042, A2070, H⟩ := H
                                (try dsimp only at H)
                                have A207 := m0 A2070
                                clear A2070
                                have H' := m0 H
                                clear H
                                have hnb208 := NB1982_2001.out
                                have hnc208 := NB2001_1982.out
                                have hnb209 := NB1982_2017.out
                                have hnc209 := NB2017_1982.out
                                have hnb210 := NB1982_2024.out
                                have hnc210 := NB2024_1982.out
                                have hnb211 := NB1982_2036.out
                                have hnc211 := NB2036_1982.out
                                obtain ⟨hcz212_0, hcz212_1, hcz212_2, hcz212_3, hfz212_0, hfz212_1, hfz212_2, hfz212_3⟩ := b4 BK1982
                                go_wp2_with (first | ((with_reducible refine gate_callee (f := 56) rfl ?_); refine gl (some 192) Tryd.func56 #[.agg #[.slice A0_1 l0_1.length c0_1], .int .i64 (l0_0.length : Int)] ?_; (with_reducible refine (Rf_Cases.calls kj92 _ _ l0_1 (l0_0.length : Int) t2042 _ ?side1 ?side2 A207.out).mono ?_); (case side1 => exact cb HR0_1 HB); (case side2 => exact HC0_1.out); rintro e w213 ⟨rfl, hb⟩; refine ⟨_, rfl, ?_⟩; replace BK1982 := bb BK1982 hb; replace BK2001 := bb BK2001 hb; replace BK2017 := bb BK2017 hb; replace BK2024 := bb BK2024 hb; replace BK2036 := bb BK2036 hb; replace HB := sb HB hb; (try clear hb)))
                                go_loopg [20, 22] kj92 (fun kq v20 v22 w' => ∃ (x20_6 : Int) (x22_6 : Int), v20 = .int .i64 x20_6 ∧ v22 = .int .i64 x22_6 ∧ Aside0 (Lw_LineKept.l0 kq a1 (l0_0.length : Int) x20_6 t2042 x22_6 l0_0 l0_1 a0_2 a0_3 t2033 t2034 = some r) ∧ Aside0 (kq ≤ kj92) ∧ Aside0 (w'.heap[gb1982]? = some (.cells #[(.slice A0_0 l0_0.length c0_0), (.slice A0_1 l0_1.length c0_1), .int .i64 a0_2, .int .i64 a0_3] 28 (0, 0))) ∧ Aside0 (w'.heap[gb2001]? = some (.cells #[.int .i64 t1998, .int .i64 t1999] 26 (0, 0))) ∧ Aside0 (w'.heap[gb2017]? = some (.cells #[.int .i64 t2014, .int .i64 t2015] 26 (0, 0))) ∧ Aside0 (w'.heap[gb2024]? = some (.cells #[.int .i64 t2021, .int .i64 t2022] 26 (0, 0))) ∧ Aside0 (w'.heap[gb2036]? = some (.cells #[.int .i64 t2033, .int .i64 t2034] 26 (0, 0))) ∧ Aside0 (Below w.heap.size w w'))
                                case atStart => exact ⟨(0), (0), (by first | rfl | (simp; done) | (simp [*]; done)), (by first | rfl | (simp; done) | (simp [*]; done)), H', ⟨Nat.le_refl _⟩, ⟨bk BK1982.out⟩, ⟨bk BK2001.out⟩, ⟨bk BK2017.out⟩, ⟨bk BK2024.out⟩, ⟨bk BK2036.out⟩, ⟨bz⟩⟩
                                case round =>
                                  as_aux_lemma =>
                                  clear H'
                                  try clear c1
                                  try clear c2
                                  try clear p2
                                  try clear c3
                                  try clear c4
                                  try clear c5
                                  try clear c6
                                  try clear p6
                                  try clear c7
                                  try clear c8
                                  try clear c9
                                  try clear c10
                                  try clear c11
                                  try clear c12
                                  try clear c12b0
                                  try clear c12b1
                                  try clear c13
                                  try clear c14
                                  try clear c14b0
                                  try clear c14b1
                                  try clear c15
                                  try clear c16
                                  try clear c17
                                  try clear c18
                                  try clear c19
                                  try clear c20
                                  try clear c21
                                  try clear c27
                                  try clear c36
                                  try clear c44
                                  try clear c44b0
                                  try clear c44b1
                                  try clear c46
                                  try clear c52
                                  try clear c55
                                  try clear c56
                                  try clear c57
                                  try clear c57b0
                                  try clear c57b1
                                  try clear c59
                                  try clear c60
                                  try clear c64
                                  try clear p64
                                  try clear c67
                                  try clear c69
                                  try clear c69b0
                                  try clear c72
                                  try clear c72b0
                                  try clear c72b1
                                  try clear c74
                                  try clear c75
                                  try clear c75b0
                                  try clear c76
                                  try clear c82
                                  try clear c83
                                  try clear c84
                                  try clear c94
                                  try clear c100
                                  try clear c101
                                  try clear c108
                                  try clear c109
                                  try clear c110
                                  try clear c118
                                  try clear c119
                                  try clear c120
                                  try clear c121
                                  try clear c123
                                  try clear c123b0
                                  try clear c123b1
                                  try clear c124
                                  try clear c124b0
                                  try clear c124b1
                                  try clear c125
                                  try clear c125b0
                                  try clear c125b1
                                  try clear c127
                                  try clear c129
                                  try clear c131
                                  try clear c133
                                  try clear c133b0
                                  try clear c134
                                  try clear c135
                                  try clear c136
                                  try clear c137
                                  try clear c140
                                  try clear c141
                                  try clear c142
                                  try clear c145
                                  try clear c146
                                  try clear c153
                                  try clear c154
                                  try clear c155
                                  try clear c156
                                  try clear c159
                                  try clear c160
                                  try clear c161
                                  try clear c164
                                  try clear c165
                                  try clear c174
                                  try clear c175
                                  try clear c176
                                  try clear c177
                                  try clear c180
                                  try clear c181
                                  try clear c182
                                  try clear c185
                                  try clear c186
                                  try clear c189
                                  try clear c190
                                  try clear c191
                                  try clear c192
                                  try clear c195
                                  try clear c196
                                  try clear c197
                                  try clear c200
                                  try clear c201
                                  try clear c202
                                  try clear c203
                                  try clear c206
                                  try clear c208
                                  try clear c209
                                  try clear c210
                                  try clear c211
                                  try clear hcz102_0
                                  try clear hcz102_1
                                  try clear hcz103_0
                                  try clear hcz103_1
                                  try clear hcz103_2
                                  try clear hcz103_3
                                  try clear hcz111_0
                                  try clear hcz111_1
                                  try clear hcz112_0
                                  try clear hcz112_1
                                  try clear hcz112_2
                                  try clear hcz112_3
                                  try clear hcz122_0
                                  try clear hcz122_1
                                  try clear hcz138_0
                                  try clear hcz138_1
                                  try clear hcz143_0
                                  try clear hcz143_1
                                  try clear hcz147_0
                                  try clear hcz147_1
                                  try clear hcz149_0
                                  try clear hcz149_1
                                  try clear hcz150_0
                                  try clear hcz150_1
                                  try clear hcz157_0
                                  try clear hcz157_1
                                  try clear hcz162_0
                                  try clear hcz162_1
                                  try clear hcz166_0
                                  try clear hcz166_1
                                  try clear hcz168_0
                                  try clear hcz168_1
                                  try clear hcz169_0
                                  try clear hcz169_1
                                  try clear hcz171_0
                                  try clear hcz171_1
                                  try clear hcz172_0
                                  try clear hcz172_1
                                  try clear hcz178_0
                                  try clear hcz178_1
                                  try clear hcz183_0
                                  try clear hcz183_1
                                  try clear hcz187_0
                                  try clear hcz187_1
                                  try clear hcz18_0
                                  try clear hcz18_1
                                  try clear hcz18_2
                                  try clear hcz18_3
                                  try clear hcz193_0
                                  try clear hcz193_1
                                  try clear hcz198_0
                                  try clear hcz198_1
                                  try clear hcz204_0
                                  try clear hcz204_1
                                  try clear hcz20_0
                                  try clear hcz20_1
                                  try clear hcz20_2
                                  try clear hcz20_3
                                  try clear hcz212_0
                                  try clear hcz212_1
                                  try clear hcz212_2
                                  try clear hcz212_3
                                  try clear hcz22_0
                                  try clear hcz22_1
                                  try clear hcz22_2
                                  try clear hcz22_3
                                  try clear hcz24_0
                                  try clear hcz24_1
                                  try clear hcz24_2
                                  try clear hcz24_3
                                  try clear hcz26_0
                                  try clear hcz26_1
                                  try clear hcz26_2
                                  try clear hcz26_3
                                  try clear hcz28_0
                                  try clear hcz28_1
                                  try clear hcz28_2
                                  try clear hcz28_3
                                  try clear hcz30_0
                                  try clear hcz30_1
                                  try clear hcz30_2
                                  try clear hcz30_3
                                  try clear hcz32_0
                                  try clear hcz32_1
                                  try clear hcz32_2
                                  try clear hcz32_3
                                  try clear hcz34_0
                                  try clear hcz34_1
                                  try clear hcz34_2
                                  try clear hcz34_3
                                  try clear hcz40_0
                                  try clear hcz40_1
                                  try clear hcz40_2
                                  try clear hcz40_3
                                  try clear hcz50_0
                                  try clear hcz50_1
                                  try clear hcz50_2
                                  try clear hcz50_3
                                  try clear hcz56_0
                                  try clear hcz56_1
                                  try clear hcz61_0
                                  try clear hcz61_1
                                  try clear hcz63_0
                                  try clear hcz63_1
                                  try clear hcz65_0
                                  try clear hcz65_1
                                  try clear hcz77_0
                                  try clear hcz77_1
                                  try clear hcz77_2
                                  try clear hcz77_3
                                  try clear hcz84_0
                                  try clear hcz84_1
                                  try clear hcz86_0
                                  try clear hcz86_1
                                  try clear hcz95_0
                                  try clear hcz95_1
                                  try clear hcz95_2
                                  try clear hcz95_3
                                  try clear hfz102_0
                                  try clear hfz102_1
                                  try clear hfz103_0
                                  try clear hfz103_1
                                  try clear hfz103_2
                                  try clear hfz103_3
                                  try clear hfz111_0
                                  try clear hfz111_1
                                  try clear hfz112_0
                                  try clear hfz112_1
                                  try clear hfz112_2
                                  try clear hfz112_3
                                  try clear hfz122_0
                                  try clear hfz122_1
                                  try clear hfz138_0
                                  try clear hfz138_1
                                  try clear hfz143_0
                                  try clear hfz143_1
                                  try clear hfz147_0
                                  try clear hfz147_1
                                  try clear hfz149_0
                                  try clear hfz149_1
                                  try clear hfz150_0
                                  try clear hfz150_1
                                  try clear hfz157_0
                                  try clear hfz157_1
                                  try clear hfz162_0
                                  try clear hfz162_1
                                  try clear hfz166_0
                                  try clear hfz166_1
                                  try clear hfz168_0
                                  try clear hfz168_1
                                  try clear hfz169_0
                                  try clear hfz169_1
                                  try clear hfz171_0
                                  try clear hfz171_1
                                  try clear hfz172_0
                                  try clear hfz172_1
                                  try clear hfz178_0
                                  try clear hfz178_1
                                  try clear hfz183_0
                                  try clear hfz183_1
                                  try clear hfz187_0
                                  try clear hfz187_1
                                  try clear hfz18_0
                                  try clear hfz18_1
                                  try clear hfz18_2
                                  try clear hfz18_3
                                  try clear hfz193_0
                                  try clear hfz193_1
                                  try clear hfz198_0
                                  try clear hfz198_1
                                  try clear hfz204_0
                                  try clear hfz204_1
                                  try clear hfz20_0
                                  try clear hfz20_1
                                  try clear hfz20_2
                                  try clear hfz20_3
                                  try clear hfz212_0
                                  try clear hfz212_1
                                  try clear hfz212_2
                                  try clear hfz212_3
                                  try clear hfz22_0
                                  try clear hfz22_1
                                  try clear hfz22_2
                                  try clear hfz22_3
                                  try clear hfz24_0
                                  try clear hfz24_1
                                  try clear hfz24_2
                                  try clear hfz24_3
                                  try clear hfz26_0
                                  try clear hfz26_1
                                  try clear hfz26_2
                                  try clear hfz26_3
                                  try clear hfz28_0
                                  try clear hfz28_1
                                  try clear hfz28_2
                                  try clear hfz28_3
                                  try clear hfz30_0
                                  try clear hfz30_1
                                  try clear hfz30_2
                                  try clear hfz30_3
                                  try clear hfz32_0
                                  try clear hfz32_1
                                  try clear hfz32_2
                                  try clear hfz32_3
                                  try clear hfz34_0
                                  try clear hfz34_1
                                  try clear hfz34_2
                                  try clear hfz34_3
                                  try clear hfz40_0
                                  try clear hfz40_1
                                  try clear hfz40_2
                                  try clear hfz40_3
                                  try clear hfz50_0
                                  try clear hfz50_1
                                  try clear hfz50_2
                                  try clear hfz50_3
                                  try clear hfz56_0
                                  try clear hfz56_1
                                  try clear hfz61_0
                                  try clear hfz61_1
                                  try clear hfz63_0
                                  try clear hfz63_1
                                  try clear hfz65_0
                                  try clear hfz65_1
                                  try clear hfz77_0
                                  try clear hfz77_1
                                  try clear hfz77_2
                                  try clear hfz77_3
                                  try clear hfz84_0
                                  try clear hfz84_1
                                  try clear hfz86_0
                                  try clear hfz86_1
                                  try clear hfz95_0
                                  try clear hfz95_1
                                  try clear hfz95_2
                                  try clear hfz95_3
                                  try clear p2
                                  try clear p6
                                  try clear p64
                                  obtain ⟨x20_6, x22_6, rfl, rfl, HA, HK6, BK1982, BK2001, BK2017, BK2024, BK2036, HB⟩ := hrel
                                  cases gk with
                                  | zero => exact absurd HA.out (by simp [Lw_LineKept.l0])
                                  | succ k6 =>
                                    have H := HA.out
                                    clear HA
                                    simp only [Lw_LineKept.l0] at H
                                    by_cases c214 : x22_6 < t2042
                                    · rw [if_pos c214] at H
                                      have c214b0 := decide_eq_true c214
                                      clear c214
                                      replace H := ob H
                                      obtain ⟨⟨t2045, t2048, t2051, t2052⟩, A2150, H⟩ := H
                                      (try dsimp only at H)
                                      have A215 := m0 A2150
                                      clear A2150
                                      replace H := ob H
                                      obtain ⟨⟨t2053, t2056⟩, A2160, H⟩ := H
                                      (try dsimp only at H)
                                      have A216 := m0 A2160
                                      clear A2160
                                      have HC217 := m0 H
                                      clear H
                                      have hnb218 := NB1982_2001.out
                                      have hnc218 := NB2001_1982.out
                                      have hnb219 := NB1982_2017.out
                                      have hnc219 := NB2017_1982.out
                                      have hnb220 := NB1982_2024.out
                                      have hnc220 := NB2024_1982.out
                                      have hnb221 := NB1982_2036.out
                                      have hnc221 := NB2036_1982.out
                                      obtain ⟨hcz222_0, hcz222_1, hcz222_2, hcz222_3, hfz222_0, hfz222_1, hfz222_2, hfz222_3⟩ := b4 BK1982
                                      go_upto_region 26 with (first | ((with_reducible refine gate_callee (f := 21) rfl ?_); refine gl (some 200) Tryd.func21 #[.agg #[.slice A0_0 l0_0.length c0_0, .slice A0_1 l0_1.length c0_1, .int .i64 a0_2, .int .i64 a0_3]] ?_; (with_reducible refine (Rf_CopyCase.calls _ _ l0_0 _ _ l0_1 a0_2 a0_3 t2045 t2048 t2051 t2052 _ ?side1 ?side2 ?side3 ?side4 A215.out).mono ?_); (case side1 => exact cb HR0_0 HB); (case side2 => exact HC0_0.out); (case side3 => exact cb HR0_1 HB); (case side4 => exact HC0_1.out); rintro e w223 ⟨v2046, v2049, rfl, ho0, ho1, hb⟩; refine ⟨_, rfl, ?_⟩; have HO2047 := m0 (Kd.R_lower ho0 (below_size bz)); have HO2050 := m0 (Kd.R_lower ho1 (below_size bz)); replace BK1982 := bb BK1982 hb; replace BK2001 := bb BK2001 hb; replace BK2017 := bb BK2017 hb; replace BK2024 := bb BK2024 hb; replace BK2036 := bb BK2036 hb; replace HB := sb HB hb; (try clear hb); (try clear ho0); (try clear ho1); obtain ⟨Ao224, co224, eo224⟩ := Kd.R_slice HO2047.out; subst eo224; obtain ⟨Ao225, co225, eo225⟩ := Kd.R_slice HO2050.out; subst eo225) | ((with_reducible refine gate_callee (f := 54) rfl ?_); refine gl (some 202) Tryd.func54 #[.agg #[.slice Ao224 t2045.length co224, .slice Ao225 t2048.length co225, .int .i64 t2051, .int .i64 t2052], .int .i64 x22_6] ?_; (with_reducible refine (line_Noisy.calls k6 _ _ t2045 _ _ t2048 t2051 t2052 x22_6 t2053 t2056 _ ?side1 ?side2 ?side3 ?side4 A216.out).mono ?_); (case side1 => exact bc (Kd.R_reads' HO2047.out).2.2); (case side2 => exact (Kd.R_reads' HO2047.out).2.1); (case side3 => exact bc (Kd.R_reads' HO2050.out).2.2); (case side4 => exact (Kd.R_reads' HO2050.out).2.1); rintro e w226 ⟨v2054, rfl, ho0, hb⟩; refine ⟨_, rfl, ?_⟩; have HO2055 := m0 (Kd.R_lower (Kd.R_new' (Kd.R_new' ho0 (Kd.R_lt (br HO2047.out))) (Kd.R_lt (br HO2050.out))) (below_size bz)); replace HO2047 := m0 (Kd.R_elder' (br HO2047.out) (Kd.R_base ho0) hb); replace HO2050 := m0 (Kd.R_elder' (br HO2050.out) (Kd.R_base ho0) hb); replace BK1982 := bb BK1982 hb; replace BK2001 := bb BK2001 hb; replace BK2017 := bb BK2017 hb; replace BK2024 := bb BK2024 hb; replace BK2036 := bb BK2036 hb; replace HB := sb HB hb; (try clear hb); (try clear ho0)))
                                      (try simp only [Act.put, List.setIfInBounds_toArray, List.set_cons_zero, List.set_cons_succ])
                                      go_cut [212] (fun v212 wc => ∃ (kq : Nat) (x212_216 : Bool), v212 = .bool x212_216 ∧ Aside0 (Lw_LineKept.j6 kq a1 (l0_0.length : Int) x20_6 t2042 x22_6 t2053 x212_216 l0_0 l0_1 a0_2 a0_3 t2033 t2034 = some r) ∧ Aside0 (kq ≤ k6) ∧ Aside0 (Kd.R (Kd.int .i64) 3 wc w.heap.size (fun _ => True) v2054 t2053) ∧ Aside0 (wc.heap[gb1982]? = some (.cells #[(.slice A0_0 l0_0.length c0_0), (.slice A0_1 l0_1.length c0_1), .int .i64 a0_2, .int .i64 a0_3] 28 (0, 0))) ∧ Aside0 (wc.heap[gb2001]? = some (.cells #[.int .i64 t1998, .int .i64 t1999] 26 (0, 0))) ∧ Aside0 (wc.heap[gb2017]? = some (.cells #[.int .i64 t2014, .int .i64 t2015] 26 (0, 0))) ∧ Aside0 (wc.heap[gb2024]? = some (.cells #[.int .i64 t2021, .int .i64 t2022] 26 (0, 0))) ∧ Aside0 (wc.heap[gb2036]? = some (.cells #[.int .i64 t2033, .int .i64 t2034] 26 (0, 0))) ∧ Aside0 (Below w.heap.size w wc))
                                      case first =>
                                        have H := HC217.out
                                        clear HC217
                                        by_cases c227 : t2056 = 0
                                        · rw [if_pos c227] at H
                                          have c227b0 := beq_iff_eq.mpr c227
                                          have c227b1 := bne_eq_false_iff_eq.mpr c227
                                          clear c227
                                          (first | rw [c227b0] | (simp only [i64_w, i32_w]; rw [c227b0]) | skip)
                                          have H' := m0 H
                                          clear H
                                          obtain ⟨Ao228, co228, eo228⟩ := Kd.R_slice HO2055.out
                                          subst eo228
                                          go_wp2
                                          go_meet
                                          case rel => exact ⟨_, (((t2053.length : Int) != (l0_0.length : Int))), (by first | rfl | (simp; done) | (simp [*]; done)), H', ⟨by have := HJ5.out; have := HJ38.out; have := HJ48.out; have := HJ67.out; have := HJ92.out; have := HK6.out; first | omega | exact Nat.le_refl _⟩, ⟨by (with_reducible repeat (first | apply Kd.R_alloc | apply Kd.R_drewN | apply Kd.R_drew)); exact Kd.R_mono HO2055.out (fun _ hk => trivial)⟩, ⟨bk BK1982.out⟩, ⟨bk BK2001.out⟩, ⟨bk BK2017.out⟩, ⟨bk BK2024.out⟩, ⟨bk BK2036.out⟩, ⟨bz⟩⟩
                                        · rw [if_neg c227] at H
                                          have c227b0 := beq_eq_false_iff_ne.mpr c227
                                          have c227b1 := bne_iff_ne.mpr c227
                                          (first | rw [c227b0] | (simp only [i64_w, i32_w]; rw [c227b0]) | skip)
                                          have H' := m0 H
                                          clear H
                                          go_wp2
                                          go_meet
                                          case rel => exact ⟨_, (true), (by first | rfl | (simp; done) | (simp [*]; done)), H', ⟨by have := HJ5.out; have := HJ38.out; have := HJ48.out; have := HJ67.out; have := HJ92.out; have := HK6.out; first | omega | exact Nat.le_refl _⟩, ⟨by (with_reducible repeat (first | apply Kd.R_alloc | apply Kd.R_drewN | apply Kd.R_drew)); exact Kd.R_mono HO2055.out (fun _ hk => trivial)⟩, ⟨bk BK1982.out⟩, ⟨bk BK2001.out⟩, ⟨bk BK2017.out⟩, ⟨bk BK2024.out⟩, ⟨bk BK2036.out⟩, ⟨bz⟩⟩
                                      case rest =>
                                        as_aux_lemma =>
                                        clear HC217
                                        try clear c1
                                        try clear c2
                                        try clear p2
                                        try clear c3
                                        try clear c4
                                        try clear c5
                                        try clear c6
                                        try clear p6
                                        try clear c7
                                        try clear c8
                                        try clear c9
                                        try clear c10
                                        try clear c11
                                        try clear c12
                                        try clear c12b0
                                        try clear c12b1
                                        try clear c13
                                        try clear c14
                                        try clear c14b0
                                        try clear c14b1
                                        try clear c15
                                        try clear c16
                                        try clear c17
                                        try clear c18
                                        try clear c19
                                        try clear c20
                                        try clear c21
                                        try clear c22
                                        try clear c27
                                        try clear c36
                                        try clear c44
                                        try clear c44b0
                                        try clear c44b1
                                        try clear c46
                                        try clear c52
                                        try clear c54
                                        try clear c55
                                        try clear c56
                                        try clear c57
                                        try clear c57b0
                                        try clear c57b1
                                        try clear c59
                                        try clear c60
                                        try clear c64
                                        try clear p64
                                        try clear c67
                                        try clear c69
                                        try clear c69b0
                                        try clear c72
                                        try clear c72b0
                                        try clear c72b1
                                        try clear c74
                                        try clear c75
                                        try clear c75b0
                                        try clear c76
                                        try clear c82
                                        try clear c83
                                        try clear c84
                                        try clear c94
                                        try clear c100
                                        try clear c101
                                        try clear c108
                                        try clear c109
                                        try clear c110
                                        try clear c118
                                        try clear c119
                                        try clear c120
                                        try clear c121
                                        try clear c123
                                        try clear c123b0
                                        try clear c123b1
                                        try clear c124
                                        try clear c124b0
                                        try clear c124b1
                                        try clear c125
                                        try clear c125b0
                                        try clear c125b1
                                        try clear c127
                                        try clear c129
                                        try clear c131
                                        try clear c133
                                        try clear c133b0
                                        try clear c134
                                        try clear c135
                                        try clear c136
                                        try clear c137
                                        try clear c140
                                        try clear c141
                                        try clear c142
                                        try clear c145
                                        try clear c146
                                        try clear c153
                                        try clear c154
                                        try clear c155
                                        try clear c156
                                        try clear c159
                                        try clear c160
                                        try clear c161
                                        try clear c164
                                        try clear c165
                                        try clear c174
                                        try clear c175
                                        try clear c176
                                        try clear c177
                                        try clear c180
                                        try clear c181
                                        try clear c182
                                        try clear c185
                                        try clear c186
                                        try clear c189
                                        try clear c190
                                        try clear c191
                                        try clear c192
                                        try clear c195
                                        try clear c196
                                        try clear c197
                                        try clear c200
                                        try clear c201
                                        try clear c202
                                        try clear c203
                                        try clear c206
                                        try clear c208
                                        try clear c209
                                        try clear c210
                                        try clear c211
                                        try clear c214
                                        try clear c214b0
                                        try clear c218
                                        try clear c219
                                        try clear c220
                                        try clear c221
                                        try clear c227
                                        try clear c227b0
                                        try clear c227b1
                                        try clear hcz102_0
                                        try clear hcz102_1
                                        try clear hcz103_0
                                        try clear hcz103_1
                                        try clear hcz103_2
                                        try clear hcz103_3
                                        try clear hcz111_0
                                        try clear hcz111_1
                                        try clear hcz112_0
                                        try clear hcz112_1
                                        try clear hcz112_2
                                        try clear hcz112_3
                                        try clear hcz122_0
                                        try clear hcz122_1
                                        try clear hcz138_0
                                        try clear hcz138_1
                                        try clear hcz143_0
                                        try clear hcz143_1
                                        try clear hcz147_0
                                        try clear hcz147_1
                                        try clear hcz149_0
                                        try clear hcz149_1
                                        try clear hcz150_0
                                        try clear hcz150_1
                                        try clear hcz157_0
                                        try clear hcz157_1
                                        try clear hcz162_0
                                        try clear hcz162_1
                                        try clear hcz166_0
                                        try clear hcz166_1
                                        try clear hcz168_0
                                        try clear hcz168_1
                                        try clear hcz169_0
                                        try clear hcz169_1
                                        try clear hcz171_0
                                        try clear hcz171_1
                                        try clear hcz172_0
                                        try clear hcz172_1
                                        try clear hcz178_0
                                        try clear hcz178_1
                                        try clear hcz183_0
                                        try clear hcz183_1
                                        try clear hcz187_0
                                        try clear hcz187_1
                                        try clear hcz18_0
                                        try clear hcz18_1
                                        try clear hcz18_2
                                        try clear hcz18_3
                                        try clear hcz193_0
                                        try clear hcz193_1
                                        try clear hcz198_0
                                        try clear hcz198_1
                                        try clear hcz204_0
                                        try clear hcz204_1
                                        try clear hcz20_0
                                        try clear hcz20_1
                                        try clear hcz20_2
                                        try clear hcz20_3
                                        try clear hcz212_0
                                        try clear hcz212_1
                                        try clear hcz212_2
                                        try clear hcz212_3
                                        try clear hcz222_0
                                        try clear hcz222_1
                                        try clear hcz222_2
                                        try clear hcz222_3
                                        try clear hcz22_0
                                        try clear hcz22_1
                                        try clear hcz22_2
                                        try clear hcz22_3
                                        try clear hcz24_0
                                        try clear hcz24_1
                                        try clear hcz24_2
                                        try clear hcz24_3
                                        try clear hcz26_0
                                        try clear hcz26_1
                                        try clear hcz26_2
                                        try clear hcz26_3
                                        try clear hcz28_0
                                        try clear hcz28_1
                                        try clear hcz28_2
                                        try clear hcz28_3
                                        try clear hcz30_0
                                        try clear hcz30_1
                                        try clear hcz30_2
                                        try clear hcz30_3
                                        try clear hcz32_0
                                        try clear hcz32_1
                                        try clear hcz32_2
                                        try clear hcz32_3
                                        try clear hcz34_0
                                        try clear hcz34_1
                                        try clear hcz34_2
                                        try clear hcz34_3
                                        try clear hcz40_0
                                        try clear hcz40_1
                                        try clear hcz40_2
                                        try clear hcz40_3
                                        try clear hcz50_0
                                        try clear hcz50_1
                                        try clear hcz50_2
                                        try clear hcz50_3
                                        try clear hcz56_0
                                        try clear hcz56_1
                                        try clear hcz61_0
                                        try clear hcz61_1
                                        try clear hcz63_0
                                        try clear hcz63_1
                                        try clear hcz65_0
                                        try clear hcz65_1
                                        try clear hcz77_0
                                        try clear hcz77_1
                                        try clear hcz77_2
                                        try clear hcz77_3
                                        try clear hcz84_0
                                        try clear hcz84_1
                                        try clear hcz86_0
                                        try clear hcz86_1
                                        try clear hcz95_0
                                        try clear hcz95_1
                                        try clear hcz95_2
                                        try clear hcz95_3
                                        try clear hfz102_0
                                        try clear hfz102_1
                                        try clear hfz103_0
                                        try clear hfz103_1
                                        try clear hfz103_2
                                        try clear hfz103_3
                                        try clear hfz111_0
                                        try clear hfz111_1
                                        try clear hfz112_0
                                        try clear hfz112_1
                                        try clear hfz112_2
                                        try clear hfz112_3
                                        try clear hfz122_0
                                        try clear hfz122_1
                                        try clear hfz138_0
                                        try clear hfz138_1
                                        try clear hfz143_0
                                        try clear hfz143_1
                                        try clear hfz147_0
                                        try clear hfz147_1
                                        try clear hfz149_0
                                        try clear hfz149_1
                                        try clear hfz150_0
                                        try clear hfz150_1
                                        try clear hfz157_0
                                        try clear hfz157_1
                                        try clear hfz162_0
                                        try clear hfz162_1
                                        try clear hfz166_0
                                        try clear hfz166_1
                                        try clear hfz168_0
                                        try clear hfz168_1
                                        try clear hfz169_0
                                        try clear hfz169_1
                                        try clear hfz171_0
                                        try clear hfz171_1
                                        try clear hfz172_0
                                        try clear hfz172_1
                                        try clear hfz178_0
                                        try clear hfz178_1
                                        try clear hfz183_0
                                        try clear hfz183_1
                                        try clear hfz187_0
                                        try clear hfz187_1
                                        try clear hfz18_0
                                        try clear hfz18_1
                                        try clear hfz18_2
                                        try clear hfz18_3
                                        try clear hfz193_0
                                        try clear hfz193_1
                                        try clear hfz198_0
                                        try clear hfz198_1
                                        try clear hfz204_0
                                        try clear hfz204_1
                                        try clear hfz20_0
                                        try clear hfz20_1
                                        try clear hfz20_2
                                        try clear hfz20_3
                                        try clear hfz212_0
                                        try clear hfz212_1
                                        try clear hfz212_2
                                        try clear hfz212_3
                                        try clear hfz222_0
                                        try clear hfz222_1
                                        try clear hfz222_2
                                        try clear hfz222_3
                                        try clear hfz22_0
                                        try clear hfz22_1
                                        try clear hfz22_2
                                        try clear hfz22_3
                                        try clear hfz24_0
                                        try clear hfz24_1
                                        try clear hfz24_2
                                        try clear hfz24_3
                                        try clear hfz26_0
                                        try clear hfz26_1
                                        try clear hfz26_2
                                        try clear hfz26_3
                                        try clear hfz28_0
                                        try clear hfz28_1
                                        try clear hfz28_2
                                        try clear hfz28_3
                                        try clear hfz30_0
                                        try clear hfz30_1
                                        try clear hfz30_2
                                        try clear hfz30_3
                                        try clear hfz32_0
                                        try clear hfz32_1
                                        try clear hfz32_2
                                        try clear hfz32_3
                                        try clear hfz34_0
                                        try clear hfz34_1
                                        try clear hfz34_2
                                        try clear hfz34_3
                                        try clear hfz40_0
                                        try clear hfz40_1
                                        try clear hfz40_2
                                        try clear hfz40_3
                                        try clear hfz50_0
                                        try clear hfz50_1
                                        try clear hfz50_2
                                        try clear hfz50_3
                                        try clear hfz56_0
                                        try clear hfz56_1
                                        try clear hfz61_0
                                        try clear hfz61_1
                                        try clear hfz63_0
                                        try clear hfz63_1
                                        try clear hfz65_0
                                        try clear hfz65_1
                                        try clear hfz77_0
                                        try clear hfz77_1
                                        try clear hfz77_2
                                        try clear hfz77_3
                                        try clear hfz84_0
                                        try clear hfz84_1
                                        try clear hfz86_0
                                        try clear hfz86_1
                                        try clear hfz95_0
                                        try clear hfz95_1
                                        try clear hfz95_2
                                        try clear hfz95_3
                                        try clear p2
                                        try clear p6
                                        try clear p64
                                        obtain ⟨kq, x212_216, rfl, HA, HJ216, HO_23, BK1982, BK2001, BK2017, BK2024, BK2036, HB⟩ := hcut
                                        cases kq with
                                        | zero => exact absurd HA.out (by simp [Lw_LineKept.j6])
                                        | succ kj216 =>
                                          have H := HA.out
                                          clear HA
                                          simp only [Lw_LineKept.j6] at H
                                          by_cases c229 : x212_216 = true
                                          · subst c229
                                            rw [if_pos rfl] at H
                                            exact absurd H (by simp)
                                          · replace c229 := Bool.eq_false_iff.mpr c229
                                            subst c229
                                            rw [if_neg (show ¬ (false = true) by decide)] at H
                                            have H' := m0 H
                                            clear H
                                            go_wp2
                                            go_loopg [25, 26] kj216 (fun kq v25 v26 w' => ∃ (x25_8 : Bool) (x26_8 : Int), v25 = .bool x25_8 ∧ v26 = .int .i64 x26_8 ∧ Aside0 (Lw_LineKept.l1 kq a1 (l0_0.length : Int) x20_6 t2042 x22_6 t2053 x25_8 x26_8 l0_0 l0_1 a0_2 a0_3 t2033 t2034 = some r) ∧ Aside0 (kq ≤ kj216) ∧ Aside0 (Kd.R (Kd.int .i64) 3 w' w.heap.size (fun _ => True) v2054 t2053) ∧ Aside0 (w'.heap[gb1982]? = some (.cells #[(.slice A0_0 l0_0.length c0_0), (.slice A0_1 l0_1.length c0_1), .int .i64 a0_2, .int .i64 a0_3] 28 (0, 0))) ∧ Aside0 (w'.heap[gb2001]? = some (.cells #[.int .i64 t1998, .int .i64 t1999] 26 (0, 0))) ∧ Aside0 (w'.heap[gb2017]? = some (.cells #[.int .i64 t2014, .int .i64 t2015] 26 (0, 0))) ∧ Aside0 (w'.heap[gb2024]? = some (.cells #[.int .i64 t2021, .int .i64 t2022] 26 (0, 0))) ∧ Aside0 (w'.heap[gb2036]? = some (.cells #[.int .i64 t2033, .int .i64 t2034] 26 (0, 0))) ∧ Aside0 (Below w.heap.size w w'))
                                            case atStart => exact ⟨(false), (0), (by first | rfl | (simp; done) | (simp [*]; done)), (by first | rfl | (simp; done) | (simp [*]; done)), H', ⟨Nat.le_refl _⟩, ⟨br HO_23.out⟩, ⟨bk BK1982.out⟩, ⟨bk BK2001.out⟩, ⟨bk BK2017.out⟩, ⟨bk BK2024.out⟩, ⟨bk BK2036.out⟩, ⟨bz⟩⟩
                                            case round =>
                                              as_aux_lemma =>
                                              clear H'
                                              try clear c1
                                              try clear c2
                                              try clear p2
                                              try clear c3
                                              try clear c4
                                              try clear c5
                                              try clear c6
                                              try clear p6
                                              try clear c7
                                              try clear c8
                                              try clear c9
                                              try clear c10
                                              try clear c11
                                              try clear c12
                                              try clear c12b0
                                              try clear c12b1
                                              try clear c13
                                              try clear c14
                                              try clear c14b0
                                              try clear c14b1
                                              try clear c15
                                              try clear c16
                                              try clear c17
                                              try clear c18
                                              try clear c19
                                              try clear c20
                                              try clear c21
                                              try clear c22
                                              try clear c27
                                              try clear c36
                                              try clear c44
                                              try clear c44b0
                                              try clear c44b1
                                              try clear c46
                                              try clear c52
                                              try clear c54
                                              try clear c55
                                              try clear c56
                                              try clear c57
                                              try clear c57b0
                                              try clear c57b1
                                              try clear c59
                                              try clear c60
                                              try clear c64
                                              try clear p64
                                              try clear c67
                                              try clear c69
                                              try clear c69b0
                                              try clear c72
                                              try clear c72b0
                                              try clear c72b1
                                              try clear c74
                                              try clear c75
                                              try clear c75b0
                                              try clear c76
                                              try clear c82
                                              try clear c83
                                              try clear c84
                                              try clear c94
                                              try clear c100
                                              try clear c101
                                              try clear c108
                                              try clear c109
                                              try clear c110
                                              try clear c118
                                              try clear c119
                                              try clear c120
                                              try clear c121
                                              try clear c123
                                              try clear c123b0
                                              try clear c123b1
                                              try clear c124
                                              try clear c124b0
                                              try clear c124b1
                                              try clear c125
                                              try clear c125b0
                                              try clear c125b1
                                              try clear c127
                                              try clear c129
                                              try clear c131
                                              try clear c133
                                              try clear c133b0
                                              try clear c134
                                              try clear c135
                                              try clear c136
                                              try clear c137
                                              try clear c140
                                              try clear c141
                                              try clear c142
                                              try clear c145
                                              try clear c146
                                              try clear c153
                                              try clear c154
                                              try clear c155
                                              try clear c156
                                              try clear c159
                                              try clear c160
                                              try clear c161
                                              try clear c164
                                              try clear c165
                                              try clear c174
                                              try clear c175
                                              try clear c176
                                              try clear c177
                                              try clear c180
                                              try clear c181
                                              try clear c182
                                              try clear c185
                                              try clear c186
                                              try clear c189
                                              try clear c190
                                              try clear c191
                                              try clear c192
                                              try clear c195
                                              try clear c196
                                              try clear c197
                                              try clear c200
                                              try clear c201
                                              try clear c202
                                              try clear c203
                                              try clear c206
                                              try clear c208
                                              try clear c209
                                              try clear c210
                                              try clear c211
                                              try clear c214
                                              try clear c214b0
                                              try clear c218
                                              try clear c219
                                              try clear c220
                                              try clear c221
                                              try clear c227
                                              try clear c227b0
                                              try clear c227b1
                                              try clear c229
                                              try clear hcz102_0
                                              try clear hcz102_1
                                              try clear hcz103_0
                                              try clear hcz103_1
                                              try clear hcz103_2
                                              try clear hcz103_3
                                              try clear hcz111_0
                                              try clear hcz111_1
                                              try clear hcz112_0
                                              try clear hcz112_1
                                              try clear hcz112_2
                                              try clear hcz112_3
                                              try clear hcz122_0
                                              try clear hcz122_1
                                              try clear hcz138_0
                                              try clear hcz138_1
                                              try clear hcz143_0
                                              try clear hcz143_1
                                              try clear hcz147_0
                                              try clear hcz147_1
                                              try clear hcz149_0
                                              try clear hcz149_1
                                              try clear hcz150_0
                                              try clear hcz150_1
                                              try clear hcz157_0
                                              try clear hcz157_1
                                              try clear hcz162_0
                                              try clear hcz162_1
                                              try clear hcz166_0
                                              try clear hcz166_1
                                              try clear hcz168_0
                                              try clear hcz168_1
                                              try clear hcz169_0
                                              try clear hcz169_1
                                              try clear hcz171_0
                                              try clear hcz171_1
                                              try clear hcz172_0
                                              try clear hcz172_1
                                              try clear hcz178_0
                                              try clear hcz178_1
                                              try clear hcz183_0
                                              try clear hcz183_1
                                              try clear hcz187_0
                                              try clear hcz187_1
                                              try clear hcz18_0
                                              try clear hcz18_1
                                              try clear hcz18_2
                                              try clear hcz18_3
                                              try clear hcz193_0
                                              try clear hcz193_1
                                              try clear hcz198_0
                                              try clear hcz198_1
                                              try clear hcz204_0
                                              try clear hcz204_1
                                              try clear hcz20_0
                                              try clear hcz20_1
                                              try clear hcz20_2
                                              try clear hcz20_3
                                              try clear hcz212_0
                                              try clear hcz212_1
                                              try clear hcz212_2
                                              try clear hcz212_3
                                              try clear hcz222_0
                                              try clear hcz222_1
                                              try clear hcz222_2
                                              try clear hcz222_3
                                              try clear hcz22_0
                                              try clear hcz22_1
                                              try clear hcz22_2
                                              try clear hcz22_3
                                              try clear hcz24_0
                                              try clear hcz24_1
                                              try clear hcz24_2
                                              try clear hcz24_3
                                              try clear hcz26_0
                                              try clear hcz26_1
                                              try clear hcz26_2
                                              try clear hcz26_3
                                              try clear hcz28_0
                                              try clear hcz28_1
                                              try clear hcz28_2
                                              try clear hcz28_3
                                              try clear hcz30_0
                                              try clear hcz30_1
                                              try clear hcz30_2
                                              try clear hcz30_3
                                              try clear hcz32_0
                                              try clear hcz32_1
                                              try clear hcz32_2
                                              try clear hcz32_3
                                              try clear hcz34_0
                                              try clear hcz34_1
                                              try clear hcz34_2
                                              try clear hcz34_3
                                              try clear hcz40_0
                                              try clear hcz40_1
                                              try clear hcz40_2
                                              try clear hcz40_3
                                              try clear hcz50_0
                                              try clear hcz50_1
                                              try clear hcz50_2
                                              try clear hcz50_3
                                              try clear hcz56_0
                                              try clear hcz56_1
                                              try clear hcz61_0
                                              try clear hcz61_1
                                              try clear hcz63_0
                                              try clear hcz63_1
                                              try clear hcz65_0
                                              try clear hcz65_1
                                              try clear hcz77_0
                                              try clear hcz77_1
                                              try clear hcz77_2
                                              try clear hcz77_3
                                              try clear hcz84_0
                                              try clear hcz84_1
                                              try clear hcz86_0
                                              try clear hcz86_1
                                              try clear hcz95_0
                                              try clear hcz95_1
                                              try clear hcz95_2
                                              try clear hcz95_3
                                              try clear hfz102_0
                                              try clear hfz102_1
                                              try clear hfz103_0
                                              try clear hfz103_1
                                              try clear hfz103_2
                                              try clear hfz103_3
                                              try clear hfz111_0
                                              try clear hfz111_1
                                              try clear hfz112_0
                                              try clear hfz112_1
                                              try clear hfz112_2
                                              try clear hfz112_3
                                              try clear hfz122_0
                                              try clear hfz122_1
                                              try clear hfz138_0
                                              try clear hfz138_1
                                              try clear hfz143_0
                                              try clear hfz143_1
                                              try clear hfz147_0
                                              try clear hfz147_1
                                              try clear hfz149_0
                                              try clear hfz149_1
                                              try clear hfz150_0
                                              try clear hfz150_1
                                              try clear hfz157_0
                                              try clear hfz157_1
                                              try clear hfz162_0
                                              try clear hfz162_1
                                              try clear hfz166_0
                                              try clear hfz166_1
                                              try clear hfz168_0
                                              try clear hfz168_1
                                              try clear hfz169_0
                                              try clear hfz169_1
                                              try clear hfz171_0
                                              try clear hfz171_1
                                              try clear hfz172_0
                                              try clear hfz172_1
                                              try clear hfz178_0
                                              try clear hfz178_1
                                              try clear hfz183_0
                                              try clear hfz183_1
                                              try clear hfz187_0
                                              try clear hfz187_1
                                              try clear hfz18_0
                                              try clear hfz18_1
                                              try clear hfz18_2
                                              try clear hfz18_3
                                              try clear hfz193_0
                                              try clear hfz193_1
                                              try clear hfz198_0
                                              try clear hfz198_1
                                              try clear hfz204_0
                                              try clear hfz204_1
                                              try clear hfz20_0
                                              try clear hfz20_1
                                              try clear hfz20_2
                                              try clear hfz20_3
                                              try clear hfz212_0
                                              try clear hfz212_1
                                              try clear hfz212_2
                                              try clear hfz212_3
                                              try clear hfz222_0
                                              try clear hfz222_1
                                              try clear hfz222_2
                                              try clear hfz222_3
                                              try clear hfz22_0
                                              try clear hfz22_1
                                              try clear hfz22_2
                                              try clear hfz22_3
                                              try clear hfz24_0
                                              try clear hfz24_1
                                              try clear hfz24_2
                                              try clear hfz24_3
                                              try clear hfz26_0
                                              try clear hfz26_1
                                              try clear hfz26_2
                                              try clear hfz26_3
                                              try clear hfz28_0
                                              try clear hfz28_1
                                              try clear hfz28_2
                                              try clear hfz28_3
                                              try clear hfz30_0
                                              try clear hfz30_1
                                              try clear hfz30_2
                                              try clear hfz30_3
                                              try clear hfz32_0
                                              try clear hfz32_1
                                              try clear hfz32_2
                                              try clear hfz32_3
                                              try clear hfz34_0
                                              try clear hfz34_1
                                              try clear hfz34_2
                                              try clear hfz34_3
                                              try clear hfz40_0
                                              try clear hfz40_1
                                              try clear hfz40_2
                                              try clear hfz40_3
                                              try clear hfz50_0
                                              try clear hfz50_1
                                              try clear hfz50_2
                                              try clear hfz50_3
                                              try clear hfz56_0
                                              try clear hfz56_1
                                              try clear hfz61_0
                                              try clear hfz61_1
                                              try clear hfz63_0
                                              try clear hfz63_1
                                              try clear hfz65_0
                                              try clear hfz65_1
                                              try clear hfz77_0
                                              try clear hfz77_1
                                              try clear hfz77_2
                                              try clear hfz77_3
                                              try clear hfz84_0
                                              try clear hfz84_1
                                              try clear hfz86_0
                                              try clear hfz86_1
                                              try clear hfz95_0
                                              try clear hfz95_1
                                              try clear hfz95_2
                                              try clear hfz95_3
                                              try clear p2
                                              try clear p6
                                              try clear p64
                                              obtain ⟨x25_8, x26_8, rfl, rfl, HA, HK8, HO_23, BK1982, BK2001, BK2017, BK2024, BK2036, HB⟩ := hrel
                                              cases gk with
                                              | zero => exact absurd HA.out (by simp [Lw_LineKept.l1])
                                              | succ k8 =>
                                                have H := HA.out
                                                clear HA
                                                simp only [Lw_LineKept.l1] at H
                                                by_cases c230 : x26_8 < (l0_0.length : Int)
                                                · rw [if_pos c230] at H
                                                  have c230b0 := decide_eq_true c230
                                                  clear c230
                                                  by_cases c231 : x25_8 = true
                                                  · subst c231
                                                    rw [if_pos rfl] at H
                                                    have H' := m0 H
                                                    clear H
                                                    go_wp2
                                                    go_roundg k8
                                                    case measure => have := HJ5.out; have := HJ38.out; have := HJ48.out; have := HJ67.out; have := HJ92.out; have := HK6.out; have := HJ216.out; have := HK8.out; omega
                                                    case rel => exact ⟨(true), (wrap64 (x26_8 + 1)), (by first | rfl | (simp; done) | (simp [*]; done)), (by first | rfl | (simp; done) | (simp [*]; done)), H', ⟨by have := HJ5.out; have := HJ38.out; have := HJ48.out; have := HJ67.out; have := HJ92.out; have := HK6.out; have := HJ216.out; have := HK8.out; omega⟩, ⟨br HO_23.out⟩, ⟨bk BK1982.out⟩, ⟨bk BK2001.out⟩, ⟨bk BK2017.out⟩, ⟨bk BK2024.out⟩, ⟨bk BK2036.out⟩, ⟨bz⟩⟩
                                                  · replace c231 := Bool.eq_false_iff.mpr c231
                                                    subst c231
                                                    rw [if_neg (show ¬ (false = true) by decide)] at H
                                                    by_cases c232 : 0 ≤ x26_8
                                                    · rw [if_pos c232] at H
                                                      have c232b0 := decide_eq_true c232
                                                      clear c232
                                                      by_cases c233 : x26_8 < (t2053.length : Int)
                                                      · rw [if_pos c233] at H
                                                        have c233b0 := decide_eq_true c233
                                                        clear c233
                                                        have H' := m0 H
                                                        clear H
                                                        obtain ⟨Ao234, co234, eo234⟩ := Kd.R_slice HO_23.out
                                                        subst eo234
                                                        have p2057 : 0 ≤ (x26_8 : Int) := of_decide_eq_true (by first | (with_reducible assumption) | assumption)
                                                        have q2057 : x26_8 < (t2053.length : Int) := of_decide_eq_true (by first | (with_reducible assumption) | assumption)
                                                        obtain ⟨ad2057, e2057, hx2057_0⟩ := Kd.at_int (Kd.R_reads' HO_23.out).2.2 x26_8 p2057 q2057
                                                        cases e2057
                                                        replace p2057 := eq_true p2057
                                                        replace q2057 := eq_true q2057
                                                        go_wp2
                                                        go_roundg k8
                                                        case measure => have := HJ5.out; have := HJ38.out; have := HJ48.out; have := HJ67.out; have := HJ92.out; have := HK6.out; have := HJ216.out; have := HK8.out; omega
                                                        case rel => exact ⟨(decide ((rd t2053 x26_8) ≥ a1)), (wrap64 (x26_8 + 1)), (by first | rfl | (simp; done) | (simp [*]; done)), (by first | rfl | (simp; done) | (simp [*]; done)), H', ⟨by have := HJ5.out; have := HJ38.out; have := HJ48.out; have := HJ67.out; have := HJ92.out; have := HK6.out; have := HJ216.out; have := HK8.out; omega⟩, ⟨br HO_23.out⟩, ⟨bk BK1982.out⟩, ⟨bk BK2001.out⟩, ⟨bk BK2017.out⟩, ⟨bk BK2024.out⟩, ⟨bk BK2036.out⟩, ⟨bz⟩⟩
                                                      · rw [if_neg c233] at H
                                                        exact absurd H (by simp)
                                                    · rw [if_neg c232] at H
                                                      exact absurd H (by simp)
                                                · rw [if_neg c230] at H
                                                  have c230b0 := decide_eq_false c230
                                                  clear c230
                                                  by_cases c235 : x25_8 = true
                                                  · subst c235
                                                    rw [if_pos rfl] at H
                                                    have H' := m0 H
                                                    clear H
                                                    go_wp2
                                                    go_roundg k8
                                                    case measure => have := HJ5.out; have := HJ38.out; have := HJ48.out; have := HJ67.out; have := HJ92.out; have := HK6.out; have := HJ216.out; have := HK8.out; omega
                                                    case rel => exact ⟨(wrap64 (x20_6 + 1)), (wrap64 (x22_6 + 1)), (by first | rfl | (simp; done) | (simp [*]; done)), (by first | rfl | (simp; done) | (simp [*]; done)), H', ⟨by have := HJ5.out; have := HJ38.out; have := HJ48.out; have := HJ67.out; have := HJ92.out; have := HK6.out; have := HJ216.out; have := HK8.out; omega⟩, ⟨bk BK1982.out⟩, ⟨bk BK2001.out⟩, ⟨bk BK2017.out⟩, ⟨bk BK2024.out⟩, ⟨bk BK2036.out⟩, ⟨bz⟩⟩
                                                  · replace c235 := Bool.eq_false_iff.mpr c235
                                                    subst c235
                                                    rw [if_neg (show ¬ (false = true) by decide)] at H
                                                    have H' := m0 H
                                                    clear H
                                                    go_wp2
                                                    go_roundg k8
                                                    case measure => have := HJ5.out; have := HJ38.out; have := HJ48.out; have := HJ67.out; have := HJ92.out; have := HK6.out; have := HJ216.out; have := HK8.out; omega
                                                    case rel => exact ⟨(x20_6), (wrap64 (x22_6 + 1)), (by first | rfl | (simp; done) | (simp [*]; done)), (by first | rfl | (simp; done) | (simp [*]; done)), H', ⟨by have := HJ5.out; have := HJ38.out; have := HJ48.out; have := HJ67.out; have := HJ92.out; have := HK6.out; have := HJ216.out; have := HK8.out; omega⟩, ⟨bk BK1982.out⟩, ⟨bk BK2001.out⟩, ⟨bk BK2017.out⟩, ⟨bk BK2024.out⟩, ⟨bk BK2036.out⟩, ⟨bz⟩⟩
                                    · rw [if_neg c214] at H
                                      have c214b0 := decide_eq_false c214
                                      clear c214
                                      replace H := ob H
                                      obtain ⟨⟨t2043, t2044⟩, A2360, H⟩ := H
                                      (try dsimp only at H)
                                      have A236 := m0 A2360
                                      clear A2360
                                      obtain rfl := Option.some.inj H
                                      try go_wp2
                                      replace BK1982 := bd BK1982; replace BK2001 := bd BK2001; replace BK2017 := bd BK2017; replace BK2024 := bd BK2024; replace BK2036 := bd BK2036; replace HB := sd HB
                                      refine start_ (n := 6) (S := fun w' => w'.cell? ⟨gb2036, 0, none⟩ = some (.int .i64 t2033) ∧ w'.cell? ⟨gb2036, 1, none⟩ = some (.int .i64 t2034)) (ds := []) #[false, false, false, false, false, false] (by kernel_rfl) rfl rfl cz (fun hHeld => ?_)
                                      generalize wr.drew = w237 at BK1982 BK2001 BK2017 BK2024 BK2036 HB hHeld ⊢
                                      refine pure_ (i := 1) (N := some 231) (v := ?_) (a' := ?_) #[false, true, false, false, false, false] rfl rfl (by kernel_rfl) (fun _ _ _ h => h) (Or.inl ⟨by rfl, ?_⟩) ?_ ?_
                                      rotate_left
                                      · intro w'
                                        go_simp
                                        with_reducible rfl
                                      rotate_left
                                      · exact pz
                                      refine pure_ (i := 2) (N := some 232) (v := ?_) (a' := ?_) #[false, true, true, false, false, false] rfl rfl (by kernel_rfl) (fun _ _ _ h => h) (Or.inl ⟨by rfl, ?_⟩) ?_ ?_
                                      rotate_left
                                      · intro w'
                                        go_simp
                                        with_reducible rfl
                                      rotate_left
                                      · exact pz
                                      refine takeZ 0 (some 230) #[true, true, true, false, false, false] (by kernel_rfl) hHeld ?_
                                      refine oneZ 3 (some 233) #[true, true, true, true, false, false] (by kernel_rfl) fun K hK => ?_
                                      refine goes_ Tryd.func41 (by kernel_rfl) rfl #[.int .i64 x20_6, .int .i64 t2042] (by rfl) rfl rfl mz ?_
                                      with_reducible refine (Bs_Lowest.calls k6 x20_6 t2042 t2043 t2044 _ A236.out).mono ?_
                                      rintro e w238 ⟨rfl, hb⟩
                                      refine ⟨_, rfl, ?_⟩
                                      replace BK1982 := bb BK1982 hb; replace BK2001 := bb BK2001 hb; replace BK2017 := bb BK2017 hb; replace BK2024 := bb BK2024 hb; replace BK2036 := bb BK2036 hb; replace HB := sb HB hb
                                      (try clear hb)
                                      refine hK.out _ _ cz (fun hHeld => ?_)
                                      clear hK K
                                      refine norm_ (a' := ?_) ?_ ?_
                                      rotate_left
                                      · show Act.put _ (some 233) _ = _
                                        exact pz
                                      refine pure_ (i := 4) (N := some 234) (v := ?_) (a' := ?_) #[true, true, true, true, true, false] rfl rfl (by kernel_rfl) (fun _ _ _ h => h) (Or.inl ⟨by rfl, ?_⟩) ?_ ?_
                                      rotate_left
                                      · intro w'
                                        go_simp
                                        with_reducible rfl
                                      rotate_left
                                      · exact pz
                                      refine pure_ (i := 5) (N := some 6) (v := ?_) (a' := ?_) #[true, true, true, true, true, true] rfl rfl (by kernel_rfl) (fun _ _ _ h => h) (Or.inl ⟨by rfl, ?_⟩) ?_ ?_
                                      rotate_left
                                      · intro w'
                                        go_simp
                                        with_reducible rfl
                                      rotate_left
                                      · exact pz
                                      refine done_ (by kernel_rfl) ?_
                                      try go_wp2
                                      go_ret
                                      exact ez
  · replace c5 := Bool.eq_false_iff.mpr c5
    subst c5
    rw [if_neg (show ¬ (false = true) by decide)] at H
    exact absurd H (by simp)
end Go.Proofs.YtjnkphmcndaijaaDoor.A
