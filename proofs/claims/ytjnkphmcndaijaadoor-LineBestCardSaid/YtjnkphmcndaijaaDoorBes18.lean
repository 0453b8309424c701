/- Walks of the program's functions (printed, made shorter), each with what it computes. -/
import Derived.Test.YtjnkphmcndaijaaDoorBes04
import Derived.Test.YtjnkphmcndaijaaDoorBes06
import Derived.Test.YtjnkphmcndaijaaDoorBes07
import Derived.Test.YtjnkphmcndaijaaDoorBes13
import Derived.Test.YtjnkphmcndaijaaDoorBes14
import Derived.Test.YtjnkphmcndaijaaDoorBes15
import Derived.Test.YtjnkphmcndaijaaDoorBes17
import Derived.Test.YtjnkphmcndaijaaDoorBes03
namespace Go.Proofs.YtjnkphmcndaijaaDoor.A
set_option maxHeartbeats 8000000
set_option maxRecDepth 100000
open Go.RowKit Go.Proofs.YtjnkphmcndaijaaDoorW.PrintWords Go.Proofs.YtjnkphmcndaijaaDoorW.PrintLast Go.Proofs.YtjnkphmcndaijaaDoorW.PrintMore
attribute [local go_sem] max2_int min2_int max_two min_two max_three min_three max_four min_four
set_option linter.unusedVariables false
set_option linter.unusedSimpArgs false
attribute [local go_sem high] eqA36
mutual
def Lw_LineBest.j0 : Nat → List Int → Bool → List Int → List Int → Int → Int → Option (Bool)
  | 0, _, _, _, _, _, _ => none
  | k + 1, x1, x25, x1423000, x1423001, x1423002, x1423003 => if x25 = true then (some true) else ((Rf_CopyCase.f x1423000 x1423001 x1423002 x1423003).bind fun bt1425 => ((Bs_CopyInts.f x1).bind fun t1433 => ((line_BestOf.f k bt1425.1 bt1425.2.1 bt1425.2.2.1 bt1425.2.2.2 t1433).bind fun bt1436 => ((Rf_CaseErr.f k x1423000 x1423001 x1423002 x1423003).bind fun t1442 => (if t1442 = 0 then ((Rf_KindsErr.f k x1).bind fun t1443 => (Lw_LineBest.j1 k x1 bt1436.1 bt1436.2.2.2.2 t1443 x1423000 x1423001 x1423002 x1423003 bt1436.2.1 bt1436.2.2.1 bt1436.2.2.2.1)) else (Lw_LineBest.j1 k x1 bt1436.1 bt1436.2.2.2.2 t1442 x1423000 x1423001 x1423002 x1423003 bt1436.2.1 bt1436.2.2.1 bt1436.2.2.2.1))))))
def Lw_LineBest.j1 : Nat → List Int → Int → Int → Int → List Int → List Int → Int → Int → Int → Int → Int → Option (Bool)
  | 0, _, _, _, _, _, _, _, _, _, _, _ => none
  | k + 1, x1, x5, x7, x8, x1423000, x1423001, x1423002, x1423003, x1442000, x1442001, x1442002 => if x8 = 0 then ((Rf_Best.f k x1423000 x1423001 x1423002 x1423003 x1).bind fun bt1444 => (if x7 = 0 then (if x5 = bt1444.1 then (Lw_LineBest.j2 k x1 x5 ((!(x1442000 == bt1444.2.1) || (!(x1442001 == bt1444.2.2.1))) || (!(x1442002 == bt1444.2.2.2))) x1423000 x1423001 x1423002 x1423003 x1442000 x1442001 x1442002) else (Lw_LineBest.j2 k x1 x5 true x1423000 x1423001 x1423002 x1423003 x1442000 x1442001 x1442002)) else (Lw_LineBest.j2 k x1 x5 true x1423000 x1423001 x1423002 x1423003 x1442000 x1442001 x1442002))) else (if x7 = x8 then (if x5 = 0 then (some ((x1442000 == 0 && (x1442001 == 0)) && (x1442002 == 0))) else (none)) else (none))
def Lw_LineBest.j2 : Nat → List Int → Int → Bool → List Int → List Int → Int → Int → Int → Int → Int → Option (Bool)
  | 0, _, _, _, _, _, _, _, _, _, _ => none
  | k + 1, x1, x5, x72, x1423000, x1423001, x1423002, x1423003, x1442000, x1442001, x1442002 => if x72 = true then (none) else (Lw_LineBest.l0 k x1 x5 false 0 x1423000 x1423001 x1423002 x1423003 x1442000 x1442001 x1442002)
def Lw_LineBest.l0 : Nat → List Int → Int → Bool → Int → List Int → List Int → Int → Int → Int → Int → Int → Option (Bool)
  | 0, _, _, _, _, _, _, _, _, _, _, _ => none
  | k + 1, x1, x5, x11, x12, x1423000, x1423001, x1423002, x1423003, x1442000, x1442001, x1442002 => if x12 < (x1.length : Int) then ((Rf_CopyCase.f x1423000 x1423001 x1423002 x1423003).bind fun bt1449 => (if 0 ≤ x12 then ((line_WorstOf.f k bt1449.1 bt1449.2.1 bt1449.2.2.1 bt1449.2.2.2 (rd x1 x12)).bind fun bt1458 => (if bt1458.2.2.2 = 0 then ((Bs_IsLowest.f k bt1458.1 bt1458.2.1).bind fun t1463 => (if t1463 = true then ((Bs_IsSmall.f bt1458.1 bt1458.2.1).bind fun t1464 => (Lw_LineBest.j4 k x1 x5 x11 x12 (!t1464) x1423000 x1423001 x1423002 x1423003 x1442000 x1442001 x1442002 bt1458.1 bt1458.2.1 bt1458.2.2.1)) else (Lw_LineBest.j4 k x1 x5 x11 x12 true x1423000 x1423001 x1423002 x1423003 x1442000 x1442001 x1442002 bt1458.1 bt1458.2.1 bt1458.2.2.1))) else (Lw_LineBest.j4 k x1 x5 x11 x12 true x1423000 x1423001 x1423002 x1423003 x1442000 x1442001 x1442002 bt1458.1 bt1458.2.1 bt1458.2.2.1))) else (none))) else (some x11)
def Lw_LineBest.j4 : Nat → List Int → Int → Bool → Int → Bool → List Int → List Int → Int → Int → Int → Int → Int → Int → Int → Int → Option (Bool)
  | 0, _, _, _, _, _, _, _, _, _, _, _, _, _, _, _ => none
  | k + 1, x1, x5, x11, x12, x102, x1423000, x1423001, x1423002, x1423003, x1442000, x1442001, x1442002, x1463000, x1463001, x1463002 => if x102 = true then (none) else (if x11 = true then ((Bs_Cmp.f x1463000 x1463001 x1442000 x1442001).bind fun t1465 => (if t1465 < 0 then (none) else (if t1465 = 0 then (Lw_LineBest.l0 k x1 x5 true (wrap64 (x12 + 1)) x1423000 x1423001 x1423002 x1423003 x1442000 x1442001 x1442002) else (Lw_LineBest.l0 k x1 x5 true (wrap64 (x12 + 1)) x1423000 x1423001 x1423002 x1423003 x1442000 x1442001 x1442002)))) else (if 0 ≤ x12 then (if x12 < (x1.length : Int) then ((Bs_Cmp.f x1463000 x1463001 x1442000 x1442001).bind fun t1467 => (if t1467 < 0 then (none) else (if t1467 = 0 then (if ((rd x1 x12) = x5) then (Lw_LineBest.l0 k x1 x5 ((rd x1 x12) == x5) (wrap64 (x12 + 1)) x1423000 x1423001 x1423002 x1423003 x1442000 x1442001 x1442002) else (none)) else (Lw_LineBest.l0 k x1 x5 ((rd x1 x12) == x5) (wrap64 (x12 + 1)) x1423000 x1423001 x1423002 x1423003 x1442000 x1442001 x1442002)))) else (none)) else (none)))
end
def Lw_LineBest.f (k : Nat) (l0_0 : List Int) (l0_1 : List Int) (a0_2 : Int) (a0_3 : Int) (l1 : List Int) : Option (Bool) := (Lw_awake.f k).bind fun t1423 => (if t1423 = true then ((Lw_light.f k l0_0 l0_1 a0_2 a0_3).bind fun t1424 => (if t1424 = true then (Lw_LineBest.j0 k l1 (decide ((l1.length : Int) > 6)) l0_0 l0_1 a0_2 a0_3) else (Lw_LineBest.j0 k l1 true l0_0 l0_1 a0_2 a0_3))) else (none))
theorem Lw_LineBest.mono_l : ∀ k, (∀ y0 y1 y2 y3 y4 y5, LeO (Lw_LineBest.j0 k y0 y1 y2 y3 y4 y5) (Lw_LineBest.j0 (k + 1) y0 y1 y2 y3 y4 y5)) ∧ (∀ y0 y1 y2 y3 y4 y5 y6 y7 y8 y9 y10, LeO (Lw_LineBest.j1 k y0 y1 y2 y3 y4 y5 y6 y7 y8 y9 y10) (Lw_LineBest.j1 (k + 1) y0 y1 y2 y3 y4 y5 y6 y7 y8 y9 y10)) ∧ (∀ y0 y1 y2 y3 y4 y5 y6 y7 y8 y9, LeO (Lw_LineBest.j2 k y0 y1 y2 y3 y4 y5 y6 y7 y8 y9) (Lw_LineBest.j2 (k + 1) y0 y1 y2 y3 y4 y5 y6 y7 y8 y9)) ∧ (∀ y0 y1 y2 y3 y4 y5 y6 y7 y8 y9 y10, LeO (Lw_LineBest.l0 k y0 y1 y2 y3 y4 y5 y6 y7 y8 y9 y10) (Lw_LineBest.l0 (k + 1) y0 y1 y2 y3 y4 y5 y6 y7 y8 y9 y10)) ∧ (∀ y0 y1 y2 y3 y4 y5 y6 y7 y8 y9 y10 y11 y12 y13 y14, LeO (Lw_LineBest.j4 k y0 y1 y2 y3 y4 y5 y6 y7 y8 y9 y10 y11 y12 y13 y14) (Lw_LineBest.j4 (k + 1) y0 y1 y2 y3 y4 y5 y6 y7 y8 y9 y10 y11 y12 y13 y14))
  | 0 => ⟨fun _ _ _ _ _ _ r h => by simp [Lw_LineBest.j0] at h, fun _ _ _ _ _ _ _ _ _ _ _ r h => by simp [Lw_LineBest.j1] at h, fun _ _ _ _ _ _ _ _ _ _ r h => by simp [Lw_LineBest.j2] at h, fun _ _ _ _ _ _ _ _ _ _ _ r h => by simp [Lw_LineBest.l0] at h, fun _ _ _ _ _ _ _ _ _ _ _ _ _ _ _ r h => by simp [Lw_LineBest.j4] at h⟩
  | k + 1 => by
    obtain ⟨ih0, ih1, ih2, ih3, ih4⟩ := Lw_LineBest.mono_l k
    refine ⟨?_, ?_, ?_, ?_, ?_⟩
    · intro y0 y1 y2 y3 y4 y5
      unfold Lw_LineBest.j0
      repeat' first
      | (with_reducible exact ih0 _ _ _ _ _ _)
      | (with_reducible exact ih1 _ _ _ _ _ _ _ _ _ _ _)
      | (with_reducible exact ih2 _ _ _ _ _ _ _ _ _ _)
      | (with_reducible exact ih3 _ _ _ _ _ _ _ _ _ _ _)
      | (with_reducible exact ih4 _ _ _ _ _ _ _ _ _ _ _ _ _ _ _)
      | (with_reducible exact Bs_IsLowest.mono _ _ _)
      | (with_reducible exact Lw_awake.mono _)
      | (with_reducible exact Lw_light.mono _ _ _ _ _)
      | (with_reducible exact Rf_Best.mono _ _ _ _ _ _)
      | (with_reducible exact Rf_CaseErr.mono _ _ _ _ _)
      | (with_reducible exact Rf_KindsErr.mono _ _)
      | (with_reducible exact line_BestOf.mono _ _ _ _ _ _)
      | (with_reducible exact line_WorstOf.mono _ _ _ _ _ _)
      | (with_reducible exact LeO.refl _)
      | (with_reducible exact LeO.none _)
      | (with_reducible refine LeO.ite ?_ ?_)
      | (with_reducible refine LeO.bind ?_ (fun _ => ?_))
      | exact ih0 _ _ _ _ _ _
      | exact ih1 _ _ _ _ _ _ _ _ _ _ _
      | exact ih2 _ _ _ _ _ _ _ _ _ _
      | exact ih3 _ _ _ _ _ _ _ _ _ _ _
      | exact ih4 _ _ _ _ _ _ _ _ _ _ _ _ _ _ _
      | exact Bs_IsLowest.mono _ _ _
      | exact Lw_awake.mono _
      | exact Lw_light.mono _ _ _ _ _
      | exact Rf_Best.mono _ _ _ _ _ _
      | exact Rf_CaseErr.mono _ _ _ _ _
      | exact Rf_KindsErr.mono _ _
      | exact line_BestOf.mono _ _ _ _ _ _
      | exact line_WorstOf.mono _ _ _ _ _ _
      | exact LeO.none _
      | refine LeO.ite ?_ ?_
      | refine LeO.bind ?_ (fun _ => ?_)
    · intro y0 y1 y2 y3 y4 y5 y6 y7 y8 y9 y10
      unfold Lw_LineBest.j1
      repeat' first
      | (with_reducible exact ih0 _ _ _ _ _ _)
      | (with_reducible exact ih1 _ _ _ _ _ _ _ _ _ _ _)
      | (with_reducible exact ih2 _ _ _ _ _ _ _ _ _ _)
      | (with_reducible exact ih3 _ _ _ _ _ _ _ _ _ _ _)
      | (with_reducible exact ih4 _ _ _ _ _ _ _ _ _ _ _ _ _ _ _)
      | (with_reducible exact Bs_IsLowest.mono _ _ _)
      | (with_reducible exact Lw_awake.mono _)
      | (with_reducible exact Lw_light.mono _ _ _ _ _)
      | (with_reducible exact Rf_Best.mono _ _ _ _ _ _)
      | (with_reducible exact Rf_CaseErr.mono _ _ _ _ _)
      | (with_reducible exact Rf_KindsErr.mono _ _)
      | (with_reducible exact line_BestOf.mono _ _ _ _ _ _)
      | (with_reducible exact line_WorstOf.mono _ _ _ _ _ _)
      | (with_reducible exact LeO.refl _)
      | (with_reducible exact LeO.none _)
      | (with_reducible refine LeO.ite ?_ ?_)
      | (with_reducible refine LeO.bind ?_ (fun _ => ?_))
      | exact ih0 _ _ _ _ _ _
      | exact ih1 _ _ _ _ _ _ _ _ _ _ _
      | exact ih2 _ _ _ _ _ _ _ _ _ _
      | exact ih3 _ _ _ _ _ _ _ _ _ _ _
      | exact ih4 _ _ _ _ _ _ _ _ _ _ _ _ _ _ _
      | exact Bs_IsLowest.mono _ _ _
      | exact Lw_awake.mono _
      | exact Lw_light.mono _ _ _ _ _
      | exact Rf_Best.mono _ _ _ _ _ _
      | exact Rf_CaseErr.mono _ _ _ _ _
      | exact Rf_KindsErr.mono _ _
      | exact line_BestOf.mono _ _ _ _ _ _
      | exact line_WorstOf.mono _ _ _ _ _ _
      | exact LeO.none _
      | refine LeO.ite ?_ ?_
      | refine LeO.bind ?_ (fun _ => ?_)
    · intro y0 y1 y2 y3 y4 y5 y6 y7 y8 y9
      unfold Lw_LineBest.j2
      repeat' first
      | (with_reducible exact ih0 _ _ _ _ _ _)
      | (with_reducible exact ih1 _ _ _ _ _ _ _ _ _ _ _)
      | (with_reducible exact ih2 _ _ _ _ _ _ _ _ _ _)
      | (with_reducible exact ih3 _ _ _ _ _ _ _ _ _ _ _)
      | (with_reducible exact ih4 _ _ _ _ _ _ _ _ _ _ _ _ _ _ _)
      | (with_reducible exact Bs_IsLowest.mono _ _ _)
      | (with_reducible exact Lw_awake.mono _)
      | (with_reducible exact Lw_light.mono _ _ _ _ _)
      | (with_reducible exact Rf_Best.mono _ _ _ _ _ _)
      | (with_reducible exact Rf_CaseErr.mono _ _ _ _ _)
      | (with_reducible exact Rf_KindsErr.mono _ _)
      | (with_reducible exact line_BestOf.mono _ _ _ _ _ _)
      | (with_reducible exact line_WorstOf.mono _ _ _ _ _ _)
      | (with_reducible exact LeO.refl _)
      | (with_reducible exact LeO.none _)
      | (with_reducible refine LeO.ite ?_ ?_)
      | (with_reducible refine LeO.bind ?_ (fun _ => ?_))
      | exact ih0 _ _ _ _ _ _
      | exact ih1 _ _ _ _ _ _ _ _ _ _ _
      | exact ih2 _ _ _ _ _ _ _ _ _ _
      | exact ih3 _ _ _ _ _ _ _ _ _ _ _
      | exact ih4 _ _ _ _ _ _ _ _ _ _ _ _ _ _ _
      | exact Bs_IsLowest.mono _ _ _
      | exact Lw_awake.mono _
      | exact Lw_light.mono _ _ _ _ _
      | exact Rf_Best.mono _ _ _ _ _ _
      | exact Rf_CaseErr.mono _ _ _ _ _
      | exact Rf_KindsErr.mono _ _
      | exact line_BestOf.mono _ _ _ _ _ _
      | exact line_WorstOf.mono _ _ _ _ _ _
      | exact LeO.none _
      | refine LeO.ite ?_ ?_
      | refine LeO.bind ?_ (fun _ => ?_)
    · intro y0 y1 y2 y3 y4 y5 y6 y7 y8 y9 y10
      unfold Lw_LineBest.l0
      repeat' first
      | (with_reducible exact ih0 _ _ _ _ _ _)
      | (with_reducible exact ih1 _ _ _ _ _ _ _ _ _ _ _)
      | (with_reducible exact ih2 _ _ _ _ _ _ _ _ _ _)
      | (with_reducible exact ih3 _ _ _ _ _ _ _ _ _ _ _)
      | (with_reducible exact ih4 _ _ _ _ _ _ _ _ _ _ _ _ _ _ _)
      | (with_reducible exact Bs_IsLowest.mono _ _ _)
      | (with_reducible exact Lw_awake.mono _)
      | (with_reducible exact Lw_light.mono _ _ _ _ _)
      | (with_reducible exact Rf_Best.mono _ _ _ _ _ _)
      | (with_reducible exact Rf_CaseErr.mono _ _ _ _ _)
      | (with_reducible exact Rf_KindsErr.mono _ _)
      | (with_reducible exact line_BestOf.mono _ _ _ _ _ _)
      | (with_reducible exact line_WorstOf.mono _ _ _ _ _ _)
      | (with_reducible exact LeO.refl _)
      | (with_reducible exact LeO.none _)
      | (with_reducible refine LeO.ite ?_ ?_)
      | (with_reducible refine LeO.bind ?_ (fun _ => ?_))
      | exact ih0 _ _ _ _ _ _
      | exact ih1 _ _ _ _ _ _ _ _ _ _ _
      | exact ih2 _ _ _ _ _ _ _ _ _ _
      | exact ih3 _ _ _ _ _ _ _ _ _ _ _
      | exact ih4 _ _ _ _ _ _ _ _ _ _ _ _ _ _ _
      | exact Bs_IsLowest.mono _ _ _
      | exact Lw_awake.mono _
      | exact Lw_light.mono _ _ _ _ _
      | exact Rf_Best.mono _ _ _ _ _ _
      | exact Rf_CaseErr.mono _ _ _ _ _
      | exact Rf_KindsErr.mono _ _
      | exact line_BestOf.mono _ _ _ _ _ _
      | exact line_WorstOf.mono _ _ _ _ _ _
      | exact LeO.none _
      | refine LeO.ite ?_ ?_
      | refine LeO.bind ?_ (fun _ => ?_)
    · intro y0 y1 y2 y3 y4 y5 y6 y7 y8 y9 y10 y11 y12 y13 y14
      unfold Lw_LineBest.j4
      repeat' first
      | (with_reducible exact ih0 _ _ _ _ _ _)
      | (with_reducible exact ih1 _ _ _ _ _ _ _ _ _ _ _)
      | (with_reducible exact ih2 _ _ _ _ _ _ _ _ _ _)
      | (with_reducible exact ih3 _ _ _ _ _ _ _ _ _ _ _)
      | (with_reducible exact ih4 _ _ _ _ _ _ _ _ _ _ _ _ _ _ _)
      | (with_reducible exact Bs_IsLowest.mono _ _ _)
      | (with_reducible exact Lw_awake.mono _)
      | (with_reducible exact Lw_light.mono _ _ _ _ _)
      | (with_reducible exact Rf_Best.mono _ _ _ _ _ _)
      | (with_reducible exact Rf_CaseErr.mono _ _ _ _ _)
      | (with_reducible exact Rf_KindsErr.mono _ _)
      | (with_reducible exact line_BestOf.mono _ _ _ _ _ _)
      | (with_reducible exact line_WorstOf.mono _ _ _ _ _ _)
      | (with_reducible exact LeO.refl _)
      | (with_reducible exact LeO.none _)
      | (with_reducible refine LeO.ite ?_ ?_)
      | (with_reducible refine LeO.bind ?_ (fun _ => ?_))
      | exact ih0 _ _ _ _ _ _
      | exact ih1 _ _ _ _ _ _ _ _ _ _ _
      | exact ih2 _ _ _ _ _ _ _ _ _ _
      | exact ih3 _ _ _ _ _ _ _ _ _ _ _
      | exact ih4 _ _ _ _ _ _ _ _ _ _ _ _ _ _ _
      | exact Bs_IsLowest.mono _ _ _
      | exact Lw_awake.mono _
      | exact Lw_light.mono _ _ _ _ _
      | exact Rf_Best.mono _ _ _ _ _ _
      | exact Rf_CaseErr.mono _ _ _ _ _
      | exact Rf_KindsErr.mono _ _
      | exact line_BestOf.mono _ _ _ _ _ _
      | exact line_WorstOf.mono _ _ _ _ _ _
      | exact LeO.none _
      | refine LeO.ite ?_ ?_
      | refine LeO.bind ?_ (fun _ => ?_)
theorem Lw_LineBest.mono : ∀ a0 a1 a2 a3 a4 k, LeO (Lw_LineBest.f k a0 a1 a2 a3 a4) (Lw_LineBest.f (k + 1) a0 a1 a2 a3 a4) := by
  intro a0 a1 a2 a3 a4 k
  obtain ⟨ih0, ih1, ih2, ih3, ih4⟩ := Lw_LineBest.mono_l k
  unfold Lw_LineBest.f
  repeat' first
      | (with_reducible exact ih0 _ _ _ _ _ _)
      | (with_reducible exact ih1 _ _ _ _ _ _ _ _ _ _ _)
      | (with_reducible exact ih2 _ _ _ _ _ _ _ _ _ _)
      | (with_reducible exact ih3 _ _ _ _ _ _ _ _ _ _ _)
      | (with_reducible exact ih4 _ _ _ _ _ _ _ _ _ _ _ _ _ _ _)
      | (with_reducible exact Bs_IsLowest.mono _ _ _)
      | (with_reducible exact Lw_awake.mono _)
      | (with_reducible exact Lw_light.mono _ _ _ _ _)
      | (with_reducible exact Rf_Best.mono _ _ _ _ _ _)
      | (with_reducible exact Rf_CaseErr.mono _ _ _ _ _)
      | (with_reducible exact Rf_KindsErr.mono _ _)
      | (with_reducible exact line_BestOf.mono _ _ _ _ _ _)
      | (with_reducible exact line_WorstOf.mono _ _ _ _ _ _)
      | (with_reducible exact LeO.refl _)
      | (with_reducible exact LeO.none _)
      | (with_reducible refine LeO.ite ?_ ?_)
      | (with_reducible refine LeO.bind ?_ (fun _ => ?_))
      | exact ih0 _ _ _ _ _ _
      | exact ih1 _ _ _ _ _ _ _ _ _ _ _
      | exact ih2 _ _ _ _ _ _ _ _ _ _
      | exact ih3 _ _ _ _ _ _ _ _ _ _ _
      | exact ih4 _ _ _ _ _ _ _ _ _ _ _ _ _ _ _
      | exact Bs_IsLowest.mono _ _ _
      | exact Lw_awake.mono _
      | exact Lw_light.mono _ _ _ _ _
      | exact Rf_Best.mono _ _ _ _ _ _
      | exact Rf_CaseErr.mono _ _ _ _ _
      | exact Rf_KindsErr.mono _ _
      | exact line_BestOf.mono _ _ _ _ _ _
      | exact line_WorstOf.mono _ _ _ _ _ _
      | exact LeO.none _
      | refine LeO.ite ?_ ?_
      | refine LeO.bind ?_ (fun _ => ?_)
def Lw_LineBest.T18 : Bool × List (List Nat × List Nat) := (true, [([], []), ([0], [0]), ([], []), ([], []), ([2, 3], [2, 3]), ([4], [4]), ([1, 5, 1], [1, 5]), ([6], [6]), ([7], [7]), ([7], [7]), ([], []), ([10, 8, 6, 0, 1, 2, 3, 4, 5, 6, 7, 8, 10], [8, 10]), ([9, 11, 0, 1, 2, 3, 4, 5, 6, 7, 8, 9, 10, 11], [9])])
def Lw_LineBest.B18 : List Nat := [0, 1, 0, 0, 12, 28, 63, 127, 255, 255, 0, 1535, 4095]
theorem Lw_LineBest.tab18 : rtab .any (opsOf Tryd.f11 18) = Lw_LineBest.T18 := by kernel_rfl
theorem Lw_LineBest.bits18 : waitsOk Lw_LineBest.T18.2 Lw_LineBest.B18 = true := by kernel_rfl
theorem Lw_LineBest.calls (k : Nat) (A0_0 : Option Addr) (c0_0 : Nat) (l0_0 : List Int) (A0_1 : Option Addr) (c0_1 : Nat) (l0_1 : List Int) (a0_2 : Int) (a0_3 : Int) (A1 : Option Addr) (c1 : Nat) (l1 : List Int) (r : Bool) (w : World) (hr0_0 : Kd.C (Kd.int .i64) w A0_0 l0_0.length l0_0) (hc0_0 : l0_0.length ≤ c0_0) (hr0_1 : Kd.C (Kd.int .i64) w A0_1 l0_1.length l0_1) (hc0_1 : l0_1.length ≤ c0_1) (hr1 : Kd.C (Kd.int .i64) w A1 l1.length l1) (hc1 : l1.length ≤ c1) (hG : EstG w) (h : Lw_LineBest.f k l0_0 l0_1 a0_2 a0_3 l1 = some r) :
    Calls Tryd.prog 11 #[.agg #[.slice A0_0 l0_0.length c0_0, .slice A0_1 l0_1.length c0_1, .int .i64 a0_2, .int .i64 a0_3], .slice A1 l1.length c1] w fun e w' => e = .returned (.bool r) ∧ Below w.heap.size w w' := by
  have hu28 := Tryd.underlying28
  have hu36 := Tryd.underlying36
  have hu26 := Tryd.underlying26
  have HG := m0 hG
  clear hG
  have HR0_0 := m0 hr0_0
  have HC0_0 := m0 hc0_0
  clear hr0_0 hc0_0
  have HR0_1 := m0 hr0_1
  have HC0_1 := m0 hc0_1
  clear hr0_1 hc0_1
  have HR1 := m0 hr1
  have HC1 := m0 hc1
  clear hr1 hc1
  have HB := m0 (Below.refl w.heap.size w)
  have H : ((Lw_awake.f k).bind fun t1423 => (if t1423 = true then ((Lw_light.f k l0_0 l0_1 a0_2 a0_3).bind fun t1424 => (if t1424 = true then (Lw_LineBest.j0 k l1 (decide ((l1.length : Int) > 6)) l0_0 l0_1 a0_2 a0_3) else (Lw_LineBest.j0 k l1 true l0_0 l0_1 a0_2 a0_3))) else (none))) = some r := h
  clear h
  replace H := ob H
  obtain ⟨t1423, A30, H⟩ := H
  (try dsimp only at H)
  have A3 := m0 A30
  clear A30
  by_cases c4 : t1423 = true
  · subst c4
    rw [if_pos rfl] at H
    have HC5 := m0 H
    clear H
    go_enter Tryd.func11, Tryd.ntmps11
    go_upto_region 3 with (first | ((with_reducible refine gate_dst (N := 2) rfl ?_); (try (refine gate_guard (by rfl) ?_; dsimp only)); refine be 2 28 #[.slice A0_0 l0_0.length c0_0, .slice A0_1 l0_1.length c0_1, .int .i64 a0_2, .int .i64 a0_3] ?_; intro gb1422 hg w6 hbox hb; have BK1422 := m0 hbox; have GW1422 := m0 (bg (n := w.heap.size) hg); have GE1422 := m0 (bg (n := w.heap.size) hg); replace HB := sb HB hb; clear hb hbox hg) | ((with_reducible refine gate_callee (f := 18) rfl ?_); refine gl (some 16) Tryd.func18 #[] ?_; (with_reducible refine (Lw_awake.calls k  true _ ?side1 A3.out).mono ?_); (case side1 => exact EstG.below HG.out bz); rintro e w7 ⟨rfl, hb⟩; refine ⟨_, rfl, ?_⟩; replace BK1422 := bb BK1422 hb; replace HB := sb HB hb; (try clear hb)))
    (try simp only [Act.put, List.setIfInBounds_toArray, List.set_cons_zero, List.set_cons_succ])
    go_cut [25] (fun v25 wc => ∃ (kq : Nat) (x25_4 : Bool), v25 = .bool x25_4 ∧ Aside0 (Lw_LineBest.j0 kq l1 x25_4 l0_0 l0_1 a0_2 a0_3 = some r) ∧ Aside0 (kq ≤ k) ∧ Aside0 (wc.heap[gb1422]? = some (.cells #[(.slice A0_0 l0_0.length c0_0), (.slice A0_1 l0_1.length c0_1), .int .i64 a0_2, .int .i64 a0_3] 28 (0, 0))) ∧ Aside0 (Below w.heap.size w wc))
    case first =>
      have H := HC5.out
      clear HC5
      replace H := ob H
      obtain ⟨t1424, A80, H⟩ := H
      (try dsimp only at H)
      have A8 := m0 A80
      clear A80
      by_cases c9 : t1424 = true
      · subst c9
        rw [if_pos rfl] at H
        have H' := m0 H
        clear H
        obtain ⟨hcz10_0, hcz10_1, hcz10_2, hcz10_3, hfz10_0, hfz10_1, hfz10_2, hfz10_3⟩ := b4 BK1422
        go_wp2_with (first | ((with_reducible refine gate_callee (f := 19) rfl ?_); refine gl (some 19) Tryd.func19 #[.agg #[.slice A0_0 l0_0.length c0_0, .slice A0_1 l0_1.length c0_1, .int .i64 a0_2, .int .i64 a0_3]] ?_; (with_reducible refine (Lw_light.calls k _ _ l0_0 _ _ l0_1 a0_2 a0_3 true _ ?side1 ?side2 ?side3 ?side4 A8.out).mono ?_); (case side1 => exact cb HR0_0 HB); (case side2 => exact HC0_0.out); (case side3 => exact cb HR0_1 HB); (case side4 => exact HC0_1.out); rintro e w11 ⟨rfl, hb⟩; refine ⟨_, rfl, ?_⟩; replace BK1422 := bb BK1422 hb; replace HB := sb HB hb; (try clear hb)))
        go_meet
        case rel => exact ⟨_, (decide ((l1.length : Int) > 6)), (by first | rfl | (simp; done) | (simp [*]; done)), H', ⟨by first | omega | exact Nat.le_refl _⟩, ⟨bk BK1422.out⟩, ⟨bz⟩⟩
      · replace c9 := Bool.eq_false_iff.mpr c9
        subst c9
        rw [if_neg (show ¬ (false = true) by decide)] at H
        have H' := m0 H
        clear H
        obtain ⟨hcz12_0, hcz12_1, hcz12_2, hcz12_3, hfz12_0, hfz12_1, hfz12_2, hfz12_3⟩ := b4 BK1422
        go_wp2_with (first | ((with_reducible refine gate_callee (f := 19) rfl ?_); refine gl (some 19) Tryd.func19 #[.agg #[.slice A0_0 l0_0.length c0_0, .slice A0_1 l0_1.length c0_1, .int .i64 a0_2, .int .i64 a0_3]] ?_; (with_reducible refine (Lw_light.calls k _ _ l0_0 _ _ l0_1 a0_2 a0_3 false _ ?side1 ?side2 ?side3 ?side4 A8.out).mono ?_); (case side1 => exact cb HR0_0 HB); (case side2 => exact HC0_0.out); (case side3 => exact cb HR0_1 HB); (case side4 => exact HC0_1.out); rintro e w13 ⟨rfl, hb⟩; refine ⟨_, rfl, ?_⟩; replace BK1422 := bb BK1422 hb; replace HB := sb HB hb; (try clear hb)))
        go_meet
        case rel => exact ⟨_, (true), (by first | rfl | (simp; done) | (simp [*]; done)), H', ⟨by first | omega | exact Nat.le_refl _⟩, ⟨bk BK1422.out⟩, ⟨bz⟩⟩
    case rest =>
      clear HC5
      try clear c1
      try clear p2
      try clear c4
      try clear c9
      try clear c11
      try clear hcz10_0
      try clear hcz10_1
      try clear hcz10_2
      try clear hcz10_3
      try clear hcz12_0
      try clear hcz12_1
      try clear hcz12_2
      try clear hcz12_3
      try clear hfz10_0
      try clear hfz10_1
      try clear hfz10_2
      try clear hfz10_3
      try clear hfz12_0
      try clear hfz12_1
      try clear hfz12_2
      try clear hfz12_3
      obtain ⟨kq, x25_4, rfl, HA, HJ4, BK1422, HB⟩ := hcut
      cases kq with
      | zero => exact absurd HA.out (by simp [Lw_LineBest.j0])
      | succ kj4 =>
        have H := HA.out
        clear HA
        simp only [Lw_LineBest.j0] at H
        by_cases c14 : x25_4 = true
        · subst c14
          rw [if_pos rfl] at H
          obtain rfl := Option.some.inj H
          go_wp2
          go_ret
          exact ez
        · replace c14 := Bool.eq_false_iff.mpr c14
          subst c14
          rw [if_neg (show ¬ (false = true) by decide)] at H
          replace H := ob H
          obtain ⟨⟨t1425, t1428, t1431, t1432⟩, A150, H⟩ := H
          (try dsimp only at H)
          have A15 := m0 A150
          clear A150
          replace H := ob H
          obtain ⟨t1433, A160, H⟩ := H
          (try dsimp only at H)
          have A16 := m0 A160
          clear A160
          replace H := ob H
          obtain ⟨⟨t1436, t1437, t1438, t1439, t1440⟩, A170, H⟩ := H
          (try dsimp only at H)
          have A17 := m0 A170
          clear A170
          replace H := ob H
          obtain ⟨t1442, A180, H⟩ := H
          (try dsimp only at H)
          have A18 := m0 A180
          clear A180
          have HC19 := m0 H
          clear H
          obtain ⟨hcz20_0, hcz20_1, hcz20_2, hcz20_3, hfz20_0, hfz20_1, hfz20_2, hfz20_3⟩ := b4 BK1422
          go_upto_if 38 with (first | ((with_reducible refine gate_callee (f := 21) rfl ?_); refine gl (some 28) Tryd.func21 #[.agg #[.slice A0_0 l0_0.length c0_0, .slice A0_1 l0_1.length c0_1, .int .i64 a0_2, .int .i64 a0_3]] ?_; (with_reducible refine (Rf_CopyCase.calls _ _ l0_0 _ _ l0_1 a0_2 a0_3 t1425 t1428 t1431 t1432 _ ?side1 ?side2 ?side3 ?side4 A15.out).mono ?_); (case side1 => exact cb HR0_0 HB); (case side2 => exact HC0_0.out); (case side3 => exact cb HR0_1 HB); (case side4 => exact HC0_1.out); rintro e w21 ⟨v1426, v1429, rfl, ho0, ho1, hb⟩; refine ⟨_, rfl, ?_⟩; have HO1427 := m0 (Kd.R_lower ho0 (below_size bz)); have HO1430 := m0 (Kd.R_lower ho1 (below_size bz)); replace BK1422 := bb BK1422 hb; replace HB := sb HB hb; (try clear hb); (try clear ho0); (try clear ho1)) | ((with_reducible refine gate_callee (f := 33) rfl ?_); refine gl (some 30) Tryd.func33 #[.slice A1 l1.length c1] ?_; (with_reducible refine (Bs_CopyInts.calls _ _ l1 t1433 _ ?side1 ?side2 A16.out).mono ?_); (case side1 => exact cb HR1 HB); (case side2 => exact HC1.out); rintro e w22 ⟨v1434, rfl, ho0, hb⟩; refine ⟨_, rfl, ?_⟩; have HO1435 := m0 (Kd.R_lower (Kd.R_new' (Kd.R_new' ho0 (Kd.R_lt (br HO1427.out))) (Kd.R_lt (br HO1430.out))) (below_size bz)); replace HO1427 := m0 (Kd.R_elder' (br HO1427.out) (Kd.R_base ho0) hb); replace HO1430 := m0 (Kd.R_elder' (br HO1430.out) (Kd.R_base ho0) hb); replace BK1422 := bb BK1422 hb; replace HB := sb HB hb; (try clear hb); (try clear ho0); obtain ⟨Ao23, co23, eo23⟩ := Kd.R_slice HO1427.out; subst eo23; obtain ⟨Ao24, co24, eo24⟩ := Kd.R_slice HO1430.out; subst eo24; obtain ⟨Ao25, co25, eo25⟩ := Kd.R_slice HO1435.out; subst eo25) | ((with_reducible refine gate_callee (f := 66) rfl ?_); refine gl (some 31) Tryd.func66 #[.agg #[.slice Ao23 t1425.length co23, .slice Ao24 t1428.length co24, .int .i64 t1431, .int .i64 t1432], .slice Ao25 t1433.length co25] ?_; (with_reducible refine (line_BestOf.calls kj4 _ _ t1425 _ _ t1428 t1431 t1432 _ _ t1433 t1436 t1437 t1438 t1439 t1440 _ ?side1 ?side2 ?side3 ?side4 ?side5 ?side6 ?side7 A17.out).mono ?_); (case side1 => exact bc (Kd.R_reads' HO1427.out).2.2); (case side2 => exact (Kd.R_reads' HO1427.out).2.1); (case side3 => exact bc (Kd.R_reads' HO1430.out).2.2); (case side4 => exact (Kd.R_reads' HO1430.out).2.1); (case side5 => exact bc (Kd.R_reads' HO1435.out).2.2); (case side6 => exact (Kd.R_reads' HO1435.out).2.1); (case side7 => exact EstG.below HG.out bz); rintro e w26 ⟨rfl, hb⟩; refine ⟨_, rfl, ?_⟩; replace HO1427 := rb HO1427 hb; replace HO1430 := rb HO1430 hb; replace HO1435 := rb HO1435 hb; replace BK1422 := bb BK1422 hb; replace HB := sb HB hb; (try clear hb)) | ((with_reducible refine gate_dst (N := 6) rfl ?_); (try (refine gate_guard (by rfl) ?_; dsimp only)); refine be 6 36 #[.int .i64 0, .int .i64 0, .int .i64 0] ?_; intro gb1441 hg w27 hbox hb; replace HO1427 := rb HO1427 hb; replace HO1430 := rb HO1430 hb; replace HO1435 := rb HO1435 hb; have BK1441 := m0 hbox; have GW1441 := m0 (bg (n := w.heap.size) hg); have GE1441 := m0 (bg (n := w.heap.size) hg); replace HB := sb HB hb; have NB1422_1441 := nl BK1422 hg; have NB1441_1422 := ng (nl BK1422 hg); replace BK1422 := bb BK1422 hb; clear hb hbox hg; have hnb28 := NB1441_1422.out; have hnc28 := NB1422_1441.out; obtain ⟨hcz29_0, hcz29_1, hcz29_2, hfz29_0, hfz29_1, hfz29_2⟩ := b3 BK1441; obtain ⟨hcz30_0, hcz30_1, hcz30_2, hcz30_3, hfz30_0, hfz30_1, hfz30_2, hfz30_3⟩ := b4 BK1422) | ((with_reducible refine gate_callee (f := 23) rfl ?_); refine gl (some 36) Tryd.func23 #[.agg #[.slice A0_0 l0_0.length c0_0, .slice A0_1 l0_1.length c0_1, .int .i64 a0_2, .int .i64 a0_3]] ?_; (with_reducible refine (Rf_CaseErr.calls kj4 _ _ l0_0 _ _ l0_1 a0_2 a0_3 t1442 _ ?side1 ?side2 ?side3 ?side4 A18.out).mono ?_); (case side1 => exact Kd.C_below HR0_0.out bz); (case side2 => exact HC0_0.out); (case side3 => exact Kd.C_below HR0_1.out bz); (case side4 => exact HC0_1.out); rintro e w31 ⟨rfl, hb⟩; refine ⟨_, rfl, ?_⟩; replace HO1427 := m0 (Kd.R_below (by (with_reducible repeat (first | apply Kd.R_alloc | apply Kd.R_drewN | apply Kd.R_drew)); exact (Kd.R_mono (Kd.R_far (p := ⟨gb1441, 2, none⟩) (Kd.R_far (p := ⟨gb1441, 1, none⟩) (Kd.R_far (p := ⟨gb1441, 0, none⟩) (Kd.R_types HO1427.out BK1441.out (by decide)) (fun _ hk => hk.2) (.int .i64 t1437)) (fun _ hk => hk.2) (.int .i64 t1438)) (fun _ hk => hk.2) (.int .i64 t1439)) (fun _ h_ => h_.1))) hb); replace HO1430 := m0 (Kd.R_below (by (with_reducible repeat (first | apply Kd.R_alloc | apply Kd.R_drewN | apply Kd.R_drew)); exact (Kd.R_mono (Kd.R_far (p := ⟨gb1441, 2, none⟩) (Kd.R_far (p := ⟨gb1441, 1, none⟩) (Kd.R_far (p := ⟨gb1441, 0, none⟩) (Kd.R_types HO1430.out BK1441.out (by decide)) (fun _ hk => hk.2) (.int .i64 t1437)) (fun _ hk => hk.2) (.int .i64 t1438)) (fun _ hk => hk.2) (.int .i64 t1439)) (fun _ h_ => h_.1))) hb); replace HO1435 := m0 (Kd.R_below (by (with_reducible repeat (first | apply Kd.R_alloc | apply Kd.R_drewN | apply Kd.R_drew)); exact (Kd.R_mono (Kd.R_far (p := ⟨gb1441, 2, none⟩) (Kd.R_far (p := ⟨gb1441, 1, none⟩) (Kd.R_far (p := ⟨gb1441, 0, none⟩) (Kd.R_types HO1435.out BK1441.out (by decide)) (fun _ hk => hk.2) (.int .i64 t1437)) (fun _ hk => hk.2) (.int .i64 t1438)) (fun _ hk => hk.2) (.int .i64 t1439)) (fun _ h_ => h_.1))) hb); replace BK1422 := m0 (blk_below (g := gb1422) (o := .cells #[.slice A0_0 l0_0.length c0_0, .slice A0_1 l0_1.length c0_1, .int .i64 a0_2, .int .i64 a0_3] 28 (0, 0)) (bq BK1422.out) hb); replace BK1441 := m0 (blk_below (g := gb1441) (o := .cells #[.int .i64 t1437, .int .i64 t1438, .int .i64 t1439] 36 (0, 0)) (bq BK1441.out) hb); replace HB := sb HB hb; (try clear hb)))
          (try simp only [Act.put, List.setIfInBounds_toArray, List.set_cons_zero, List.set_cons_succ])
          go_cut [8] (fun v8 wc => ∃ (kq : Nat) (x8_18 : Int), v8 = .int .i64 x8_18 ∧ Aside0 (Lw_LineBest.j1 kq l1 t1436 t1440 x8_18 l0_0 l0_1 a0_2 a0_3 t1437 t1438 t1439 = some r) ∧ Aside0 (kq ≤ kj4) ∧ Aside0 (wc.heap[gb1422]? = some (.cells #[(.slice A0_0 l0_0.length c0_0), (.slice A0_1 l0_1.length c0_1), .int .i64 a0_2, .int .i64 a0_3] 28 (0, 0))) ∧ Aside0 (wc.heap[gb1441]? = some (.cells #[.int .i64 t1437, .int .i64 t1438, .int .i64 t1439] 36 (0, 0))) ∧ Aside0 (Below w.heap.size w wc))
          case first =>
            have H := HC19.out
            clear HC19
            by_cases c32 : t1442 = 0
            · rw [if_pos c32] at H
              have c32b0 := beq_iff_eq.mpr c32
              have c32b1 := bne_eq_false_iff_eq.mpr c32
              clear c32
              (first | rw [c32b0] | (simp only [i64_w, i32_w]; rw [c32b0]) | skip)
              replace H := ob H
              obtain ⟨t1443, A330, H⟩ := H
              (try dsimp only at H)
              have A33 := m0 A330
              clear A330
              have H' := m0 H
              clear H
              go_wp2_with (first | ((with_reducible refine gate_callee (f := 67) rfl ?_); refine gl (some 40) Tryd.func67 #[.slice A1 l1.length c1] ?_; (with_reducible refine (Rf_KindsErr.calls kj4 _ _ l1 t1443 _ ?side1 ?side2 A33.out).mono ?_); (case side1 => exact cb HR1 HB); (case side2 => exact HC1.out); rintro e w' ⟨rfl, ⟨nd, rfl⟩⟩; refine ⟨_, rfl, ?_⟩))
              go_meet
              case rel => exact ⟨_, (t1443), (by first | rfl | (simp; done) | (simp [*]; done)), H', ⟨by have := HJ4.out; first | omega | exact Nat.le_refl _⟩, ⟨bk BK1422.out⟩, ⟨bk BK1441.out⟩, ⟨bz⟩⟩
            · rw [if_neg c32] at H
              have c32b0 := beq_eq_false_iff_ne.mpr c32
              have c32b1 := bne_iff_ne.mpr c32
              (first | rw [c32b0] | (simp only [i64_w, i32_w]; rw [c32b0]) | skip)
              have H' := m0 H
              clear H
              go_wp2
              go_meet
              case rel => exact ⟨_, (t1442), (by first | rfl | (simp; done) | (simp [*]; done)), H', ⟨by have := HJ4.out; first | omega | exact Nat.le_refl _⟩, ⟨bk BK1422.out⟩, ⟨bk BK1441.out⟩, ⟨bz⟩⟩
          case rest =>
            clear HC19
            try clear c1
            try clear c2
            try clear p2
            try clear c3
            try clear c4
            try clear c6
            try clear c9
            try clear c11
            try clear c14
            try clear c18
            try clear c19
            try clear c21
            try clear c23
            try clear c28
            try clear c32
            try clear c32b0
            try clear c32b1
            try clear c33
            try clear hcz10_0
            try clear hcz10_1
            try clear hcz10_2
            try clear hcz10_3
            try clear hcz12_0
            try clear hcz12_1
            try clear hcz12_2
            try clear hcz12_3
            try clear hcz20_0
            try clear hcz20_1
            try clear hcz20_2
            try clear hcz20_3
            try clear hcz29_0
            try clear hcz29_1
            try clear hcz29_2
            try clear hcz30_0
            try clear hcz30_1
            try clear hcz30_2
            try clear hcz30_3
            try clear hfz10_0
            try clear hfz10_1
            try clear hfz10_2
            try clear hfz10_3
            try clear hfz12_0
            try clear hfz12_1
            try clear hfz12_2
            try clear hfz12_3
            try clear hfz20_0
            try clear hfz20_1
            try clear hfz20_2
            try clear hfz20_3
            try clear hfz29_0
            try clear hfz29_1
            try clear hfz29_2
            try clear hfz30_0
            try clear hfz30_1
            try clear hfz30_2
            try clear hfz30_3
            try clear p2
            obtain ⟨kq, x8_18, rfl, HA, HJ18, BK1422, BK1441, HB⟩ := hcut
            cases kq with
            | zero => exact absurd HA.out (by simp [Lw_LineBest.j1])
            | succ kj18 =>
              have H := HA.out
              clear HA
              simp only [Lw_LineBest.j1] at H
              by_cases c34 : x8_18 = 0
              · rw [if_pos c34] at H
                have c34b0 := beq_iff_eq.mpr c34
                have c34b1 := bne_eq_false_iff_eq.mpr c34
                clear c34
                replace H := ob H
                obtain ⟨⟨t1444, t1445, t1446, t1447⟩, A350, H⟩ := H
                (try dsimp only at H)
                have A35 := m0 A350
                clear A350
                have HC36 := m0 H
                clear H
                have hnb37 := NB1422_1441.out
                have hnc37 := NB1441_1422.out
                obtain ⟨hcz38_0, hcz38_1, hcz38_2, hcz38_3, hfz38_0, hfz38_1, hfz38_2, hfz38_3⟩ := b4 BK1422
                go_upto_region 12 with (first | ((with_reducible refine gate_callee (f := 68) rfl ?_); refine gl (some 58) Tryd.func68 #[.agg #[.slice A0_0 l0_0.length c0_0, .slice A0_1 l0_1.length c0_1, .int .i64 a0_2, .int .i64 a0_3], .slice A1 l1.length c1] ?_; (with_reducible refine (Rf_Best.calls kj18 _ _ l0_0 _ _ l0_1 a0_2 a0_3 _ _ l1 t1444 t1445 t1446 t1447 _ ?side1 ?side2 ?side3 ?side4 ?side5 ?side6 A35.out).mono ?_); (case side1 => exact cb HR0_0 HB); (case side2 => exact HC0_0.out); (case side3 => exact cb HR0_1 HB); (case side4 => exact HC0_1.out); (case side5 => exact cb HR1 HB); (case side6 => exact HC1.out); rintro e w39 ⟨rfl, hb⟩; refine ⟨_, rfl, ?_⟩; replace BK1422 := bb BK1422 hb; replace BK1441 := bb BK1441 hb; replace HB := sb HB hb; (try clear hb)) | ((with_reducible refine gate_dst (N := 10) rfl ?_); (try (refine gate_guard (by rfl) ?_; dsimp only)); refine be 10 36 #[.int .i64 0, .int .i64 0, .int .i64 0] ?_; intro gb1448 hg w40 hbox hb; have BK1448 := m0 hbox; have GW1448 := m0 (bg (n := w.heap.size) hg); have GE1448 := m0 (bg (n := w.heap.size) hg); replace HB := sb HB hb; have NB1422_1448 := nl BK1422 hg; have NB1448_1422 := ng (nl BK1422 hg); replace BK1422 := bb BK1422 hb; have NB1441_1448 := nl BK1441 hg; have NB1448_1441 := ng (nl BK1441 hg); replace BK1441 := bb BK1441 hb; clear hb hbox hg; have hnb41 := NB1448_1422.out; have hnc41 := NB1422_1448.out; have hnb42 := NB1448_1441.out; have hnc42 := NB1441_1448.out; obtain ⟨hcz43_0, hcz43_1, hcz43_2, hfz43_0, hfz43_1, hfz43_2⟩ := b3 BK1448))
                (try simp only [Act.put, List.setIfInBounds_toArray, List.set_cons_zero, List.set_cons_succ])
                go_cut [72] (fun v72 wc => ∃ (kq : Nat) (x72_35 : Bool), v72 = .bool x72_35 ∧ Aside0 (Lw_LineBest.j2 kq l1 t1436 x72_35 l0_0 l0_1 a0_2 a0_3 t1437 t1438 t1439 = some r) ∧ Aside0 (kq ≤ kj18) ∧ Aside0 (wc.heap[gb1422]? = some (.cells #[(.slice A0_0 l0_0.length c0_0), (.slice A0_1 l0_1.length c0_1), .int .i64 a0_2, .int .i64 a0_3] 28 (0, 0))) ∧ Aside0 (wc.heap[gb1441]? = some (.cells #[.int .i64 t1437, .int .i64 t1438, .int .i64 t1439] 36 (0, 0))) ∧ Aside0 (wc.heap[gb1448]? = some (.cells #[.int .i64 t1445, .int .i64 t1446, .int .i64 t1447] 36 (0, 0))) ∧ Aside0 (Below w.heap.size w wc))
                case first =>
                  have H := HC36.out
                  clear HC36
                  by_cases c44 : t1440 = 0
                  · rw [if_pos c44] at H
                    have c44b0 := beq_iff_eq.mpr c44
                    have c44b1 := bne_eq_false_iff_eq.mpr c44
                    clear c44
                    (first | rw [c44b0] | (simp only [i64_w, i32_w]; rw [c44b0]) | skip)
                    by_cases c45 : t1436 = t1444
                    · rw [if_pos c45] at H
                      have c45b0 := beq_iff_eq.mpr c45
                      have c45b1 := bne_eq_false_iff_eq.mpr c45
                      clear c45
                      have H' := m0 H
                      clear H
                      have hnb46 := NB1441_1422.out
                      have hnc46 := NB1422_1441.out
                      have hnb47 := NB1441_1448.out
                      have hnc47 := NB1448_1441.out
                      obtain ⟨hcz48_0, hcz48_1, hcz48_2, hfz48_0, hfz48_1, hfz48_2⟩ := b3 BK1441
                      have hnb49 := NB1448_1422.out
                      have hnc49 := NB1422_1448.out
                      obtain ⟨hcz50_0, hcz50_1, hcz50_2, hfz50_0, hfz50_1, hfz50_2⟩ := b3 BK1448
                      go_wp2
                      go_meet
                      case rel => exact ⟨_, (((!(t1437 == t1445) || (!(t1438 == t1446))) || (!(t1439 == t1447)))), (by first | rfl | (simp; done) | (simp [*]; done)), H', ⟨by have := HJ4.out; have := HJ18.out; first | omega | exact Nat.le_refl _⟩, ⟨bq BK1422.out⟩, ⟨bq BK1441.out⟩, ⟨bq BK1448.out⟩, ⟨bz⟩⟩
                    · rw [if_neg c45] at H
                      have c45b0 := beq_eq_false_iff_ne.mpr c45
                      have c45b1 := bne_iff_ne.mpr c45
                      have H' := m0 H
                      clear H
                      go_wp2
                      go_meet
                      case rel => exact ⟨_, (true), (by first | rfl | (simp; done) | (simp [*]; done)), H', ⟨by have := HJ4.out; have := HJ18.out; first | omega | exact Nat.le_refl _⟩, ⟨bq BK1422.out⟩, ⟨bq BK1441.out⟩, ⟨bq BK1448.out⟩, ⟨bz⟩⟩
                  · rw [if_neg c44] at H
                    have c44b0 := beq_eq_false_iff_ne.mpr c44
                    have c44b1 := bne_iff_ne.mpr c44
                    (first | rw [c44b0] | (simp only [i64_w, i32_w]; rw [c44b0]) | skip)
                    have H' := m0 H
                    clear H
                    go_wp2
                    go_meet
                    case rel => exact ⟨_, (true), (by first | rfl | (simp; done) | (simp [*]; done)), H', ⟨by have := HJ4.out; have := HJ18.out; first | omega | exact Nat.le_refl _⟩, ⟨bq BK1422.out⟩, ⟨bq BK1441.out⟩, ⟨bq BK1448.out⟩, ⟨bz⟩⟩
                case rest =>
                  clear HC36
                  try clear c1
                  try clear c2
                  try clear p2
                  try clear c3
                  try clear c4
                  try clear c6
                  try clear c9
                  try clear c11
                  try clear c14
                  try clear c18
                  try clear c19
                  try clear c21
                  try clear c23
                  try clear c28
                  try clear c32
                  try clear c32b0
                  try clear c32b1
                  try clear c33
                  try clear c34
                  try clear c34b0
                  try clear c34b1
                  try clear c37
                  try clear c41
                  try clear c42
                  try clear c44
                  try clear c44b0
                  try clear c44b1
                  try clear c45
                  try clear c45b0
                  try clear c45b1
                  try clear c46
                  try clear c47
                  try clear c49
                  try clear hcz10_0
                  try clear hcz10_1
                  try clear hcz10_2
                  try clear hcz10_3
                  try clear hcz12_0
                  try clear hcz12_1
                  try clear hcz12_2
                  try clear hcz12_3
                  try clear hcz20_0
                  try clear hcz20_1
                  try clear hcz20_2
                  try clear hcz20_3
                  try clear hcz29_0
                  try clear hcz29_1
                  try clear hcz29_2
                  try clear hcz30_0
                  try clear hcz30_1
                  try clear hcz30_2
                  try clear hcz30_3
                  try clear hcz38_0
                  try clear hcz38_1
                  try clear hcz38_2
                  try clear hcz38_3
                  try clear hcz43_0
                  try clear hcz43_1
                  try clear hcz43_2
                  try clear hcz48_0
                  try clear hcz48_1
                  try clear hcz48_2
                  try clear hcz50_0
                  try clear hcz50_1
                  try clear hcz50_2
                  try clear hfz10_0
                  try clear hfz10_1
                  try clear hfz10_2
                  try clear hfz10_3
                  try clear hfz12_0
                  try clear hfz12_1
                  try clear hfz12_2
                  try clear hfz12_3
                  try clear hfz20_0
                  try clear hfz20_1
                  try clear hfz20_2
                  try clear hfz20_3
                  try clear hfz29_0
                  try clear hfz29_1
                  try clear hfz29_2
                  try clear hfz30_0
                  try clear hfz30_1
                  try clear hfz30_2
                  try clear hfz30_3
                  try clear hfz38_0
                  try clear hfz38_1
                  try clear hfz38_2
                  try clear hfz38_3
                  try clear hfz43_0
                  try clear hfz43_1
                  try clear hfz43_2
                  try clear hfz48_0
                  try clear hfz48_1
                  try clear hfz48_2
                  try clear hfz50_0
                  try clear hfz50_1
                  try clear hfz50_2
                  try clear p2
                  obtain ⟨kq, x72_35, rfl, HA, HJ35, BK1422, BK1441, BK1448, HB⟩ := hcut
                  cases kq with
                  | zero => exact absurd HA.out (by simp [Lw_LineBest.j2])
                  | succ kj35 =>
                    have H := HA.out
                    clear HA
                    simp only [Lw_LineBest.j2] at H
                    by_cases c51 : x72_35 = true
                    · subst c51
                      rw [if_pos rfl] at H
                      exact absurd H (by simp)
                    · replace c51 := Bool.eq_false_iff.mpr c51
                      subst c51
                      rw [if_neg (show ¬ (false = true) by decide)] at H
                      have H' := m0 H
                      clear H
                      go_wp2
                      go_loopg [11, 12] kj35 (fun kq v11 v12 w' => ∃ (x11_4 : Bool) (x12_4 : Int), v11 = .bool x11_4 ∧ v12 = .int .i64 x12_4 ∧ Aside0 (Lw_LineBest.l0 kq l1 t1436 x11_4 x12_4 l0_0 l0_1 a0_2 a0_3 t1437 t1438 t1439 = some r) ∧ Aside0 (kq ≤ kj35) ∧ Aside0 (w'.heap[gb1422]? = some (.cells #[(.slice A0_0 l0_0.length c0_0), (.slice A0_1 l0_1.length c0_1), .int .i64 a0_2, .int .i64 a0_3] 28 (0, 0))) ∧ Aside0 (w'.heap[gb1441]? = some (.cells #[.int .i64 t1437, .int .i64 t1438, .int .i64 t1439] 36 (0, 0))) ∧ Aside0 (w'.heap[gb1448]? = some (.cells #[.int .i64 t1445, .int .i64 t1446, .int .i64 t1447] 36 (0, 0))) ∧ Aside0 (Below w.heap.size w w'))
                      case atStart => exact ⟨(false), (0), (by first | rfl | (simp; done) | (simp [*]; done)), (by first | rfl | (simp; done) | (simp [*]; done)), H', ⟨Nat.le_refl _⟩, ⟨bk BK1422.out⟩, ⟨bk BK1441.out⟩, ⟨bk BK1448.out⟩, ⟨bz⟩⟩
                      case round =>
                        clear H'
                        try clear c1
                        try clear c2
                        try clear p2
                        try clear c3
                        try clear c4
                        try clear c5
                        try clear c6
                        try clear c9
                        try clear c11
                        try clear c14
                        try clear c18
                        try clear c19
                        try clear c21
                        try clear c23
                        try clear c28
                        try clear c32
                        try clear c32b0
                        try clear c32b1
                        try clear c33
                        try clear c34
                        try clear c34b0
                        try clear c34b1
                        try clear c37
                        try clear c41
                        try clear c42
                        try clear c44
                        try clear c44b0
                        try clear c44b1
                        try clear c45
                        try clear c45b0
                        try clear c45b1
                        try clear c46
                        try clear c47
                        try clear c49
                        try clear c51
                        try clear hcz10_0
                        try clear hcz10_1
                        try clear hcz10_2
                        try clear hcz10_3
                        try clear hcz12_0
                        try clear hcz12_1
                        try clear hcz12_2
                        try clear hcz12_3
                        try clear hcz20_0
                        try clear hcz20_1
                        try clear hcz20_2
                        try clear hcz20_3
                        try clear hcz29_0
                        try clear hcz29_1
                        try clear hcz29_2
                        try clear hcz30_0
                        try clear hcz30_1
                        try clear hcz30_2
                        try clear hcz30_3
                        try clear hcz38_0
                        try clear hcz38_1
                        try clear hcz38_2
                        try clear hcz38_3
                        try clear hcz43_0
                        try clear hcz43_1
                        try clear hcz43_2
                        try clear hcz48_0
                        try clear hcz48_1
                        try clear hcz48_2
                        try clear hcz50_0
                        try clear hcz50_1
                        try clear hcz50_2
                        try clear hfz10_0
                        try clear hfz10_1
                        try clear hfz10_2
                        try clear hfz10_3
                        try clear hfz12_0
                        try clear hfz12_1
                        try clear hfz12_2
                        try clear hfz12_3
                        try clear hfz20_0
                        try clear hfz20_1
                        try clear hfz20_2
                        try clear hfz20_3
                        try clear hfz29_0
                        try clear hfz29_1
                        try clear hfz29_2
                        try clear hfz30_0
                        try clear hfz30_1
                        try clear hfz30_2
                        try clear hfz30_3
                        try clear hfz38_0
                        try clear hfz38_1
                        try clear hfz38_2
                        try clear hfz38_3
                        try clear hfz43_0
                        try clear hfz43_1
                        try clear hfz43_2
                        try clear hfz48_0
                        try clear hfz48_1
                        try clear hfz48_2
                        try clear hfz50_0
                        try clear hfz50_1
                        try clear hfz50_2
                        try clear p2
                        obtain ⟨x11_4, x12_4, rfl, rfl, HA, HK4, BK1422, BK1441, BK1448, HB⟩ := hrel
                        cases gk with
                        | zero => exact absurd HA.out (by simp [Lw_LineBest.l0])
                        | succ k4 =>
                          have H := HA.out
                          clear HA
                          simp only [Lw_LineBest.l0] at H
                          by_cases c52 : x12_4 < (l1.length : Int)
                          · rw [if_pos c52] at H
                            have c52b0 := decide_eq_true c52
                            clear c52
                            replace H := ob H
                            obtain ⟨⟨t1449, t1452, t1455, t1456⟩, A530, H⟩ := H
                            (try dsimp only at H)
                            have A53 := m0 A530
                            clear A530
                            by_cases c54 : 0 ≤ x12_4
                            · rw [if_pos c54] at H
                              have c54b0 := decide_eq_true c54
                              clear c54
                              replace H := ob H
                              obtain ⟨⟨t1458, t1459, t1460, t1461⟩, A550, H⟩ := H
                              (try dsimp only at H)
                              have A55 := m0 A550
                              clear A550
                              have HC56 := m0 H
                              clear H
                              try go_wp2
                              replace BK1422 := bd BK1422; replace BK1441 := bd BK1441; replace BK1448 := bd BK1448; replace HB := sd HB
                              have p1457 : 0 ≤ (x12_4 : Int) := of_decide_eq_true (by first | (with_reducible assumption) | assumption)
                              have q1457 : x12_4 < (l1.length : Int) := of_decide_eq_true (by first | (with_reducible assumption) | assumption)
                              obtain ⟨ad1457, e1457, hx1457_0⟩ := Kd.at_int HR1.out x12_4 p1457 q1457
                              have hw1457_0 := hx1457_0
                              cases e1457
                              replace hx1457_0 := (HB.out.cell (World.block_lt_of_cell? w _ hx1457_0)).trans hx1457_0
                              replace p1457 := eq_true p1457
                              replace q1457 := eq_true q1457
                              refine start_ (n := 13) (S := fun w' => w'.cell? ⟨gb1422, 0, none⟩ = some (.slice A0_0 l0_0.length c0_0) ∧ w'.cell? ⟨gb1422, 1, none⟩ = some (.slice A0_1 l0_1.length c0_1) ∧ w'.cell? ⟨gb1422, 2, none⟩ = some (.int .i64 a0_2) ∧ w'.cell? ⟨gb1422, 3, none⟩ = some (.int .i64 a0_3) ∧ w'.cell? (ad1457.add (x12_4).toNat) = some (.int .i64 (rd l1 x12_4))) (ds := []) #[false, false, false, false, false, false, false, false, false, false, false, false, false] (by kernel_rfl) rfl rfl ⟨(blk_cell BK1422.out 0).trans rfl, (blk_cell BK1422.out 1).trans rfl, (blk_cell BK1422.out 2).trans rfl, (blk_cell BK1422.out 3).trans rfl, ((HB.out.cell (World.block_lt_of_cell? w _ hw1457_0)).trans hw1457_0)⟩ (fun hHeld => ?_); refine with_tabW Lw_LineBest.tab18 Lw_LineBest.bits18 (fun HT_ HW_ => ?_)
                              generalize wr.drew = w57 at BK1422 BK1441 BK1448 HB hx1457_0 hHeld ⊢
                              refine pureZ (i := 2) (N := some 82) (bs 13 4) HT_ ?_
                              refine pureZ (i := 3) (N := some 83) (bs 13 12) HT_ ?_
                              refine pureZ (i := 4) (N := some 84) (bs 13 28) HT_ ?_
                              refine takeZ 0 (some 80) (bs 13 29) (take_ofW HT_.out HW_.out (by kernel_rfl)) hHeld ?_
                              refine takeZ 5 (some 85) (bs 13 61) (take_ofW HT_.out HW_.out (by kernel_rfl)) hHeld ?_
                              refine join_ (σ := Value × Value × Nat) 2 (bs 13 2047) (fun s_ => [(81, .agg #[s_.1, s_.2.1, .int .i64 t1455, .int .i64 t1456]), (86, .tuple #[.agg #[.int .i64 t1458, .int .i64 t1459, .int .i64 t1460], .int .i64 t1461]), (13, .pointer (some ⟨s_.2.2, 0, none⟩)), (79, .tuple #[.agg #[.int .i64 t1458, .int .i64 t1459, .int .i64 t1460], .int .i64 t1461]), (87, .agg #[.int .i64 t1458, .int .i64 t1459, .int .i64 t1460]), (88, .int .i64 t1461)]) (fun s_ w' => (w'.cell? ⟨gb1422, 0, none⟩ = some (.slice A0_0 l0_0.length c0_0) ∧ w'.cell? ⟨gb1422, 1, none⟩ = some (.slice A0_1 l0_1.length c0_1) ∧ w'.cell? ⟨gb1422, 2, none⟩ = some (.int .i64 a0_2) ∧ w'.cell? ⟨gb1422, 3, none⟩ = some (.int .i64 a0_3) ∧ w'.cell? (ad1457.add (x12_4).toNat) = some (.int .i64 (rd l1 x12_4))) ∧ (Kd.R (Kd.int .i64) 3 w' w.heap.size (fun k_ => some k_ ≠ (s_.2.1 : Value).ownBlock) s_.1 t1449) ∧ (Kd.R (Kd.int .i64) 3 w' w.heap.size (fun k_ => some k_ ≠ (s_.1 : Value).ownBlock) s_.2.1 t1452) ∧ (w'.heap[gb1422]? = some (.cells #[.slice A0_0 l0_0.length c0_0, .slice A0_1 l0_1.length c0_1, .int .i64 a0_2, .int .i64 a0_3] 28 (0, 0))) ∧ (w'.heap[gb1441]? = some (.cells #[.int .i64 t1437, .int .i64 t1438, .int .i64 t1439] 36 (0, 0))) ∧ (w'.heap[gb1448]? = some (.cells #[.int .i64 t1445, .int .i64 t1446, .int .i64 t1447] 36 (0, 0))) ∧ (w'.heap[s_.2.2]? = some (.cells #[.int .i64 0, .int .i64 0, .int .i64 0] 36 (0, 0))) ∧ (w.heap.size ≤ s_.2.2) ∧ (w.heap.size ≤ s_.2.2) ∧ (gb1422 ≠ s_.2.2) ∧ (s_.2.2 ≠ gb1422) ∧ (gb1441 ≠ s_.2.2) ∧ (s_.2.2 ≠ gb1441) ∧ (gb1448 ≠ s_.2.2) ∧ (s_.2.2 ≠ gb1448) ∧ (Below w.heap.size w w')) ?_ ?_
                              rotate_left
                              · intro hCont
                                refine two_ (i := 1) (j := 10) (Ni := some 81) (Nj := some 13) (bs 13 63) (bs 13 1085) rfl rfl rfl rfl (two_of HT_.out (by kernel_rfl)) (by decide) (by decide) (fun K hK => ?_) (fun K hK => ?_)
                                · skip
                                  refine goes_ Tryd.func21 (by kernel_rfl) rfl #[.agg #[.slice A0_0 l0_0.length c0_0, .slice A0_1 l0_1.length c0_1, .int .i64 a0_2, .int .i64 a0_3]] (by rfl) rfl rfl mz ?_
                                  with_reducible refine (Rf_CopyCase.calls _ _ l0_0 _ _ l0_1 a0_2 a0_3 t1449 t1452 t1455 t1456 _ ?side1 ?side2 ?side3 ?side4 A53.out).mono ?_
                                  (case side1 => exact cb HR0_0 HB)
                                  (case side2 => exact HC0_0.out)
                                  (case side3 => exact cb HR0_1 HB)
                                  (case side4 => exact HC0_1.out)
                                  rintro e w58 ⟨v1450, v1453, rfl, ho0, ho1, hb⟩
                                  refine ⟨_, rfl, ?_⟩
                                  have HO1451 := m0 (Kd.R_lower ho0 (below_size bz)); have HO1454 := m0 (Kd.R_lower ho1 (below_size bz)); replace BK1422 := bb BK1422 hb; replace BK1441 := bb BK1441 hb; replace BK1448 := bb BK1448 hb; replace HB := sb HB hb
                                  (try clear hb)
                                  (try clear ho0)
                                  (try clear ho1)
                                  obtain ⟨Ao59, co59, eo59⟩ := Kd.R_slice HO1451.out
                                  (first | subst eo59 | (injection eo59 with f1_ f2_ f3_; have f4_ := f1_.symm; have f5_ := f3_.symm; clear f1_ f2_ f3_; subst f4_; subst f5_))
                                  obtain ⟨Ao60, co60, eo60⟩ := Kd.R_slice HO1454.out
                                  (first | subst eo60 | (injection eo60 with f1_ f2_ f3_; have f4_ := f1_.symm; have f5_ := f3_.symm; clear f1_ f2_ f3_; subst f4_; subst f5_))
                                  refine hK.out _ _ ⟨(blk_cell BK1422.out 0).trans rfl, (blk_cell BK1422.out 1).trans rfl, (blk_cell BK1422.out 2).trans rfl, (blk_cell BK1422.out 3).trans rfl, ((HB.out.cell (World.block_lt_of_cell? w _ hw1457_0)).trans hw1457_0)⟩ (fun hHeld => ?_)
                                  clear hK K
                                  refine norm_ (a' := ?_) ?_ ?_
                                  rotate_left
                                  · show Act.put _ (some 81) _ = _
                                    exact pz
                                  refine two_ (i := 6) (j := 10) (Ni := some 86) (Nj := some 13) (bs 13 127) (bs 13 1087) rfl rfl rfl rfl (two_of HT_.out (by kernel_rfl)) (by decide) (by decide) (fun K hK => ?_) (fun K hK => ?_)
                                  · skip
                                    refine goes_ Tryd.func22 (by kernel_rfl) rfl #[.agg #[.slice Ao59 t1449.length co59, .slice Ao60 t1452.length co60, .int .i64 t1455, .int .i64 t1456], .int .i64 (rd l1 x12_4)] (by rfl) rfl rfl mz ?_
                                    with_reducible refine (line_WorstOf.calls k4 _ _ t1449 _ _ t1452 t1455 t1456 (rd l1 x12_4) t1458 t1459 t1460 t1461 _ ?side1 ?side2 ?side3 ?side4 ?side5 A55.out).mono ?_
                                    (case side1 => exact bc (Kd.R_reads' HO1451.out).2.2)
                                    (case side2 => exact (Kd.R_reads' HO1451.out).2.1)
                                    (case side3 => exact bc (Kd.R_reads' HO1454.out).2.2)
                                    (case side4 => exact (Kd.R_reads' HO1454.out).2.1)
                                    (case side5 => exact EstG.below HG.out bz)
                                    rintro e w61 ⟨rfl, hb⟩
                                    refine ⟨_, rfl, ?_⟩
                                    replace HO1451 := rb HO1451 hb; replace HO1454 := rb HO1454 hb; replace BK1422 := bb BK1422 hb; replace BK1441 := bb BK1441 hb; replace BK1448 := bb BK1448 hb; replace HB := sb HB hb
                                    (try clear hb)
                                    refine hK.out _ _ ⟨(blk_cell BK1422.out 0).trans rfl, (blk_cell BK1422.out 1).trans rfl, (blk_cell BK1422.out 2).trans rfl, (blk_cell BK1422.out 3).trans rfl, ((HB.out.cell (World.block_lt_of_cell? w _ hw1457_0)).trans hw1457_0)⟩ (fun hHeld => ?_)
                                    clear hK K
                                    refine norm_ (a' := ?_) ?_ ?_
                                    rotate_left
                                    · show Act.put _ (some 86) _ = _
                                      exact pz
                                    refine pureZ (i := 7) (N := some 79) (bs 13 255) HT_ ?_
                                    refine pureZ (i := 8) (N := some 87) (bs 13 511) HT_ ?_
                                    refine pureZ (i := 9) (N := some 88) (bs 13 1023) HT_ ?_
                                    refine oneZ 10 (some 13) (bs 13 2047) (one_of HT_.out (by kernel_rfl)) fun K hK => ?_
                                    refine box_step ?hg (N := 13) ?hd (cs := #[.int .i64 0, .int .i64 0, .int .i64 0]) (t := 36) ?hr ?_; (case hd => rfl); (case hg => rfl); (case hr => first | (go_simp; done) | (go_simp; rfl))
                                    intro gb1462 hg w62 hbox hb
                                    replace HO1451 := rb HO1451 hb; replace HO1454 := rb HO1454 hb; have BK1462 := m0 hbox; have GW1462 := m0 (bg (n := w.heap.size) hg); have GE1462 := m0 (bg (n := w.heap.size) hg); replace HB := sb HB hb; have NB1422_1462 := nl BK1422 hg; have NB1462_1422 := ng (nl BK1422 hg); replace BK1422 := bb BK1422 hb; have NB1441_1462 := nl BK1441 hg; have NB1462_1441 := ng (nl BK1441 hg); replace BK1441 := bb BK1441 hb; have NB1448_1462 := nl BK1448 hg; have NB1462_1448 := ng (nl BK1448 hg); replace BK1448 := bb BK1448 hb
                                    clear hb hbox hg
                                    refine hK.out _ _ ⟨(blk_cell BK1422.out 0).trans rfl, (blk_cell BK1422.out 1).trans rfl, (blk_cell BK1422.out 2).trans rfl, (blk_cell BK1422.out 3).trans rfl, ((HB.out.cell (World.block_lt_of_cell? w _ hw1457_0)).trans hw1457_0)⟩ (fun hHeld => ?_)
                                    clear hK K
                                    refine norm_ (a' := ?_) ?_ ?_
                                    rotate_left
                                    · show Act.put _ (some 13) _ = _
                                      exact pz
                                    exact norm_ (by simp only [putAll, Act.put, List.setIfInBounds_toArray, List.set_cons_zero, List.set_cons_succ]) (hCont (.slice Ao59 t1449.length co59, .slice Ao60 t1452.length co60, gb1462) _ ⟨hHeld, (br HO1451.out), (br HO1454.out), (bk BK1422.out), (bk BK1441.out), (bk BK1448.out), (bk BK1462.out), GW1462.out, GE1462.out, NB1422_1462.out, NB1462_1422.out, NB1441_1462.out, NB1462_1441.out, NB1448_1462.out, NB1462_1448.out, bz⟩)
                                  · skip
                                    refine box_step ?hg (N := 13) ?hd (cs := #[.int .i64 0, .int .i64 0, .int .i64 0]) (t := 36) ?hr ?_; (case hd => rfl); (case hg => rfl); (case hr => first | (go_simp; done) | (go_simp; rfl))
                                    intro gb1462 hg w59 hbox hb
                                    replace HO1451 := rb HO1451 hb; replace HO1454 := rb HO1454 hb; have BK1462 := m0 hbox; have GW1462 := m0 (bg (n := w.heap.size) hg); have GE1462 := m0 (bg (n := w.heap.size) hg); replace HB := sb HB hb; have NB1422_1462 := nl BK1422 hg; have NB1462_1422 := ng (nl BK1422 hg); replace BK1422 := bb BK1422 hb; have NB1441_1462 := nl BK1441 hg; have NB1462_1441 := ng (nl BK1441 hg); replace BK1441 := bb BK1441 hb; have NB1448_1462 := nl BK1448 hg; have NB1462_1448 := ng (nl BK1448 hg); replace BK1448 := bb BK1448 hb
                                    clear hb hbox hg
                                    obtain ⟨Ao60, co60, eo60⟩ := Kd.R_slice HO1451.out
                                    (first | subst eo60 | (injection eo60 with f1_ f2_ f3_; have f4_ := f1_.symm; have f5_ := f3_.symm; clear f1_ f2_ f3_; subst f4_; subst f5_))
                                    obtain ⟨Ao61, co61, eo61⟩ := Kd.R_slice HO1454.out
                                    (first | subst eo61 | (injection eo61 with f1_ f2_ f3_; have f4_ := f1_.symm; have f5_ := f3_.symm; clear f1_ f2_ f3_; subst f4_; subst f5_))
                                    refine hK.out _ _ ⟨(blk_cell BK1422.out 0).trans rfl, (blk_cell BK1422.out 1).trans rfl, (blk_cell BK1422.out 2).trans rfl, (blk_cell BK1422.out 3).trans rfl, ((HB.out.cell (World.block_lt_of_cell? w _ hw1457_0)).trans hw1457_0)⟩ (fun hHeld => ?_)
                                    clear hK K
                                    refine norm_ (a' := ?_) ?_ ?_
                                    rotate_left
                                    · show Act.put _ (some 13) _ = _
                                      exact pz
                                    refine oneZ 6 (some 86) (bs 13 1151) (one_of HT_.out (by kernel_rfl)) fun K hK => ?_
                                    refine goes_ Tryd.func22 (by kernel_rfl) rfl #[.agg #[.slice Ao60 t1449.length co60, .slice Ao61 t1452.length co61, .int .i64 t1455, .int .i64 t1456], .int .i64 (rd l1 x12_4)] (by rfl) rfl rfl mz ?_
                                    with_reducible refine (line_WorstOf.calls k4 _ _ t1449 _ _ t1452 t1455 t1456 (rd l1 x12_4) t1458 t1459 t1460 t1461 _ ?side1 ?side2 ?side3 ?side4 ?side5 A55.out).mono ?_
                                    (case side1 => exact bc (Kd.R_reads' HO1451.out).2.2)
                                    (case side2 => exact (Kd.R_reads' HO1451.out).2.1)
                                    (case side3 => exact bc (Kd.R_reads' HO1454.out).2.2)
                                    (case side4 => exact (Kd.R_reads' HO1454.out).2.1)
                                    (case side5 => exact EstG.below HG.out bz)
                                    rintro e w62 ⟨rfl, hb⟩
                                    refine ⟨_, rfl, ?_⟩
                                    replace HO1451 := rb HO1451 hb; replace HO1454 := rb HO1454 hb; replace BK1422 := bb BK1422 hb; replace BK1441 := bb BK1441 hb; replace BK1448 := bb BK1448 hb; replace BK1462 := bb BK1462 hb; replace HB := sb HB hb
                                    (try clear hb)
                                    refine hK.out _ _ ⟨(blk_cell BK1422.out 0).trans rfl, (blk_cell BK1422.out 1).trans rfl, (blk_cell BK1422.out 2).trans rfl, (blk_cell BK1422.out 3).trans rfl, ((HB.out.cell (World.block_lt_of_cell? w _ hw1457_0)).trans hw1457_0)⟩ (fun hHeld => ?_)
                                    clear hK K
                                    refine norm_ (a' := ?_) ?_ ?_
                                    rotate_left
                                    · show Act.put _ (some 86) _ = _
                                      exact pz
                                    refine pureZ (i := 7) (N := some 79) (bs 13 1279) HT_ ?_
                                    refine pureZ (i := 8) (N := some 87) (bs 13 1535) HT_ ?_
                                    refine pureZ (i := 9) (N := some 88) (bs 13 2047) HT_ ?_
                                    exact norm_ (by simp only [putAll, Act.put, List.setIfInBounds_toArray, List.set_cons_zero, List.set_cons_succ]) (hCont (.slice Ao60 t1449.length co60, .slice Ao61 t1452.length co61, gb1462) _ ⟨hHeld, (br HO1451.out), (br HO1454.out), (bk BK1422.out), (bk BK1441.out), (bk BK1448.out), (bk BK1462.out), GW1462.out, GE1462.out, NB1422_1462.out, NB1462_1422.out, NB1441_1462.out, NB1462_1441.out, NB1448_1462.out, NB1462_1448.out, bz⟩)
                                · skip
                                  refine box_step ?hg (N := 13) ?hd (cs := #[.int .i64 0, .int .i64 0, .int .i64 0]) (t := 36) ?hr ?_; (case hd => rfl); (case hg => rfl); (case hr => first | (go_simp; done) | (go_simp; rfl))
                                  intro gb1462 hg w58 hbox hb
                                  have BK1462 := m0 hbox; have GW1462 := m0 (bg (n := w.heap.size) hg); have GE1462 := m0 (bg (n := w.heap.size) hg); replace HB := sb HB hb; have NB1422_1462 := nl BK1422 hg; have NB1462_1422 := ng (nl BK1422 hg); replace BK1422 := bb BK1422 hb; have NB1441_1462 := nl BK1441 hg; have NB1462_1441 := ng (nl BK1441 hg); replace BK1441 := bb BK1441 hb; have NB1448_1462 := nl BK1448 hg; have NB1462_1448 := ng (nl BK1448 hg); replace BK1448 := bb BK1448 hb
                                  clear hb hbox hg
                                  refine hK.out _ _ ⟨(blk_cell BK1422.out 0).trans rfl, (blk_cell BK1422.out 1).trans rfl, (blk_cell BK1422.out 2).trans rfl, (blk_cell BK1422.out 3).trans rfl, ((HB.out.cell (World.block_lt_of_cell? w _ hw1457_0)).trans hw1457_0)⟩ (fun hHeld => ?_)
                                  clear hK K
                                  refine norm_ (a' := ?_) ?_ ?_
                                  rotate_left
                                  · show Act.put _ (some 13) _ = _
                                    exact pz
                                  refine oneZ 1 (some 81) (bs 13 1087) (one_of HT_.out (by kernel_rfl)) fun K hK => ?_
                                  refine goes_ Tryd.func21 (by kernel_rfl) rfl #[.agg #[.slice A0_0 l0_0.length c0_0, .slice A0_1 l0_1.length c0_1, .int .i64 a0_2, .int .i64 a0_3]] (by rfl) rfl rfl mz ?_
                                  with_reducible refine (Rf_CopyCase.calls _ _ l0_0 _ _ l0_1 a0_2 a0_3 t1449 t1452 t1455 t1456 _ ?side1 ?side2 ?side3 ?side4 A53.out).mono ?_
                                  (case side1 => exact cb HR0_0 HB)
                                  (case side2 => exact HC0_0.out)
                                  (case side3 => exact cb HR0_1 HB)
                                  (case side4 => exact HC0_1.out)
                                  rintro e w59 ⟨v1450, v1453, rfl, ho0, ho1, hb⟩
                                  refine ⟨_, rfl, ?_⟩
                                  have HO1451 := m0 (Kd.R_lower ho0 (below_size bz)); have HO1454 := m0 (Kd.R_lower ho1 (below_size bz)); replace BK1422 := bb BK1422 hb; replace BK1441 := bb BK1441 hb; replace BK1448 := bb BK1448 hb; replace BK1462 := bb BK1462 hb; replace HB := sb HB hb
                                  (try clear hb)
                                  (try clear ho0)
                                  (try clear ho1)
                                  obtain ⟨Ao60, co60, eo60⟩ := Kd.R_slice HO1451.out
                                  (first | subst eo60 | (injection eo60 with f1_ f2_ f3_; have f4_ := f1_.symm; have f5_ := f3_.symm; clear f1_ f2_ f3_; subst f4_; subst f5_))
                                  obtain ⟨Ao61, co61, eo61⟩ := Kd.R_slice HO1454.out
                                  (first | subst eo61 | (injection eo61 with f1_ f2_ f3_; have f4_ := f1_.symm; have f5_ := f3_.symm; clear f1_ f2_ f3_; subst f4_; subst f5_))
                                  refine hK.out _ _ ⟨(blk_cell BK1422.out 0).trans rfl, (blk_cell BK1422.out 1).trans rfl, (blk_cell BK1422.out 2).trans rfl, (blk_cell BK1422.out 3).trans rfl, ((HB.out.cell (World.block_lt_of_cell? w _ hw1457_0)).trans hw1457_0)⟩ (fun hHeld => ?_)
                                  clear hK K
                                  refine norm_ (a' := ?_) ?_ ?_
                                  rotate_left
                                  · show Act.put _ (some 81) _ = _
                                    exact pz
                                  refine oneZ 6 (some 86) (bs 13 1151) (one_of HT_.out (by kernel_rfl)) fun K hK => ?_
                                  refine goes_ Tryd.func22 (by kernel_rfl) rfl #[.agg #[.slice Ao60 t1449.length co60, .slice Ao61 t1452.length co61, .int .i64 t1455, .int .i64 t1456], .int .i64 (rd l1 x12_4)] (by rfl) rfl rfl mz ?_
                                  with_reducible refine (line_WorstOf.calls k4 _ _ t1449 _ _ t1452 t1455 t1456 (rd l1 x12_4) t1458 t1459 t1460 t1461 _ ?side1 ?side2 ?side3 ?side4 ?side5 A55.out).mono ?_
                                  (case side1 => exact bc (Kd.R_reads' HO1451.out).2.2)
                                  (case side2 => exact (Kd.R_reads' HO1451.out).2.1)
                                  (case side3 => exact bc (Kd.R_reads' HO1454.out).2.2)
                                  (case side4 => exact (Kd.R_reads' HO1454.out).2.1)
                                  (case side5 => exact EstG.below HG.out bz)
                                  rintro e w62 ⟨rfl, hb⟩
                                  refine ⟨_, rfl, ?_⟩
                                  replace HO1451 := rb HO1451 hb; replace HO1454 := rb HO1454 hb; replace BK1422 := bb BK1422 hb; replace BK1441 := bb BK1441 hb; replace BK1448 := bb BK1448 hb; replace BK1462 := bb BK1462 hb; replace HB := sb HB hb
                                  (try clear hb)
                                  refine hK.out _ _ ⟨(blk_cell BK1422.out 0).trans rfl, (blk_cell BK1422.out 1).trans rfl, (blk_cell BK1422.out 2).trans rfl, (blk_cell BK1422.out 3).trans rfl, ((HB.out.cell (World.block_lt_of_cell? w _ hw1457_0)).trans hw1457_0)⟩ (fun hHeld => ?_)
                                  clear hK K
                                  refine norm_ (a' := ?_) ?_ ?_
                                  rotate_left
                                  · show Act.put _ (some 86) _ = _
                                    exact pz
                                  refine pureZ (i := 7) (N := some 79) (bs 13 1279) HT_ ?_
                                  refine pureZ (i := 8) (N := some 87) (bs 13 1535) HT_ ?_
                                  refine pureZ (i := 9) (N := some 88) (bs 13 2047) HT_ ?_
                                  exact norm_ (by simp only [putAll, Act.put, List.setIfInBounds_toArray, List.set_cons_zero, List.set_cons_succ]) (hCont (.slice Ao60 t1449.length co60, .slice Ao61 t1452.length co61, gb1462) _ ⟨hHeld, (br HO1451.out), (br HO1454.out), (bk BK1422.out), (bk BK1441.out), (bk BK1448.out), (bk BK1462.out), GW1462.out, GE1462.out, NB1422_1462.out, NB1462_1422.out, NB1441_1462.out, NB1462_1441.out, NB1448_1462.out, NB1462_1448.out, bz⟩)
                              rintro ⟨v1450, v1453, gb1462⟩ w63 ⟨hS_, h0_, h1_, h2_, h3_, h4_, h5_, h6_, h7_, h8_, h9_, h10_, h11_, h12_, h13_, h14_⟩
                              have n0_ : Aside0 (Kd.R (Kd.int .i64) 3 w63 w.heap.size (fun k_ => some k_ ≠ (v1453 : Value).ownBlock) v1450 t1449) := ⟨h0_⟩
                              have n1_ : Aside0 (Kd.R (Kd.int .i64) 3 w63 w.heap.size (fun k_ => some k_ ≠ (v1450 : Value).ownBlock) v1453 t1452) := ⟨h1_⟩
                              have n2_ : Aside0 (w63.heap[gb1422]? = some (.cells #[.slice A0_0 l0_0.length c0_0, .slice A0_1 l0_1.length c0_1, .int .i64 a0_2, .int .i64 a0_3] 28 (0, 0))) := ⟨h2_⟩
                              have n3_ : Aside0 (w63.heap[gb1441]? = some (.cells #[.int .i64 t1437, .int .i64 t1438, .int .i64 t1439] 36 (0, 0))) := ⟨h3_⟩
                              have n4_ : Aside0 (w63.heap[gb1448]? = some (.cells #[.int .i64 t1445, .int .i64 t1446, .int .i64 t1447] 36 (0, 0))) := ⟨h4_⟩
                              have n5_ : Aside0 (w63.heap[gb1462]? = some (.cells #[.int .i64 0, .int .i64 0, .int .i64 0] 36 (0, 0))) := ⟨h5_⟩
                              have n6_ : Aside0 (w.heap.size ≤ gb1462) := ⟨h6_⟩
                              have n7_ : Aside0 (w.heap.size ≤ gb1462) := ⟨h7_⟩
                              have n8_ : Aside0 (gb1422 ≠ gb1462) := ⟨h8_⟩
                              have n9_ : Aside0 (gb1462 ≠ gb1422) := ⟨h9_⟩
                              have n10_ : Aside0 (gb1441 ≠ gb1462) := ⟨h10_⟩
                              have n11_ : Aside0 (gb1462 ≠ gb1441) := ⟨h11_⟩
                              have n12_ : Aside0 (gb1448 ≠ gb1462) := ⟨h12_⟩
                              have n13_ : Aside0 (gb1462 ≠ gb1448) := ⟨h13_⟩
                              have n14_ : Aside0 (Below w.heap.size w w63) := ⟨h14_⟩
                              clear BK1422
                              clear BK1441
                              clear BK1448
                              clear HB
                              clear h0_ h1_ h2_ h3_ h4_ h5_ h6_ h7_ h8_ h9_ h10_ h11_ h12_ h13_ h14_
                              have HO1451 := n0_
                              have HO1454 := n1_
                              have BK1422 := n2_
                              have BK1441 := n3_
                              have BK1448 := n4_
                              have BK1462 := n5_
                              have GW1462 := n6_
                              have GE1462 := n7_
                              have NB1422_1462 := n8_
                              have NB1462_1422 := n9_
                              have NB1441_1462 := n10_
                              have NB1462_1441 := n11_
                              have NB1448_1462 := n12_
                              have NB1462_1448 := n13_
                              have HB := n14_
                              clear n0_ n1_ n2_ n3_ n4_ n5_ n6_ n7_ n8_ n9_ n10_ n11_ n12_ n13_ n14_
                              have hHeld : w63.cell? ⟨gb1422, 0, none⟩ = some (.slice A0_0 l0_0.length c0_0) ∧ w63.cell? ⟨gb1422, 1, none⟩ = some (.slice A0_1 l0_1.length c0_1) ∧ w63.cell? ⟨gb1422, 2, none⟩ = some (.int .i64 a0_2) ∧ w63.cell? ⟨gb1422, 3, none⟩ = some (.int .i64 a0_3) ∧ w63.cell? (ad1457.add (x12_4).toNat) = some (.int .i64 (rd l1 x12_4)) := hS_
                              refine norm_ (a' := ?_) ?_ ?_
                              rotate_left
                              · simp only [putAll, Act.put, List.setIfInBounds_toArray, List.set_cons_zero, List.set_cons_succ]
                                rfl
                              refine oneZ 11 (none) (bs 13 4095) (one_of HT_.out (by kernel_rfl)) fun K hK => ?_
                              have hs64 : w63.cell? ⟨gb1462, 0, none⟩ = some (.int .i64 0) := (blk_cell BK1462.out 0).trans rfl
                              have hfs64 := blk_frozen BK1462.out 0
                              have hns64_0 := NB1422_1462.out
                              have hns64_1 := NB1441_1462.out
                              have hns64_2 := NB1448_1462.out
                              have hms64_0 := NB1462_1422.out
                              have hms64_1 := NB1462_1441.out
                              have hms64_2 := NB1462_1448.out
                              have hs65 : w63.cell? ⟨gb1462, 1, none⟩ = some (.int .i64 0) := (blk_cell BK1462.out 1).trans rfl
                              have hfs65 := blk_frozen BK1462.out 1
                              have hns65_0 := NB1422_1462.out
                              have hns65_1 := NB1441_1462.out
                              have hns65_2 := NB1448_1462.out
                              have hms65_0 := NB1462_1422.out
                              have hms65_1 := NB1462_1441.out
                              have hms65_2 := NB1462_1448.out
                              have hs66 : w63.cell? ⟨gb1462, 2, none⟩ = some (.int .i64 0) := (blk_cell BK1462.out 2).trans rfl
                              have hfs66 := blk_frozen BK1462.out 2
                              have hns66_0 := NB1422_1462.out
                              have hns66_1 := NB1441_1462.out
                              have hns66_2 := NB1448_1462.out
                              have hms66_0 := NB1462_1422.out
                              have hms66_1 := NB1462_1441.out
                              have hms66_2 := NB1462_1448.out
                              refine skip_ (w1 := ?_) (by rfl) rfl ?_ ?_
                              rotate_left
                              · go_simp
                                rfl
                              refine hK.out _ _ ⟨((cell_far (p := ⟨gb1462, _, none⟩) NB1422_1462.out _).trans (((cell_far (p := ⟨gb1462, _, none⟩) NB1422_1462.out _).trans (((cell_far (p := ⟨gb1462, _, none⟩) NB1422_1462.out _).trans (hHeld.1)))))), ((cell_far (p := ⟨gb1462, _, none⟩) NB1422_1462.out _).trans (((cell_far (p := ⟨gb1462, _, none⟩) NB1422_1462.out _).trans (((cell_far (p := ⟨gb1462, _, none⟩) NB1422_1462.out _).trans (hHeld.2.1)))))), ((cell_far (p := ⟨gb1462, _, none⟩) NB1422_1462.out _).trans (((cell_far (p := ⟨gb1462, _, none⟩) NB1422_1462.out _).trans (((cell_far (p := ⟨gb1462, _, none⟩) NB1422_1462.out _).trans (hHeld.2.2.1)))))), ((cell_far (p := ⟨gb1462, _, none⟩) NB1422_1462.out _).trans (((cell_far (p := ⟨gb1462, _, none⟩) NB1422_1462.out _).trans (((cell_far (p := ⟨gb1462, _, none⟩) NB1422_1462.out _).trans (hHeld.2.2.2.1)))))), ((cell_far (p := ⟨gb1462, _, none⟩) (by first | exact Nat.ne_of_lt (Nat.lt_of_lt_of_le (by have := World.block_lt_of_cell? _ _ hw1457_0; first | rwa [add_block] at this | exact this) GW1462.out) | (rw [add_block]; exact Nat.ne_of_lt (Nat.lt_of_lt_of_le (by have := World.block_lt_of_cell? _ _ hw1457_0; first | rwa [add_block] at this | exact this) GW1462.out)) | (show (Addr.add _ _).block ≠ _; rw [add_block]; exact Nat.ne_of_lt (Nat.lt_of_lt_of_le (by have := World.block_lt_of_cell? _ _ hw1457_0; first | rwa [add_block] at this | exact this) GW1462.out)) | (dsimp only; exact Nat.ne_of_lt (Nat.lt_of_lt_of_le (by have := World.block_lt_of_cell? _ _ hw1457_0; first | rwa [add_block] at this | exact this) GW1462.out))) _).trans (((cell_far (p := ⟨gb1462, _, none⟩) (by first | exact Nat.ne_of_lt (Nat.lt_of_lt_of_le (by have := World.block_lt_of_cell? _ _ hw1457_0; first | rwa [add_block] at this | exact this) GW1462.out) | (rw [add_block]; exact Nat.ne_of_lt (Nat.lt_of_lt_of_le (by have := World.block_lt_of_cell? _ _ hw1457_0; first | rwa [add_block] at this | exact this) GW1462.out)) | (show (Addr.add _ _).block ≠ _; rw [add_block]; exact Nat.ne_of_lt (Nat.lt_of_lt_of_le (by have := World.block_lt_of_cell? _ _ hw1457_0; first | rwa [add_block] at this | exact this) GW1462.out)) | (dsimp only; exact Nat.ne_of_lt (Nat.lt_of_lt_of_le (by have := World.block_lt_of_cell? _ _ hw1457_0; first | rwa [add_block] at this | exact this) GW1462.out))) _).trans (((cell_far (p := ⟨gb1462, _, none⟩) (by first | exact Nat.ne_of_lt (Nat.lt_of_lt_of_le (by have := World.block_lt_of_cell? _ _ hw1457_0; first | rwa [add_block] at this | exact this) GW1462.out) | (rw [add_block]; exact Nat.ne_of_lt (Nat.lt_of_lt_of_le (by have := World.block_lt_of_cell? _ _ hw1457_0; first | rwa [add_block] at this | exact this) GW1462.out)) | (show (Addr.add _ _).block ≠ _; rw [add_block]; exact Nat.ne_of_lt (Nat.lt_of_lt_of_le (by have := World.block_lt_of_cell? _ _ hw1457_0; first | rwa [add_block] at this | exact this) GW1462.out)) | (dsimp only; exact Nat.ne_of_lt (Nat.lt_of_lt_of_le (by have := World.block_lt_of_cell? _ _ hw1457_0; first | rwa [add_block] at this | exact this) GW1462.out))) _).trans (hHeld.2.2.2.2))))))⟩ (fun hHeld => ?_)
                              clear hK K
                              refine pureZ (i := 12) (N := some 14) (bs 13 8191) HT_ ?_
                              refine done_ (done_of HT_.out (by kernel_rfl)) ?_
                              go_upto_region 19 with (fail)
                              go_cut [102] (fun v102 wc => ∃ (kq : Nat) (x102_55 : Bool), v102 = .bool x102_55 ∧ Aside0 (Lw_LineBest.j4 kq l1 t1436 x11_4 x12_4 x102_55 l0_0 l0_1 a0_2 a0_3 t1437 t1438 t1439 t1458 t1459 t1460 = some r) ∧ Aside0 (kq ≤ k4) ∧ Aside0 (wc.heap[gb1422]? = some (.cells #[(.slice A0_0 l0_0.length c0_0), (.slice A0_1 l0_1.length c0_1), .int .i64 a0_2, .int .i64 a0_3] 28 (0, 0))) ∧ Aside0 (wc.heap[gb1441]? = some (.cells #[.int .i64 t1437, .int .i64 t1438, .int .i64 t1439] 36 (0, 0))) ∧ Aside0 (wc.heap[gb1448]? = some (.cells #[.int .i64 t1445, .int .i64 t1446, .int .i64 t1447] 36 (0, 0))) ∧ Aside0 (wc.heap[gb1462]? = some (.cells #[.int .i64 t1458, .int .i64 t1459, .int .i64 t1460] 36 (0, 0))) ∧ Aside0 (Below w.heap.size w wc))
                              case first =>
                                have H := HC56.out
                                clear HC56
                                by_cases c67 : t1461 = 0
                                · rw [if_pos c67] at H
                                  have c67b0 := beq_iff_eq.mpr c67
                                  have c67b1 := bne_eq_false_iff_eq.mpr c67
                                  clear c67
                                  (first | rw [c67b0] | (simp only [i64_w, i32_w]; rw [c67b0]) | skip)
                                  replace H := ob H
                                  obtain ⟨t1463, A680, H⟩ := H
                                  (try dsimp only at H)
                                  have A68 := m0 A680
                                  clear A680
                                  by_cases c69 : t1463 = true
                                  · subst c69
                                    rw [if_pos rfl] at H
                                    replace H := ob H
                                    obtain ⟨t1464, A700, H⟩ := H
                                    (try dsimp only at H)
                                    have A70 := m0 A700
                                    clear A700
                                    have H' := m0 H
                                    clear H
                                    have hnb71 := NB1462_1422.out
                                    have hnc71 := NB1422_1462.out
                                    have hnb72 := NB1462_1441.out
                                    have hnc72 := NB1441_1462.out
                                    have hnb73 := NB1462_1448.out
                                    have hnc73 := NB1448_1462.out
                                    obtain ⟨hcz74_0, hcz74_1, hcz74_2, hfz74_0, hfz74_1, hfz74_2⟩ := b3 BK1462
                                    go_wp2_with (first | (go_at_call 35; (with_reducible refine (Bs_IsLowest.calls k4 t1458 t1459 true _ A68.out).mono ?_); rintro e w75 ⟨rfl, hb⟩; replace HO1451 := m0 (Kd.R_below (by (with_reducible repeat (first | apply Kd.R_alloc | apply Kd.R_drewN | apply Kd.R_drew)); exact (Kd.R_mono (Kd.R_far (p := ⟨gb1462, 2, none⟩) (Kd.R_far (p := ⟨gb1462, 1, none⟩) (Kd.R_far (p := ⟨gb1462, 0, none⟩) (Kd.R_types HO1451.out BK1462.out (by decide)) (fun _ hk => hk.2) (.int .i64 t1458)) (fun _ hk => hk.2) (.int .i64 t1459)) (fun _ hk => hk.2) (.int .i64 t1460)) (fun _ h_ => h_.1))) hb); replace HO1454 := m0 (Kd.R_below (by (with_reducible repeat (first | apply Kd.R_alloc | apply Kd.R_drewN | apply Kd.R_drew)); exact (Kd.R_mono (Kd.R_far (p := ⟨gb1462, 2, none⟩) (Kd.R_far (p := ⟨gb1462, 1, none⟩) (Kd.R_far (p := ⟨gb1462, 0, none⟩) (Kd.R_types HO1454.out BK1462.out (by decide)) (fun _ hk => hk.2) (.int .i64 t1458)) (fun _ hk => hk.2) (.int .i64 t1459)) (fun _ hk => hk.2) (.int .i64 t1460)) (fun _ h_ => h_.1))) hb); replace BK1422 := m0 (blk_below (g := gb1422) (o := .cells #[.slice A0_0 l0_0.length c0_0, .slice A0_1 l0_1.length c0_1, .int .i64 a0_2, .int .i64 a0_3] 28 (0, 0)) (bq BK1422.out) hb); replace BK1441 := m0 (blk_below (g := gb1441) (o := .cells #[.int .i64 t1437, .int .i64 t1438, .int .i64 t1439] 36 (0, 0)) (bq BK1441.out) hb); replace BK1448 := m0 (blk_below (g := gb1448) (o := .cells #[.int .i64 t1445, .int .i64 t1446, .int .i64 t1447] 36 (0, 0)) (bq BK1448.out) hb); replace BK1462 := m0 (blk_below (g := gb1462) (o := .cells #[.int .i64 t1458, .int .i64 t1459, .int .i64 t1460] 36 (0, 0)) (bq BK1462.out) hb); replace HB := sb HB hb; (try clear hb); obtain ⟨hcz76_0, hcz76_1, hcz76_2, hfz76_0, hfz76_1, hfz76_2⟩ := b3 BK1462) | (go_at_call 36; (with_reducible refine (Bs_IsSmall.calls t1458 t1459 t1464 _ A70.out).mono ?_); rintro e w77 ⟨rfl, hb⟩; replace HO1451 := rb HO1451 hb; replace HO1454 := rb HO1454 hb; replace BK1422 := bb BK1422 hb; replace BK1441 := bb BK1441 hb; replace BK1448 := bb BK1448 hb; replace BK1462 := bb BK1462 hb; replace HB := sb HB hb; (try clear hb)))
                                    go_meet
                                    case rel => exact ⟨_, (!t1464), (by first | rfl | (simp; done) | (simp [*]; done)), H', ⟨by have := HJ4.out; have := HJ18.out; have := HJ35.out; have := HK4.out; first | omega | exact Nat.le_refl _⟩, ⟨bk BK1422.out⟩, ⟨bk BK1441.out⟩, ⟨bk BK1448.out⟩, ⟨bk BK1462.out⟩, ⟨bz⟩⟩
                                  · replace c69 := Bool.eq_false_iff.mpr c69
                                    subst c69
                                    rw [if_neg (show ¬ (false = true) by decide)] at H
                                    have H' := m0 H
                                    clear H
                                    have hnb78 := NB1462_1422.out
                                    have hnc78 := NB1422_1462.out
                                    have hnb79 := NB1462_1441.out
                                    have hnc79 := NB1441_1462.out
                                    have hnb80 := NB1462_1448.out
                                    have hnc80 := NB1448_1462.out
                                    obtain ⟨hcz81_0, hcz81_1, hcz81_2, hfz81_0, hfz81_1, hfz81_2⟩ := b3 BK1462
                                    go_wp2_with (first | (go_at_call 35; (with_reducible refine (Bs_IsLowest.calls k4 t1458 t1459 false _ A68.out).mono ?_); rintro e w82 ⟨rfl, hb⟩; replace HO1451 := m0 (Kd.R_below (by (with_reducible repeat (first | apply Kd.R_alloc | apply Kd.R_drewN | apply Kd.R_drew)); exact (Kd.R_mono (Kd.R_far (p := ⟨gb1462, 2, none⟩) (Kd.R_far (p := ⟨gb1462, 1, none⟩) (Kd.R_far (p := ⟨gb1462, 0, none⟩) (Kd.R_types HO1451.out BK1462.out (by decide)) (fun _ hk => hk.2) (.int .i64 t1458)) (fun _ hk => hk.2) (.int .i64 t1459)) (fun _ hk => hk.2) (.int .i64 t1460)) (fun _ h_ => h_.1))) hb); replace HO1454 := m0 (Kd.R_below (by (with_reducible repeat (first | apply Kd.R_alloc | apply Kd.R_drewN | apply Kd.R_drew)); exact (Kd.R_mono (Kd.R_far (p := ⟨gb1462, 2, none⟩) (Kd.R_far (p := ⟨gb1462, 1, none⟩) (Kd.R_far (p := ⟨gb1462, 0, none⟩) (Kd.R_types HO1454.out BK1462.out (by decide)) (fun _ hk => hk.2) (.int .i64 t1458)) (fun _ hk => hk.2) (.int .i64 t1459)) (fun _ hk => hk.2) (.int .i64 t1460)) (fun _ h_ => h_.1))) hb); replace BK1422 := m0 (blk_below (g := gb1422) (o := .cells #[.slice A0_0 l0_0.length c0_0, .slice A0_1 l0_1.length c0_1, .int .i64 a0_2, .int .i64 a0_3] 28 (0, 0)) (bq BK1422.out) hb); replace BK1441 := m0 (blk_below (g := gb1441) (o := .cells #[.int .i64 t1437, .int .i64 t1438, .int .i64 t1439] 36 (0, 0)) (bq BK1441.out) hb); replace BK1448 := m0 (blk_below (g := gb1448) (o := .cells #[.int .i64 t1445, .int .i64 t1446, .int .i64 t1447] 36 (0, 0)) (bq BK1448.out) hb); replace BK1462 := m0 (blk_below (g := gb1462) (o := .cells #[.int .i64 t1458, .int .i64 t1459, .int .i64 t1460] 36 (0, 0)) (bq BK1462.out) hb); replace HB := sb HB hb; (try clear hb)))
                                    go_meet
                                    case rel => exact ⟨_, (true), (by first | rfl | (simp; done) | (simp [*]; done)), H', ⟨by have := HJ4.out; have := HJ18.out; have := HJ35.out; have := HK4.out; first | omega | exact Nat.le_refl _⟩, ⟨bk BK1422.out⟩, ⟨bk BK1441.out⟩, ⟨bk BK1448.out⟩, ⟨bk BK1462.out⟩, ⟨bz⟩⟩
                                · rw [if_neg c67] at H
                                  have c67b0 := beq_eq_false_iff_ne.mpr c67
                                  have c67b1 := bne_iff_ne.mpr c67
                                  (first | rw [c67b0] | (simp only [i64_w, i32_w]; rw [c67b0]) | skip)
                                  have H' := m0 H
                                  clear H
                                  go_wp2
                                  go_meet
                                  case rel => exact ⟨_, (true), (by first | rfl | (simp; done) | (simp [*]; done)), H', ⟨by have := HJ4.out; have := HJ18.out; have := HJ35.out; have := HK4.out; first | omega | exact Nat.le_refl _⟩, ⟨bq BK1422.out⟩, ⟨bq BK1441.out⟩, ⟨bq BK1448.out⟩, ⟨bq BK1462.out⟩, ⟨bz⟩⟩
                              case rest =>
                                clear HC56
                                try clear c2
                                try clear p2
                                try clear c6
                                try clear c7
                                try clear c8
                                try clear c21
                                try clear c22
                                try clear c67
                                try clear c67b0
                                try clear c67b1
                                try clear c69
                                try clear c71
                                try clear c72
                                try clear c73
                                try clear c78
                                try clear c79
                                try clear c80
                                try clear hcz74_0
                                try clear hcz74_1
                                try clear hcz74_2
                                try clear hcz76_0
                                try clear hcz76_1
                                try clear hcz76_2
                                try clear hcz81_0
                                try clear hcz81_1
                                try clear hcz81_2
                                try clear hfz74_0
                                try clear hfz74_1
                                try clear hfz74_2
                                try clear hfz76_0
                                try clear hfz76_1
                                try clear hfz76_2
                                try clear hfz81_0
                                try clear hfz81_1
                                try clear hfz81_2
                                obtain ⟨kq, x102_55, rfl, HA, HJ55, BK1422, BK1441, BK1448, BK1462, HB⟩ := hcut
                                cases kq with
                                | zero => exact absurd HA.out (by simp [Lw_LineBest.j4])
                                | succ kj55 =>
                                  have H := HA.out
                                  clear HA
                                  simp only [Lw_LineBest.j4] at H
                                  by_cases c83 : x102_55 = true
                                  · subst c83
                                    rw [if_pos rfl] at H
                                    exact absurd H (by simp)
                                  · replace c83 := Bool.eq_false_iff.mpr c83
                                    subst c83
                                    rw [if_neg (show ¬ (false = true) by decide)] at H
                                    by_cases c84 : x11_4 = true
                                    · subst c84
                                      rw [if_pos rfl] at H
                                      replace H := ob H
                                      obtain ⟨t1465, A850, H⟩ := H
                                      (try dsimp only at H)
                                      have A85 := m0 A850
                                      clear A850
                                      by_cases c86 : t1465 < 0
                                      · rw [if_pos c86] at H
                                        exact absurd H (by simp)
                                      · rw [if_neg c86] at H
                                        have c86b0 := decide_eq_false c86
                                        clear c86
                                        by_cases c87 : t1465 = 0
                                        · rw [if_pos c87] at H
                                          have c87b0 := beq_iff_eq.mpr c87
                                          have c87b1 := bne_eq_false_iff_eq.mpr c87
                                          clear c87
                                          have H' := m0 H
                                          clear H
                                          have hnb88 := NB1462_1422.out
                                          have hnc88 := NB1422_1462.out
                                          have hnb89 := NB1462_1441.out
                                          have hnc89 := NB1441_1462.out
                                          have hnb90 := NB1462_1448.out
                                          have hnc90 := NB1448_1462.out
                                          obtain ⟨_, _, _, _, _, _⟩ := b3 BK1462
                                          have hnb92 := NB1441_1422.out
                                          have hnc92 := NB1422_1441.out
                                          have hnb93 := NB1441_1448.out
                                          have hnc93 := NB1448_1441.out
                                          obtain ⟨_, _, _, _, _, _⟩ := b3 BK1441
                                          go_wp2_with (first | ((with_reducible refine gate_callee (f := 37) rfl ?_); refine gl (some 116) Tryd.func37 #[.agg #[.int .i64 t1458, .int .i64 t1459], .agg #[.int .i64 t1437, .int .i64 t1438]] ?_; (with_reducible refine (Bs_Cmp.calls t1458 t1459 t1437 t1438 t1465 _ A85.out).mono ?_); rintro e w95 ⟨rfl, hb⟩; refine ⟨_, rfl, ?_⟩; replace BK1422 := bb BK1422 hb; replace BK1441 := bb BK1441 hb; replace BK1448 := bb BK1448 hb; replace BK1462 := bb BK1462 hb; replace HB := sb HB hb; (try clear hb)))
                                          go_roundg kj55
                                          case measure => have := HJ4.out; have := HJ18.out; have := HJ35.out; have := HK4.out; have := HJ55.out; omega
                                          case rel => exact ⟨(true), (wrap64 (x12_4 + 1)), (by first | rfl | (simp; done) | (simp [*]; done)), (by first | rfl | (simp; done) | (simp [*]; done)), H', ⟨by have := HJ4.out; have := HJ18.out; have := HJ35.out; have := HK4.out; have := HJ55.out; omega⟩, ⟨bk BK1422.out⟩, ⟨bk BK1441.out⟩, ⟨bk BK1448.out⟩, ⟨bz⟩⟩
                                        · rw [if_neg c87] at H
                                          have c87b0 := beq_eq_false_iff_ne.mpr c87
                                          have c87b1 := bne_iff_ne.mpr c87
                                          have H' := m0 H
                                          clear H
                                          have hnb96 := NB1462_1422.out
                                          have hnc96 := NB1422_1462.out
                                          have hnb97 := NB1462_1441.out
                                          have hnc97 := NB1441_1462.out
                                          have hnb98 := NB1462_1448.out
                                          have hnc98 := NB1448_1462.out
                                          obtain ⟨_, _, _, _, _, _⟩ := b3 BK1462
                                          have hnb100 := NB1441_1422.out
                                          have hnc100 := NB1422_1441.out
                                          have hnb101 := NB1441_1448.out
                                          have hnc101 := NB1448_1441.out
                                          obtain ⟨_, _, _, _, _, _⟩ := b3 BK1441
                                          go_wp2_with (first | ((with_reducible refine gate_callee (f := 37) rfl ?_); refine gl (some 116) Tryd.func37 #[.agg #[.int .i64 t1458, .int .i64 t1459], .agg #[.int .i64 t1437, .int .i64 t1438]] ?_; (with_reducible refine (Bs_Cmp.calls t1458 t1459 t1437 t1438 t1465 _ A85.out).mono ?_); rintro e w103 ⟨rfl, hb⟩; refine ⟨_, rfl, ?_⟩; replace BK1422 := bb BK1422 hb; replace BK1441 := bb BK1441 hb; replace BK1448 := bb BK1448 hb; replace BK1462 := bb BK1462 hb; replace HB := sb HB hb; (try clear hb)))
                                          go_roundg kj55
                                          case measure => have := HJ4.out; have := HJ18.out; have := HJ35.out; have := HK4.out; have := HJ55.out; omega
                                          case rel => exact ⟨(true), (wrap64 (x12_4 + 1)), (by first | rfl | (simp; done) | (simp [*]; done)), (by first | rfl | (simp; done) | (simp [*]; done)), H', ⟨by have := HJ4.out; have := HJ18.out; have := HJ35.out; have := HK4.out; have := HJ55.out; omega⟩, ⟨bk BK1422.out⟩, ⟨bk BK1441.out⟩, ⟨bk BK1448.out⟩, ⟨bz⟩⟩
                                    · replace c84 := Bool.eq_false_iff.mpr c84
                                      subst c84
                                      rw [if_neg (show ¬ (false = true) by decide)] at H
                                      by_cases c104 : 0 ≤ x12_4
                                      · rw [if_pos c104] at H
                                        have c104b0 := decide_eq_true c104
                                        clear c104
                                        by_cases c105 : x12_4 < (l1.length : Int)
                                        · rw [if_pos c105] at H
                                          have c105b0 := decide_eq_true c105
                                          clear c105
                                          replace H := ob H
                                          obtain ⟨t1467, A1060, H⟩ := H
                                          (try dsimp only at H)
                                          have A106 := m0 A1060
                                          clear A1060
                                          by_cases c107 : t1467 < 0
                                          · rw [if_pos c107] at H
                                            exact absurd H (by simp)
                                          · rw [if_neg c107] at H
                                            have c107b0 := decide_eq_false c107
                                            clear c107
                                            by_cases c108 : t1467 = 0
                                            · rw [if_pos c108] at H
                                              have c108b0 := beq_iff_eq.mpr c108
                                              have c108b1 := bne_eq_false_iff_eq.mpr c108
                                              clear c108
                                              by_cases c109 : ((rd l1 x12_4) = t1436)
                                              · rw [if_pos c109] at H
                                                have c109b0 := beq_iff_eq.mpr c109
                                                have c109b1 := bne_eq_false_iff_eq.mpr c109
                                                clear c109
                                                have H' := m0 H
                                                clear H
                                                have p1466 : 0 ≤ (x12_4 : Int) := of_decide_eq_true (by first | (with_reducible assumption) | assumption)
                                                have q1466 : x12_4 < (l1.length : Int) := of_decide_eq_true (by first | (with_reducible assumption) | assumption)
                                                obtain ⟨ad1466, e1466, hx1466_0⟩ := Kd.at_int HR1.out x12_4 p1466 q1466
                                                obtain rfl : ad1457 = ad1466 := (by injection e1466)
                                                replace hx1466_0 := (HB.out.cell (World.block_lt_of_cell? w _ hx1466_0)).trans hx1466_0
                                                replace p1466 := eq_true p1466
                                                replace q1466 := eq_true q1466
                                                have hnb110 := NB1462_1422.out
                                                have hnc110 := NB1422_1462.out
                                                have hnb111 := NB1462_1441.out
                                                have hnc111 := NB1441_1462.out
                                                have hnb112 := NB1462_1448.out
                                                have hnc112 := NB1448_1462.out
                                                obtain ⟨_, _, _, _, _, _⟩ := b3 BK1462
                                                have hnb114 := NB1441_1422.out
                                                have hnc114 := NB1422_1441.out
                                                have hnb115 := NB1441_1448.out
                                                have hnc115 := NB1448_1441.out
                                                obtain ⟨_, _, _, _, _, _⟩ := b3 BK1441
                                                go_wp2_with (first | ((with_reducible refine gate_callee (f := 37) rfl ?_); refine gl (some 116) Tryd.func37 #[.agg #[.int .i64 t1458, .int .i64 t1459], .agg #[.int .i64 t1437, .int .i64 t1438]] ?_; (with_reducible refine (Bs_Cmp.calls t1458 t1459 t1437 t1438 t1467 _ A106.out).mono ?_); rintro e w117 ⟨rfl, hb⟩; refine ⟨_, rfl, ?_⟩; replace BK1422 := bb BK1422 hb; replace BK1441 := bb BK1441 hb; replace BK1448 := bb BK1448 hb; replace BK1462 := bb BK1462 hb; replace HB := sb HB hb; (try clear hb)))
                                                go_roundg kj55
                                                case measure => have := HJ4.out; have := HJ18.out; have := HJ35.out; have := HK4.out; have := HJ55.out; omega
                                                case rel => exact ⟨(((rd l1 x12_4) == t1436)), (wrap64 (x12_4 + 1)), (by first | rfl | (simp; done) | (simp [*]; done)), (by first | rfl | (simp; done) | (simp [*]; done)), H', ⟨by have := HJ4.out; have := HJ18.out; have := HJ35.out; have := HK4.out; have := HJ55.out; omega⟩, ⟨bk BK1422.out⟩, ⟨bk BK1441.out⟩, ⟨bk BK1448.out⟩, ⟨bz⟩⟩
                                              · rw [if_neg c109] at H
                                                exact absurd H (by simp)
                                            · rw [if_neg c108] at H
                                              have c108b0 := beq_eq_false_iff_ne.mpr c108
                                              have c108b1 := bne_iff_ne.mpr c108
                                              have H' := m0 H
                                              clear H
                                              have p1466 : 0 ≤ (x12_4 : Int) := of_decide_eq_true (by first | (with_reducible assumption) | assumption)
                                              have q1466 : x12_4 < (l1.length : Int) := of_decide_eq_true (by first | (with_reducible assumption) | assumption)
                                              obtain ⟨ad1466, e1466, hx1466_0⟩ := Kd.at_int HR1.out x12_4 p1466 q1466
                                              obtain rfl : ad1457 = ad1466 := (by injection e1466)
                                              replace hx1466_0 := (HB.out.cell (World.block_lt_of_cell? w _ hx1466_0)).trans hx1466_0
                                              replace p1466 := eq_true p1466
                                              replace q1466 := eq_true q1466
                                              have hnb118 := NB1462_1422.out
                                              have hnc118 := NB1422_1462.out
                                              have hnb119 := NB1462_1441.out
                                              have hnc119 := NB1441_1462.out
                                              have hnb120 := NB1462_1448.out
                                              have hnc120 := NB1448_1462.out
                                              obtain ⟨_, _, _, _, _, _⟩ := b3 BK1462
                                              have hnb122 := NB1441_1422.out
                                              have hnc122 := NB1422_1441.out
                                              have hnb123 := NB1441_1448.out
                                              have hnc123 := NB1448_1441.out
                                              obtain ⟨_, _, _, _, _, _⟩ := b3 BK1441
                                              go_wp2_with (first | ((with_reducible refine gate_callee (f := 37) rfl ?_); refine gl (some 116) Tryd.func37 #[.agg #[.int .i64 t1458, .int .i64 t1459], .agg #[.int .i64 t1437, .int .i64 t1438]] ?_; (with_reducible refine (Bs_Cmp.calls t1458 t1459 t1437 t1438 t1467 _ A106.out).mono ?_); rintro e w125 ⟨rfl, hb⟩; refine ⟨_, rfl, ?_⟩; replace BK1422 := bb BK1422 hb; replace BK1441 := bb BK1441 hb; replace BK1448 := bb BK1448 hb; replace BK1462 := bb BK1462 hb; replace HB := sb HB hb; (try clear hb)))
                                              go_roundg kj55
                                              case measure => have := HJ4.out; have := HJ18.out; have := HJ35.out; have := HK4.out; have := HJ55.out; omega
                                              case rel => exact ⟨(((rd l1 x12_4) == t1436)), (wrap64 (x12_4 + 1)), (by first | rfl | (simp; done) | (simp [*]; done)), (by first | rfl | (simp; done) | (simp [*]; done)), H', ⟨by have := HJ4.out; have := HJ18.out; have := HJ35.out; have := HK4.out; have := HJ55.out; omega⟩, ⟨bk BK1422.out⟩, ⟨bk BK1441.out⟩, ⟨bk BK1448.out⟩, ⟨bz⟩⟩
                                        · rw [if_neg c105] at H
                                          exact absurd H (by simp)
                                      · rw [if_neg c104] at H
                                        exact absurd H (by simp)
                            · rw [if_neg c54] at H
                              exact absurd H (by simp)
                          · rw [if_neg c52] at H
                            have c52b0 := decide_eq_false c52
                            clear c52
                            obtain rfl := Option.some.inj H
                            go_wp2
                            go_ret
                            exact ez
              · rw [if_neg c34] at H
                have c34b0 := beq_eq_false_iff_ne.mpr c34
                have c34b1 := bne_iff_ne.mpr c34
                by_cases c126 : t1440 = x8_18
                · rw [if_pos c126] at H
                  have c126b0 := beq_iff_eq.mpr c126
                  have c126b1 := bne_eq_false_iff_eq.mpr c126
                  clear c126
                  by_cases c127 : t1436 = 0
                  · rw [if_pos c127] at H
                    have c127b0 := beq_iff_eq.mpr c127
                    have c127b1 := bne_eq_false_iff_eq.mpr c127
                    clear c127
                    obtain rfl := Option.some.inj H
                    have hnb128 := NB1441_1422.out
                    have hnc128 := NB1422_1441.out
                    obtain ⟨_, _, _, _, _, _⟩ := b3 BK1441
                    go_wp2
                    go_ret
                    exact ez
                  · rw [if_neg c127] at H
                    exact absurd H (by simp)
                · rw [if_neg c126] at H
                  exact absurd H (by simp)
  · replace c4 := Bool.eq_false_iff.mpr c4
    subst c4
    rw [if_neg (show ¬ (false = true) by decide)] at H
    exact absurd H (by simp)
end Go.Proofs.YtjnkphmcndaijaaDoor.A
