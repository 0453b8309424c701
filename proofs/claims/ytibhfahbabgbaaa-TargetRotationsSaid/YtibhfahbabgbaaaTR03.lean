/- Walks of the program's functions (printed, made shorter), each with what it computes. -/
import Derived.Test.YtibhfahbabgbaaaB05
import Derived.Test.YtibhfahbabgbaaaB12
import Derived.Test.YtibhfahbabgbaaaTR01
import Derived.Test.YtibhfahbabgbaaaB16
import Derived.Test.YtibhfahbabgbaaaTR02
import Derived.Test.YtibhfahbabgbaaaB04
namespace Go.Proofs.Ytibhfahbabgbaaa.A
set_option maxHeartbeats 8000000
set_option maxRecDepth 100000
open Go.RowKit Go.Proofs.YtibhfahbabgbaaaW.PrintWords Go.Proofs.YtibhfahbabgbaaaW.PrintLast Go.Proofs.YtibhfahbabgbaaaW.PrintMore
attribute [local go_sem] max2_int min2_int max_two min_two max_three min_three max_four min_four
set_option linter.unusedVariables false
set_option linter.unusedSimpArgs false
attribute [local go_sem high] eqA44 eqA45
mutual
def Lw_TargetRotations.j0 : Nat → Int → Int → Int → Bool → Int → Int → Int → Int → Int → Int → Int → Int → Int → Int → Int → Int → Int → Int → Int → Int → Int → Int → Int → Int → Int → Option (Bool)
  | 0, _, _, _, _, _, _, _, _, _, _, _, _, _, _, _, _, _, _, _, _, _, _, _, _, _ => none
  | k + 1, x0, x10, x12, x71, x484000, x484001, x484002, x485000, x485001, x485002, x497000, x497001, x497002, x497003, x497004, x497005, x497006, x497007, x497008, x502000, x502001, x502002, x507000, x507001, x507002 => if x71 = true then (none) else ((Rf_TurnedErr.f k x0 x484000 x484001 x484002).bind fun t512 => ((Rf_TurnedErr.f k x0 x485000 x485001 x485002).bind fun t513 => (if t512 = 0 then (if t513 = 0 then (if x10 = 0 then ((Rf_Turned.f x497000 x497001 x497002 x497003 x497004 x497005 x497006 x497007 x497008 x484000 x484001 x484002).bind fun bt514 => (if (!(x502000 == bt514.1) || (!(x502001 == bt514.2.1) || (!(x502002 == bt514.2.2)))) = true then (none) else (if x12 = 0 then ((Rf_Turned.f x497000 x497001 x497002 x497003 x497004 x497005 x497006 x497007 x497008 x485000 x485001 x485002).bind fun bt517 => (Lw_TargetRotations.j1 k t512 t513 (!(x507000 == bt517.1) || (!(x507001 == bt517.2.1) || (!(x507002 == bt517.2.2)))) x484000 x484001 x484002 x485000 x485001 x485002 x502000 x502001 x502002 x507000 x507001 x507002)) else (none)))) else (none)) else (if x12 = t513 then (if (!(x507000 == 0) || (!(x507001 == 0) || (!(x507002 == 0)))) = true then (none) else (if x10 = 0 then ((Rf_Turned.f x497000 x497001 x497002 x497003 x497004 x497005 x497006 x497007 x497008 x484000 x484001 x484002).bind fun bt520 => (if (!(x502000 == bt520.1) || (!(x502001 == bt520.2.1) || (!(x502002 == bt520.2.2)))) = true then (none) else (Lw_TargetRotations.j1 k t512 t513 false x484000 x484001 x484002 x485000 x485001 x485002 x502000 x502001 x502002 x507000 x507001 x507002))) else (none))) else (none))) else (if x10 = t512 then (if (!(x502000 == 0) || (!(x502001 == 0) || (!(x502002 == 0)))) = true then (none) else (if t513 = 0 then (if x12 = 0 then ((Rf_Turned.f x497000 x497001 x497002 x497003 x497004 x497005 x497006 x497007 x497008 x485000 x485001 x485002).bind fun bt523 => (Lw_TargetRotations.j1 k t512 t513 (!(x507000 == bt523.1) || (!(x507001 == bt523.2.1) || (!(x507002 == bt523.2.2)))) x484000 x484001 x484002 x485000 x485001 x485002 x502000 x502001 x502002 x507000 x507001 x507002)) else (none)) else (if x12 = t513 then (if (!(x507000 == 0) || (!(x507001 == 0) || (!(x507002 == 0)))) = true then (none) else (Lw_TargetRotations.j1 k t512 t513 false x484000 x484001 x484002 x485000 x485001 x485002 x502000 x502001 x502002 x507000 x507001 x507002)) else (none)))) else (none)))))
def Lw_TargetRotations.j1 : Nat → Int → Int → Bool → Int → Int → Int → Int → Int → Int → Int → Int → Int → Int → Int → Int → Option (Bool)
  | 0, _, _, _, _, _, _, _, _, _, _, _, _, _, _, _ => none
  | k + 1, x13, x14, x133, x484000, x484001, x484002, x485000, x485001, x485002, x502000, x502001, x502002, x507000, x507001, x507002 => if x133 = true then (none) else (if x13 = 0 then (if x14 = 0 then (if (wrap64 ((wrap64 ((wrap64 (x502000 * x507000)) + (wrap64 (x502001 * x507001)))) + (wrap64 (x502002 * x507002)))) = (wrap64 ((wrap64 ((wrap64 (x484000 * x485000)) + (wrap64 (x484001 * x485001)))) + (wrap64 (x484002 * x485002)))) then (some ((x502000 == x507000 && (x502001 == x507001 && (x502002 == x507002))) == (x484000 == x485000 && (x484001 == x485001 && (x484002 == x485002))))) else (none)) else (some true)) else (some true))
end
def Lw_TargetRotations.f (k : Nat) (a0 : Int) (a1_0 : Int) (a1_1 : Int) (a1_2 : Int) (a2_0 : Int) (a2_1 : Int) (a2_2 : Int) : Option (Bool) := (Lw_awake.f k).bind fun t485 => (if t485 = true then ((L_RotationOf.f k a0).bind fun bt486 => ((L_TurnedBy.f k a0 a1_0 a1_1 a1_2).bind fun bt497 => ((L_TurnedBy.f k a0 a2_0 a2_1 a2_2).bind fun bt502 => ((Bs_Within.f a0 0 23).bind fun t507 => (if t507 = true then (if bt486.2.2.2.2.2.2.2.2.2 = 0 then ((Rf_Rotations.f k).bind fun t508 => (if 0 ≤ a0 then (if a0 < (t508.length : Int) then (Lw_TargetRotations.j0 k a0 bt497.2.2.2 bt502.2.2.2 ((!(bt486.1 == ((rd_T45 t508 a0).f0.f0)) || (!(bt486.2.1 == ((rd_T45 t508 a0).f0.f1)) || (!(bt486.2.2.1 == ((rd_T45 t508 a0).f0.f2))))) || ((!(bt486.2.2.2.1 == ((rd_T45 t508 a0).f1.f0)) || (!(bt486.2.2.2.2.1 == ((rd_T45 t508 a0).f1.f1)) || (!(bt486.2.2.2.2.2.1 == ((rd_T45 t508 a0).f1.f2))))) || ((!(bt486.2.2.2.2.2.2.1 == ((rd_T45 t508 a0).f2.f0)) || (!(bt486.2.2.2.2.2.2.2.1 == ((rd_T45 t508 a0).f2.f1)) || (!(bt486.2.2.2.2.2.2.2.2.1 == ((rd_T45 t508 a0).f2.f2)))))))) a1_0 a1_1 a1_2 a2_0 a2_1 a2_2 bt486.1 bt486.2.1 bt486.2.2.1 bt486.2.2.2.1 bt486.2.2.2.2.1 bt486.2.2.2.2.2.1 bt486.2.2.2.2.2.2.1 bt486.2.2.2.2.2.2.2.1 bt486.2.2.2.2.2.2.2.2.1 bt497.1 bt497.2.1 bt497.2.2.1 bt502.1 bt502.2.1 bt502.2.2.1) else (none)) else (none))) else (none)) else (if bt486.2.2.2.2.2.2.2.2.2 = 2 then (if bt497.2.2.2 = 2 then (if bt502.2.2.2 = 2 then (if ((bt486.1 == 0 && (bt486.2.1 == 0 && (bt486.2.2.1 == 0))) && ((bt486.2.2.2.1 == 0 && (bt486.2.2.2.2.1 == 0 && (bt486.2.2.2.2.2.1 == 0))) && ((bt486.2.2.2.2.2.2.1 == 0 && (bt486.2.2.2.2.2.2.2.1 == 0 && (bt486.2.2.2.2.2.2.2.2.1 == 0)))))) = true then (if (bt497.1 == 0 && (bt497.2.1 == 0 && (bt497.2.2.1 == 0))) = true then (some (bt502.1 == 0 && (bt502.2.1 == 0 && (bt502.2.2.1 == 0)))) else (none)) else (none)) else (none)) else (none)) else (none))))))) else (none))
theorem Lw_TargetRotations.mono_l : ∀ k, (∀ y0 y1 y2 y3 y4 y5 y6 y7 y8 y9 y10 y11 y12 y13 y14 y15 y16 y17 y18 y19 y20 y21 y22 y23 y24, LeO (Lw_TargetRotations.j0 k y0 y1 y2 y3 y4 y5 y6 y7 y8 y9 y10 y11 y12 y13 y14 y15 y16 y17 y18 y19 y20 y21 y22 y23 y24) (Lw_TargetRotations.j0 (k + 1) y0 y1 y2 y3 y4 y5 y6 y7 y8 y9 y10 y11 y12 y13 y14 y15 y16 y17 y18 y19 y20 y21 y22 y23 y24)) ∧ (∀ y0 y1 y2 y3 y4 y5 y6 y7 y8 y9 y10 y11 y12 y13 y14, LeO (Lw_TargetRotations.j1 k y0 y1 y2 y3 y4 y5 y6 y7 y8 y9 y10 y11 y12 y13 y14) (Lw_TargetRotations.j1 (k + 1) y0 y1 y2 y3 y4 y5 y6 y7 y8 y9 y10 y11 y12 y13 y14))
  | 0 => ⟨fun _ _ _ _ _ _ _ _ _ _ _ _ _ _ _ _ _ _ _ _ _ _ _ _ _ r h => by simp [Lw_TargetRotations.j0] at h, fun _ _ _ _ _ _ _ _ _ _ _ _ _ _ _ r h => by simp [Lw_TargetRotations.j1] at h⟩
  | k + 1 => by
    obtain ⟨ih0, ih1⟩ := Lw_TargetRotations.mono_l k
    refine ⟨?_, ?_⟩
    · intro y0 y1 y2 y3 y4 y5 y6 y7 y8 y9 y10 y11 y12 y13 y14 y15 y16 y17 y18 y19 y20 y21 y22 y23 y24
      unfold Lw_TargetRotations.j0
      repeat' with_reducible first
        | exact ih0 ..
        | exact ih1 ..
        | exact Lw_awake.mono ..
        | exact Rf_Rotations.mono ..
        | exact Rf_TurnedErr.mono ..
        | exact L_RotationOf.mono ..
        | exact L_TurnedBy.mono ..
        | exact LeO.refl ..
        | exact LeO.none ..
        | refine LeO.ite ?_ ?_
        | refine LeO.bind ?_ (fun _ => ?_)
    · intro y0 y1 y2 y3 y4 y5 y6 y7 y8 y9 y10 y11 y12 y13 y14
      unfold Lw_TargetRotations.j1
      repeat' with_reducible first
        | exact ih0 ..
        | exact ih1 ..
        | exact Lw_awake.mono ..
        | exact Rf_Rotations.mono ..
        | exact Rf_TurnedErr.mono ..
        | exact L_RotationOf.mono ..
        | exact L_TurnedBy.mono ..
        | exact LeO.refl ..
        | exact LeO.none ..
        | refine LeO.ite ?_ ?_
        | refine LeO.bind ?_ (fun _ => ?_)
theorem Lw_TargetRotations.mono : ∀ a0 a1 a2 a3 a4 a5 a6 k, LeO (Lw_TargetRotations.f k a0 a1 a2 a3 a4 a5 a6) (Lw_TargetRotations.f (k + 1) a0 a1 a2 a3 a4 a5 a6) := by
  intro a0 a1 a2 a3 a4 a5 a6 k
  obtain ⟨ih0, ih1⟩ := Lw_TargetRotations.mono_l k
  unfold Lw_TargetRotations.f
  repeat' with_reducible first
    | exact ih0 ..
    | exact ih1 ..
    | exact Lw_awake.mono ..
    | exact Rf_Rotations.mono ..
    | exact Rf_TurnedErr.mono ..
    | exact L_RotationOf.mono ..
    | exact L_TurnedBy.mono ..
    | exact LeO.refl ..
    | exact LeO.none ..
    | refine LeO.ite ?_ ?_
    | refine LeO.bind ?_ (fun _ => ?_)
def Lw_TargetRotations.T8 : Bool × List (List Nat × List Nat) := (true, [([], []), ([0], [0]), ([1], [1]), ([2], [2]), ([2, 2], [2]), ([2], [2]), ([4, 5, 2], [2, 4, 5]), ([6, 2], [2, 6]), ([3, 7, 2], [2, 3, 7]), ([2, 8], [2, 8])])
def Lw_TargetRotations.B8 : List Nat := [0, 1, 3, 7, 7, 7, 55, 119, 255, 511]
theorem Lw_TargetRotations.tab8 : rtab .any (opsOf Try.f5 8) = Lw_TargetRotations.T8 := by kernel_rfl
theorem Lw_TargetRotations.bits8 : waitsOk Lw_TargetRotations.T8.2 Lw_TargetRotations.B8 = true := by kernel_rfl
def Lw_TargetRotations.T10 : Bool × List (List Nat × List Nat) := (true, [([], []), ([], []), ([0, 1], [0, 1]), ([], []), ([], []), ([3, 4, 2], [3, 4]), ([2, 5, 0, 1, 2], [2]), ([5, 6, 0, 1, 2, 3, 4, 5, 6], [5])])
def Lw_TargetRotations.B10 : List Nat := [0, 0, 3, 0, 0, 31, 63, 127]
theorem Lw_TargetRotations.tab10 : rtab .any (opsOf Try.f5 10) = Lw_TargetRotations.T10 := by kernel_rfl
theorem Lw_TargetRotations.bits10 : waitsOk Lw_TargetRotations.T10.2 Lw_TargetRotations.B10 = true := by kernel_rfl
def Lw_TargetRotations.T11 : Bool × List (List Nat × List Nat) := (true, [([], []), ([0], [0]), ([1], [1]), ([2], [2]), ([2], [2]), ([3, 4, 2], [2, 3, 4]), ([5, 2, 2], [2, 5]), ([6], [6]), ([6], [6]), ([7, 8, 6], [6, 7, 8]), ([6, 9, 2], [2, 6, 9]), ([2, 10], [2, 10]), ([11, 6], [11]), ([12], [12]), ([13, 12], [12, 13]), ([14, 12, 12], [12, 14]), ([15], [15]), ([15], [15]), ([16, 17, 15], [15, 16, 17]), ([18, 15, 15], [15, 18]), ([19], [19]), ([19], [19]), ([20, 21, 19], [19, 20, 21]), ([19, 22, 15], [15, 19, 22]), ([15, 23, 12], [12, 15, 23]), ([12, 24], [12, 24]), ([25, 19], [25]), ([26], [26]), ([27, 26], [26, 27]), ([28, 26, 26], [26, 28]), ([29], [29]), ([30, 29], [29, 30]), ([31, 29, 29], [29, 31]), ([32], [32]), ([32], [32]), ([32], [32]), ([34, 35, 32, 32], [32, 34, 35]), ([33, 36, 32], [32, 33, 36]), ([32, 37, 29], [29, 32, 37]), ([29, 38, 26], [26, 29, 38]), ([26, 39], [26, 39]), ([40, 36], [40]), ([41], [41]), ([42, 41], [41, 42]), ([43, 41, 41], [41, 43]), ([44], [44]), ([45, 44], [44, 45]), ([46, 44, 44], [44, 46]), ([47], [47]), ([47], [47]), ([47], [47]), ([49, 50, 47, 47], [47, 49, 50]), ([48, 51, 47], [47, 48, 51]), ([47, 52, 44], [44, 47, 52]), ([44, 53, 41], [41, 44, 53]), ([41, 54], [41, 54])])
def Lw_TargetRotations.B11 : List Nat := [0, 1, 3, 7, 7, 31, 63, 127, 127, 511, 1023, 2047, 4095, 8191, 16383, 32767, 65535, 65535, 262143, 524287, 1048575, 1048575, 4194303, 8388607, 16777215, 33554431, 67108863, 134217727, 268435455, 536870911, 1073741823, 2147483647, 4294967295, 8589934591, 8589934591, 8589934591, 60129542143, 137438953471, 274877906943, 549755813887, 1099511627775, 2199023255551, 4398046511103, 8796093022207, 17592186044415, 35184372088831, 70368744177663, 140737488355327, 281474976710655, 281474976710655, 281474976710655, 1970324836974591, 4503599627370495, 9007199254740991, 18014398509481983, 36028797018963967]
theorem Lw_TargetRotations.tab11 : rtab .any (opsOf Try.f5 11) = Lw_TargetRotations.T11 := by kernel_rfl
theorem Lw_TargetRotations.bits11 : waitsOk Lw_TargetRotations.T11.2 Lw_TargetRotations.B11 = true := by kernel_rfl
def Lw_TargetRotations.T15 : Bool × List (List Nat × List Nat) := (true, [([], []), ([0], [0]), ([], []), ([2], [2]), ([1, 3], [1, 3]), ([], []), ([5], [5]), ([], []), ([7], [7]), ([6, 8], [6, 8]), ([4, 9], [4, 9]), ([], []), ([11], [11]), ([], []), ([13], [13]), ([12, 14], [12, 14]), ([10, 15], [10, 15]), ([], []), ([17], [17]), ([], []), ([19], [19]), ([18, 20], [18, 20]), ([], []), ([22], [22]), ([], []), ([24], [24]), ([23, 25], [23, 25]), ([21, 26], [21, 26]), ([], []), ([28], [28]), ([], []), ([30], [30]), ([29, 31], [29, 31]), ([27, 32], [27, 32]), ([16, 33], [16, 33]), ([34], [34]), ([35], [35]), ([35], [35]), ([36, 37, 35], [35, 36, 37]), ([35], [35]), ([35], [35]), ([39, 40, 35], [35, 39, 40]), ([38, 41, 35], [35, 38, 41]), ([35, 42], [35, 42]), ([43, 35, 0, 1, 2, 3, 4, 5, 6, 7, 8, 9, 10, 11, 12, 13, 14, 15, 16, 17, 18, 19, 20, 21, 22, 23, 24, 25, 26, 27, 28, 29, 30, 31, 32, 33, 34, 35, 36, 37, 38, 39, 40, 41, 42, 43], [43])])
def Lw_TargetRotations.B15 : List Nat := [0, 1, 0, 4, 15, 0, 32, 0, 128, 480, 1023, 0, 2048, 0, 8192, 30720, 65535, 0, 131072, 0, 524288, 1966080, 0, 4194304, 0, 16777216, 62914560, 134086656, 0, 268435456, 0, 1073741824, 4026531840, 8589803520, 17179869183, 34359738367, 68719476735, 68719476735, 274877906943, 68719476735, 68719476735, 1717986918399, 4398046511103, 8796093022207, 17592186044415]
theorem Lw_TargetRotations.tab15 : rtab .any (opsOf Try.f5 15) = Lw_TargetRotations.T15 := by kernel_rfl
theorem Lw_TargetRotations.bits15 : waitsOk Lw_TargetRotations.T15.2 Lw_TargetRotations.B15 = true := by kernel_rfl
theorem Lw_TargetRotations.calls (k : Nat) (a0 : Int) (a1_0 : Int) (a1_1 : Int) (a1_2 : Int) (a2_0 : Int) (a2_1 : Int) (a2_2 : Int) (r : Bool) (w : World) (h : Lw_TargetRotations.f k a0 a1_0 a1_1 a1_2 a2_0 a2_1 a2_2 = some r) :
    Calls Try.prog 5 #[.int .i64 a0, .agg #[.int .i64 a1_0, .int .i64 a1_1, .int .i64 a1_2], .agg #[.int .i64 a2_0, .int .i64 a2_1, .int .i64 a2_2]] w fun e w' => e = .returned (.bool r) ∧ Below w.heap.size w w' := by
  have hu44 := Try.underlying44
  have hu45 := Try.underlying45
  have hix44_0 : ∀ (g_ : Nat) (W_ : World), (Instr.indexAt 44 (.pointer (some ⟨g_, 0, none⟩)) (.int .i64 0)).run Try.prog W_ = .ok (.pointer (some ⟨g_, 0, none⟩)) W_ := fun _ _ => by kernel_rfl
  have hix44_1 : ∀ (g_ : Nat) (W_ : World), (Instr.indexAt 44 (.pointer (some ⟨g_, 0, none⟩)) (.int .i64 1)).run Try.prog W_ = .ok (.pointer (some ⟨g_, 1, none⟩)) W_ := fun _ _ => by kernel_rfl
  have hix44_2 : ∀ (g_ : Nat) (W_ : World), (Instr.indexAt 44 (.pointer (some ⟨g_, 0, none⟩)) (.int .i64 2)).run Try.prog W_ = .ok (.pointer (some ⟨g_, 2, none⟩)) W_ := fun _ _ => by kernel_rfl
  have HB := m0 (Below.refl w.heap.size w)
  have H : ((Lw_awake.f k).bind fun t485 => (if t485 = true then ((L_RotationOf.f k a0).bind fun bt486 => ((L_TurnedBy.f k a0 a1_0 a1_1 a1_2).bind fun bt497 => ((L_TurnedBy.f k a0 a2_0 a2_1 a2_2).bind fun bt502 => ((Bs_Within.f a0 0 23).bind fun t507 => (if t507 = true then (if bt486.2.2.2.2.2.2.2.2.2 = 0 then ((Rf_Rotations.f k).bind fun t508 => (if 0 ≤ a0 then (if a0 < (t508.length : Int) then (Lw_TargetRotations.j0 k a0 bt497.2.2.2 bt502.2.2.2 ((!(bt486.1 == ((rd_T45 t508 a0).f0.f0)) || (!(bt486.2.1 == ((rd_T45 t508 a0).f0.f1)) || (!(bt486.2.2.1 == ((rd_T45 t508 a0).f0.f2))))) || ((!(bt486.2.2.2.1 == ((rd_T45 t508 a0).f1.f0)) || (!(bt486.2.2.2.2.1 == ((rd_T45 t508 a0).f1.f1)) || (!(bt486.2.2.2.2.2.1 == ((rd_T45 t508 a0).f1.f2))))) || ((!(bt486.2.2.2.2.2.2.1 == ((rd_T45 t508 a0).f2.f0)) || (!(bt486.2.2.2.2.2.2.2.1 == ((rd_T45 t508 a0).f2.f1)) || (!(bt486.2.2.2.2.2.2.2.2.1 == ((rd_T45 t508 a0).f2.f2)))))))) a1_0 a1_1 a1_2 a2_0 a2_1 a2_2 bt486.1 bt486.2.1 bt486.2.2.1 bt486.2.2.2.1 bt486.2.2.2.2.1 bt486.2.2.2.2.2.1 bt486.2.2.2.2.2.2.1 bt486.2.2.2.2.2.2.2.1 bt486.2.2.2.2.2.2.2.2.1 bt497.1 bt497.2.1 bt497.2.2.1 bt502.1 bt502.2.1 bt502.2.2.1) else (none)) else (none))) else (none)) else (if bt486.2.2.2.2.2.2.2.2.2 = 2 then (if bt497.2.2.2 = 2 then (if bt502.2.2.2 = 2 then (if ((bt486.1 == 0 && (bt486.2.1 == 0 && (bt486.2.2.1 == 0))) && ((bt486.2.2.2.1 == 0 && (bt486.2.2.2.2.1 == 0 && (bt486.2.2.2.2.2.1 == 0))) && ((bt486.2.2.2.2.2.2.1 == 0 && (bt486.2.2.2.2.2.2.2.1 == 0 && (bt486.2.2.2.2.2.2.2.2.1 == 0)))))) = true then (if (bt497.1 == 0 && (bt497.2.1 == 0 && (bt497.2.2.1 == 0))) = true then (some (bt502.1 == 0 && (bt502.2.1 == 0 && (bt502.2.2.1 == 0)))) else (none)) else (none)) else (none)) else (none)) else (none))))))) else (none))) = some r := h
  clear h
  replace H := ob H
  obtain ⟨t485, A4, H⟩ := H
  (try dsimp only at H)
  replace A4 := m0 A4
  by_cases c5 : t485 = true
  · subst c5
    rw [if_pos rfl] at H
    replace H := ob H
    obtain ⟨⟨t486, t487, t488, t489, t490, t491, t492, t493, t494, t495⟩, A6, H⟩ := H
    (try dsimp only at H)
    replace A6 := m0 A6
    replace H := ob H
    obtain ⟨⟨t497, t498, t499, t500⟩, A7, H⟩ := H
    (try dsimp only at H)
    replace A7 := m0 A7
    replace H := ob H
    obtain ⟨⟨t502, t503, t504, t505⟩, A8, H⟩ := H
    (try dsimp only at H)
    replace A8 := m0 A8
    replace H := ob H
    obtain ⟨t507, A9, H⟩ := H
    (try dsimp only at H)
    replace A9 := m0 A9
    by_cases c10 : t507 = true
    · subst c10
      rw [if_pos rfl] at H
      have HC11 := m0 H
      clear H
      go_enter Try.func5, Try.ntmps5
      go_upto_region 8 with (first | ((with_reducible refine gate_dst (N := 4) rfl ?_); refine be 4 44 #[.int .i64 a1_0, .int .i64 a1_1, .int .i64 a1_2] ?_; intro gb483 hg w12 hbox hb; have BK483 := m0 hbox; have GE483 := gw w hg; replace HB := sb HB hb; clear hb hbox hg) | ((with_reducible refine gate_dst (N := 5) rfl ?_); refine be 5 44 #[.int .i64 a2_0, .int .i64 a2_1, .int .i64 a2_2] ?_; intro gb484 hg w13 hbox hb; have BK484 := m0 hbox; have GE484 := gw w hg; replace HB := sb HB hb; have NB483_484 := nl BK483 hg; have NB484_483 := ng (nl BK483 hg); replace BK483 := bb BK483 hb; clear hb hbox hg) | ((with_reducible refine gate_callee (f := 14) rfl ?_); refine gl (some 15) Try.func14 #[] ?_; (with_reducible refine (Lw_awake.calls k  true _ A4.out).mono ?_); rintro e w14 ⟨rfl, hb⟩; refine ⟨_, rfl, ?_⟩; replace BK483 := bb BK483 hb; replace BK484 := bb BK484 hb; replace HB := sb HB hb; (try clear hb)) | ((with_reducible refine gate_callee (f := 25) rfl ?_); refine gl (some 19) Try.func25 #[.int .i64 a0] ?_; (with_reducible refine (L_RotationOf.calls k a0 t486 t487 t488 t489 t490 t491 t492 t493 t494 t495 _ A6.out).mono ?_); rintro e w15 ⟨rfl, hb⟩; refine ⟨_, rfl, ?_⟩; replace BK483 := bb BK483 hb; replace BK484 := bb BK484 hb; replace HB := sb HB hb; (try clear hb)) | ((with_reducible refine gate_dst (N := 7) rfl ?_); refine be 7 45 #[.int .i64 0, .int .i64 0, .int .i64 0, .int .i64 0, .int .i64 0, .int .i64 0, .int .i64 0, .int .i64 0, .int .i64 0] ?_; intro gb496 hg w16 hbox hb; have BK496 := m0 hbox; have GE496 := gw w hg; replace HB := sb HB hb; have NB483_496 := nl BK483 hg; have NB496_483 := ng (nl BK483 hg); replace BK483 := bb BK483 hb; have NB484_496 := nl BK484 hg; have NB496_484 := ng (nl BK484 hg); replace BK484 := bb BK484 hb; clear hb hbox hg; have hnb17 := NB496_483.out; have hnc17 := NB483_496.out; have hnb18 := NB496_484.out; have hnc18 := NB484_496.out; have hcz19_0 : w16.cell? ⟨gb496, 0, none⟩ = some (.int .i64 0) := (blk_cell BK496.out 0).trans rfl; have hcz19_1 : w16.cell? ⟨gb496, 1, none⟩ = some (.int .i64 0) := (blk_cell BK496.out 1).trans rfl; have hcz19_2 : w16.cell? ⟨gb496, 2, none⟩ = some (.int .i64 0) := (blk_cell BK496.out 2).trans rfl; have hcz19_3 : w16.cell? ⟨gb496, 3, none⟩ = some (.int .i64 0) := (blk_cell BK496.out 3).trans rfl; have hcz19_4 : w16.cell? ⟨gb496, 4, none⟩ = some (.int .i64 0) := (blk_cell BK496.out 4).trans rfl; have hcz19_5 : w16.cell? ⟨gb496, 5, none⟩ = some (.int .i64 0) := (blk_cell BK496.out 5).trans rfl; have hcz19_6 : w16.cell? ⟨gb496, 6, none⟩ = some (.int .i64 0) := (blk_cell BK496.out 6).trans rfl; have hcz19_7 : w16.cell? ⟨gb496, 7, none⟩ = some (.int .i64 0) := (blk_cell BK496.out 7).trans rfl; have hcz19_8 : w16.cell? ⟨gb496, 8, none⟩ = some (.int .i64 0) := (blk_cell BK496.out 8).trans rfl; have hfz19_0 := blk_frozen BK496.out 0; have hfz19_1 := blk_frozen BK496.out 1; have hfz19_2 := blk_frozen BK496.out 2; have hfz19_3 := blk_frozen BK496.out 3; have hfz19_4 := blk_frozen BK496.out 4; have hfz19_5 := blk_frozen BK496.out 5; have hfz19_6 := blk_frozen BK496.out 6; have hfz19_7 := blk_frozen BK496.out 7; have hfz19_8 := blk_frozen BK496.out 8; have hnb20 := NB483_484.out; have hnc20 := NB484_483.out; obtain ⟨hcz21_0, hcz21_1, hcz21_2, hfz21_0, hfz21_1, hfz21_2⟩ := b3 BK483) | ((with_reducible refine gate_callee (f := 26) rfl ?_); refine gl (some 25) Try.func26 #[.int .i64 a0, .agg #[.int .i64 a1_0, .int .i64 a1_1, .int .i64 a1_2]] ?_; (with_reducible refine (L_TurnedBy.calls k a0 a1_0 a1_1 a1_2 t497 t498 t499 t500 _ A7.out).mono ?_); rintro e w22 ⟨rfl, hb⟩; refine ⟨_, rfl, ?_⟩; replace BK483 := m0 (blk_below (g := gb483) (o := .cells #[.int .i64 a1_0, .int .i64 a1_1, .int .i64 a1_2] 44 (0, 0)) (bq BK483.out) hb); replace BK484 := m0 (blk_below (g := gb484) (o := .cells #[.int .i64 a2_0, .int .i64 a2_1, .int .i64 a2_2] 44 (0, 0)) (bq BK484.out) hb); replace BK496 := m0 (blk_below (g := gb496) (o := .cells #[.int .i64 t486, .int .i64 t487, .int .i64 t488, .int .i64 t489, .int .i64 t490, .int .i64 t491, .int .i64 t492, .int .i64 t493, .int .i64 t494] 45 (0, 0)) (bq BK496.out) hb); replace HB := sb HB hb; (try clear hb)) | ((with_reducible refine gate_dst (N := 9) rfl ?_); refine be 9 44 #[.int .i64 0, .int .i64 0, .int .i64 0] ?_; intro gb501 hg w23 hbox hb; have BK501 := m0 hbox; have GE501 := gw w hg; replace HB := sb HB hb; have NB483_501 := nl BK483 hg; have NB501_483 := ng (nl BK483 hg); replace BK483 := bb BK483 hb; have NB484_501 := nl BK484 hg; have NB501_484 := ng (nl BK484 hg); replace BK484 := bb BK484 hb; have NB496_501 := nl BK496 hg; have NB501_496 := ng (nl BK496 hg); replace BK496 := bb BK496 hb; clear hb hbox hg; have hnb24 := NB501_483.out; have hnc24 := NB483_501.out; have hnb25 := NB501_484.out; have hnc25 := NB484_501.out; have hnb26 := NB501_496.out; have hnc26 := NB496_501.out; obtain ⟨hcz27_0, hcz27_1, hcz27_2, hfz27_0, hfz27_1, hfz27_2⟩ := b3 BK501; obtain ⟨hcz28_0, hcz28_1, hcz28_2, hfz28_0, hfz28_1, hfz28_2⟩ := b3 BK484) | ((with_reducible refine gate_callee (f := 26) rfl ?_); refine gl (some 31) Try.func26 #[.int .i64 a0, .agg #[.int .i64 a2_0, .int .i64 a2_1, .int .i64 a2_2]] ?_; (with_reducible refine (L_TurnedBy.calls k a0 a2_0 a2_1 a2_2 t502 t503 t504 t505 _ A8.out).mono ?_); rintro e w29 ⟨rfl, hb⟩; refine ⟨_, rfl, ?_⟩; replace BK483 := m0 (blk_below (g := gb483) (o := .cells #[.int .i64 a1_0, .int .i64 a1_1, .int .i64 a1_2] 44 (0, 0)) (bq BK483.out) hb); replace BK484 := m0 (blk_below (g := gb484) (o := .cells #[.int .i64 a2_0, .int .i64 a2_1, .int .i64 a2_2] 44 (0, 0)) (bq BK484.out) hb); replace BK496 := m0 (blk_below (g := gb496) (o := .cells #[.int .i64 t486, .int .i64 t487, .int .i64 t488, .int .i64 t489, .int .i64 t490, .int .i64 t491, .int .i64 t492, .int .i64 t493, .int .i64 t494] 45 (0, 0)) (bq BK496.out) hb); replace BK501 := m0 (blk_below (g := gb501) (o := .cells #[.int .i64 t497, .int .i64 t498, .int .i64 t499] 44 (0, 0)) (bq BK501.out) hb); replace HB := sb HB hb; (try clear hb)) | ((with_reducible refine gate_dst (N := 11) rfl ?_); refine be 11 44 #[.int .i64 0, .int .i64 0, .int .i64 0] ?_; intro gb506 hg w30 hbox hb; have BK506 := m0 hbox; have GE506 := gw w hg; replace HB := sb HB hb; have NB483_506 := nl BK483 hg; have NB506_483 := ng (nl BK483 hg); replace BK483 := bb BK483 hb; have NB484_506 := nl BK484 hg; have NB506_484 := ng (nl BK484 hg); replace BK484 := bb BK484 hb; have NB496_506 := nl BK496 hg; have NB506_496 := ng (nl BK496 hg); replace BK496 := bb BK496 hb; have NB501_506 := nl BK501 hg; have NB506_501 := ng (nl BK501 hg); replace BK501 := bb BK501 hb; clear hb hbox hg; have hnb31 := NB506_483.out; have hnc31 := NB483_506.out; have hnb32 := NB506_484.out; have hnc32 := NB484_506.out; have hnb33 := NB506_496.out; have hnc33 := NB496_506.out; have hnb34 := NB506_501.out; have hnc34 := NB501_506.out; obtain ⟨hcz35_0, hcz35_1, hcz35_2, hfz35_0, hfz35_1, hfz35_2⟩ := b3 BK506) | ((with_reducible refine gate_callee (f := 24) rfl ?_); refine gl (some 35) Try.func24 #[.int .i64 a0, .int .i64 0, .int .i64 23] ?_; (with_reducible refine (Bs_Within.calls a0 0 23 true _ A9.out).mono ?_); rintro e w' ⟨rfl, ⟨nd, rfl⟩⟩; refine ⟨_, rfl, ?_⟩))
      (try simp only [Act.put, List.setIfInBounds_toArray, List.set_cons_zero, List.set_cons_succ])
      go_cut [71] (fun v71 wc => ∃ (kq : Nat) (x71_10 : Bool), v71 = .bool x71_10 ∧ Aside0 (Lw_TargetRotations.j0 kq a0 t500 t505 x71_10 a1_0 a1_1 a1_2 a2_0 a2_1 a2_2 t486 t487 t488 t489 t490 t491 t492 t493 t494 t497 t498 t499 t502 t503 t504 = some r) ∧ Aside0 (kq ≤ k) ∧ Aside0 (wc.heap[gb483]? = some (.cells #[.int .i64 a1_0, .int .i64 a1_1, .int .i64 a1_2] 44 (0, 0))) ∧ Aside0 (wc.heap[gb484]? = some (.cells #[.int .i64 a2_0, .int .i64 a2_1, .int .i64 a2_2] 44 (0, 0))) ∧ Aside0 (wc.heap[gb496]? = some (.cells #[.int .i64 t486, .int .i64 t487, .int .i64 t488, .int .i64 t489, .int .i64 t490, .int .i64 t491, .int .i64 t492, .int .i64 t493, .int .i64 t494] 45 (0, 0))) ∧ Aside0 (wc.heap[gb501]? = some (.cells #[.int .i64 t497, .int .i64 t498, .int .i64 t499] 44 (0, 0))) ∧ Aside0 (wc.heap[gb506]? = some (.cells #[.int .i64 t502, .int .i64 t503, .int .i64 t504] 44 (0, 0))) ∧ Aside0 (Below w.heap.size w wc))
      case first =>
        have H := HC11.out
        clear HC11
        by_cases c36 : t495 = 0
        · rw [if_pos c36] at H
          have c36b0 := beq_iff_eq.mpr c36
          have c36b1 := bne_eq_false_iff_eq.mpr c36
          clear c36
          (first | rw [c36b0] | (simp only [i64_w, i32_w]; rw [c36b0]) | skip)
          replace H := ob H
          obtain ⟨t508, A37, H⟩ := H
          (try dsimp only at H)
          replace A37 := m0 A37
          by_cases c38 : 0 ≤ a0
          · rw [if_pos c38] at H
            have c38b0 := decide_eq_true c38
            clear c38
            by_cases c39 : a0 < (t508.length : Int)
            · rw [if_pos c39] at H
              have c39b0 := decide_eq_true c39
              clear c39
              have H' := m0 H
              clear H
              try go_wp2
              replace BK483 : Aside0 ((((w30.setCell ⟨gb506, 0, none⟩ (.int .i64 t502)).setCell ⟨gb506, 1, none⟩ (.int .i64 t503)).setCell ⟨gb506, 2, none⟩ (.int .i64 t504)).heap[gb483]? = some (.cells #[.int .i64 a1_0, .int .i64 a1_1, .int .i64 a1_2] 44 (0, 0))) := ⟨bq BK483.out⟩
              replace BK484 : Aside0 ((((w30.setCell ⟨gb506, 0, none⟩ (.int .i64 t502)).setCell ⟨gb506, 1, none⟩ (.int .i64 t503)).setCell ⟨gb506, 2, none⟩ (.int .i64 t504)).heap[gb484]? = some (.cells #[.int .i64 a2_0, .int .i64 a2_1, .int .i64 a2_2] 44 (0, 0))) := ⟨bq BK484.out⟩
              replace BK496 : Aside0 ((((w30.setCell ⟨gb506, 0, none⟩ (.int .i64 t502)).setCell ⟨gb506, 1, none⟩ (.int .i64 t503)).setCell ⟨gb506, 2, none⟩ (.int .i64 t504)).heap[gb496]? = some (.cells #[.int .i64 t486, .int .i64 t487, .int .i64 t488, .int .i64 t489, .int .i64 t490, .int .i64 t491, .int .i64 t492, .int .i64 t493, .int .i64 t494] 45 (0, 0))) := ⟨bq BK496.out⟩
              replace BK501 : Aside0 ((((w30.setCell ⟨gb506, 0, none⟩ (.int .i64 t502)).setCell ⟨gb506, 1, none⟩ (.int .i64 t503)).setCell ⟨gb506, 2, none⟩ (.int .i64 t504)).heap[gb501]? = some (.cells #[.int .i64 t497, .int .i64 t498, .int .i64 t499] 44 (0, 0))) := ⟨bq BK501.out⟩
              replace BK506 : Aside0 ((((w30.setCell ⟨gb506, 0, none⟩ (.int .i64 t502)).setCell ⟨gb506, 1, none⟩ (.int .i64 t503)).setCell ⟨gb506, 2, none⟩ (.int .i64 t504)).heap[gb506]? = some (.cells #[.int .i64 t502, .int .i64 t503, .int .i64 t504] 44 (0, 0))) := ⟨bq BK506.out⟩
              replace HB : Aside0 (Below w.heap.size w (((w30.setCell ⟨gb506, 0, none⟩ (.int .i64 t502)).setCell ⟨gb506, 1, none⟩ (.int .i64 t503)).setCell ⟨gb506, 2, none⟩ (.int .i64 t504))) := ⟨bz⟩
              generalize (((w30.setCell ⟨gb506, 0, none⟩ (.int .i64 t502)).setCell ⟨gb506, 1, none⟩ (.int .i64 t503)).setCell ⟨gb506, 2, none⟩ (.int .i64 t504)) = w40 at BK483 BK484 BK496 BK501 BK506 HB ⊢
              replace BK483 := m0 (blk_drew (blk_drewN BK483.out nd)); replace BK484 := m0 (blk_drew (blk_drewN BK484.out nd)); replace BK496 := m0 (blk_drew (blk_drewN BK496.out nd)); replace BK501 := m0 (blk_drew (blk_drewN BK501.out nd)); replace BK506 := m0 (blk_drew (blk_drewN BK506.out nd)); replace HB := m0 (below_drew1 (pw_below_drewN HB.out nd))
              refine start_ (n := 10) (S := fun w' => w'.cell? ⟨gb496, 0, none⟩ = some (.int .i64 t486) ∧ w'.cell? ⟨gb496, 1, none⟩ = some (.int .i64 t487) ∧ w'.cell? ⟨gb496, 2, none⟩ = some (.int .i64 t488) ∧ w'.cell? ⟨gb496, 3, none⟩ = some (.int .i64 t489) ∧ w'.cell? ⟨gb496, 4, none⟩ = some (.int .i64 t490) ∧ w'.cell? ⟨gb496, 5, none⟩ = some (.int .i64 t491) ∧ w'.cell? ⟨gb496, 6, none⟩ = some (.int .i64 t492) ∧ w'.cell? ⟨gb496, 7, none⟩ = some (.int .i64 t493) ∧ w'.cell? ⟨gb496, 8, none⟩ = some (.int .i64 t494)) (ds := []) #[false, false, false, false, false, false, false, false, false, false] (by kernel_rfl) rfl rfl cz (fun hH => ?_); refine with_tabW Lw_TargetRotations.tab8 Lw_TargetRotations.bits8 (fun HT_ HW_ => ?_)
              generalize (w40.drewN nd).drew = w41 at BK483 BK484 BK496 BK501 BK506 HB hH ⊢
              refine pZ 0 (some 62) #[true, false, false, false, false, false, false, false, false, false] HT_ ?_
              refine pZ 1 (some 63) #[true, true, false, false, false, false, false, false, false, false] HT_ ?_
              refine pZ 2 (some 64) #[true, true, true, false, false, false, false, false, false, false] HT_ ?_
              refine pZ 5 (some 67) #[true, true, true, false, false, true, false, false, false, false] HT_ ?_
              refine takeZ 3 (some 65) #[true, true, true, true, false, true, false, false, false, false] (take_ofW HT_.out HW_.out (by kernel_rfl)) hH ?_
              refine oneZ 4 (some 66) #[true, true, true, true, true, true, false, false, false, false] (one_of HT_.out (by kernel_rfl)) fun K hK => ?_
              refine gz Try.func27 #[] ?_
              with_reducible refine (Rf_Rotations.calls k  t508 _ A37.out).mono ?_
              rintro e w42 ⟨v509, rfl, ho0, hb⟩
              refine ⟨_, rfl, ?_⟩
              have HO510 := m0 (Kd.R_lower (Kd.R_newB ho0 (g := gb496) (o := .cells #[.int .i64 t486, .int .i64 t487, .int .i64 t488, .int .i64 t489, .int .i64 t490, .int .i64 t491, .int .i64 t492, .int .i64 t493, .int .i64 t494] 45 (0, 0)) (bk BK496.out)) (below_size bz)); replace BK483 := bb BK483 hb; replace BK484 := bb BK484 hb; replace BK496 := bb BK496 hb; replace BK501 := bb BK501 hb; replace BK506 := bb BK506 hb; replace HB := sb HB hb
              (try clear hb)
              (try clear ho0)
              obtain ⟨Ao43, co43, eo43⟩ := Kd.R_slice HO510.out
              subst eo43
              have p511 : 0 ≤ (a0 : Int) := od
              have q511 : a0 < (t508.length : Int) := od
              obtain ⟨ad511, e511, hx511_0, hx511_1, hx511_2, hx511_3, hx511_4, hx511_5, hx511_6, hx511_7, hx511_8⟩ := at_T45 (Kd.R_reads' HO510.out).2.2 a0 p511 q511
              cases e511
              replace p511 := eq_true p511
              replace q511 := eq_true q511
              refine hK.out _ _ cz (fun hH => ?_)
              clear hK K
              refine norm_ (a' := ?_) ?_ ?_
              rotate_left
              · show Act.put _ (some 66) _ = _
                exact pz
              refine pZ 6 (some 68) #[true, true, true, true, true, true, true, false, false, false] HT_ ?_
              refine oneZ 7 (some 69) #[true, true, true, true, true, true, true, true, false, false] (one_of HT_.out (by kernel_rfl)) fun K hK => ?_
              refine value_ (w1 := ?_) (v := ?_) (by rfl) rfl ?_ ?_
              rotate_left 2
              · go_simp
                constructor
                · rfl
                · rfl
              refine hK.out _ _ cz (fun hH => ?_)
              clear hK K
              refine norm_ (a' := ?_) ?_ ?_
              rotate_left
              · show Act.put _ (some 69) _ = _
                exact pz
              refine pZ 8 (some 70) #[true, true, true, true, true, true, true, true, true, false] HT_ ?_
              refine pZ 9 (some 71) #[true, true, true, true, true, true, true, true, true, true] HT_ ?_
              refine done_ (done_of HT_.out (by kernel_rfl)) ?_
              try go_wp2
              go_meet
              case rel => exact ⟨_, (((!(t486 == ((rd_T45 t508 a0).f0.f0)) || (!(t487 == ((rd_T45 t508 a0).f0.f1)) || (!(t488 == ((rd_T45 t508 a0).f0.f2))))) || ((!(t489 == ((rd_T45 t508 a0).f1.f0)) || (!(t490 == ((rd_T45 t508 a0).f1.f1)) || (!(t491 == ((rd_T45 t508 a0).f1.f2))))) || ((!(t492 == ((rd_T45 t508 a0).f2.f0)) || (!(t493 == ((rd_T45 t508 a0).f2.f1)) || (!(t494 == ((rd_T45 t508 a0).f2.f2))))))))), (by first | rfl | (simp; done) | (simp [*]; done)), H', ⟨by first | omega | exact Nat.le_refl _⟩, ⟨bk BK483.out⟩, ⟨bk BK484.out⟩, ⟨bk BK496.out⟩, ⟨bk BK501.out⟩, ⟨bk BK506.out⟩, ⟨bz⟩⟩
            · rw [if_neg c39] at H
              exact absurd H (by simp)
          · rw [if_neg c38] at H
            exact absurd H (by simp)
        · rw [if_neg c36] at H
          have c36b0 := beq_eq_false_iff_ne.mpr c36
          have c36b1 := bne_iff_ne.mpr c36
          (first | rw [c36b0] | (simp only [i64_w, i32_w]; rw [c36b0]) | skip)
          exact absurd H (by simp)
      case rest =>
        as_aux_lemma =>
        clear HC11
        try clear hx5
        try clear hcz19_0
        try clear hcz19_1
        try clear hcz19_2
        try clear hcz19_3
        try clear hcz19_4
        try clear hcz19_5
        try clear hcz19_6
        try clear hcz19_7
        try clear hcz19_8
        try clear hcz21_0
        try clear hcz21_1
        try clear hcz21_2
        try clear hcz27_0
        try clear hcz27_1
        try clear hcz27_2
        try clear hcz28_0
        try clear hcz28_1
        try clear hcz28_2
        try clear hcz35_0
        try clear hcz35_1
        try clear hcz35_2
        try clear hfz19_0
        try clear hfz19_1
        try clear hfz19_2
        try clear hfz19_3
        try clear hfz19_4
        try clear hfz19_5
        try clear hfz19_6
        try clear hfz19_7
        try clear hfz19_8
        try clear hfz21_0
        try clear hfz21_1
        try clear hfz21_2
        try clear hfz27_0
        try clear hfz27_1
        try clear hfz27_2
        try clear hfz28_0
        try clear hfz28_1
        try clear hfz28_2
        try clear hfz35_0
        try clear hfz35_1
        try clear hfz35_2
        try clear hx511_0
        try clear hx511_1
        try clear hx511_2
        try clear hx511_3
        try clear hx511_4
        try clear hx511_5
        try clear hx511_6
        try clear hx511_7
        try clear hx511_8
        obtain ⟨kq, x71_10, rfl, HA, HJ10, BK483, BK484, BK496, BK501, BK506, HB⟩ := hcut
        cases kq with
        | zero => exact absurd HA.out (by simp [Lw_TargetRotations.j0])
        | succ kj10 =>
          have H := HA.out
          clear HA
          simp only [Lw_TargetRotations.j0] at H
          by_cases c44 : x71_10 = true
          · subst c44
            rw [if_pos rfl] at H
            exact absurd H (by simp)
          · replace c44 := Bool.eq_false_iff.mpr c44
            subst c44
            rw [if_neg (show ¬ (false = true) by decide)] at H
            replace H := ob H
            obtain ⟨t512, A45, H⟩ := H
            (try dsimp only at H)
            replace A45 := m0 A45
            replace H := ob H
            obtain ⟨t513, A46, H⟩ := H
            (try dsimp only at H)
            replace A46 := m0 A46
            have HC47 := m0 H
            clear H
            try go_wp2
            replace BK483 := bd BK483; replace BK484 := bd BK484; replace BK496 := bd BK496; replace BK501 := bd BK501; replace BK506 := bd BK506; replace HB := sd HB
            refine start_ (n := 8) (S := fun w' => w'.cell? ⟨gb483, 0, none⟩ = some (.int .i64 a1_0) ∧ w'.cell? ⟨gb483, 1, none⟩ = some (.int .i64 a1_1) ∧ w'.cell? ⟨gb483, 2, none⟩ = some (.int .i64 a1_2) ∧ w'.cell? ⟨gb484, 0, none⟩ = some (.int .i64 a2_0) ∧ w'.cell? ⟨gb484, 1, none⟩ = some (.int .i64 a2_1) ∧ w'.cell? ⟨gb484, 2, none⟩ = some (.int .i64 a2_2)) (ds := []) #[false, false, false, false, false, false, false, false] (by kernel_rfl) rfl rfl cz (fun hH => ?_); refine with_tabW Lw_TargetRotations.tab10 Lw_TargetRotations.bits10 (fun HT_ HW_ => ?_)
            generalize wc.drew = w48 at BK483 BK484 BK496 BK501 BK506 HB hH ⊢
            refine pZ 0 (some 72) #[true, false, false, false, false, false, false, false] HT_ ?_
            refine pZ 3 (some 75) #[true, false, false, true, false, false, false, false] HT_ ?_
            refine takeZ 1 (some 73) #[true, true, false, true, false, false, false, false] (take_ofW HT_.out HW_.out (by kernel_rfl)) hH ?_
            refine takeZ 4 (some 76) #[true, true, false, true, true, false, false, false] (take_ofW HT_.out HW_.out (by kernel_rfl)) hH ?_
            refine oneZ 2 (some 74) #[true, true, true, true, true, false, false, false] (one_of HT_.out (by kernel_rfl)) fun K hK => ?_
            refine gz Try.func28 #[.int .i64 a0, .agg #[.int .i64 a1_0, .int .i64 a1_1, .int .i64 a1_2]] ?_
            with_reducible refine (Rf_TurnedErr.calls kj10 a0 a1_0 a1_1 a1_2 t512 _ A45.out).mono ?_
            rintro e w49 ⟨rfl, hb⟩
            refine ⟨_, rfl, ?_⟩
            replace BK483 := bb BK483 hb; replace BK484 := bb BK484 hb; replace BK496 := bb BK496 hb; replace BK501 := bb BK501 hb; replace BK506 := bb BK506 hb; replace HB := sb HB hb
            (try clear hb)
            refine hK.out _ _ cz (fun hH => ?_)
            clear hK K
            refine norm_ (a' := ?_) ?_ ?_
            rotate_left
            · show Act.put _ (some 74) _ = _
              exact pz
            refine oneZ 5 (some 77) #[true, true, true, true, true, true, false, false] (one_of HT_.out (by kernel_rfl)) fun K hK => ?_
            refine gz Try.func28 #[.int .i64 a0, .agg #[.int .i64 a2_0, .int .i64 a2_1, .int .i64 a2_2]] ?_
            with_reducible refine (Rf_TurnedErr.calls kj10 a0 a2_0 a2_1 a2_2 t513 _ A46.out).mono ?_
            rintro e w50 ⟨rfl, hb⟩
            refine ⟨_, rfl, ?_⟩
            replace BK483 := bb BK483 hb; replace BK484 := bb BK484 hb; replace BK496 := bb BK496 hb; replace BK501 := bb BK501 hb; replace BK506 := bb BK506 hb; replace HB := sb HB hb
            (try clear hb)
            refine hK.out _ _ cz (fun hH => ?_)
            clear hK K
            refine norm_ (a' := ?_) ?_ ?_
            rotate_left
            · show Act.put _ (some 77) _ = _
              exact pz
            refine pZ 6 (some 13) #[true, true, true, true, true, true, true, false] HT_ ?_
            refine pZ 7 (some 14) #[true, true, true, true, true, true, true, true] HT_ ?_
            refine done_ (done_of HT_.out (by kernel_rfl)) ?_
            go_upto_region 11 with (fail)
            go_cut [133] (fun v133 wc => ∃ (kq : Nat) (x133_46 : Bool), v133 = .bool x133_46 ∧ Aside0 (Lw_TargetRotations.j1 kq t512 t513 x133_46 a1_0 a1_1 a1_2 a2_0 a2_1 a2_2 t497 t498 t499 t502 t503 t504 = some r) ∧ Aside0 (kq ≤ kj10) ∧ Aside0 (wc.heap[gb483]? = some (.cells #[.int .i64 a1_0, .int .i64 a1_1, .int .i64 a1_2] 44 (0, 0))) ∧ Aside0 (wc.heap[gb484]? = some (.cells #[.int .i64 a2_0, .int .i64 a2_1, .int .i64 a2_2] 44 (0, 0))) ∧ Aside0 (wc.heap[gb496]? = some (.cells #[.int .i64 t486, .int .i64 t487, .int .i64 t488, .int .i64 t489, .int .i64 t490, .int .i64 t491, .int .i64 t492, .int .i64 t493, .int .i64 t494] 45 (0, 0))) ∧ Aside0 (wc.heap[gb501]? = some (.cells #[.int .i64 t497, .int .i64 t498, .int .i64 t499] 44 (0, 0))) ∧ Aside0 (wc.heap[gb506]? = some (.cells #[.int .i64 t502, .int .i64 t503, .int .i64 t504] 44 (0, 0))) ∧ Aside0 (Below w.heap.size w wc))
            case first =>
              have H := HC47.out
              clear HC47
              by_cases c51 : t512 = 0
              · rw [if_pos c51] at H
                have c51b0 := beq_iff_eq.mpr c51
                have c51b1 := bne_eq_false_iff_eq.mpr c51
                clear c51
                (first | rw [c51b0] | (simp only [i64_w, i32_w]; rw [c51b0]) | skip)
                by_cases c52 : t513 = 0
                · rw [if_pos c52] at H
                  have c52b0 := beq_iff_eq.mpr c52
                  have c52b1 := bne_eq_false_iff_eq.mpr c52
                  clear c52
                  by_cases c53 : t500 = 0
                  · rw [if_pos c53] at H
                    have c53b0 := beq_iff_eq.mpr c53
                    have c53b1 := bne_eq_false_iff_eq.mpr c53
                    clear c53
                    replace H := ob H
                    obtain ⟨⟨t514, t515, t516⟩, A54, H⟩ := H
                    (try dsimp only at H)
                    replace A54 := m0 A54
                    by_cases c55 : (!(t497 == t514) || (!(t498 == t515) || (!(t499 == t516)))) = true
                    · rw [if_pos c55] at H
                      have c55b0 : (!(t497 == t514) || (!(t498 == t515) || (!(t499 == t516)))) = true := c55
                      clear c55
                      exact absurd H (by simp)
                    · rw [if_neg c55] at H
                      have c55b0 : (!(t497 == t514) || (!(t498 == t515) || (!(t499 == t516)))) = false := by simpa using c55
                      clear c55
                      by_cases c56 : t505 = 0
                      · rw [if_pos c56] at H
                        have c56b0 := beq_iff_eq.mpr c56
                        have c56b1 := bne_eq_false_iff_eq.mpr c56
                        clear c56
                        replace H := ob H
                        obtain ⟨⟨t517, t518, t519⟩, A57, H⟩ := H
                        (try dsimp only at H)
                        replace A57 := m0 A57
                        have H' := m0 H
                        clear H
                        try go_wp2
                        replace BK483 := bd BK483; replace BK484 := bd BK484; replace BK496 := bd BK496; replace BK501 := bd BK501; replace BK506 := bd BK506; replace HB := sd HB
                        refine start_ (n := 56) (S := fun w' => w'.cell? ⟨gb501, 0, none⟩ = some (.int .i64 t497) ∧ w'.cell? ⟨gb501, 1, none⟩ = some (.int .i64 t498) ∧ w'.cell? ⟨gb501, 2, none⟩ = some (.int .i64 t499) ∧ w'.cell? ⟨gb496, 0, none⟩ = some (.int .i64 t486) ∧ w'.cell? ⟨gb496, 1, none⟩ = some (.int .i64 t487) ∧ w'.cell? ⟨gb496, 2, none⟩ = some (.int .i64 t488) ∧ w'.cell? ⟨gb496, 3, none⟩ = some (.int .i64 t489) ∧ w'.cell? ⟨gb496, 4, none⟩ = some (.int .i64 t490) ∧ w'.cell? ⟨gb496, 5, none⟩ = some (.int .i64 t491) ∧ w'.cell? ⟨gb496, 6, none⟩ = some (.int .i64 t492) ∧ w'.cell? ⟨gb496, 7, none⟩ = some (.int .i64 t493) ∧ w'.cell? ⟨gb496, 8, none⟩ = some (.int .i64 t494) ∧ w'.cell? ⟨gb483, 0, none⟩ = some (.int .i64 a1_0) ∧ w'.cell? ⟨gb483, 1, none⟩ = some (.int .i64 a1_1) ∧ w'.cell? ⟨gb483, 2, none⟩ = some (.int .i64 a1_2) ∧ w'.cell? ⟨gb506, 0, none⟩ = some (.int .i64 t502) ∧ w'.cell? ⟨gb506, 1, none⟩ = some (.int .i64 t503) ∧ w'.cell? ⟨gb506, 2, none⟩ = some (.int .i64 t504) ∧ w'.cell? ⟨gb484, 0, none⟩ = some (.int .i64 a2_0) ∧ w'.cell? ⟨gb484, 1, none⟩ = some (.int .i64 a2_1) ∧ w'.cell? ⟨gb484, 2, none⟩ = some (.int .i64 a2_2)) (ds := []) #[false, false, false, false, false, false, false, false, false, false, false, false, false, false, false, false, false, false, false, false, false, false, false, false, false, false, false, false, false, false, false, false, false, false, false, false, false, false, false, false, false, false, false, false, false, false, false, false, false, false, false, false, false, false, false, false] (by kernel_rfl) rfl rfl cz (fun hH => ?_); refine with_tabW Lw_TargetRotations.tab11 Lw_TargetRotations.bits11 (fun HT_ HW_ => ?_)
                        generalize w50.drew = w58 at BK483 BK484 BK496 BK501 BK506 HB hH ⊢
                        refine pZ 0 (some 78) (bs 56 1) HT_ ?_
                        refine pZ 1 (some 79) (bs 56 3) HT_ ?_
                        refine pZ 2 (some 80) (bs 56 7) HT_ ?_
                        refine pure_ (i := 3) (N := some 81) (v := undef) (a' := ?_) (bs 56 15) rfl rfl (any_of HT_.out (by kernel_rfl)) (fun _ _ _ h => h) (Or.inr ⟨by rfl, rfl⟩) ?_ ?_
                        rotate_left
                        · exact pz
                        refine pure_ (i := 4) (N := some 82) (v := undef) (a' := ?_) (bs 56 31) rfl rfl (any_of HT_.out (by kernel_rfl)) (fun _ _ _ h => h) (Or.inr ⟨by rfl, rfl⟩) ?_ ?_
                        rotate_left
                        · exact pz
                        refine pure_ (i := 5) (N := some 83) (v := undef) (a' := ?_) (bs 56 63) rfl rfl (any_of HT_.out (by kernel_rfl)) (fun _ _ _ h => h) (Or.inr ⟨by rfl, rfl⟩) ?_ ?_
                        rotate_left
                        · exact pz
                        refine pure_ (i := 6) (N := some 84) (v := undef) (a' := ?_) (bs 56 127) rfl rfl (any_of HT_.out (by kernel_rfl)) (fun _ _ _ h => h) (Or.inr ⟨by rfl, rfl⟩) ?_ ?_
                        rotate_left
                        · exact pz
                        refine pure_ (i := 7) (N := some 85) (v := undef) (a' := ?_) (bs 56 255) rfl rfl (any_of HT_.out (by kernel_rfl)) (fun _ _ _ h => h) (Or.inr ⟨by rfl, rfl⟩) ?_ ?_
                        rotate_left
                        · exact pz
                        refine pure_ (i := 8) (N := some 86) (v := undef) (a' := ?_) (bs 56 511) rfl rfl (any_of HT_.out (by kernel_rfl)) (fun _ _ _ h => h) (Or.inr ⟨by rfl, rfl⟩) ?_ ?_
                        rotate_left
                        · exact pz
                        refine pure_ (i := 9) (N := some 87) (v := undef) (a' := ?_) (bs 56 1023) rfl rfl (any_of HT_.out (by kernel_rfl)) (fun _ _ _ h => h) (Or.inr ⟨by rfl, rfl⟩) ?_ ?_
                        rotate_left
                        · exact pz
                        refine pure_ (i := 10) (N := some 88) (v := undef) (a' := ?_) (bs 56 2047) rfl rfl (any_of HT_.out (by kernel_rfl)) (fun _ _ _ h => h) (Or.inr ⟨by rfl, rfl⟩) ?_ ?_
                        rotate_left
                        · exact pz
                        refine pZ 11 (some 89) (bs 56 4095) HT_ ?_
                        refine pZ 12 (some 90) (bs 56 8191) HT_ ?_
                        refine pZ 13 (some 91) (bs 56 16383) HT_ ?_
                        refine pZ 14 (some 92) (bs 56 32767) HT_ ?_
                        refine pZ 15 (some 93) (bs 56 65535) HT_ ?_
                        refine pure_ (i := 16) (N := some 94) (v := undef) (a' := ?_) (bs 56 131071) rfl rfl (any_of HT_.out (by kernel_rfl)) (fun _ _ _ h => h) (Or.inr ⟨by rfl, rfl⟩) ?_ ?_
                        rotate_left
                        · exact pz
                        refine pure_ (i := 17) (N := some 95) (v := undef) (a' := ?_) (bs 56 262143) rfl rfl (any_of HT_.out (by kernel_rfl)) (fun _ _ _ h => h) (Or.inr ⟨by rfl, rfl⟩) ?_ ?_
                        rotate_left
                        · exact pz
                        refine pure_ (i := 18) (N := some 96) (v := undef) (a' := ?_) (bs 56 524287) rfl rfl (any_of HT_.out (by kernel_rfl)) (fun _ _ _ h => h) (Or.inr ⟨by rfl, rfl⟩) ?_ ?_
                        rotate_left
                        · exact pz
                        refine pure_ (i := 19) (N := some 97) (v := undef) (a' := ?_) (bs 56 1048575) rfl rfl (any_of HT_.out (by kernel_rfl)) (fun _ _ _ h => h) (Or.inr ⟨by rfl, rfl⟩) ?_ ?_
                        rotate_left
                        · exact pz
                        refine pure_ (i := 20) (N := some 98) (v := undef) (a' := ?_) (bs 56 2097151) rfl rfl (any_of HT_.out (by kernel_rfl)) (fun _ _ _ h => h) (Or.inr ⟨by rfl, rfl⟩) ?_ ?_
                        rotate_left
                        · exact pz
                        refine pure_ (i := 21) (N := some 99) (v := undef) (a' := ?_) (bs 56 4194303) rfl rfl (any_of HT_.out (by kernel_rfl)) (fun _ _ _ h => h) (Or.inr ⟨by rfl, rfl⟩) ?_ ?_
                        rotate_left
                        · exact pz
                        refine pure_ (i := 22) (N := some 100) (v := undef) (a' := ?_) (bs 56 8388607) rfl rfl (any_of HT_.out (by kernel_rfl)) (fun _ _ _ h => h) (Or.inr ⟨by rfl, rfl⟩) ?_ ?_
                        rotate_left
                        · exact pz
                        refine pure_ (i := 23) (N := some 101) (v := undef) (a' := ?_) (bs 56 16777215) rfl rfl (any_of HT_.out (by kernel_rfl)) (fun _ _ _ h => h) (Or.inr ⟨by rfl, rfl⟩) ?_ ?_
                        rotate_left
                        · exact pz
                        refine pZ 24 (some 102) (bs 56 33554431) HT_ ?_
                        refine pZ 25 (some 103) (bs 56 67108863) HT_ ?_
                        refine pZ 26 (some 104) (bs 56 134217727) HT_ ?_
                        refine pZ 27 (some 105) (bs 56 268435455) HT_ ?_
                        refine pZ 28 (some 106) (bs 56 536870911) HT_ ?_
                        refine pZ 29 (some 107) (bs 56 1073741823) HT_ ?_
                        refine pZ 30 (some 108) (bs 56 2147483647) HT_ ?_
                        refine pZ 31 (some 109) (bs 56 4294967295) HT_ ?_
                        refine pZ 32 (some 110) (bs 56 8589934591) HT_ ?_
                        refine takeZ 33 (some 111) (bs 56 17179869183) (take_ofW HT_.out HW_.out (by kernel_rfl)) hH ?_
                        refine takeZ 34 (some 112) (bs 56 34359738367) (take_ofW HT_.out HW_.out (by kernel_rfl)) hH ?_
                        refine takeZ 35 (some 113) (bs 56 68719476735) (take_ofW HT_.out HW_.out (by kernel_rfl)) hH ?_
                        refine oneZ 36 (some 114) (bs 56 137438953471) (one_of HT_.out (by kernel_rfl)) fun K hK => ?_
                        refine gz Try.func29 #[.agg #[.int .i64 t486, .int .i64 t487, .int .i64 t488, .int .i64 t489, .int .i64 t490, .int .i64 t491, .int .i64 t492, .int .i64 t493, .int .i64 t494], .agg #[.int .i64 a1_0, .int .i64 a1_1, .int .i64 a1_2]] ?_
                        with_reducible refine (Rf_Turned.calls t486 t487 t488 t489 t490 t491 t492 t493 t494 a1_0 a1_1 a1_2 t514 t515 t516 _ A54.out).mono ?_
                        rintro e w59 ⟨rfl, hb⟩
                        refine ⟨_, rfl, ?_⟩
                        replace BK483 := bb BK483 hb; replace BK484 := bb BK484 hb; replace BK496 := bb BK496 hb; replace BK501 := bb BK501 hb; replace BK506 := bb BK506 hb; replace HB := sb HB hb
                        (try clear hb)
                        refine hK.out _ _ cz (fun hH => ?_)
                        clear hK K
                        refine norm_ (a' := ?_) ?_ ?_
                        rotate_left
                        · show Act.put _ (some 114) _ = _
                          exact pz
                        refine pZ 37 (some 115) (bs 56 274877906943) HT_ ?_
                        refine pZ 38 (some 116) (bs 56 549755813887) HT_ ?_
                        refine pZ 39 (some 117) (bs 56 1099511627775) HT_ ?_
                        refine pZ 40 (some 118) (bs 56 2199023255551) HT_ ?_
                        refine pZ 41 (some 119) (bs 56 4398046511103) HT_ ?_
                        refine pZ 42 (some 120) (bs 56 8796093022207) HT_ ?_
                        refine pZ 43 (some 121) (bs 56 17592186044415) HT_ ?_
                        refine pZ 44 (some 122) (bs 56 35184372088831) HT_ ?_
                        refine pZ 45 (some 123) (bs 56 70368744177663) HT_ ?_
                        refine pZ 46 (some 124) (bs 56 140737488355327) HT_ ?_
                        refine pZ 47 (some 125) (bs 56 281474976710655) HT_ ?_
                        refine takeZ 48 (some 126) (bs 56 562949953421311) (take_ofW HT_.out HW_.out (by kernel_rfl)) hH ?_
                        refine takeZ 49 (some 127) (bs 56 1125899906842623) (take_ofW HT_.out HW_.out (by kernel_rfl)) hH ?_
                        refine takeZ 50 (some 128) (bs 56 2251799813685247) (take_ofW HT_.out HW_.out (by kernel_rfl)) hH ?_
                        refine oneZ 51 (some 129) (bs 56 4503599627370495) (one_of HT_.out (by kernel_rfl)) fun K hK => ?_
                        refine gz Try.func29 #[.agg #[.int .i64 t486, .int .i64 t487, .int .i64 t488, .int .i64 t489, .int .i64 t490, .int .i64 t491, .int .i64 t492, .int .i64 t493, .int .i64 t494], .agg #[.int .i64 a2_0, .int .i64 a2_1, .int .i64 a2_2]] ?_
                        with_reducible refine (Rf_Turned.calls t486 t487 t488 t489 t490 t491 t492 t493 t494 a2_0 a2_1 a2_2 t517 t518 t519 _ A57.out).mono ?_
                        rintro e w60 ⟨rfl, hb⟩
                        refine ⟨_, rfl, ?_⟩
                        replace BK483 := bb BK483 hb; replace BK484 := bb BK484 hb; replace BK496 := bb BK496 hb; replace BK501 := bb BK501 hb; replace BK506 := bb BK506 hb; replace HB := sb HB hb
                        (try clear hb)
                        refine hK.out _ _ cz (fun hH => ?_)
                        clear hK K
                        refine norm_ (a' := ?_) ?_ ?_
                        rotate_left
                        · show Act.put _ (some 129) _ = _
                          exact pz
                        refine pZ 52 (some 130) (bs 56 9007199254740991) HT_ ?_
                        refine pZ 53 (some 131) (bs 56 18014398509481983) HT_ ?_
                        refine pZ 54 (some 132) (bs 56 36028797018963967) HT_ ?_
                        refine pZ 55 (some 133) (bs 56 72057594037927935) HT_ ?_
                        refine done_ (done_of HT_.out (by kernel_rfl)) ?_
                        try go_wp2
                        go_meet
                        case rel => exact ⟨_, ((!(t502 == t517) || (!(t503 == t518) || (!(t504 == t519))))), (by first | rfl | (simp; done) | (simp [*]; done)), H', ⟨by have := HJ10.out; first | omega | exact Nat.le_refl _⟩, ⟨bk BK483.out⟩, ⟨bk BK484.out⟩, ⟨bk BK496.out⟩, ⟨bk BK501.out⟩, ⟨bk BK506.out⟩, ⟨bz⟩⟩
                      · rw [if_neg c56] at H
                        have c56b0 := beq_eq_false_iff_ne.mpr c56
                        have c56b1 := bne_iff_ne.mpr c56
                        exact absurd H (by simp)
                  · rw [if_neg c53] at H
                    have c53b0 := beq_eq_false_iff_ne.mpr c53
                    have c53b1 := bne_iff_ne.mpr c53
                    exact absurd H (by simp)
                · rw [if_neg c52] at H
                  have c52b0 := beq_eq_false_iff_ne.mpr c52
                  have c52b1 := bne_iff_ne.mpr c52
                  by_cases c61 : t505 = t513
                  · rw [if_pos c61] at H
                    have c61b0 := beq_iff_eq.mpr c61
                    have c61b1 := bne_eq_false_iff_eq.mpr c61
                    clear c61
                    by_cases c62 : (!(t502 == 0) || (!(t503 == 0) || (!(t504 == 0)))) = true
                    · rw [if_pos c62] at H
                      have c62b0 : (!(t502 == 0) || (!(t503 == 0) || (!(t504 == 0)))) = true := c62
                      clear c62
                      exact absurd H (by simp)
                    · rw [if_neg c62] at H
                      have c62b0 : (!(t502 == 0) || (!(t503 == 0) || (!(t504 == 0)))) = false := by simpa using c62
                      clear c62
                      by_cases c63 : t500 = 0
                      · rw [if_pos c63] at H
                        have c63b0 := beq_iff_eq.mpr c63
                        have c63b1 := bne_eq_false_iff_eq.mpr c63
                        clear c63
                        replace H := ob H
                        obtain ⟨⟨t520, t521, t522⟩, A64, H⟩ := H
                        (try dsimp only at H)
                        replace A64 := m0 A64
                        by_cases c65 : (!(t497 == t520) || (!(t498 == t521) || (!(t499 == t522)))) = true
                        · rw [if_pos c65] at H
                          have c65b0 : (!(t497 == t520) || (!(t498 == t521) || (!(t499 == t522)))) = true := c65
                          clear c65
                          exact absurd H (by simp)
                        · rw [if_neg c65] at H
                          have c65b0 : (!(t497 == t520) || (!(t498 == t521) || (!(t499 == t522)))) = false := by simpa using c65
                          clear c65
                          have H' := m0 H
                          clear H
                          try go_wp2
                          replace BK483 := bd BK483; replace BK484 := bd BK484; replace BK496 := bd BK496; replace BK501 := bd BK501; replace BK506 := bd BK506; replace HB := sd HB
                          refine start_ (n := 56) (S := fun w' => w'.cell? ⟨gb506, 0, none⟩ = some (.int .i64 t502) ∧ w'.cell? ⟨gb506, 1, none⟩ = some (.int .i64 t503) ∧ w'.cell? ⟨gb506, 2, none⟩ = some (.int .i64 t504) ∧ w'.cell? ⟨gb501, 0, none⟩ = some (.int .i64 t497) ∧ w'.cell? ⟨gb501, 1, none⟩ = some (.int .i64 t498) ∧ w'.cell? ⟨gb501, 2, none⟩ = some (.int .i64 t499) ∧ w'.cell? ⟨gb496, 0, none⟩ = some (.int .i64 t486) ∧ w'.cell? ⟨gb496, 1, none⟩ = some (.int .i64 t487) ∧ w'.cell? ⟨gb496, 2, none⟩ = some (.int .i64 t488) ∧ w'.cell? ⟨gb496, 3, none⟩ = some (.int .i64 t489) ∧ w'.cell? ⟨gb496, 4, none⟩ = some (.int .i64 t490) ∧ w'.cell? ⟨gb496, 5, none⟩ = some (.int .i64 t491) ∧ w'.cell? ⟨gb496, 6, none⟩ = some (.int .i64 t492) ∧ w'.cell? ⟨gb496, 7, none⟩ = some (.int .i64 t493) ∧ w'.cell? ⟨gb496, 8, none⟩ = some (.int .i64 t494) ∧ w'.cell? ⟨gb483, 0, none⟩ = some (.int .i64 a1_0) ∧ w'.cell? ⟨gb483, 1, none⟩ = some (.int .i64 a1_1) ∧ w'.cell? ⟨gb483, 2, none⟩ = some (.int .i64 a1_2)) (ds := []) #[false, false, false, false, false, false, false, false, false, false, false, false, false, false, false, false, false, false, false, false, false, false, false, false, false, false, false, false, false, false, false, false, false, false, false, false, false, false, false, false, false, false, false, false, false, false, false, false, false, false, false, false, false, false, false, false] (by kernel_rfl) rfl rfl cz (fun hH => ?_); refine with_tabW Lw_TargetRotations.tab11 Lw_TargetRotations.bits11 (fun HT_ HW_ => ?_)
                          generalize w50.drew = w66 at BK483 BK484 BK496 BK501 BK506 HB hH ⊢
                          refine pZ 0 (some 78) (bs 56 1) HT_ ?_
                          refine pZ 1 (some 79) (bs 56 3) HT_ ?_
                          refine pZ 2 (some 80) (bs 56 7) HT_ ?_
                          refine pure_ (i := 3) (N := some 81) (v := undef) (a' := ?_) (bs 56 15) rfl rfl (any_of HT_.out (by kernel_rfl)) (fun _ _ _ h => h) (Or.inr ⟨by rfl, rfl⟩) ?_ ?_
                          rotate_left
                          · exact pz
                          refine pure_ (i := 4) (N := some 82) (v := undef) (a' := ?_) (bs 56 31) rfl rfl (any_of HT_.out (by kernel_rfl)) (fun _ _ _ h => h) (Or.inr ⟨by rfl, rfl⟩) ?_ ?_
                          rotate_left
                          · exact pz
                          refine pure_ (i := 5) (N := some 83) (v := undef) (a' := ?_) (bs 56 63) rfl rfl (any_of HT_.out (by kernel_rfl)) (fun _ _ _ h => h) (Or.inr ⟨by rfl, rfl⟩) ?_ ?_
                          rotate_left
                          · exact pz
                          refine pure_ (i := 6) (N := some 84) (v := undef) (a' := ?_) (bs 56 127) rfl rfl (any_of HT_.out (by kernel_rfl)) (fun _ _ _ h => h) (Or.inr ⟨by rfl, rfl⟩) ?_ ?_
                          rotate_left
                          · exact pz
                          refine pure_ (i := 7) (N := some 85) (v := undef) (a' := ?_) (bs 56 255) rfl rfl (any_of HT_.out (by kernel_rfl)) (fun _ _ _ h => h) (Or.inr ⟨by rfl, rfl⟩) ?_ ?_
                          rotate_left
                          · exact pz
                          refine pure_ (i := 8) (N := some 86) (v := undef) (a' := ?_) (bs 56 511) rfl rfl (any_of HT_.out (by kernel_rfl)) (fun _ _ _ h => h) (Or.inr ⟨by rfl, rfl⟩) ?_ ?_
                          rotate_left
                          · exact pz
                          refine pure_ (i := 9) (N := some 87) (v := undef) (a' := ?_) (bs 56 1023) rfl rfl (any_of HT_.out (by kernel_rfl)) (fun _ _ _ h => h) (Or.inr ⟨by rfl, rfl⟩) ?_ ?_
                          rotate_left
                          · exact pz
                          refine pure_ (i := 10) (N := some 88) (v := undef) (a' := ?_) (bs 56 2047) rfl rfl (any_of HT_.out (by kernel_rfl)) (fun _ _ _ h => h) (Or.inr ⟨by rfl, rfl⟩) ?_ ?_
                          rotate_left
                          · exact pz
                          refine pZ 11 (some 89) (bs 56 4095) HT_ ?_
                          refine pZ 12 (some 90) (bs 56 8191) HT_ ?_
                          refine pZ 13 (some 91) (bs 56 16383) HT_ ?_
                          refine pZ 14 (some 92) (bs 56 32767) HT_ ?_
                          refine pZ 15 (some 93) (bs 56 65535) HT_ ?_
                          refine pZ 16 (some 94) (bs 56 131071) HT_ ?_
                          refine pZ 17 (some 95) (bs 56 262143) HT_ ?_
                          refine pZ 18 (some 96) (bs 56 524287) HT_ ?_
                          refine pZ 19 (some 97) (bs 56 1048575) HT_ ?_
                          refine pZ 21 (some 99) (bs 56 3145727) HT_ ?_
                          refine takeZ 20 (some 98) (bs 56 4194303) (take_ofW HT_.out HW_.out (by kernel_rfl)) hH ?_
                          refine pZ 22 (some 100) (bs 56 8388607) HT_ ?_
                          refine pZ 23 (some 101) (bs 56 16777215) HT_ ?_
                          refine pZ 24 (some 102) (bs 56 33554431) HT_ ?_
                          refine pZ 25 (some 103) (bs 56 67108863) HT_ ?_
                          refine pZ 26 (some 104) (bs 56 134217727) HT_ ?_
                          refine pZ 27 (some 105) (bs 56 268435455) HT_ ?_
                          refine pZ 28 (some 106) (bs 56 536870911) HT_ ?_
                          refine pZ 29 (some 107) (bs 56 1073741823) HT_ ?_
                          refine pZ 30 (some 108) (bs 56 2147483647) HT_ ?_
                          refine pZ 31 (some 109) (bs 56 4294967295) HT_ ?_
                          refine pZ 32 (some 110) (bs 56 8589934591) HT_ ?_
                          refine takeZ 33 (some 111) (bs 56 17179869183) (take_ofW HT_.out HW_.out (by kernel_rfl)) hH ?_
                          refine takeZ 34 (some 112) (bs 56 34359738367) (take_ofW HT_.out HW_.out (by kernel_rfl)) hH ?_
                          refine takeZ 35 (some 113) (bs 56 68719476735) (take_ofW HT_.out HW_.out (by kernel_rfl)) hH ?_
                          refine oneZ 36 (some 114) (bs 56 137438953471) (one_of HT_.out (by kernel_rfl)) fun K hK => ?_
                          refine gz Try.func29 #[.agg #[.int .i64 t486, .int .i64 t487, .int .i64 t488, .int .i64 t489, .int .i64 t490, .int .i64 t491, .int .i64 t492, .int .i64 t493, .int .i64 t494], .agg #[.int .i64 a1_0, .int .i64 a1_1, .int .i64 a1_2]] ?_
                          with_reducible refine (Rf_Turned.calls t486 t487 t488 t489 t490 t491 t492 t493 t494 a1_0 a1_1 a1_2 t520 t521 t522 _ A64.out).mono ?_
                          rintro e w67 ⟨rfl, hb⟩
                          refine ⟨_, rfl, ?_⟩
                          replace BK483 := bb BK483 hb; replace BK484 := bb BK484 hb; replace BK496 := bb BK496 hb; replace BK501 := bb BK501 hb; replace BK506 := bb BK506 hb; replace HB := sb HB hb
                          (try clear hb)
                          refine hK.out _ _ cz (fun hH => ?_)
                          clear hK K
                          refine norm_ (a' := ?_) ?_ ?_
                          rotate_left
                          · show Act.put _ (some 114) _ = _
                            exact pz
                          refine pZ 37 (some 115) (bs 56 274877906943) HT_ ?_
                          refine pZ 38 (some 116) (bs 56 549755813887) HT_ ?_
                          refine pZ 39 (some 117) (bs 56 1099511627775) HT_ ?_
                          refine pZ 40 (some 118) (bs 56 2199023255551) HT_ ?_
                          refine pZ 41 (some 119) (bs 56 4398046511103) HT_ ?_
                          refine pZ 42 (some 120) (bs 56 8796093022207) HT_ ?_
                          refine pZ 43 (some 121) (bs 56 17592186044415) HT_ ?_
                          refine pZ 44 (some 122) (bs 56 35184372088831) HT_ ?_
                          refine pure_ (i := 45) (N := some 123) (v := undef) (a' := ?_) (bs 56 70368744177663) rfl rfl (any_of HT_.out (by kernel_rfl)) (fun _ _ _ h => h) (Or.inr ⟨by rfl, rfl⟩) ?_ ?_
                          rotate_left
                          · exact pz
                          refine pure_ (i := 46) (N := some 124) (v := undef) (a' := ?_) (bs 56 140737488355327) rfl rfl (any_of HT_.out (by kernel_rfl)) (fun _ _ _ h => h) (Or.inr ⟨by rfl, rfl⟩) ?_ ?_
                          rotate_left
                          · exact pz
                          refine pure_ (i := 47) (N := some 125) (v := undef) (a' := ?_) (bs 56 281474976710655) rfl rfl (any_of HT_.out (by kernel_rfl)) (fun _ _ _ h => h) (Or.inr ⟨by rfl, rfl⟩) ?_ ?_
                          rotate_left
                          · exact pz
                          refine pure_ (i := 48) (N := some 126) (v := undef) (a' := ?_) (bs 56 562949953421311) rfl rfl (any_of HT_.out (by kernel_rfl)) (fun _ _ _ h => h) (Or.inr ⟨by rfl, rfl⟩) ?_ ?_
                          rotate_left
                          · exact pz
                          refine pure_ (i := 49) (N := some 127) (v := undef) (a' := ?_) (bs 56 1125899906842623) rfl rfl (any_of HT_.out (by kernel_rfl)) (fun _ _ _ h => h) (Or.inr ⟨by rfl, rfl⟩) ?_ ?_
                          rotate_left
                          · exact pz
                          refine pure_ (i := 50) (N := some 128) (v := undef) (a' := ?_) (bs 56 2251799813685247) rfl rfl (any_of HT_.out (by kernel_rfl)) (fun _ _ _ h => h) (Or.inr ⟨by rfl, rfl⟩) ?_ ?_
                          rotate_left
                          · exact pz
                          refine pure_ (i := 51) (N := some 129) (v := undef) (a' := ?_) (bs 56 4503599627370495) rfl rfl (any_of HT_.out (by kernel_rfl)) (fun _ _ _ h => h) (Or.inr ⟨by rfl, rfl⟩) ?_ ?_
                          rotate_left
                          · exact pz
                          refine pure_ (i := 52) (N := some 130) (v := undef) (a' := ?_) (bs 56 9007199254740991) rfl rfl (any_of HT_.out (by kernel_rfl)) (fun _ _ _ h => h) (Or.inr ⟨by rfl, rfl⟩) ?_ ?_
                          rotate_left
                          · exact pz
                          refine pure_ (i := 53) (N := some 131) (v := undef) (a' := ?_) (bs 56 18014398509481983) rfl rfl (any_of HT_.out (by kernel_rfl)) (fun _ _ _ h => h) (Or.inr ⟨by rfl, rfl⟩) ?_ ?_
                          rotate_left
                          · exact pz
                          refine pZ 54 (some 132) (bs 56 36028797018963967) HT_ ?_
                          refine pZ 55 (some 133) (bs 56 72057594037927935) HT_ ?_
                          refine done_ (done_of HT_.out (by kernel_rfl)) ?_
                          try go_wp2
                          go_meet
                          case rel => exact ⟨_, (false), (by first | rfl | (simp; done) | (simp [*]; done)), H', ⟨by have := HJ10.out; first | omega | exact Nat.le_refl _⟩, ⟨bk BK483.out⟩, ⟨bk BK484.out⟩, ⟨bk BK496.out⟩, ⟨bk BK501.out⟩, ⟨bk BK506.out⟩, ⟨bz⟩⟩
                      · rw [if_neg c63] at H
                        have c63b0 := beq_eq_false_iff_ne.mpr c63
                        have c63b1 := bne_iff_ne.mpr c63
                        exact absurd H (by simp)
                  · rw [if_neg c61] at H
                    have c61b0 := beq_eq_false_iff_ne.mpr c61
                    have c61b1 := bne_iff_ne.mpr c61
                    exact absurd H (by simp)
              · rw [if_neg c51] at H
                have c51b0 := beq_eq_false_iff_ne.mpr c51
                have c51b1 := bne_iff_ne.mpr c51
                (first | rw [c51b0] | (simp only [i64_w, i32_w]; rw [c51b0]) | skip)
                by_cases c68 : t500 = t512
                · rw [if_pos c68] at H
                  have c68b0 := beq_iff_eq.mpr c68
                  have c68b1 := bne_eq_false_iff_eq.mpr c68
                  clear c68
                  by_cases c69 : (!(t497 == 0) || (!(t498 == 0) || (!(t499 == 0)))) = true
                  · rw [if_pos c69] at H
                    have c69b0 : (!(t497 == 0) || (!(t498 == 0) || (!(t499 == 0)))) = true := c69
                    clear c69
                    exact absurd H (by simp)
                  · rw [if_neg c69] at H
                    have c69b0 : (!(t497 == 0) || (!(t498 == 0) || (!(t499 == 0)))) = false := by simpa using c69
                    clear c69
                    by_cases c70 : t513 = 0
                    · rw [if_pos c70] at H
                      have c70b0 := beq_iff_eq.mpr c70
                      have c70b1 := bne_eq_false_iff_eq.mpr c70
                      clear c70
                      by_cases c71 : t505 = 0
                      · rw [if_pos c71] at H
                        have c71b0 := beq_iff_eq.mpr c71
                        have c71b1 := bne_eq_false_iff_eq.mpr c71
                        clear c71
                        replace H := ob H
                        obtain ⟨⟨t523, t524, t525⟩, A72, H⟩ := H
                        (try dsimp only at H)
                        replace A72 := m0 A72
                        have H' := m0 H
                        clear H
                        try go_wp2
                        replace BK483 := bd BK483; replace BK484 := bd BK484; replace BK496 := bd BK496; replace BK501 := bd BK501; replace BK506 := bd BK506; replace HB := sd HB
                        refine start_ (n := 56) (S := fun w' => w'.cell? ⟨gb501, 0, none⟩ = some (.int .i64 t497) ∧ w'.cell? ⟨gb501, 1, none⟩ = some (.int .i64 t498) ∧ w'.cell? ⟨gb501, 2, none⟩ = some (.int .i64 t499) ∧ w'.cell? ⟨gb506, 0, none⟩ = some (.int .i64 t502) ∧ w'.cell? ⟨gb506, 1, none⟩ = some (.int .i64 t503) ∧ w'.cell? ⟨gb506, 2, none⟩ = some (.int .i64 t504) ∧ w'.cell? ⟨gb496, 0, none⟩ = some (.int .i64 t486) ∧ w'.cell? ⟨gb496, 1, none⟩ = some (.int .i64 t487) ∧ w'.cell? ⟨gb496, 2, none⟩ = some (.int .i64 t488) ∧ w'.cell? ⟨gb496, 3, none⟩ = some (.int .i64 t489) ∧ w'.cell? ⟨gb496, 4, none⟩ = some (.int .i64 t490) ∧ w'.cell? ⟨gb496, 5, none⟩ = some (.int .i64 t491) ∧ w'.cell? ⟨gb496, 6, none⟩ = some (.int .i64 t492) ∧ w'.cell? ⟨gb496, 7, none⟩ = some (.int .i64 t493) ∧ w'.cell? ⟨gb496, 8, none⟩ = some (.int .i64 t494) ∧ w'.cell? ⟨gb484, 0, none⟩ = some (.int .i64 a2_0) ∧ w'.cell? ⟨gb484, 1, none⟩ = some (.int .i64 a2_1) ∧ w'.cell? ⟨gb484, 2, none⟩ = some (.int .i64 a2_2)) (ds := []) #[false, false, false, false, false, false, false, false, false, false, false, false, false, false, false, false, false, false, false, false, false, false, false, false, false, false, false, false, false, false, false, false, false, false, false, false, false, false, false, false, false, false, false, false, false, false, false, false, false, false, false, false, false, false, false, false] (by kernel_rfl) rfl rfl cz (fun hH => ?_); refine with_tabW Lw_TargetRotations.tab11 Lw_TargetRotations.bits11 (fun HT_ HW_ => ?_)
                        generalize w50.drew = w73 at BK483 BK484 BK496 BK501 BK506 HB hH ⊢
                        refine pZ 0 (some 78) (bs 56 1) HT_ ?_
                        refine pZ 1 (some 79) (bs 56 3) HT_ ?_
                        refine pZ 2 (some 80) (bs 56 7) HT_ ?_
                        refine pZ 3 (some 81) (bs 56 15) HT_ ?_
                        refine pZ 4 (some 82) (bs 56 31) HT_ ?_
                        refine pZ 5 (some 83) (bs 56 63) HT_ ?_
                        refine pZ 6 (some 84) (bs 56 127) HT_ ?_
                        refine pZ 8 (some 86) (bs 56 383) HT_ ?_
                        refine takeZ 7 (some 85) (bs 56 511) (take_ofW HT_.out HW_.out (by kernel_rfl)) hH ?_
                        refine pZ 9 (some 87) (bs 56 1023) HT_ ?_
                        refine pZ 10 (some 88) (bs 56 2047) HT_ ?_
                        refine pZ 11 (some 89) (bs 56 4095) HT_ ?_
                        refine pZ 12 (some 90) (bs 56 8191) HT_ ?_
                        refine pZ 13 (some 91) (bs 56 16383) HT_ ?_
                        refine pZ 14 (some 92) (bs 56 32767) HT_ ?_
                        refine pZ 15 (some 93) (bs 56 65535) HT_ ?_
                        refine pure_ (i := 16) (N := some 94) (v := undef) (a' := ?_) (bs 56 131071) rfl rfl (any_of HT_.out (by kernel_rfl)) (fun _ _ _ h => h) (Or.inr ⟨by rfl, rfl⟩) ?_ ?_
                        rotate_left
                        · exact pz
                        refine pure_ (i := 17) (N := some 95) (v := undef) (a' := ?_) (bs 56 262143) rfl rfl (any_of HT_.out (by kernel_rfl)) (fun _ _ _ h => h) (Or.inr ⟨by rfl, rfl⟩) ?_ ?_
                        rotate_left
                        · exact pz
                        refine pure_ (i := 18) (N := some 96) (v := undef) (a' := ?_) (bs 56 524287) rfl rfl (any_of HT_.out (by kernel_rfl)) (fun _ _ _ h => h) (Or.inr ⟨by rfl, rfl⟩) ?_ ?_
                        rotate_left
                        · exact pz
                        refine pure_ (i := 19) (N := some 97) (v := undef) (a' := ?_) (bs 56 1048575) rfl rfl (any_of HT_.out (by kernel_rfl)) (fun _ _ _ h => h) (Or.inr ⟨by rfl, rfl⟩) ?_ ?_
                        rotate_left
                        · exact pz
                        refine pure_ (i := 20) (N := some 98) (v := undef) (a' := ?_) (bs 56 2097151) rfl rfl (any_of HT_.out (by kernel_rfl)) (fun _ _ _ h => h) (Or.inr ⟨by rfl, rfl⟩) ?_ ?_
                        rotate_left
                        · exact pz
                        refine pure_ (i := 21) (N := some 99) (v := undef) (a' := ?_) (bs 56 4194303) rfl rfl (any_of HT_.out (by kernel_rfl)) (fun _ _ _ h => h) (Or.inr ⟨by rfl, rfl⟩) ?_ ?_
                        rotate_left
                        · exact pz
                        refine pure_ (i := 22) (N := some 100) (v := undef) (a' := ?_) (bs 56 8388607) rfl rfl (any_of HT_.out (by kernel_rfl)) (fun _ _ _ h => h) (Or.inr ⟨by rfl, rfl⟩) ?_ ?_
                        rotate_left
                        · exact pz
                        refine pure_ (i := 23) (N := some 101) (v := undef) (a' := ?_) (bs 56 16777215) rfl rfl (any_of HT_.out (by kernel_rfl)) (fun _ _ _ h => h) (Or.inr ⟨by rfl, rfl⟩) ?_ ?_
                        rotate_left
                        · exact pz
                        refine pZ 24 (some 102) (bs 56 33554431) HT_ ?_
                        refine pZ 25 (some 103) (bs 56 67108863) HT_ ?_
                        refine pZ 26 (some 104) (bs 56 134217727) HT_ ?_
                        refine pZ 27 (some 105) (bs 56 268435455) HT_ ?_
                        refine pZ 28 (some 106) (bs 56 536870911) HT_ ?_
                        refine pZ 29 (some 107) (bs 56 1073741823) HT_ ?_
                        refine pure_ (i := 30) (N := some 108) (v := undef) (a' := ?_) (bs 56 2147483647) rfl rfl (any_of HT_.out (by kernel_rfl)) (fun _ _ _ h => h) (Or.inr ⟨by rfl, rfl⟩) ?_ ?_
                        rotate_left
                        · exact pz
                        refine pure_ (i := 31) (N := some 109) (v := undef) (a' := ?_) (bs 56 4294967295) rfl rfl (any_of HT_.out (by kernel_rfl)) (fun _ _ _ h => h) (Or.inr ⟨by rfl, rfl⟩) ?_ ?_
                        rotate_left
                        · exact pz
                        refine pure_ (i := 32) (N := some 110) (v := undef) (a' := ?_) (bs 56 8589934591) rfl rfl (any_of HT_.out (by kernel_rfl)) (fun _ _ _ h => h) (Or.inr ⟨by rfl, rfl⟩) ?_ ?_
                        rotate_left
                        · exact pz
                        refine pure_ (i := 33) (N := some 111) (v := undef) (a' := ?_) (bs 56 17179869183) rfl rfl (any_of HT_.out (by kernel_rfl)) (fun _ _ _ h => h) (Or.inr ⟨by rfl, rfl⟩) ?_ ?_
                        rotate_left
                        · exact pz
                        refine pure_ (i := 34) (N := some 112) (v := undef) (a' := ?_) (bs 56 34359738367) rfl rfl (any_of HT_.out (by kernel_rfl)) (fun _ _ _ h => h) (Or.inr ⟨by rfl, rfl⟩) ?_ ?_
                        rotate_left
                        · exact pz
                        refine pure_ (i := 35) (N := some 113) (v := undef) (a' := ?_) (bs 56 68719476735) rfl rfl (any_of HT_.out (by kernel_rfl)) (fun _ _ _ h => h) (Or.inr ⟨by rfl, rfl⟩) ?_ ?_
                        rotate_left
                        · exact pz
                        refine pure_ (i := 36) (N := some 114) (v := undef) (a' := ?_) (bs 56 137438953471) rfl rfl (any_of HT_.out (by kernel_rfl)) (fun _ _ _ h => h) (Or.inr ⟨by rfl, rfl⟩) ?_ ?_
                        rotate_left
                        · exact pz
                        refine pure_ (i := 37) (N := some 115) (v := undef) (a' := ?_) (bs 56 274877906943) rfl rfl (any_of HT_.out (by kernel_rfl)) (fun _ _ _ h => h) (Or.inr ⟨by rfl, rfl⟩) ?_ ?_
                        rotate_left
                        · exact pz
                        refine pure_ (i := 38) (N := some 116) (v := undef) (a' := ?_) (bs 56 549755813887) rfl rfl (any_of HT_.out (by kernel_rfl)) (fun _ _ _ h => h) (Or.inr ⟨by rfl, rfl⟩) ?_ ?_
                        rotate_left
                        · exact pz
                        refine pZ 39 (some 117) (bs 56 1099511627775) HT_ ?_
                        refine pZ 40 (some 118) (bs 56 2199023255551) HT_ ?_
                        refine pZ 41 (some 119) (bs 56 4398046511103) HT_ ?_
                        refine pZ 42 (some 120) (bs 56 8796093022207) HT_ ?_
                        refine pZ 43 (some 121) (bs 56 17592186044415) HT_ ?_
                        refine pZ 44 (some 122) (bs 56 35184372088831) HT_ ?_
                        refine pZ 45 (some 123) (bs 56 70368744177663) HT_ ?_
                        refine pZ 46 (some 124) (bs 56 140737488355327) HT_ ?_
                        refine pZ 47 (some 125) (bs 56 281474976710655) HT_ ?_
                        refine takeZ 48 (some 126) (bs 56 562949953421311) (take_ofW HT_.out HW_.out (by kernel_rfl)) hH ?_
                        refine takeZ 49 (some 127) (bs 56 1125899906842623) (take_ofW HT_.out HW_.out (by kernel_rfl)) hH ?_
                        refine takeZ 50 (some 128) (bs 56 2251799813685247) (take_ofW HT_.out HW_.out (by kernel_rfl)) hH ?_
                        refine oneZ 51 (some 129) (bs 56 4503599627370495) (one_of HT_.out (by kernel_rfl)) fun K hK => ?_
                        refine gz Try.func29 #[.agg #[.int .i64 t486, .int .i64 t487, .int .i64 t488, .int .i64 t489, .int .i64 t490, .int .i64 t491, .int .i64 t492, .int .i64 t493, .int .i64 t494], .agg #[.int .i64 a2_0, .int .i64 a2_1, .int .i64 a2_2]] ?_
                        with_reducible refine (Rf_Turned.calls t486 t487 t488 t489 t490 t491 t492 t493 t494 a2_0 a2_1 a2_2 t523 t524 t525 _ A72.out).mono ?_
                        rintro e w74 ⟨rfl, hb⟩
                        refine ⟨_, rfl, ?_⟩
                        replace BK483 := bb BK483 hb; replace BK484 := bb BK484 hb; replace BK496 := bb BK496 hb; replace BK501 := bb BK501 hb; replace BK506 := bb BK506 hb; replace HB := sb HB hb
                        (try clear hb)
                        refine hK.out _ _ cz (fun hH => ?_)
                        clear hK K
                        refine norm_ (a' := ?_) ?_ ?_
                        rotate_left
                        · show Act.put _ (some 129) _ = _
                          exact pz
                        refine pZ 52 (some 130) (bs 56 9007199254740991) HT_ ?_
                        refine pZ 53 (some 131) (bs 56 18014398509481983) HT_ ?_
                        refine pZ 54 (some 132) (bs 56 36028797018963967) HT_ ?_
                        refine pZ 55 (some 133) (bs 56 72057594037927935) HT_ ?_
                        refine done_ (done_of HT_.out (by kernel_rfl)) ?_
                        try go_wp2
                        go_meet
                        case rel => exact ⟨_, ((!(t502 == t523) || (!(t503 == t524) || (!(t504 == t525))))), (by first | rfl | (simp; done) | (simp [*]; done)), H', ⟨by have := HJ10.out; first | omega | exact Nat.le_refl _⟩, ⟨bk BK483.out⟩, ⟨bk BK484.out⟩, ⟨bk BK496.out⟩, ⟨bk BK501.out⟩, ⟨bk BK506.out⟩, ⟨bz⟩⟩
                      · rw [if_neg c71] at H
                        have c71b0 := beq_eq_false_iff_ne.mpr c71
                        have c71b1 := bne_iff_ne.mpr c71
                        exact absurd H (by simp)
                    · rw [if_neg c70] at H
                      have c70b0 := beq_eq_false_iff_ne.mpr c70
                      have c70b1 := bne_iff_ne.mpr c70
                      by_cases c75 : t505 = t513
                      · rw [if_pos c75] at H
                        have c75b0 := beq_iff_eq.mpr c75
                        have c75b1 := bne_eq_false_iff_eq.mpr c75
                        clear c75
                        by_cases c76 : (!(t502 == 0) || (!(t503 == 0) || (!(t504 == 0)))) = true
                        · rw [if_pos c76] at H
                          have c76b0 : (!(t502 == 0) || (!(t503 == 0) || (!(t504 == 0)))) = true := c76
                          clear c76
                          exact absurd H (by simp)
                        · rw [if_neg c76] at H
                          have c76b0 : (!(t502 == 0) || (!(t503 == 0) || (!(t504 == 0)))) = false := by simpa using c76
                          clear c76
                          have H' := m0 H
                          clear H
                          try go_wp2
                          replace BK483 := bd BK483; replace BK484 := bd BK484; replace BK496 := bd BK496; replace BK501 := bd BK501; replace BK506 := bd BK506; replace HB := sd HB
                          refine start_ (n := 56) (S := fun w' => w'.cell? ⟨gb501, 0, none⟩ = some (.int .i64 t497) ∧ w'.cell? ⟨gb501, 1, none⟩ = some (.int .i64 t498) ∧ w'.cell? ⟨gb501, 2, none⟩ = some (.int .i64 t499) ∧ w'.cell? ⟨gb506, 0, none⟩ = some (.int .i64 t502) ∧ w'.cell? ⟨gb506, 1, none⟩ = some (.int .i64 t503) ∧ w'.cell? ⟨gb506, 2, none⟩ = some (.int .i64 t504)) (ds := []) #[false, false, false, false, false, false, false, false, false, false, false, false, false, false, false, false, false, false, false, false, false, false, false, false, false, false, false, false, false, false, false, false, false, false, false, false, false, false, false, false, false, false, false, false, false, false, false, false, false, false, false, false, false, false, false, false] (by kernel_rfl) rfl rfl cz (fun hH => ?_); refine with_tabW Lw_TargetRotations.tab11 Lw_TargetRotations.bits11 (fun HT_ HW_ => ?_)
                          generalize w50.drew = w77 at BK483 BK484 BK496 BK501 BK506 HB hH ⊢
                          refine pZ 0 (some 78) (bs 56 1) HT_ ?_
                          refine pZ 1 (some 79) (bs 56 3) HT_ ?_
                          refine pZ 2 (some 80) (bs 56 7) HT_ ?_
                          refine pZ 3 (some 81) (bs 56 15) HT_ ?_
                          refine pZ 4 (some 82) (bs 56 31) HT_ ?_
                          refine pZ 5 (some 83) (bs 56 63) HT_ ?_
                          refine pZ 6 (some 84) (bs 56 127) HT_ ?_
                          refine pZ 8 (some 86) (bs 56 383) HT_ ?_
                          refine takeZ 7 (some 85) (bs 56 511) (take_ofW HT_.out HW_.out (by kernel_rfl)) hH ?_
                          refine pZ 9 (some 87) (bs 56 1023) HT_ ?_
                          refine pZ 10 (some 88) (bs 56 2047) HT_ ?_
                          refine pZ 11 (some 89) (bs 56 4095) HT_ ?_
                          refine pZ 12 (some 90) (bs 56 8191) HT_ ?_
                          refine pZ 13 (some 91) (bs 56 16383) HT_ ?_
                          refine pZ 14 (some 92) (bs 56 32767) HT_ ?_
                          refine pZ 15 (some 93) (bs 56 65535) HT_ ?_
                          refine pZ 16 (some 94) (bs 56 131071) HT_ ?_
                          refine pZ 17 (some 95) (bs 56 262143) HT_ ?_
                          refine pZ 18 (some 96) (bs 56 524287) HT_ ?_
                          refine pZ 19 (some 97) (bs 56 1048575) HT_ ?_
                          refine pZ 21 (some 99) (bs 56 3145727) HT_ ?_
                          refine takeZ 20 (some 98) (bs 56 4194303) (take_ofW HT_.out HW_.out (by kernel_rfl)) hH ?_
                          refine pZ 22 (some 100) (bs 56 8388607) HT_ ?_
                          refine pZ 23 (some 101) (bs 56 16777215) HT_ ?_
                          refine pZ 24 (some 102) (bs 56 33554431) HT_ ?_
                          refine pZ 25 (some 103) (bs 56 67108863) HT_ ?_
                          refine pZ 26 (some 104) (bs 56 134217727) HT_ ?_
                          refine pZ 27 (some 105) (bs 56 268435455) HT_ ?_
                          refine pZ 28 (some 106) (bs 56 536870911) HT_ ?_
                          refine pZ 29 (some 107) (bs 56 1073741823) HT_ ?_
                          refine pure_ (i := 30) (N := some 108) (v := undef) (a' := ?_) (bs 56 2147483647) rfl rfl (any_of HT_.out (by kernel_rfl)) (fun _ _ _ h => h) (Or.inr ⟨by rfl, rfl⟩) ?_ ?_
                          rotate_left
                          · exact pz
                          refine pure_ (i := 31) (N := some 109) (v := undef) (a' := ?_) (bs 56 4294967295) rfl rfl (any_of HT_.out (by kernel_rfl)) (fun _ _ _ h => h) (Or.inr ⟨by rfl, rfl⟩) ?_ ?_
                          rotate_left
                          · exact pz
                          refine pure_ (i := 32) (N := some 110) (v := undef) (a' := ?_) (bs 56 8589934591) rfl rfl (any_of HT_.out (by kernel_rfl)) (fun _ _ _ h => h) (Or.inr ⟨by rfl, rfl⟩) ?_ ?_
                          rotate_left
                          · exact pz
                          refine pure_ (i := 33) (N := some 111) (v := undef) (a' := ?_) (bs 56 17179869183) rfl rfl (any_of HT_.out (by kernel_rfl)) (fun _ _ _ h => h) (Or.inr ⟨by rfl, rfl⟩) ?_ ?_
                          rotate_left
                          · exact pz
                          refine pure_ (i := 34) (N := some 112) (v := undef) (a' := ?_) (bs 56 34359738367) rfl rfl (any_of HT_.out (by kernel_rfl)) (fun _ _ _ h => h) (Or.inr ⟨by rfl, rfl⟩) ?_ ?_
                          rotate_left
                          · exact pz
                          refine pure_ (i := 35) (N := some 113) (v := undef) (a' := ?_) (bs 56 68719476735) rfl rfl (any_of HT_.out (by kernel_rfl)) (fun _ _ _ h => h) (Or.inr ⟨by rfl, rfl⟩) ?_ ?_
                          rotate_left
                          · exact pz
                          refine pure_ (i := 36) (N := some 114) (v := undef) (a' := ?_) (bs 56 137438953471) rfl rfl (any_of HT_.out (by kernel_rfl)) (fun _ _ _ h => h) (Or.inr ⟨by rfl, rfl⟩) ?_ ?_
                          rotate_left
                          · exact pz
                          refine pure_ (i := 37) (N := some 115) (v := undef) (a' := ?_) (bs 56 274877906943) rfl rfl (any_of HT_.out (by kernel_rfl)) (fun _ _ _ h => h) (Or.inr ⟨by rfl, rfl⟩) ?_ ?_
                          rotate_left
                          · exact pz
                          refine pure_ (i := 38) (N := some 116) (v := undef) (a' := ?_) (bs 56 549755813887) rfl rfl (any_of HT_.out (by kernel_rfl)) (fun _ _ _ h => h) (Or.inr ⟨by rfl, rfl⟩) ?_ ?_
                          rotate_left
                          · exact pz
                          refine pZ 39 (some 117) (bs 56 1099511627775) HT_ ?_
                          refine pZ 40 (some 118) (bs 56 2199023255551) HT_ ?_
                          refine pZ 41 (some 119) (bs 56 4398046511103) HT_ ?_
                          refine pZ 42 (some 120) (bs 56 8796093022207) HT_ ?_
                          refine pZ 43 (some 121) (bs 56 17592186044415) HT_ ?_
                          refine pZ 44 (some 122) (bs 56 35184372088831) HT_ ?_
                          refine pure_ (i := 45) (N := some 123) (v := undef) (a' := ?_) (bs 56 70368744177663) rfl rfl (any_of HT_.out (by kernel_rfl)) (fun _ _ _ h => h) (Or.inr ⟨by rfl, rfl⟩) ?_ ?_
                          rotate_left
                          · exact pz
                          refine pure_ (i := 46) (N := some 124) (v := undef) (a' := ?_) (bs 56 140737488355327) rfl rfl (any_of HT_.out (by kernel_rfl)) (fun _ _ _ h => h) (Or.inr ⟨by rfl, rfl⟩) ?_ ?_
                          rotate_left
                          · exact pz
                          refine pure_ (i := 47) (N := some 125) (v := undef) (a' := ?_) (bs 56 281474976710655) rfl rfl (any_of HT_.out (by kernel_rfl)) (fun _ _ _ h => h) (Or.inr ⟨by rfl, rfl⟩) ?_ ?_
                          rotate_left
                          · exact pz
                          refine pure_ (i := 48) (N := some 126) (v := undef) (a' := ?_) (bs 56 562949953421311) rfl rfl (any_of HT_.out (by kernel_rfl)) (fun _ _ _ h => h) (Or.inr ⟨by rfl, rfl⟩) ?_ ?_
                          rotate_left
                          · exact pz
                          refine pure_ (i := 49) (N := some 127) (v := undef) (a' := ?_) (bs 56 1125899906842623) rfl rfl (any_of HT_.out (by kernel_rfl)) (fun _ _ _ h => h) (Or.inr ⟨by rfl, rfl⟩) ?_ ?_
                          rotate_left
                          · exact pz
                          refine pure_ (i := 50) (N := some 128) (v := undef) (a' := ?_) (bs 56 2251799813685247) rfl rfl (any_of HT_.out (by kernel_rfl)) (fun _ _ _ h => h) (Or.inr ⟨by rfl, rfl⟩) ?_ ?_
                          rotate_left
                          · exact pz
                          refine pure_ (i := 51) (N := some 129) (v := undef) (a' := ?_) (bs 56 4503599627370495) rfl rfl (any_of HT_.out (by kernel_rfl)) (fun _ _ _ h => h) (Or.inr ⟨by rfl, rfl⟩) ?_ ?_
                          rotate_left
                          · exact pz
                          refine pure_ (i := 52) (N := some 130) (v := undef) (a' := ?_) (bs 56 9007199254740991) rfl rfl (any_of HT_.out (by kernel_rfl)) (fun _ _ _ h => h) (Or.inr ⟨by rfl, rfl⟩) ?_ ?_
                          rotate_left
                          · exact pz
                          refine pure_ (i := 53) (N := some 131) (v := undef) (a' := ?_) (bs 56 18014398509481983) rfl rfl (any_of HT_.out (by kernel_rfl)) (fun _ _ _ h => h) (Or.inr ⟨by rfl, rfl⟩) ?_ ?_
                          rotate_left
                          · exact pz
                          refine pZ 54 (some 132) (bs 56 36028797018963967) HT_ ?_
                          refine pZ 55 (some 133) (bs 56 72057594037927935) HT_ ?_
                          refine done_ (done_of HT_.out (by kernel_rfl)) ?_
                          try go_wp2
                          go_meet
                          case rel => exact ⟨_, (false), (by first | rfl | (simp; done) | (simp [*]; done)), H', ⟨by have := HJ10.out; first | omega | exact Nat.le_refl _⟩, ⟨bk BK483.out⟩, ⟨bk BK484.out⟩, ⟨bk BK496.out⟩, ⟨bk BK501.out⟩, ⟨bk BK506.out⟩, ⟨bz⟩⟩
                      · rw [if_neg c75] at H
                        have c75b0 := beq_eq_false_iff_ne.mpr c75
                        have c75b1 := bne_iff_ne.mpr c75
                        exact absurd H (by simp)
                · rw [if_neg c68] at H
                  have c68b0 := beq_eq_false_iff_ne.mpr c68
                  have c68b1 := bne_iff_ne.mpr c68
                  exact absurd H (by simp)
            case rest =>
              as_aux_lemma =>
              clear HC47
              obtain ⟨kq, x133_46, rfl, HA, HJ46, BK483, BK484, BK496, BK501, BK506, HB⟩ := hcut
              cases kq with
              | zero => exact absurd HA.out (by simp [Lw_TargetRotations.j1])
              | succ kj46 =>
                have H := HA.out
                clear HA
                simp only [Lw_TargetRotations.j1] at H
                by_cases c78 : x133_46 = true
                · subst c78
                  rw [if_pos rfl] at H
                  exact absurd H (by simp)
                · replace c78 := Bool.eq_false_iff.mpr c78
                  subst c78
                  rw [if_neg (show ¬ (false = true) by decide)] at H
                  by_cases c79 : t512 = 0
                  · rw [if_pos c79] at H
                    have c79b0 := beq_iff_eq.mpr c79
                    have c79b1 := bne_eq_false_iff_eq.mpr c79
                    clear c79
                    by_cases c80 : t513 = 0
                    · rw [if_pos c80] at H
                      have c80b0 := beq_iff_eq.mpr c80
                      have c80b1 := bne_eq_false_iff_eq.mpr c80
                      clear c80
                      by_cases c81 : (wrap64 ((wrap64 ((wrap64 (t497 * t502)) + (wrap64 (t498 * t503)))) + (wrap64 (t499 * t504)))) = (wrap64 ((wrap64 ((wrap64 (a1_0 * a2_0)) + (wrap64 (a1_1 * a2_1)))) + (wrap64 (a1_2 * a2_2))))
                      · rw [if_pos c81] at H
                        have c81b0 := beq_iff_eq.mpr c81
                        have c81b1 := bne_eq_false_iff_eq.mpr c81
                        clear c81
                        obtain rfl := Option.some.inj H
                        try go_wp2
                        replace BK483 := bd BK483; replace BK484 := bd BK484; replace BK496 := bd BK496; replace BK501 := bd BK501; replace BK506 := bd BK506; replace HB := sd HB
                        refine start_ (n := 45) (S := fun w' => w'.cell? ⟨gb501, 0, none⟩ = some (.int .i64 t497) ∧ w'.cell? ⟨gb501, 1, none⟩ = some (.int .i64 t498) ∧ w'.cell? ⟨gb501, 2, none⟩ = some (.int .i64 t499) ∧ w'.cell? ⟨gb506, 0, none⟩ = some (.int .i64 t502) ∧ w'.cell? ⟨gb506, 1, none⟩ = some (.int .i64 t503) ∧ w'.cell? ⟨gb506, 2, none⟩ = some (.int .i64 t504) ∧ w'.cell? ⟨gb483, 0, none⟩ = some (.int .i64 a1_0) ∧ w'.cell? ⟨gb483, 1, none⟩ = some (.int .i64 a1_1) ∧ w'.cell? ⟨gb483, 2, none⟩ = some (.int .i64 a1_2) ∧ w'.cell? ⟨gb484, 0, none⟩ = some (.int .i64 a2_0) ∧ w'.cell? ⟨gb484, 1, none⟩ = some (.int .i64 a2_1) ∧ w'.cell? ⟨gb484, 2, none⟩ = some (.int .i64 a2_2)) (ds := []) #[false, false, false, false, false, false, false, false, false, false, false, false, false, false, false, false, false, false, false, false, false, false, false, false, false, false, false, false, false, false, false, false, false, false, false, false, false, false, false, false, false, false, false, false, false] (by kernel_rfl) rfl rfl cz (fun hH => ?_); refine with_tabW Lw_TargetRotations.tab15 Lw_TargetRotations.bits15 (fun HT_ HW_ => ?_)
                        generalize wc.drew = w82 at BK483 BK484 BK496 BK501 BK506 HB hH ⊢
                        refine pZ 0 (some 140) (bs 45 1) HT_ ?_
                        refine pZ 2 (some 142) (bs 45 5) HT_ ?_
                        refine pZ 5 (some 145) (bs 45 37) HT_ ?_
                        refine pZ 7 (some 147) (bs 45 165) HT_ ?_
                        refine pZ 11 (some 151) (bs 45 2213) HT_ ?_
                        refine pZ 13 (some 153) (bs 45 10405) HT_ ?_
                        refine pZ 17 (some 157) (bs 45 141477) HT_ ?_
                        refine pZ 19 (some 159) (bs 45 665765) HT_ ?_
                        refine pZ 22 (some 162) (bs 45 4860069) HT_ ?_
                        refine pZ 24 (some 164) (bs 45 21637285) HT_ ?_
                        refine pZ 28 (some 168) (bs 45 290072741) HT_ ?_
                        refine pZ 30 (some 170) (bs 45 1363814565) HT_ ?_
                        refine takeZ 1 (some 141) (bs 45 1363814567) (take_ofW HT_.out HW_.out (by kernel_rfl)) hH ?_
                        refine takeZ 3 (some 143) (bs 45 1363814575) (take_ofW HT_.out HW_.out (by kernel_rfl)) hH ?_
                        refine pZ 4 (some 144) (bs 45 1363814591) HT_ ?_
                        refine takeZ 6 (some 146) (bs 45 1363814655) (take_ofW HT_.out HW_.out (by kernel_rfl)) hH ?_
                        refine takeZ 8 (some 148) (bs 45 1363814911) (take_ofW HT_.out HW_.out (by kernel_rfl)) hH ?_
                        refine pZ 9 (some 149) (bs 45 1363815423) HT_ ?_
                        refine pZ 10 (some 150) (bs 45 1363816447) HT_ ?_
                        refine takeZ 12 (some 152) (bs 45 1363820543) (take_ofW HT_.out HW_.out (by kernel_rfl)) hH ?_
                        refine takeZ 14 (some 154) (bs 45 1363836927) (take_ofW HT_.out HW_.out (by kernel_rfl)) hH ?_
                        refine pZ 15 (some 155) (bs 45 1363869695) HT_ ?_
                        refine pZ 16 (some 156) (bs 45 1363935231) HT_ ?_
                        refine takeZ 18 (some 158) (bs 45 1364197375) (take_ofW HT_.out HW_.out (by kernel_rfl)) hH ?_
                        refine takeZ 20 (some 160) (bs 45 1365245951) (take_ofW HT_.out HW_.out (by kernel_rfl)) hH ?_
                        refine pZ 21 (some 161) (bs 45 1367343103) HT_ ?_
                        refine takeZ 23 (some 163) (bs 45 1375731711) (take_ofW HT_.out HW_.out (by kernel_rfl)) hH ?_
                        refine takeZ 25 (some 165) (bs 45 1409286143) (take_ofW HT_.out HW_.out (by kernel_rfl)) hH ?_
                        refine pZ 26 (some 166) (bs 45 1476395007) HT_ ?_
                        refine pZ 27 (some 167) (bs 45 1610612735) HT_ ?_
                        refine takeZ 29 (some 169) (bs 45 2147483647) (take_ofW HT_.out HW_.out (by kernel_rfl)) hH ?_
                        refine takeZ 31 (some 171) (bs 45 4294967295) (take_ofW HT_.out HW_.out (by kernel_rfl)) hH ?_
                        refine pZ 32 (some 172) (bs 45 8589934591) HT_ ?_
                        refine pZ 33 (some 173) (bs 45 17179869183) HT_ ?_
                        refine pZ 34 (some 174) (bs 45 34359738367) HT_ ?_
                        refine pZ 35 (some 175) (bs 45 68719476735) HT_ ?_
                        refine takeZ 36 (some 176) (bs 45 137438953471) (take_ofW HT_.out HW_.out (by kernel_rfl)) hH ?_
                        refine takeZ 37 (some 177) (bs 45 274877906943) (take_ofW HT_.out HW_.out (by kernel_rfl)) hH ?_
                        refine pZ 38 (some 178) (bs 45 549755813887) HT_ ?_
                        refine takeZ 39 (some 179) (bs 45 1099511627775) (take_ofW HT_.out HW_.out (by kernel_rfl)) hH ?_
                        refine takeZ 40 (some 180) (bs 45 2199023255551) (take_ofW HT_.out HW_.out (by kernel_rfl)) hH ?_
                        refine pZ 41 (some 181) (bs 45 4398046511103) HT_ ?_
                        refine pZ 42 (some 182) (bs 45 8796093022207) HT_ ?_
                        refine pZ 43 (some 183) (bs 45 17592186044415) HT_ ?_
                        refine pZ 44 (some 6) (bs 45 35184372088831) HT_ ?_
                        refine done_ (done_of HT_.out (by kernel_rfl)) ?_
                        try go_wp2
                        go_ret
                        exact ez
                      · rw [if_neg c81] at H
                        have c81b0 := beq_eq_false_iff_ne.mpr c81
                        have c81b1 := bne_iff_ne.mpr c81
                        exact absurd H (by simp)
                    · rw [if_neg c80] at H
                      have c80b0 := beq_eq_false_iff_ne.mpr c80
                      have c80b1 := bne_iff_ne.mpr c80
                      obtain rfl := Option.some.inj H
                      go_wp2
                      go_ret
                      exact ez
                  · rw [if_neg c79] at H
                    have c79b0 := beq_eq_false_iff_ne.mpr c79
                    have c79b1 := bne_iff_ne.mpr c79
                    obtain rfl := Option.some.inj H
                    go_wp2
                    go_ret
                    exact ez
    · replace c10 := Bool.eq_false_iff.mpr c10
      subst c10
      rw [if_neg (show ¬ (false = true) by decide)] at H
      by_cases c83 : t495 = 2
      · rw [if_pos c83] at H
        have c83b0 := beq_iff_eq.mpr c83
        have c83b1 := bne_eq_false_iff_eq.mpr c83
        clear c83
        by_cases c84 : t500 = 2
        · rw [if_pos c84] at H
          have c84b0 := beq_iff_eq.mpr c84
          have c84b1 := bne_eq_false_iff_eq.mpr c84
          clear c84
          by_cases c85 : t505 = 2
          · rw [if_pos c85] at H
            have c85b0 := beq_iff_eq.mpr c85
            have c85b1 := bne_eq_false_iff_eq.mpr c85
            clear c85
            by_cases c86 : ((t486 == 0 && (t487 == 0 && (t488 == 0))) && ((t489 == 0 && (t490 == 0 && (t491 == 0))) && ((t492 == 0 && (t493 == 0 && (t494 == 0)))))) = true
            · rw [if_pos c86] at H
              have c86b0 : ((t486 == 0 && (t487 == 0 && (t488 == 0))) && ((t489 == 0 && (t490 == 0 && (t491 == 0))) && ((t492 == 0 && (t493 == 0 && (t494 == 0)))))) = true := c86
              clear c86
              by_cases c87 : (t497 == 0 && (t498 == 0 && (t499 == 0))) = true
              · rw [if_pos c87] at H
                have c87b0 : (t497 == 0 && (t498 == 0 && (t499 == 0))) = true := c87
                (try (have c87b1 : decide (t497 = 0 && (t498 == 0 && (t499 == 0))) = true := by simpa using c87))
                (try (have c87b2 : (t497 == 0 && (t498 == 0 && (t499 == 0))) = true := by simpa using c87))
                clear c87
                obtain rfl := Option.some.inj H
                go_enter Try.func5, Try.ntmps5
                go_wp2_with (first | ((with_reducible refine gate_dst (N := 4) rfl ?_); refine be 4 44 #[.int .i64 a1_0, .int .i64 a1_1, .int .i64 a1_2] ?_; intro gb483 hg w88 hbox hb; have BK483 := m0 hbox; have GE483 := gw w hg; replace HB := sb HB hb; clear hb hbox hg) | ((with_reducible refine gate_dst (N := 5) rfl ?_); refine be 5 44 #[.int .i64 a2_0, .int .i64 a2_1, .int .i64 a2_2] ?_; intro gb484 hg w89 hbox hb; have BK484 := m0 hbox; have GE484 := gw w hg; replace HB := sb HB hb; have NB483_484 := nl BK483 hg; have NB484_483 := ng (nl BK483 hg); replace BK483 := bb BK483 hb; clear hb hbox hg) | ((with_reducible refine gate_callee (f := 14) rfl ?_); refine gl (some 15) Try.func14 #[] ?_; (with_reducible refine (Lw_awake.calls k  true _ A4.out).mono ?_); rintro e w90 ⟨rfl, hb⟩; refine ⟨_, rfl, ?_⟩; replace BK483 := bb BK483 hb; replace BK484 := bb BK484 hb; replace HB := sb HB hb; (try clear hb)) | ((with_reducible refine gate_callee (f := 25) rfl ?_); refine gl (some 19) Try.func25 #[.int .i64 a0] ?_; (with_reducible refine (L_RotationOf.calls k a0 t486 t487 t488 t489 t490 t491 t492 t493 t494 t495 _ A6.out).mono ?_); rintro e w91 ⟨rfl, hb⟩; refine ⟨_, rfl, ?_⟩; replace BK483 := bb BK483 hb; replace BK484 := bb BK484 hb; replace HB := sb HB hb; (try clear hb)) | ((with_reducible refine gate_dst (N := 7) rfl ?_); refine be 7 45 #[.int .i64 0, .int .i64 0, .int .i64 0, .int .i64 0, .int .i64 0, .int .i64 0, .int .i64 0, .int .i64 0, .int .i64 0] ?_; intro gb496 hg w92 hbox hb; have BK496 := m0 hbox; have GE496 := gw w hg; replace HB := sb HB hb; have NB483_496 := nl BK483 hg; have NB496_483 := ng (nl BK483 hg); replace BK483 := bb BK483 hb; have NB484_496 := nl BK484 hg; have NB496_484 := ng (nl BK484 hg); replace BK484 := bb BK484 hb; clear hb hbox hg; have hnb93 := NB496_483.out; have hnc93 := NB483_496.out; have hnb94 := NB496_484.out; have hnc94 := NB484_496.out; have hcz95_0 : w92.cell? ⟨gb496, 0, none⟩ = some (.int .i64 0) := (blk_cell BK496.out 0).trans rfl; have hcz95_1 : w92.cell? ⟨gb496, 1, none⟩ = some (.int .i64 0) := (blk_cell BK496.out 1).trans rfl; have hcz95_2 : w92.cell? ⟨gb496, 2, none⟩ = some (.int .i64 0) := (blk_cell BK496.out 2).trans rfl; have hcz95_3 : w92.cell? ⟨gb496, 3, none⟩ = some (.int .i64 0) := (blk_cell BK496.out 3).trans rfl; have hcz95_4 : w92.cell? ⟨gb496, 4, none⟩ = some (.int .i64 0) := (blk_cell BK496.out 4).trans rfl; have hcz95_5 : w92.cell? ⟨gb496, 5, none⟩ = some (.int .i64 0) := (blk_cell BK496.out 5).trans rfl; have hcz95_6 : w92.cell? ⟨gb496, 6, none⟩ = some (.int .i64 0) := (blk_cell BK496.out 6).trans rfl; have hcz95_7 : w92.cell? ⟨gb496, 7, none⟩ = some (.int .i64 0) := (blk_cell BK496.out 7).trans rfl; have hcz95_8 : w92.cell? ⟨gb496, 8, none⟩ = some (.int .i64 0) := (blk_cell BK496.out 8).trans rfl; have hfz95_0 := blk_frozen BK496.out 0; have hfz95_1 := blk_frozen BK496.out 1; have hfz95_2 := blk_frozen BK496.out 2; have hfz95_3 := blk_frozen BK496.out 3; have hfz95_4 := blk_frozen BK496.out 4; have hfz95_5 := blk_frozen BK496.out 5; have hfz95_6 := blk_frozen BK496.out 6; have hfz95_7 := blk_frozen BK496.out 7; have hfz95_8 := blk_frozen BK496.out 8; have hnb96 := NB483_484.out; have hnc96 := NB484_483.out; obtain ⟨_, _, _, _, _, _⟩ := b3 BK483) | ((with_reducible refine gate_callee (f := 26) rfl ?_); refine gl (some 25) Try.func26 #[.int .i64 a0, .agg #[.int .i64 a1_0, .int .i64 a1_1, .int .i64 a1_2]] ?_; (with_reducible refine (L_TurnedBy.calls k a0 a1_0 a1_1 a1_2 t497 t498 t499 t500 _ A7.out).mono ?_); rintro e w98 ⟨rfl, hb⟩; refine ⟨_, rfl, ?_⟩; replace BK483 := m0 (blk_below (g := gb483) (o := .cells #[.int .i64 a1_0, .int .i64 a1_1, .int .i64 a1_2] 44 (0, 0)) (bq BK483.out) hb); replace BK484 := m0 (blk_below (g := gb484) (o := .cells #[.int .i64 a2_0, .int .i64 a2_1, .int .i64 a2_2] 44 (0, 0)) (bq BK484.out) hb); replace BK496 := m0 (blk_below (g := gb496) (o := .cells #[.int .i64 t486, .int .i64 t487, .int .i64 t488, .int .i64 t489, .int .i64 t490, .int .i64 t491, .int .i64 t492, .int .i64 t493, .int .i64 t494] 45 (0, 0)) (bq BK496.out) hb); replace HB := sb HB hb; (try clear hb)) | ((with_reducible refine gate_dst (N := 9) rfl ?_); refine be 9 44 #[.int .i64 0, .int .i64 0, .int .i64 0] ?_; intro gb501 hg w99 hbox hb; have BK501 := m0 hbox; have GE501 := gw w hg; replace HB := sb HB hb; have NB483_501 := nl BK483 hg; have NB501_483 := ng (nl BK483 hg); replace BK483 := bb BK483 hb; have NB484_501 := nl BK484 hg; have NB501_484 := ng (nl BK484 hg); replace BK484 := bb BK484 hb; have NB496_501 := nl BK496 hg; have NB501_496 := ng (nl BK496 hg); replace BK496 := bb BK496 hb; clear hb hbox hg; have hnb100 := NB501_483.out; have hnc100 := NB483_501.out; have hnb101 := NB501_484.out; have hnc101 := NB484_501.out; have hnb102 := NB501_496.out; have hnc102 := NB496_501.out; obtain ⟨_, _, _, _, _, _⟩ := b3 BK501; obtain ⟨_, _, _, _, _, _⟩ := b3 BK484) | ((with_reducible refine gate_callee (f := 26) rfl ?_); refine gl (some 31) Try.func26 #[.int .i64 a0, .agg #[.int .i64 a2_0, .int .i64 a2_1, .int .i64 a2_2]] ?_; (with_reducible refine (L_TurnedBy.calls k a0 a2_0 a2_1 a2_2 t502 t503 t504 t505 _ A8.out).mono ?_); rintro e w105 ⟨rfl, hb⟩; refine ⟨_, rfl, ?_⟩; replace BK483 := m0 (blk_below (g := gb483) (o := .cells #[.int .i64 a1_0, .int .i64 a1_1, .int .i64 a1_2] 44 (0, 0)) (bq BK483.out) hb); replace BK484 := m0 (blk_below (g := gb484) (o := .cells #[.int .i64 a2_0, .int .i64 a2_1, .int .i64 a2_2] 44 (0, 0)) (bq BK484.out) hb); replace BK496 := m0 (blk_below (g := gb496) (o := .cells #[.int .i64 t486, .int .i64 t487, .int .i64 t488, .int .i64 t489, .int .i64 t490, .int .i64 t491, .int .i64 t492, .int .i64 t493, .int .i64 t494] 45 (0, 0)) (bq BK496.out) hb); replace BK501 := m0 (blk_below (g := gb501) (o := .cells #[.int .i64 t497, .int .i64 t498, .int .i64 t499] 44 (0, 0)) (bq BK501.out) hb); replace HB := sb HB hb; (try clear hb)) | ((with_reducible refine gate_dst (N := 11) rfl ?_); refine be 11 44 #[.int .i64 0, .int .i64 0, .int .i64 0] ?_; intro gb506 hg w106 hbox hb; have BK506 := m0 hbox; have GE506 := gw w hg; replace HB := sb HB hb; have NB483_506 := nl BK483 hg; have NB506_483 := ng (nl BK483 hg); replace BK483 := bb BK483 hb; have NB484_506 := nl BK484 hg; have NB506_484 := ng (nl BK484 hg); replace BK484 := bb BK484 hb; have NB496_506 := nl BK496 hg; have NB506_496 := ng (nl BK496 hg); replace BK496 := bb BK496 hb; have NB501_506 := nl BK501 hg; have NB506_501 := ng (nl BK501 hg); replace BK501 := bb BK501 hb; clear hb hbox hg; have hnb107 := NB506_483.out; have hnc107 := NB483_506.out; have hnb108 := NB506_484.out; have hnc108 := NB484_506.out; have hnb109 := NB506_496.out; have hnc109 := NB496_506.out; have hnb110 := NB506_501.out; have hnc110 := NB501_506.out; obtain ⟨_, _, _, _, _, _⟩ := b3 BK506) | ((with_reducible refine gate_callee (f := 24) rfl ?_); refine gl (some 35) Try.func24 #[.int .i64 a0, .int .i64 0, .int .i64 23] ?_; (with_reducible refine (Bs_Within.calls a0 0 23 false _ A9.out).mono ?_); rintro e w' ⟨rfl, ⟨nd, rfl⟩⟩; refine ⟨_, rfl, ?_⟩; have hcz112_0 : w106.cell? ⟨gb496, 0, none⟩ = some (.int .i64 t486) := (blk_cell BK496.out 0).trans rfl; have hcz112_1 : w106.cell? ⟨gb496, 1, none⟩ = some (.int .i64 t487) := (blk_cell BK496.out 1).trans rfl; have hcz112_2 : w106.cell? ⟨gb496, 2, none⟩ = some (.int .i64 t488) := (blk_cell BK496.out 2).trans rfl; have hcz112_3 : w106.cell? ⟨gb496, 3, none⟩ = some (.int .i64 t489) := (blk_cell BK496.out 3).trans rfl; have hcz112_4 : w106.cell? ⟨gb496, 4, none⟩ = some (.int .i64 t490) := (blk_cell BK496.out 4).trans rfl; have hcz112_5 : w106.cell? ⟨gb496, 5, none⟩ = some (.int .i64 t491) := (blk_cell BK496.out 5).trans rfl; have hcz112_6 : w106.cell? ⟨gb496, 6, none⟩ = some (.int .i64 t492) := (blk_cell BK496.out 6).trans rfl; have hcz112_7 : w106.cell? ⟨gb496, 7, none⟩ = some (.int .i64 t493) := (blk_cell BK496.out 7).trans rfl; have hcz112_8 : w106.cell? ⟨gb496, 8, none⟩ = some (.int .i64 t494) := (blk_cell BK496.out 8).trans rfl; have hfz112_0 := blk_frozen BK496.out 0; have hfz112_1 := blk_frozen BK496.out 1; have hfz112_2 := blk_frozen BK496.out 2; have hfz112_3 := blk_frozen BK496.out 3; have hfz112_4 := blk_frozen BK496.out 4; have hfz112_5 := blk_frozen BK496.out 5; have hfz112_6 := blk_frozen BK496.out 6; have hfz112_7 := blk_frozen BK496.out 7; have hfz112_8 := blk_frozen BK496.out 8; obtain ⟨_, _, _, _, _, _⟩ := b3 BK501))
                go_ret
                exact ez
              · rw [if_neg c87] at H
                exact absurd H (by simp)
            · rw [if_neg c86] at H
              exact absurd H (by simp)
          · rw [if_neg c85] at H
            exact absurd H (by simp)
        · rw [if_neg c84] at H
          exact absurd H (by simp)
      · rw [if_neg c83] at H
        exact absurd H (by simp)
  · replace c5 := Bool.eq_false_iff.mpr c5
    subst c5
    rw [if_neg (show ¬ (false = true) by decide)] at H
    exact absurd H (by simp)
end Go.Proofs.Ytibhfahbabgbaaa.A
