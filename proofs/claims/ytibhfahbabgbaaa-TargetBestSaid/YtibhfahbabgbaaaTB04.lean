/- Walks of the program's functions (printed, made shorter), each with what it computes. -/
import Derived.Test.YtibhfahbabgbaaaB05
import Derived.Test.YtibhfahbabgbaaaTB01
import Derived.Test.YtibhfahbabgbaaaB10
import Derived.Test.YtibhfahbabgbaaaB16
import Derived.Test.YtibhfahbabgbaaaTB02
import Derived.Test.YtibhfahbabgbaaaTB03
import Derived.Test.YtibhfahbabgbaaaB04
namespace Go.Proofs.Ytibhfahbabgbaaa.A
set_option maxHeartbeats 8000000
set_option maxRecDepth 100000
open Go.RowKit Go.Proofs.YtibhfahbabgbaaaW.PrintWords Go.Proofs.YtibhfahbabgbaaaW.PrintLast Go.Proofs.YtibhfahbabgbaaaW.PrintMore
attribute [local go_sem] max2_int min2_int max_two min_two max_three min_three max_four min_four
set_option linter.unusedVariables false
set_option linter.unusedSimpArgs false
attribute [local go_sem high] eqA56 eqA73
mutual
def Lw_TargetBest.j0 : Nat → List (S85) → Bool → Int → Int → Int → Int → Int → Option (Bool)
  | 0, _, _, _, _, _, _, _ => none
  | k + 1, x0, x49, x1092000, x1092001, x1092002, x1093000, x1093001 => if x49 = true then (some true) else ((Rf_CopyReadings.f x0).bind fun t1099 => ((L_LineOf.f k t1099).bind fun bt1102 => (if bt1102.2.2.2 = 0 then ((Rf_LineErr.f k bt1102.1 bt1102.2.1 bt1102.2.2.1).bind fun t1107 => (Lw_TargetBest.j1 k x0 (t1107 != 0) x1092000 x1092001 x1092002 x1093000 x1093001 bt1102.1 bt1102.2.1 bt1102.2.2.1)) else (none))))
def Lw_TargetBest.j1 : Nat → List (S85) → Bool → Int → Int → Int → Int → Int → Int → Int → Int → Option (Bool)
  | 0, _, _, _, _, _, _, _, _, _, _ => none
  | k + 1, x0, x62, x1092000, x1092001, x1092002, x1093000, x1093001, x1107000, x1107001, x1107002 => if x62 = true then (none) else ((Rf_CopyReadings.f x0).bind fun t1108 => ((L_CheckLine.f k t1108 x1107000 x1107001 x1107002).bind fun bt1111 => (if bt1111.2 = 0 then (Lw_TargetBest.j2 k x0 (bt1111.1 != 0) x1092000 x1092001 x1092002 x1093000 x1093001 x1107000 x1107001 x1107002) else (none))))
def Lw_TargetBest.j2 : Nat → List (S85) → Bool → Int → Int → Int → Int → Int → Int → Int → Int → Option (Bool)
  | 0, _, _, _, _, _, _, _, _, _, _ => none
  | k + 1, x0, x75, x1092000, x1092001, x1092002, x1093000, x1093001, x1107000, x1107001, x1107002 => if x75 = true then (none) else ((Rf_LineErr.f k x1092000 x1092001 x1092002).bind fun t1113 => (if t1113 = 0 then ((Rf_CopyReadings.f x0).bind fun t1114 => ((L_CheckLine.f k t1114 x1092000 x1092001 x1092002).bind fun bt1117 => (if ((bt1117.2 == 0) != (x1092000 == x1107000 && (x1092001 == x1107001 && (x1092002 == x1107002)))) = true then (none) else (Lw_TargetBest.j3 k x0 x1093000 x1093001)))) else (Lw_TargetBest.j3 k x0 x1093000 x1093001)))
def Lw_TargetBest.j3 : Nat → List (S85) → Int → Int → Option (Bool)
  | 0, _, _, _ => none
  | k + 1, x0, x1093000, x1093001 => (Rf_CopyReadings.f x0).bind fun t1119 => (Lw_TargetBest.l0 k x0 t1119 0 true 0 x1093000 x1093001)
def Lw_TargetBest.l0 : Nat → List (S85) → List (S85) → Int → Bool → Int → Int → Int → Option (Bool)
  | 0, _, _, _, _, _, _, _ => none
  | k + 1, x0, x13, x14, x15, x16, x1093000, x1093001 => if x16 < (x0.length : Int) then (if 0 ≤ x16 then (if x16 < (x13.length : Int) then ((some (x13.set (x16 : Int).toNat (⟨(rd_T85 x13 x16).f0, wrap64 ((wrap64 (x1093000 * ((rd_T85 x0 x16).f0))) + x1093001), (rd_T85 x13 x16).f2⟩ : S85) : List (S85))).bind fun y1123 => (if x15 = true then ((Bs_Within.f (wrap64 ((wrap64 (x1093000 * ((rd_T85 x0 x16).f0))) + x1093001)) 0 2000).bind fun t1124 => (Lw_TargetBest.l0 k x0 y1123 (wrap64 (x14 + (wrap64 ((wrap64 (((rd_T85 x0 x16).f1) - (wrap64 ((wrap64 (x1093000 * ((rd_T85 x0 x16).f0))) + x1093001)))) * (wrap64 (((rd_T85 x0 x16).f1) - (wrap64 ((wrap64 (x1093000 * ((rd_T85 x0 x16).f0))) + x1093001)))))))) t1124 (wrap64 (x16 + 1)) x1093000 x1093001)) else (Lw_TargetBest.l0 k x0 y1123 (wrap64 (x14 + (wrap64 ((wrap64 (((rd_T85 x0 x16).f1) - (wrap64 ((wrap64 (x1093000 * ((rd_T85 x0 x16).f0))) + x1093001)))) * (wrap64 (((rd_T85 x0 x16).f1) - (wrap64 ((wrap64 (x1093000 * ((rd_T85 x0 x16).f0))) + x1093001)))))))) false (wrap64 (x16 + 1)) x1093000 x1093001))) else (none)) else (none)) else ((Rf_CopyReadings.f x0).bind fun t1129 => ((L_ResidualOf.f k t1129).bind fun bt1132 => (if bt1132.2.2 = 0 then ((Bs_IsSmall.f bt1132.1 bt1132.2.1).bind fun t1136 => (if t1136 = true then (if bt1132.1 < 0 then (none) else ((Bs_Compare.f k bt1132.1 bt1132.2.1 x14 1).bind fun t1137 => (Lw_TargetBest.j5 k x13 x15 (decide (t1137 > 0)) x1093000 x1093001))) else (none))) else (if bt1132.2.2 = 8 then (Lw_TargetBest.j5 k x13 x15 false x1093000 x1093001) else (none)))))
def Lw_TargetBest.j5 : Nat → List (S85) → Bool → Bool → Int → Int → Option (Bool)
  | 0, _, _, _, _, _ => none
  | k + 1, x13, x15, x172, x1093000, x1093001 => if x172 = true then (none) else (if x15 = true then ((Rf_CopyReadings.f x13).bind fun t1138 => ((L_LineOf.f k t1138).bind fun bt1141 => ((Rf_CopyReadings.f x13).bind fun t1146 => ((L_ResidualOf.f k t1146).bind fun bt1149 => (if bt1141.2.2.2 = 0 then (if (bt1141.1 == x1093000 && (bt1141.2.1 == x1093001 && (bt1141.2.2.1 == 1))) = true then (if bt1149.2.2 = 0 then (some (bt1149.1 == 0 && (bt1149.2.1 == 1))) else (none)) else (none)) else (none)))))) else (some true))
end
def Lw_TargetBest.f (k : Nat) (l0 : List (S85)) (a1_0 : Int) (a1_1 : Int) (a1_2 : Int) (a2_0 : Int) (a2_1 : Int) : Option (Bool) := (Lw_awake.f k).bind fun t1093 => (if t1093 = true then ((Lw_few.f l0).bind fun t1094 => (if t1094 = true then ((Rf_ReadingsErr.f k l0).bind fun t1095 => (if t1095 = 0 then ((Rf_AreEqual.f k l0).bind fun t1096 => (if t1096 = true then (Lw_TargetBest.j0 k l0 true a1_0 a1_1 a1_2 a2_0 a2_1) else ((Bs_Within.f a2_0 (-3) 3).bind fun t1097 => (if t1097 = true then ((Bs_Within.f a2_1 (-2000) 2000).bind fun t1098 => (Lw_TargetBest.j0 k l0 (!t1098) a1_0 a1_1 a1_2 a2_0 a2_1)) else (Lw_TargetBest.j0 k l0 true a1_0 a1_1 a1_2 a2_0 a2_1))))) else (Lw_TargetBest.j0 k l0 true a1_0 a1_1 a1_2 a2_0 a2_1))) else (Lw_TargetBest.j0 k l0 true a1_0 a1_1 a1_2 a2_0 a2_1))) else (none))
theorem Lw_TargetBest.mono_l : ∀ k, (∀ y0 y1 y2 y3 y4 y5 y6, LeO (Lw_TargetBest.j0 k y0 y1 y2 y3 y4 y5 y6) (Lw_TargetBest.j0 (k + 1) y0 y1 y2 y3 y4 y5 y6)) ∧ (∀ y0 y1 y2 y3 y4 y5 y6 y7 y8 y9, LeO (Lw_TargetBest.j1 k y0 y1 y2 y3 y4 y5 y6 y7 y8 y9) (Lw_TargetBest.j1 (k + 1) y0 y1 y2 y3 y4 y5 y6 y7 y8 y9)) ∧ (∀ y0 y1 y2 y3 y4 y5 y6 y7 y8 y9, LeO (Lw_TargetBest.j2 k y0 y1 y2 y3 y4 y5 y6 y7 y8 y9) (Lw_TargetBest.j2 (k + 1) y0 y1 y2 y3 y4 y5 y6 y7 y8 y9)) ∧ (∀ y0 y1 y2, LeO (Lw_TargetBest.j3 k y0 y1 y2) (Lw_TargetBest.j3 (k + 1) y0 y1 y2)) ∧ (∀ y0 y1 y2 y3 y4 y5 y6, LeO (Lw_TargetBest.l0 k y0 y1 y2 y3 y4 y5 y6) (Lw_TargetBest.l0 (k + 1) y0 y1 y2 y3 y4 y5 y6)) ∧ (∀ y0 y1 y2 y3 y4, LeO (Lw_TargetBest.j5 k y0 y1 y2 y3 y4) (Lw_TargetBest.j5 (k + 1) y0 y1 y2 y3 y4))
  | 0 => ⟨fun _ _ _ _ _ _ _ r h => by simp [Lw_TargetBest.j0] at h, fun _ _ _ _ _ _ _ _ _ _ r h => by simp [Lw_TargetBest.j1] at h, fun _ _ _ _ _ _ _ _ _ _ r h => by simp [Lw_TargetBest.j2] at h, fun _ _ _ r h => by simp [Lw_TargetBest.j3] at h, fun _ _ _ _ _ _ _ r h => by simp [Lw_TargetBest.l0] at h, fun _ _ _ _ _ r h => by simp [Lw_TargetBest.j5] at h⟩
  | k + 1 => by
    obtain ⟨ih0, ih1, ih2, ih3, ih4, ih5⟩ := Lw_TargetBest.mono_l k
    refine ⟨?_, ?_, ?_, ?_, ?_, ?_⟩
    · intro y0 y1 y2 y3 y4 y5 y6
      unfold Lw_TargetBest.j0
      repeat' with_reducible first
        | exact ih0 ..
        | exact ih1 ..
        | exact ih2 ..
        | exact ih3 ..
        | exact ih4 ..
        | exact ih5 ..
        | exact Bs_Compare.mono ..
        | exact Lw_awake.mono ..
        | exact Rf_AreEqual.mono ..
        | exact Rf_LineErr.mono ..
        | exact Rf_ReadingsErr.mono ..
        | exact L_CheckLine.mono ..
        | exact L_LineOf.mono ..
        | exact L_ResidualOf.mono ..
        | exact LeO.refl ..
        | exact LeO.none ..
        | refine LeO.ite ?_ ?_
        | refine LeO.bind ?_ (fun _ => ?_)
    · intro y0 y1 y2 y3 y4 y5 y6 y7 y8 y9
      unfold Lw_TargetBest.j1
      repeat' with_reducible first
        | exact ih0 ..
        | exact ih1 ..
        | exact ih2 ..
        | exact ih3 ..
        | exact ih4 ..
        | exact ih5 ..
        | exact Bs_Compare.mono ..
        | exact Lw_awake.mono ..
        | exact Rf_AreEqual.mono ..
        | exact Rf_LineErr.mono ..
        | exact Rf_ReadingsErr.mono ..
        | exact L_CheckLine.mono ..
        | exact L_LineOf.mono ..
        | exact L_ResidualOf.mono ..
        | exact LeO.refl ..
        | exact LeO.none ..
        | refine LeO.ite ?_ ?_
        | refine LeO.bind ?_ (fun _ => ?_)
    · intro y0 y1 y2 y3 y4 y5 y6 y7 y8 y9
      unfold Lw_TargetBest.j2
      repeat' with_reducible first
        | exact ih0 ..
        | exact ih1 ..
        | exact ih2 ..
        | exact ih3 ..
        | exact ih4 ..
        | exact ih5 ..
        | exact Bs_Compare.mono ..
        | exact Lw_awake.mono ..
        | exact Rf_AreEqual.mono ..
        | exact Rf_LineErr.mono ..
        | exact Rf_ReadingsErr.mono ..
        | exact L_CheckLine.mono ..
        | exact L_LineOf.mono ..
        | exact L_ResidualOf.mono ..
        | exact LeO.refl ..
        | exact LeO.none ..
        | refine LeO.ite ?_ ?_
        | refine LeO.bind ?_ (fun _ => ?_)
    · intro y0 y1 y2
      unfold Lw_TargetBest.j3
      repeat' with_reducible first
        | exact ih0 ..
        | exact ih1 ..
        | exact ih2 ..
        | exact ih3 ..
        | exact ih4 ..
        | exact ih5 ..
        | exact Bs_Compare.mono ..
        | exact Lw_awake.mono ..
        | exact Rf_AreEqual.mono ..
        | exact Rf_LineErr.mono ..
        | exact Rf_ReadingsErr.mono ..
        | exact L_CheckLine.mono ..
        | exact L_LineOf.mono ..
        | exact L_ResidualOf.mono ..
        | exact LeO.refl ..
        | exact LeO.none ..
        | refine LeO.ite ?_ ?_
        | refine LeO.bind ?_ (fun _ => ?_)
    · intro y0 y1 y2 y3 y4 y5 y6
      unfold Lw_TargetBest.l0
      repeat' with_reducible first
        | exact ih0 ..
        | exact ih1 ..
        | exact ih2 ..
        | exact ih3 ..
        | exact ih4 ..
        | exact ih5 ..
        | exact Bs_Compare.mono ..
        | exact Lw_awake.mono ..
        | exact Rf_AreEqual.mono ..
        | exact Rf_LineErr.mono ..
        | exact Rf_ReadingsErr.mono ..
        | exact L_CheckLine.mono ..
        | exact L_LineOf.mono ..
        | exact L_ResidualOf.mono ..
        | exact LeO.refl ..
        | exact LeO.none ..
        | refine LeO.ite ?_ ?_
        | refine LeO.bind ?_ (fun _ => ?_)
    · intro y0 y1 y2 y3 y4
      unfold Lw_TargetBest.j5
      repeat' with_reducible first
        | exact ih0 ..
        | exact ih1 ..
        | exact ih2 ..
        | exact ih3 ..
        | exact ih4 ..
        | exact ih5 ..
        | exact Bs_Compare.mono ..
        | exact Lw_awake.mono ..
        | exact Rf_AreEqual.mono ..
        | exact Rf_LineErr.mono ..
        | exact Rf_ReadingsErr.mono ..
        | exact L_CheckLine.mono ..
        | exact L_LineOf.mono ..
        | exact L_ResidualOf.mono ..
        | exact LeO.refl ..
        | exact LeO.none ..
        | refine LeO.ite ?_ ?_
        | refine LeO.bind ?_ (fun _ => ?_)
theorem Lw_TargetBest.mono : ∀ a0 a1 a2 a3 a4 a5 k, LeO (Lw_TargetBest.f k a0 a1 a2 a3 a4 a5) (Lw_TargetBest.f (k + 1) a0 a1 a2 a3 a4 a5) := by
  intro a0 a1 a2 a3 a4 a5 k
  obtain ⟨ih0, ih1, ih2, ih3, ih4, ih5⟩ := Lw_TargetBest.mono_l k
  unfold Lw_TargetBest.f
  repeat' with_reducible first
    | exact ih0 ..
    | exact ih1 ..
    | exact ih2 ..
    | exact ih3 ..
    | exact ih4 ..
    | exact ih5 ..
    | exact Bs_Compare.mono ..
    | exact Lw_awake.mono ..
    | exact Rf_AreEqual.mono ..
    | exact Rf_LineErr.mono ..
    | exact Rf_ReadingsErr.mono ..
    | exact L_CheckLine.mono ..
    | exact L_LineOf.mono ..
    | exact L_ResidualOf.mono ..
    | exact LeO.refl ..
    | exact LeO.none ..
    | refine LeO.ite ?_ ?_
    | refine LeO.bind ?_ (fun _ => ?_)
def Lw_TargetBest.T8 : Bool × List (List Nat × List Nat) := (true, [([], []), ([0], [0]), ([], []), ([1, 2, 1], [1, 2]), ([3], [3]), ([4], [4]), ([4], [4]), ([5, 3, 0, 1, 2, 3, 4, 5], [5]), ([6, 7, 0, 1, 2, 3, 4, 5, 6, 7], [6])])
def Lw_TargetBest.B8 : List Nat := [0, 1, 0, 7, 15, 31, 31, 63, 255]
theorem Lw_TargetBest.tab8 : rtab .any (opsOf Try.f8 8) = Lw_TargetBest.T8 := by kernel_rfl
theorem Lw_TargetBest.bits8 : waitsOk Lw_TargetBest.T8.2 Lw_TargetBest.B8 = true := by kernel_rfl
def Lw_TargetBest.T12 : Bool × List (List Nat × List Nat) := (true, [([], []), ([0], [0]), ([], []), ([1, 2, 1], [1, 2]), ([3], [3]), ([4], [4]), ([4], [4]), ([5, 3, 0, 1, 2, 3, 4, 5], [5]), ([6, 7, 0, 1, 2, 3, 4, 5, 6, 7], [6])])
def Lw_TargetBest.B12 : List Nat := [0, 1, 0, 7, 15, 31, 31, 63, 255]
theorem Lw_TargetBest.tab12 : rtab .any (opsOf Try.f8 12) = Lw_TargetBest.T12 := by kernel_rfl
theorem Lw_TargetBest.bits12 : waitsOk Lw_TargetBest.T12.2 Lw_TargetBest.B12 = true := by kernel_rfl
def Lw_TargetBest.T21 : Bool × List (List Nat × List Nat) := (true, [([], []), ([0], [0]), ([], []), ([], []), ([2, 3], [2, 3]), ([4], [4]), ([5], [5]), ([1, 6], [1, 6]), ([], []), ([8], [8]), ([7, 9], [7, 9]), ([10, 0, 1, 2, 3, 4, 5, 6, 7, 8, 9, 10], [10])])
def Lw_TargetBest.B21 : List Nat := [0, 1, 0, 0, 12, 28, 60, 127, 0, 256, 1023, 2047]
theorem Lw_TargetBest.tab21 : rtab .any (opsOf Try.f8 21) = Lw_TargetBest.T21 := by kernel_rfl
theorem Lw_TargetBest.bits21 : waitsOk Lw_TargetBest.T21.2 Lw_TargetBest.B21 = true := by kernel_rfl
def Lw_TargetBest.T24 : Bool × List (List Nat × List Nat) := (true, [([], []), ([], []), ([], []), ([1, 2], [1, 2]), ([3], [3]), ([4], [4]), ([], []), ([5, 6], [5, 6]), ([], []), ([], []), ([8, 9], [8, 9]), ([10], [10]), ([11], [11]), ([], []), ([12, 13], [12, 13]), ([7, 14], [7, 14]), ([0, 15], [0, 15]), ([16, 0, 1, 2, 3, 4, 5, 6, 7, 8, 9, 10, 11, 12, 13, 14, 15, 16], [0, 16])])
def Lw_TargetBest.B24 : List Nat := [0, 0, 0, 6, 14, 30, 0, 126, 0, 0, 768, 1792, 3840, 0, 16128, 32766, 65535, 131071]
theorem Lw_TargetBest.tab24 : rtab .any (opsOf Try.f8 24) = Lw_TargetBest.T24 := by kernel_rfl
theorem Lw_TargetBest.bits24 : waitsOk Lw_TargetBest.T24.2 Lw_TargetBest.B24 = true := by kernel_rfl
theorem Lw_TargetBest.calls (k : Nat) (A0 : Option Addr) (c0 : Nat) (l0 : List (S85)) (a1_0 : Int) (a1_1 : Int) (a1_2 : Int) (a2_0 : Int) (a2_1 : Int) (r : Bool) (w : World) (hr0 : Kd.C k85 w A0 l0.length l0) (hc0 : l0.length ≤ c0) (h : Lw_TargetBest.f k l0 a1_0 a1_1 a1_2 a2_0 a2_1 = some r) :
    Calls Try.prog 8 #[.slice A0 l0.length c0, .agg #[.int .i64 a1_0, .int .i64 a1_1, .int .i64 a1_2], .agg #[.int .i64 a2_0, .int .i64 a2_1]] w fun e w' => e = .returned (.bool r) ∧ Below w.heap.size w w' := by
  have hu56 := Try.underlying56
  have hu83 := Try.underlying83
  have hu73 := Try.underlying73
  have hix83_0 : ∀ (g_ : Nat) (W_ : World), (Instr.indexAt 83 (.pointer (some ⟨g_, 0, none⟩)) (.int .i64 0)).run Try.prog W_ = .ok (.pointer (some ⟨g_, 0, none⟩)) W_ := fun _ _ => by kernel_rfl
  have hix83_1 : ∀ (g_ : Nat) (W_ : World), (Instr.indexAt 83 (.pointer (some ⟨g_, 0, none⟩)) (.int .i64 1)).run Try.prog W_ = .ok (.pointer (some ⟨g_, 1, none⟩)) W_ := fun _ _ => by kernel_rfl
  have HR0 := m0 hr0
  have HC0 := m0 hc0
  clear hr0 hc0
  have HB := m0 (Below.refl w.heap.size w)
  have H : ((Lw_awake.f k).bind fun t1093 => (if t1093 = true then ((Lw_few.f l0).bind fun t1094 => (if t1094 = true then ((Rf_ReadingsErr.f k l0).bind fun t1095 => (if t1095 = 0 then ((Rf_AreEqual.f k l0).bind fun t1096 => (if t1096 = true then (Lw_TargetBest.j0 k l0 true a1_0 a1_1 a1_2 a2_0 a2_1) else ((Bs_Within.f a2_0 (-3) 3).bind fun t1097 => (if t1097 = true then ((Bs_Within.f a2_1 (-2000) 2000).bind fun t1098 => (Lw_TargetBest.j0 k l0 (!t1098) a1_0 a1_1 a1_2 a2_0 a2_1)) else (Lw_TargetBest.j0 k l0 true a1_0 a1_1 a1_2 a2_0 a2_1))))) else (Lw_TargetBest.j0 k l0 true a1_0 a1_1 a1_2 a2_0 a2_1))) else (Lw_TargetBest.j0 k l0 true a1_0 a1_1 a1_2 a2_0 a2_1))) else (none))) = some r := h
  clear h
  replace H := ob H
  obtain ⟨t1093, A4, H⟩ := H
  (try dsimp only at H)
  replace A4 := m0 A4
  by_cases c5 : t1093 = true
  · subst c5
    rw [if_pos rfl] at H
    have HC6 := m0 H
    clear H
    go_enter Try.func8, Try.ntmps8
    go_upto_region 3 with (first | ((with_reducible refine gate_dst (N := 4) rfl ?_); refine be 4 56 #[.int .i64 a1_0, .int .i64 a1_1, .int .i64 a1_2] ?_; intro gb1091 hg w7 hbox hb; have BK1091 := m0 hbox; have GE1091 := gw w hg; replace HB := sb HB hb; clear hb hbox hg) | ((with_reducible refine gate_dst (N := 5) rfl ?_); refine be 5 83 #[.int .i64 a2_0, .int .i64 a2_1] ?_; intro gb1092 hg w8 hbox hb; have BK1092 := m0 hbox; have GE1092 := gw w hg; replace HB := sb HB hb; have NB1091_1092 := nl BK1091 hg; have NB1092_1091 := ng (nl BK1091 hg); replace BK1091 := bb BK1091 hb; clear hb hbox hg) | ((with_reducible refine gate_callee (f := 14) rfl ?_); refine gl (some 24) Try.func14 #[] ?_; (with_reducible refine (Lw_awake.calls k  true _ A4.out).mono ?_); rintro e w9 ⟨rfl, hb⟩; refine ⟨_, rfl, ?_⟩; replace BK1091 := bb BK1091 hb; replace BK1092 := bb BK1092 hb; replace HB := sb HB hb; (try clear hb)))
    (try simp only [Act.put, List.setIfInBounds_toArray, List.set_cons_zero, List.set_cons_succ])
    go_cut [49] (fun v49 wc => ∃ (kq : Nat) (x49_5 : Bool), v49 = .bool x49_5 ∧ Aside0 (Lw_TargetBest.j0 kq l0 x49_5 a1_0 a1_1 a1_2 a2_0 a2_1 = some r) ∧ Aside0 (kq ≤ k) ∧ Aside0 (wc.heap[gb1091]? = some (.cells #[.int .i64 a1_0, .int .i64 a1_1, .int .i64 a1_2] 56 (0, 0))) ∧ Aside0 (wc.heap[gb1092]? = some (.cells #[.int .i64 a2_0, .int .i64 a2_1] 83 (0, 0))) ∧ Aside0 (Below w.heap.size w wc))
    case first =>
      have H := HC6.out
      clear HC6
      replace H := ob H
      obtain ⟨t1094, A10, H⟩ := H
      (try dsimp only at H)
      replace A10 := m0 A10
      by_cases c11 : t1094 = true
      · subst c11
        rw [if_pos rfl] at H
        replace H := ob H
        obtain ⟨t1095, A12, H⟩ := H
        (try dsimp only at H)
        replace A12 := m0 A12
        by_cases c13 : t1095 = 0
        · rw [if_pos c13] at H
          have c13b0 := beq_iff_eq.mpr c13
          have c13b1 := bne_eq_false_iff_eq.mpr c13
          clear c13
          (first | rw [c13b0] | (simp only [i64_w, i32_w]; rw [c13b0]) | skip)
          replace H := ob H
          obtain ⟨t1096, A14, H⟩ := H
          (try dsimp only at H)
          replace A14 := m0 A14
          by_cases c15 : t1096 = true
          · subst c15
            rw [if_pos rfl] at H
            have H' := m0 H
            clear H
            go_wp2_with (first | ((with_reducible refine gate_callee (f := 36) rfl ?_); refine gl (some 27) Try.func36 #[.slice A0 l0.length c0] ?_; (with_reducible refine (Lw_few.calls _ _ l0 true _ ?side1 ?side2 A10.out).mono ?_); (case side1 => exact cb HR0 HB); (case side2 => exact HC0.out); rintro e w' ⟨rfl, ⟨nd, rfl⟩⟩; refine ⟨_, rfl, ?_⟩) | (go_at_call 41; (with_reducible refine (Rf_ReadingsErr.calls k _ _ l0 t1095 _ ?side1 ?side2 A12.out).mono ?_); (case side1 => repeat (first | exact (Kd.C_below HR0.out bz) | (with_reducible refine Kd.C_alloc ?_ _) | (with_reducible refine Kd.C_drewN ?_ _) | (with_reducible refine Kd.C_drew ?_))); (case side2 => exact HC0.out); rintro e w' ⟨rfl, ⟨nd, rfl⟩⟩) | (go_at_call 42; (with_reducible refine (Rf_AreEqual.calls k _ _ l0 true _ ?side1 ?side2 A14.out).mono ?_); (case side1 => repeat (first | exact (Kd.C_below HR0.out bz) | (with_reducible refine Kd.C_alloc ?_ _) | (with_reducible refine Kd.C_drewN ?_ _) | (with_reducible refine Kd.C_drew ?_))); (case side2 => exact HC0.out); rintro e w' ⟨rfl, ⟨nd, rfl⟩⟩))
            go_meet
            case rel => exact ⟨_, (true), (by first | rfl | (simp; done) | (simp [*]; done)), H', ⟨by first | omega | exact Nat.le_refl _⟩, ⟨bk BK1091.out⟩, ⟨bk BK1092.out⟩, ⟨bz⟩⟩
          · replace c15 := Bool.eq_false_iff.mpr c15
            subst c15
            rw [if_neg (show ¬ (false = true) by decide)] at H
            replace H := ob H
            obtain ⟨t1097, A16, H⟩ := H
            (try dsimp only at H)
            replace A16 := m0 A16
            by_cases c17 : t1097 = true
            · subst c17
              rw [if_pos rfl] at H
              replace H := ob H
              obtain ⟨t1098, A18, H⟩ := H
              (try dsimp only at H)
              replace A18 := m0 A18
              have H' := m0 H
              clear H
              go_wp2_with (first | ((with_reducible refine gate_callee (f := 36) rfl ?_); refine gl (some 27) Try.func36 #[.slice A0 l0.length c0] ?_; (with_reducible refine (Lw_few.calls _ _ l0 true _ ?side1 ?side2 A10.out).mono ?_); (case side1 => exact cb HR0 HB); (case side2 => exact HC0.out); rintro e w' ⟨rfl, ⟨nd, rfl⟩⟩; refine ⟨_, rfl, ?_⟩) | (go_at_call 41; (with_reducible refine (Rf_ReadingsErr.calls k _ _ l0 t1095 _ ?side1 ?side2 A12.out).mono ?_); (case side1 => repeat (first | exact (Kd.C_below HR0.out bz) | (with_reducible refine Kd.C_alloc ?_ _) | (with_reducible refine Kd.C_drewN ?_ _) | (with_reducible refine Kd.C_drew ?_))); (case side2 => exact HC0.out); rintro e w' ⟨rfl, ⟨nd, rfl⟩⟩) | (go_at_call 42; (with_reducible refine (Rf_AreEqual.calls k _ _ l0 false _ ?side1 ?side2 A14.out).mono ?_); (case side1 => repeat (first | exact (Kd.C_below HR0.out bz) | (with_reducible refine Kd.C_alloc ?_ _) | (with_reducible refine Kd.C_drewN ?_ _) | (with_reducible refine Kd.C_drew ?_))); (case side2 => exact HC0.out); rintro e w' ⟨rfl, ⟨nd, rfl⟩⟩; have hnb19 := NB1092_1091.out; have hnc19 := NB1091_1092.out; obtain ⟨hcz20_0, hcz20_1, hfz20_0, hfz20_1⟩ := b2 BK1092) | (go_at_call 24; (with_reducible refine (Bs_Within.calls a2_0 (-3) 3 true _ A16.out).mono ?_); rintro e w' ⟨rfl, ⟨nd, rfl⟩⟩) | (go_at_call 24; (with_reducible refine (Bs_Within.calls a2_1 (-2000) 2000 t1098 _ A18.out).mono ?_); rintro e w' ⟨rfl, ⟨nd, rfl⟩⟩))
              go_meet
              case rel => exact ⟨_, (!t1098), (by first | rfl | (simp; done) | (simp [*]; done)), H', ⟨by first | omega | exact Nat.le_refl _⟩, ⟨bk BK1091.out⟩, ⟨bk BK1092.out⟩, ⟨bz⟩⟩
            · replace c17 := Bool.eq_false_iff.mpr c17
              subst c17
              rw [if_neg (show ¬ (false = true) by decide)] at H
              have H' := m0 H
              clear H
              go_wp2_with (first | ((with_reducible refine gate_callee (f := 36) rfl ?_); refine gl (some 27) Try.func36 #[.slice A0 l0.length c0] ?_; (with_reducible refine (Lw_few.calls _ _ l0 true _ ?side1 ?side2 A10.out).mono ?_); (case side1 => exact cb HR0 HB); (case side2 => exact HC0.out); rintro e w' ⟨rfl, ⟨nd, rfl⟩⟩; refine ⟨_, rfl, ?_⟩) | (go_at_call 41; (with_reducible refine (Rf_ReadingsErr.calls k _ _ l0 t1095 _ ?side1 ?side2 A12.out).mono ?_); (case side1 => repeat (first | exact (Kd.C_below HR0.out bz) | (with_reducible refine Kd.C_alloc ?_ _) | (with_reducible refine Kd.C_drewN ?_ _) | (with_reducible refine Kd.C_drew ?_))); (case side2 => exact HC0.out); rintro e w' ⟨rfl, ⟨nd, rfl⟩⟩) | (go_at_call 42; (with_reducible refine (Rf_AreEqual.calls k _ _ l0 false _ ?side1 ?side2 A14.out).mono ?_); (case side1 => repeat (first | exact (Kd.C_below HR0.out bz) | (with_reducible refine Kd.C_alloc ?_ _) | (with_reducible refine Kd.C_drewN ?_ _) | (with_reducible refine Kd.C_drew ?_))); (case side2 => exact HC0.out); rintro e w' ⟨rfl, ⟨nd, rfl⟩⟩; have hnb21 := NB1092_1091.out; have hnc21 := NB1091_1092.out; obtain ⟨hcz22_0, hcz22_1, hfz22_0, hfz22_1⟩ := b2 BK1092) | (go_at_call 24; (with_reducible refine (Bs_Within.calls a2_0 (-3) 3 false _ A16.out).mono ?_); rintro e w' ⟨rfl, ⟨nd, rfl⟩⟩))
              go_meet
              case rel => exact ⟨_, (true), (by first | rfl | (simp; done) | (simp [*]; done)), H', ⟨by first | omega | exact Nat.le_refl _⟩, ⟨bk BK1091.out⟩, ⟨bk BK1092.out⟩, ⟨bz⟩⟩
        · rw [if_neg c13] at H
          have c13b0 := beq_eq_false_iff_ne.mpr c13
          have c13b1 := bne_iff_ne.mpr c13
          (first | rw [c13b0] | (simp only [i64_w, i32_w]; rw [c13b0]) | skip)
          have H' := m0 H
          clear H
          go_wp2_with (first | ((with_reducible refine gate_callee (f := 36) rfl ?_); refine gl (some 27) Try.func36 #[.slice A0 l0.length c0] ?_; (with_reducible refine (Lw_few.calls _ _ l0 true _ ?side1 ?side2 A10.out).mono ?_); (case side1 => exact cb HR0 HB); (case side2 => exact HC0.out); rintro e w' ⟨rfl, ⟨nd, rfl⟩⟩; refine ⟨_, rfl, ?_⟩) | (go_at_call 41; (with_reducible refine (Rf_ReadingsErr.calls k _ _ l0 t1095 _ ?side1 ?side2 A12.out).mono ?_); (case side1 => repeat (first | exact (Kd.C_below HR0.out bz) | (with_reducible refine Kd.C_alloc ?_ _) | (with_reducible refine Kd.C_drewN ?_ _) | (with_reducible refine Kd.C_drew ?_))); (case side2 => exact HC0.out); rintro e w' ⟨rfl, ⟨nd, rfl⟩⟩))
          go_meet
          case rel => exact ⟨_, (true), (by first | rfl | (simp; done) | (simp [*]; done)), H', ⟨by first | omega | exact Nat.le_refl _⟩, ⟨bk BK1091.out⟩, ⟨bk BK1092.out⟩, ⟨bz⟩⟩
      · replace c11 := Bool.eq_false_iff.mpr c11
        subst c11
        rw [if_neg (show ¬ (false = true) by decide)] at H
        have H' := m0 H
        clear H
        go_wp2_with (first | ((with_reducible refine gate_callee (f := 36) rfl ?_); refine gl (some 27) Try.func36 #[.slice A0 l0.length c0] ?_; (with_reducible refine (Lw_few.calls _ _ l0 false _ ?side1 ?side2 A10.out).mono ?_); (case side1 => exact cb HR0 HB); (case side2 => exact HC0.out); rintro e w' ⟨rfl, ⟨nd, rfl⟩⟩; refine ⟨_, rfl, ?_⟩))
        go_meet
        case rel => exact ⟨_, (true), (by first | rfl | (simp; done) | (simp [*]; done)), H', ⟨by first | omega | exact Nat.le_refl _⟩, ⟨bk BK1091.out⟩, ⟨bk BK1092.out⟩, ⟨bz⟩⟩
    case rest =>
      as_aux_lemma =>
      clear HC6
      try clear hcz20_0
      try clear hcz20_1
      try clear hcz22_0
      try clear hcz22_1
      try clear hfz20_0
      try clear hfz20_1
      try clear hfz22_0
      try clear hfz22_1
      obtain ⟨kq, x49_5, rfl, HA, HJ5, BK1091, BK1092, HB⟩ := hcut
      cases kq with
      | zero => exact absurd HA.out (by simp [Lw_TargetBest.j0])
      | succ kj5 =>
        have H := HA.out
        clear HA
        simp only [Lw_TargetBest.j0] at H
        by_cases c23 : x49_5 = true
        · subst c23
          rw [if_pos rfl] at H
          obtain rfl := Option.some.inj H
          go_wp2
          go_ret
          exact ez
        · replace c23 := Bool.eq_false_iff.mpr c23
          subst c23
          rw [if_neg (show ¬ (false = true) by decide)] at H
          replace H := ob H
          obtain ⟨t1099, A24, H⟩ := H
          (try dsimp only at H)
          replace A24 := m0 A24
          replace H := ob H
          obtain ⟨⟨t1102, t1103, t1104, t1105⟩, A25, H⟩ := H
          (try dsimp only at H)
          replace A25 := m0 A25
          have HC26 := m0 H
          clear H
          go_upto_region 6 with (first | ((with_reducible refine gate_callee (f := 38) rfl ?_); refine gl (some 52) Try.func38 #[.slice A0 l0.length c0] ?_; (with_reducible refine (Rf_CopyReadings.calls _ _ l0 t1099 _ ?side1 ?side2 A24.out).mono ?_); (case side1 => exact cb HR0 HB); (case side2 => exact HC0.out); rintro e w27 ⟨v1100, rfl, ho0, hb⟩; refine ⟨_, rfl, ?_⟩; have HO1101 := m0 (Kd.R_lower ho0 (below_size bz)); replace BK1091 := bb BK1091 hb; replace BK1092 := bb BK1092 hb; replace HB := sb HB hb; (try clear hb); (try clear ho0); obtain ⟨Ao28, co28, eo28⟩ := Kd.R_slice HO1101.out; subst eo28) | ((with_reducible refine gate_callee (f := 37) rfl ?_); refine gl (some 53) Try.func37 #[.slice Ao28 t1099.length co28] ?_; (with_reducible refine (L_LineOf.calls kj5 _ _ t1099 t1102 t1103 t1104 t1105 _ ?side1 ?side2 A25.out).mono ?_); (case side1 => exact bc (Kd.R_reads' HO1101.out).2.2); (case side2 => exact (Kd.R_reads' HO1101.out).2.1); rintro e w29 ⟨rfl, hb⟩; refine ⟨_, rfl, ?_⟩; replace HO1101 := rb HO1101 hb; replace BK1091 := bb BK1091 hb; replace BK1092 := bb BK1092 hb; replace HB := sb HB hb; (try clear hb)) | ((with_reducible refine gate_dst (N := 7) rfl ?_); refine be 7 56 #[.int .i64 0, .int .i64 0, .int .i64 0] ?_; intro gb1106 hg w30 hbox hb; replace HO1101 := rb HO1101 hb; have BK1106 := m0 hbox; have GE1106 := gw w hg; replace HB := sb HB hb; have NB1091_1106 := nl BK1091 hg; have NB1106_1091 := ng (nl BK1091 hg); replace BK1091 := bb BK1091 hb; have NB1092_1106 := nl BK1092 hg; have NB1106_1092 := ng (nl BK1092 hg); replace BK1092 := bb BK1092 hb; clear hb hbox hg; have hnb31 := NB1106_1091.out; have hnc31 := NB1091_1106.out; have hnb32 := NB1106_1092.out; have hnc32 := NB1092_1106.out; obtain ⟨hcz33_0, hcz33_1, hcz33_2, hfz33_0, hfz33_1, hfz33_2⟩ := b3 BK1106))
          (try simp only [Act.put, List.setIfInBounds_toArray, List.set_cons_zero, List.set_cons_succ])
          go_cut [62] (fun v62 wc => ∃ (kq : Nat) (x62_25 : Bool), v62 = .bool x62_25 ∧ Aside0 (Lw_TargetBest.j1 kq l0 x62_25 a1_0 a1_1 a1_2 a2_0 a2_1 t1102 t1103 t1104 = some r) ∧ Aside0 (kq ≤ kj5) ∧ Aside0 (wc.heap[gb1091]? = some (.cells #[.int .i64 a1_0, .int .i64 a1_1, .int .i64 a1_2] 56 (0, 0))) ∧ Aside0 (wc.heap[gb1092]? = some (.cells #[.int .i64 a2_0, .int .i64 a2_1] 83 (0, 0))) ∧ Aside0 (wc.heap[gb1106]? = some (.cells #[.int .i64 t1102, .int .i64 t1103, .int .i64 t1104] 56 (0, 0))) ∧ Aside0 (Below w.heap.size w wc))
          case first =>
            have H := HC26.out
            clear HC26
            by_cases c34 : t1105 = 0
            · rw [if_pos c34] at H
              have c34b0 := beq_iff_eq.mpr c34
              have c34b1 := bne_eq_false_iff_eq.mpr c34
              clear c34
              (first | rw [c34b0] | (simp only [i64_w, i32_w]; rw [c34b0]) | skip)
              replace H := ob H
              obtain ⟨t1107, A35, H⟩ := H
              (try dsimp only at H)
              replace A35 := m0 A35
              have H' := m0 H
              clear H
              have hnb36 := NB1106_1091.out
              have hnc36 := NB1091_1106.out
              have hnb37 := NB1106_1092.out
              have hnc37 := NB1092_1106.out
              obtain ⟨hcz38_0, hcz38_1, hcz38_2, hfz38_0, hfz38_1, hfz38_2⟩ := b3 BK1106
              go_wp2_with (first | (go_at_call 34; (with_reducible refine (Rf_LineErr.calls kj5 t1102 t1103 t1104 t1107 _ A35.out).mono ?_); rintro e w39 ⟨rfl, hb⟩; replace HO1101 := m0 (Kd.R_below (by (with_reducible repeat (first | apply Kd.R_alloc | apply Kd.R_drewN | apply Kd.R_drew)); exact (Kd.R_mono (Kd.R_far (p := ⟨gb1106, 2, none⟩) (Kd.R_far (p := ⟨gb1106, 1, none⟩) (Kd.R_far (p := ⟨gb1106, 0, none⟩) (Kd.R_types HO1101.out BK1106.out (by decide)) (fun _ hk => hk.2) (.int .i64 t1102)) (fun _ hk => hk.2) (.int .i64 t1103)) (fun _ hk => hk.2) (.int .i64 t1104)) (fun _ h_ => h_.1))) hb); replace BK1091 := m0 (blk_below (g := gb1091) (o := .cells #[.int .i64 a1_0, .int .i64 a1_1, .int .i64 a1_2] 56 (0, 0)) (bq BK1091.out) hb); replace BK1092 := m0 (blk_below (g := gb1092) (o := .cells #[.int .i64 a2_0, .int .i64 a2_1] 83 (0, 0)) (bq BK1092.out) hb); replace BK1106 := m0 (blk_below (g := gb1106) (o := .cells #[.int .i64 t1102, .int .i64 t1103, .int .i64 t1104] 56 (0, 0)) (bq BK1106.out) hb); replace HB := sb HB hb; (try clear hb)))
              go_meet
              case rel => exact ⟨_, ((t1107 != 0)), (by first | rfl | (simp; done) | (simp [*]; done)), H', ⟨by have := HJ5.out; first | omega | exact Nat.le_refl _⟩, ⟨bk BK1091.out⟩, ⟨bk BK1092.out⟩, ⟨bk BK1106.out⟩, ⟨bz⟩⟩
            · rw [if_neg c34] at H
              exact absurd H (by simp)
          case rest =>
            as_aux_lemma =>
            clear HC26
            try clear hcz20_0
            try clear hcz20_1
            try clear hcz22_0
            try clear hcz22_1
            try clear hcz33_0
            try clear hcz33_1
            try clear hcz33_2
            try clear hcz38_0
            try clear hcz38_1
            try clear hcz38_2
            try clear hfz20_0
            try clear hfz20_1
            try clear hfz22_0
            try clear hfz22_1
            try clear hfz33_0
            try clear hfz33_1
            try clear hfz33_2
            try clear hfz38_0
            try clear hfz38_1
            try clear hfz38_2
            obtain ⟨kq, x62_25, rfl, HA, HJ25, BK1091, BK1092, BK1106, HB⟩ := hcut
            cases kq with
            | zero => exact absurd HA.out (by simp [Lw_TargetBest.j1])
            | succ kj25 =>
              have H := HA.out
              clear HA
              simp only [Lw_TargetBest.j1] at H
              by_cases c40 : x62_25 = true
              · subst c40
                rw [if_pos rfl] at H
                exact absurd H (by simp)
              · replace c40 := Bool.eq_false_iff.mpr c40
                subst c40
                rw [if_neg (show ¬ (false = true) by decide)] at H
                replace H := ob H
                obtain ⟨t1108, A41, H⟩ := H
                (try dsimp only at H)
                replace A41 := m0 A41
                replace H := ob H
                obtain ⟨⟨t1111, t1112⟩, A42, H⟩ := H
                (try dsimp only at H)
                replace A42 := m0 A42
                have HC43 := m0 H
                clear H
                try go_wp2
                replace BK1091 := bd BK1091; replace BK1092 := bd BK1092; replace BK1106 := bd BK1106; replace HB := sd HB
                refine start_ (n := 9) (S := fun w' => w'.cell? ⟨gb1106, 0, none⟩ = some (.int .i64 t1102) ∧ w'.cell? ⟨gb1106, 1, none⟩ = some (.int .i64 t1103) ∧ w'.cell? ⟨gb1106, 2, none⟩ = some (.int .i64 t1104)) (ds := []) #[false, false, false, false, false, false, false, false, false] (by kernel_rfl) rfl rfl cz (fun hH => ?_); refine with_tabW Lw_TargetBest.tab8 Lw_TargetBest.bits8 (fun HT_ HW_ => ?_)
                generalize wc.drew = w44 at BK1091 BK1092 BK1106 HB hH ⊢
                refine pZ 0 (some 64) #[true, false, false, false, false, false, false, false, false] HT_ ?_
                refine takeZ 2 (some 66) #[true, false, true, false, false, false, false, false, false] (take_ofW HT_.out HW_.out (by kernel_rfl)) hH ?_
                refine oneZ 1 (some 65) #[true, true, true, false, false, false, false, false, false] (one_of HT_.out (by kernel_rfl)) fun K hK => ?_
                refine gz Try.func38 #[.slice A0 l0.length c0] ?_
                with_reducible refine (Rf_CopyReadings.calls _ _ l0 t1108 _ ?side1 ?side2 A41.out).mono ?_
                (case side1 => exact cb HR0 HB)
                (case side2 => exact HC0.out)
                rintro e w45 ⟨v1109, rfl, ho0, hb⟩
                refine ⟨_, rfl, ?_⟩
                have HO1110 := m0 (Kd.R_lower ho0 (below_size bz)); replace BK1091 := bb BK1091 hb; replace BK1092 := bb BK1092 hb; replace BK1106 := bb BK1106 hb; replace HB := sb HB hb
                (try clear hb)
                (try clear ho0)
                obtain ⟨Ao46, co46, eo46⟩ := Kd.R_slice HO1110.out
                subst eo46
                refine hK.out _ _ cz (fun hH => ?_)
                clear hK K
                refine norm_ (a' := ?_) ?_ ?_
                rotate_left
                · show Act.put _ (some 65) _ = _
                  exact pz
                refine oneZ 3 (some 67) #[true, true, true, true, false, false, false, false, false] (one_of HT_.out (by kernel_rfl)) fun K hK => ?_
                refine gz Try.func40 #[.slice Ao46 t1108.length co46, .agg #[.int .i64 t1102, .int .i64 t1103, .int .i64 t1104]] ?_
                with_reducible refine (L_CheckLine.calls kj25 _ _ t1108 t1102 t1103 t1104 t1111 t1112 _ ?side1 ?side2 A42.out).mono ?_
                (case side1 => exact bc (Kd.R_reads' HO1110.out).2.2)
                (case side2 => exact (Kd.R_reads' HO1110.out).2.1)
                rintro e w47 ⟨rfl, hb⟩
                refine ⟨_, rfl, ?_⟩
                replace HO1110 := rb HO1110 hb; replace BK1091 := bb BK1091 hb; replace BK1092 := bb BK1092 hb; replace BK1106 := bb BK1106 hb; replace HB := sb HB hb
                (try clear hb)
                refine hK.out _ _ cz (fun hH => ?_)
                clear hK K
                refine norm_ (a' := ?_) ?_ ?_
                rotate_left
                · show Act.put _ (some 67) _ = _
                  exact pz
                refine pZ 4 (some 63) #[true, true, true, true, true, false, false, false, false] HT_ ?_
                refine pZ 5 (some 68) #[true, true, true, true, true, true, false, false, false] HT_ ?_
                refine pZ 6 (some 69) #[true, true, true, true, true, true, true, false, false] HT_ ?_
                refine pZ 7 (some 9) #[true, true, true, true, true, true, true, true, false] HT_ ?_
                refine pZ 8 (some 10) #[true, true, true, true, true, true, true, true, true] HT_ ?_
                refine done_ (done_of HT_.out (by kernel_rfl)) ?_
                go_upto_region 9 with (fail)
                go_cut [75] (fun v75 wc => ∃ (kq : Nat) (x75_42 : Bool), v75 = .bool x75_42 ∧ Aside0 (Lw_TargetBest.j2 kq l0 x75_42 a1_0 a1_1 a1_2 a2_0 a2_1 t1102 t1103 t1104 = some r) ∧ Aside0 (kq ≤ kj25) ∧ Aside0 (wc.heap[gb1091]? = some (.cells #[.int .i64 a1_0, .int .i64 a1_1, .int .i64 a1_2] 56 (0, 0))) ∧ Aside0 (wc.heap[gb1092]? = some (.cells #[.int .i64 a2_0, .int .i64 a2_1] 83 (0, 0))) ∧ Aside0 (wc.heap[gb1106]? = some (.cells #[.int .i64 t1102, .int .i64 t1103, .int .i64 t1104] 56 (0, 0))) ∧ Aside0 (Below w.heap.size w wc))
                case first =>
                  have H := HC43.out
                  clear HC43
                  by_cases c48 : t1112 = 0
                  · rw [if_pos c48] at H
                    have c48b0 := beq_iff_eq.mpr c48
                    have c48b1 := bne_eq_false_iff_eq.mpr c48
                    clear c48
                    (first | rw [c48b0] | (simp only [i64_w, i32_w]; rw [c48b0]) | skip)
                    have H' := m0 H
                    clear H
                    go_wp2
                    go_meet
                    case rel => exact ⟨_, ((t1111 != 0)), (by first | rfl | (simp; done) | (simp [*]; done)), H', ⟨by have := HJ5.out; have := HJ25.out; first | omega | exact Nat.le_refl _⟩, ⟨bk BK1091.out⟩, ⟨bk BK1092.out⟩, ⟨bk BK1106.out⟩, ⟨bz⟩⟩
                  · rw [if_neg c48] at H
                    exact absurd H (by simp)
                case rest =>
                  as_aux_lemma =>
                  clear HC43
                  try clear hcz20_0
                  try clear hcz20_1
                  try clear hcz22_0
                  try clear hcz22_1
                  try clear hcz33_0
                  try clear hcz33_1
                  try clear hcz33_2
                  try clear hcz38_0
                  try clear hcz38_1
                  try clear hcz38_2
                  try clear hfz20_0
                  try clear hfz20_1
                  try clear hfz22_0
                  try clear hfz22_1
                  try clear hfz33_0
                  try clear hfz33_1
                  try clear hfz33_2
                  try clear hfz38_0
                  try clear hfz38_1
                  try clear hfz38_2
                  obtain ⟨kq, x75_42, rfl, HA, HJ42, BK1091, BK1092, BK1106, HB⟩ := hcut
                  cases kq with
                  | zero => exact absurd HA.out (by simp [Lw_TargetBest.j2])
                  | succ kj42 =>
                    have H := HA.out
                    clear HA
                    simp only [Lw_TargetBest.j2] at H
                    by_cases c49 : x75_42 = true
                    · subst c49
                      rw [if_pos rfl] at H
                      exact absurd H (by simp)
                    · replace c49 := Bool.eq_false_iff.mpr c49
                      subst c49
                      rw [if_neg (show ¬ (false = true) by decide)] at H
                      replace H := ob H
                      obtain ⟨t1113, A50, H⟩ := H
                      (try dsimp only at H)
                      replace A50 := m0 A50
                      have HC51 := m0 H
                      clear H
                      have hnb52 := NB1091_1092.out
                      have hnc52 := NB1092_1091.out
                      have hnb53 := NB1091_1106.out
                      have hnc53 := NB1106_1091.out
                      obtain ⟨hcz54_0, hcz54_1, hcz54_2, hfz54_0, hfz54_1, hfz54_2⟩ := b3 BK1091
                      go_upto_if 78 with (first | ((with_reducible refine gate_callee (f := 34) rfl ?_); refine gl (some 77) Try.func34 #[.agg #[.int .i64 a1_0, .int .i64 a1_1, .int .i64 a1_2]] ?_; (with_reducible refine (Rf_LineErr.calls kj42 a1_0 a1_1 a1_2 t1113 _ A50.out).mono ?_); rintro e w55 ⟨rfl, hb⟩; refine ⟨_, rfl, ?_⟩; replace BK1091 := bb BK1091 hb; replace BK1092 := bb BK1092 hb; replace BK1106 := bb BK1106 hb; replace HB := sb HB hb; (try clear hb)))
                      (try simp only [Act.put, List.setIfInBounds_toArray, List.set_cons_zero, List.set_cons_succ])
                      go_cut [] (fun wc => ∃ (kq : Nat), Aside0 (Lw_TargetBest.j3 kq l0 a2_0 a2_1 = some r) ∧ Aside0 (kq ≤ kj42) ∧ Aside0 (wc.heap[gb1091]? = some (.cells #[.int .i64 a1_0, .int .i64 a1_1, .int .i64 a1_2] 56 (0, 0))) ∧ Aside0 (wc.heap[gb1092]? = some (.cells #[.int .i64 a2_0, .int .i64 a2_1] 83 (0, 0))) ∧ Aside0 (wc.heap[gb1106]? = some (.cells #[.int .i64 t1102, .int .i64 t1103, .int .i64 t1104] 56 (0, 0))) ∧ Aside0 (Below w.heap.size w wc))
                      case first =>
                        have H := HC51.out
                        clear HC51
                        by_cases c56 : t1113 = 0
                        · rw [if_pos c56] at H
                          have c56b0 := beq_iff_eq.mpr c56
                          have c56b1 := bne_eq_false_iff_eq.mpr c56
                          clear c56
                          (first | rw [c56b0] | (simp only [i64_w, i32_w]; rw [c56b0]) | skip)
                          replace H := ob H
                          obtain ⟨t1114, A57, H⟩ := H
                          (try dsimp only at H)
                          replace A57 := m0 A57
                          replace H := ob H
                          obtain ⟨⟨t1117, t1118⟩, A58, H⟩ := H
                          (try dsimp only at H)
                          replace A58 := m0 A58
                          by_cases c59 : ((t1118 == 0) != (a1_0 == t1102 && (a1_1 == t1103 && (a1_2 == t1104)))) = true
                          · rw [if_pos c59] at H
                            exact absurd H (by simp)
                          · rw [if_neg c59] at H
                            have c59b0 : ((t1118 == 0) != (a1_0 == t1102 && (a1_1 == t1103 && (a1_2 == t1104)))) = false := by simpa using c59
                            (try (have c59b1 : decide ((t1118 == 0) = (a1_0 == t1102 && (a1_1 == t1103 && (a1_2 == t1104)))) = true := by simpa using c59))
                            (try (have c59b2 : ((t1118 == 0) == (a1_0 == t1102 && (a1_1 == t1103 && (a1_2 == t1104)))) = true := by simpa using c59))
                            clear c59
                            have H' := m0 H
                            clear H
                            try go_wp2
                            replace BK1091 := bd BK1091; replace BK1092 := bd BK1092; replace BK1106 := bd BK1106; replace HB := sd HB
                            refine start_ (n := 9) (S := fun w' => w'.cell? ⟨gb1091, 0, none⟩ = some (.int .i64 a1_0) ∧ w'.cell? ⟨gb1091, 1, none⟩ = some (.int .i64 a1_1) ∧ w'.cell? ⟨gb1091, 2, none⟩ = some (.int .i64 a1_2)) (ds := []) #[false, false, false, false, false, false, false, false, false] (by kernel_rfl) rfl rfl cz (fun hH => ?_); refine with_tabW Lw_TargetBest.tab12 Lw_TargetBest.bits12 (fun HT_ HW_ => ?_)
                            generalize w55.drew = w60 at BK1091 BK1092 BK1106 HB hH ⊢
                            refine pZ 0 (some 80) #[true, false, false, false, false, false, false, false, false] HT_ ?_
                            refine takeZ 2 (some 82) #[true, false, true, false, false, false, false, false, false] (take_ofW HT_.out HW_.out (by kernel_rfl)) hH ?_
                            refine oneZ 1 (some 81) #[true, true, true, false, false, false, false, false, false] (one_of HT_.out (by kernel_rfl)) fun K hK => ?_
                            refine gz Try.func38 #[.slice A0 l0.length c0] ?_
                            with_reducible refine (Rf_CopyReadings.calls _ _ l0 t1114 _ ?side1 ?side2 A57.out).mono ?_
                            (case side1 => exact cb HR0 HB)
                            (case side2 => exact HC0.out)
                            rintro e w61 ⟨v1115, rfl, ho0, hb⟩
                            refine ⟨_, rfl, ?_⟩
                            have HO1116 := m0 (Kd.R_lower ho0 (below_size bz)); replace BK1091 := bb BK1091 hb; replace BK1092 := bb BK1092 hb; replace BK1106 := bb BK1106 hb; replace HB := sb HB hb
                            (try clear hb)
                            (try clear ho0)
                            obtain ⟨Ao62, co62, eo62⟩ := Kd.R_slice HO1116.out
                            subst eo62
                            refine hK.out _ _ cz (fun hH => ?_)
                            clear hK K
                            refine norm_ (a' := ?_) ?_ ?_
                            rotate_left
                            · show Act.put _ (some 81) _ = _
                              exact pz
                            refine oneZ 3 (some 83) #[true, true, true, true, false, false, false, false, false] (one_of HT_.out (by kernel_rfl)) fun K hK => ?_
                            refine gz Try.func40 #[.slice Ao62 t1114.length co62, .agg #[.int .i64 a1_0, .int .i64 a1_1, .int .i64 a1_2]] ?_
                            with_reducible refine (L_CheckLine.calls kj42 _ _ t1114 a1_0 a1_1 a1_2 t1117 t1118 _ ?side1 ?side2 A58.out).mono ?_
                            (case side1 => exact bc (Kd.R_reads' HO1116.out).2.2)
                            (case side2 => exact (Kd.R_reads' HO1116.out).2.1)
                            rintro e w63 ⟨rfl, hb⟩
                            refine ⟨_, rfl, ?_⟩
                            replace HO1116 := rb HO1116 hb; replace BK1091 := bb BK1091 hb; replace BK1092 := bb BK1092 hb; replace BK1106 := bb BK1106 hb; replace HB := sb HB hb
                            (try clear hb)
                            refine hK.out _ _ cz (fun hH => ?_)
                            clear hK K
                            refine norm_ (a' := ?_) ?_ ?_
                            rotate_left
                            · show Act.put _ (some 83) _ = _
                              exact pz
                            refine pZ 4 (some 79) #[true, true, true, true, true, false, false, false, false] HT_ ?_
                            refine pZ 5 (some 84) #[true, true, true, true, true, true, false, false, false] HT_ ?_
                            refine pZ 6 (some 85) #[true, true, true, true, true, true, true, false, false] HT_ ?_
                            refine pZ 7 (some 11) #[true, true, true, true, true, true, true, true, false] HT_ ?_
                            refine pZ 8 (some 12) #[true, true, true, true, true, true, true, true, true] HT_ ?_
                            refine done_ (done_of HT_.out (by kernel_rfl)) ?_
                            have hnb64 := NB1091_1092.out
                            have hnc64 := NB1092_1091.out
                            have hnb65 := NB1091_1106.out
                            have hnc65 := NB1106_1091.out
                            obtain ⟨hcz66_0, hcz66_1, hcz66_2, hfz66_0, hfz66_1, hfz66_2⟩ := b3 BK1091
                            have hnb67 := NB1106_1092.out
                            have hnc67 := NB1092_1106.out
                            obtain ⟨hcz68_0, hcz68_1, hcz68_2, hfz68_0, hfz68_1, hfz68_2⟩ := b3 BK1106
                            try go_wp2
                            go_meet
                            case rel => exact ⟨_, H', ⟨by have := HJ5.out; have := HJ25.out; have := HJ42.out; first | omega | exact Nat.le_refl _⟩, ⟨bk BK1091.out⟩, ⟨bk BK1092.out⟩, ⟨bk BK1106.out⟩, ⟨bz⟩⟩
                        · rw [if_neg c56] at H
                          have c56b0 := beq_eq_false_iff_ne.mpr c56
                          have c56b1 := bne_iff_ne.mpr c56
                          (first | rw [c56b0] | (simp only [i64_w, i32_w]; rw [c56b0]) | skip)
                          have H' := m0 H
                          clear H
                          go_wp2
                          go_meet
                          case rel => exact ⟨_, H', ⟨by have := HJ5.out; have := HJ25.out; have := HJ42.out; first | omega | exact Nat.le_refl _⟩, ⟨bk BK1091.out⟩, ⟨bk BK1092.out⟩, ⟨bk BK1106.out⟩, ⟨bz⟩⟩
                      case rest =>
                        as_aux_lemma =>
                        clear HC51
                        try clear hcz20_0
                        try clear hcz20_1
                        try clear hcz22_0
                        try clear hcz22_1
                        try clear hcz33_0
                        try clear hcz33_1
                        try clear hcz33_2
                        try clear hcz38_0
                        try clear hcz38_1
                        try clear hcz38_2
                        try clear hcz54_0
                        try clear hcz54_1
                        try clear hcz54_2
                        try clear hcz66_0
                        try clear hcz66_1
                        try clear hcz66_2
                        try clear hcz68_0
                        try clear hcz68_1
                        try clear hcz68_2
                        try clear hfz20_0
                        try clear hfz20_1
                        try clear hfz22_0
                        try clear hfz22_1
                        try clear hfz33_0
                        try clear hfz33_1
                        try clear hfz33_2
                        try clear hfz38_0
                        try clear hfz38_1
                        try clear hfz38_2
                        try clear hfz54_0
                        try clear hfz54_1
                        try clear hfz54_2
                        try clear hfz66_0
                        try clear hfz66_1
                        try clear hfz66_2
                        try clear hfz68_0
                        try clear hfz68_1
                        try clear hfz68_2
                        obtain ⟨kq, HA, HJ50, BK1091, BK1092, BK1106, HB⟩ := hcut
                        cases kq with
                        | zero => exact absurd HA.out (by simp [Lw_TargetBest.j3])
                        | succ kj50 =>
                          have H := HA.out
                          clear HA
                          simp only [Lw_TargetBest.j3] at H
                          replace H := ob H
                          obtain ⟨t1119, A69, H⟩ := H
                          (try dsimp only at H)
                          replace A69 := m0 A69
                          have H' := m0 H
                          clear H
                          go_wp2_with (first | ((with_reducible refine gate_callee (f := 38) rfl ?_); refine gl (some 93) Try.func38 #[.slice A0 l0.length c0] ?_; (with_reducible refine (Rf_CopyReadings.calls _ _ l0 t1119 _ ?side1 ?side2 A69.out).mono ?_); (case side1 => exact cb HR0 HB); (case side2 => exact HC0.out); rintro e w70 ⟨v1120, rfl, ho0, hb⟩; refine ⟨_, rfl, ?_⟩; have HO1121 := m0 (Kd.R_lower ho0 (below_size bz)); replace BK1091 := bb BK1091 hb; replace BK1092 := bb BK1092 hb; replace BK1106 := bb BK1106 hb; replace HB := sb HB hb; (try clear hb); (try clear ho0)))
                          go_loopg [14, 15, 16] kj50 (fun kq v14 v15 v16 w' => ∃ (x13_5 : List (S85)) (x14_5 : Int) (x15_5 : Bool) (x16_5 : Int), v14 = .int .i64 x14_5 ∧ v15 = .bool x15_5 ∧ v16 = .int .i64 x16_5 ∧ Aside0 (Lw_TargetBest.l0 kq l0 x13_5 x14_5 x15_5 x16_5 a2_0 a2_1 = some r) ∧ Aside0 (kq ≤ kj50) ∧ Aside0 (Kd.R k85 85 w' w.heap.size (fun _ => True) v1120 x13_5) ∧ Aside0 (w'.heap[gb1091]? = some (.cells #[.int .i64 a1_0, .int .i64 a1_1, .int .i64 a1_2] 56 (0, 0))) ∧ Aside0 (w'.heap[gb1092]? = some (.cells #[.int .i64 a2_0, .int .i64 a2_1] 83 (0, 0))) ∧ Aside0 (w'.heap[gb1106]? = some (.cells #[.int .i64 t1102, .int .i64 t1103, .int .i64 t1104] 56 (0, 0))) ∧ Aside0 (Below w.heap.size w w'))
                          case atStart => exact ⟨(t1119), (0), (true), (0), (by first | rfl | (simp; done) | (simp [*]; done)), (by first | rfl | (simp; done) | (simp [*]; done)), (by first | rfl | (simp; done) | (simp [*]; done)), H', ⟨Nat.le_refl _⟩, ⟨br HO1121.out⟩, ⟨bk BK1091.out⟩, ⟨bk BK1092.out⟩, ⟨bk BK1106.out⟩, ⟨bz⟩⟩
                          case round =>
                            as_aux_lemma =>
                            clear H'
                            try clear hcz20_0
                            try clear hcz20_1
                            try clear hcz22_0
                            try clear hcz22_1
                            try clear hcz33_0
                            try clear hcz33_1
                            try clear hcz33_2
                            try clear hcz38_0
                            try clear hcz38_1
                            try clear hcz38_2
                            try clear hcz54_0
                            try clear hcz54_1
                            try clear hcz54_2
                            try clear hcz66_0
                            try clear hcz66_1
                            try clear hcz66_2
                            try clear hcz68_0
                            try clear hcz68_1
                            try clear hcz68_2
                            try clear hfz20_0
                            try clear hfz20_1
                            try clear hfz22_0
                            try clear hfz22_1
                            try clear hfz33_0
                            try clear hfz33_1
                            try clear hfz33_2
                            try clear hfz38_0
                            try clear hfz38_1
                            try clear hfz38_2
                            try clear hfz54_0
                            try clear hfz54_1
                            try clear hfz54_2
                            try clear hfz66_0
                            try clear hfz66_1
                            try clear hfz66_2
                            try clear hfz68_0
                            try clear hfz68_1
                            try clear hfz68_2
                            obtain ⟨x13_5, x14_5, x15_5, x16_5, rfl, rfl, rfl, HA, HK5, HO_13, BK1091, BK1092, BK1106, HB⟩ := hrel
                            cases gk with
                            | zero => exact absurd HA.out (by simp [Lw_TargetBest.l0])
                            | succ k5 =>
                              have H := HA.out
                              clear HA
                              simp only [Lw_TargetBest.l0] at H
                              by_cases c71 : x16_5 < (l0.length : Int)
                              · rw [if_pos c71] at H
                                have c71b0 := decide_eq_true c71
                                clear c71
                                by_cases c72 : 0 ≤ x16_5
                                · rw [if_pos c72] at H
                                  have c72b0 := decide_eq_true c72
                                  clear c72
                                  by_cases c73 : x16_5 < (x13_5.length : Int)
                                  · rw [if_pos c73] at H
                                    have c73b0 := decide_eq_true c73
                                    clear c73
                                    obtain ⟨y1123, hy1123⟩ : ∃ y_ : List (S85), y_ = (x13_5.set (x16_5 : Int).toNat (⟨(rd_T85 x13_5 x16_5).f0, wrap64 ((wrap64 (a2_0 * ((rd_T85 l0 x16_5).f0))) + a2_1), (rd_T85 x13_5 x16_5).f2⟩ : S85)) := ⟨_, rfl⟩
                                    replace H : (if x15_5 = true then ((Bs_Within.f (wrap64 ((wrap64 (a2_0 * ((rd_T85 l0 x16_5).f0))) + a2_1)) 0 2000).bind fun t1124 => (Lw_TargetBest.l0 k5 l0 y1123 (wrap64 (x14_5 + (wrap64 ((wrap64 (((rd_T85 l0 x16_5).f1) - (wrap64 ((wrap64 (a2_0 * ((rd_T85 l0 x16_5).f0))) + a2_1)))) * (wrap64 (((rd_T85 l0 x16_5).f1) - (wrap64 ((wrap64 (a2_0 * ((rd_T85 l0 x16_5).f0))) + a2_1)))))))) t1124 (wrap64 (x16_5 + 1)) a2_0 a2_1)) else (Lw_TargetBest.l0 k5 l0 y1123 (wrap64 (x14_5 + (wrap64 ((wrap64 (((rd_T85 l0 x16_5).f1) - (wrap64 ((wrap64 (a2_0 * ((rd_T85 l0 x16_5).f0))) + a2_1)))) * (wrap64 (((rd_T85 l0 x16_5).f1) - (wrap64 ((wrap64 (a2_0 * ((rd_T85 l0 x16_5).f0))) + a2_1)))))))) false (wrap64 (x16_5 + 1)) a2_0 a2_1)) = some r := by first | (rw [hy1123]; with_reducible exact H) | (have H2_ := (Option.bind_some _ _).symm.trans H; rw [hy1123]; with_reducible exact H2_) | (have H2_ := (Option.bind_some _ _).symm.trans H; with_reducible exact H2_) | with_reducible exact H | (rw [hy1123]; exact H) | exact H
                                    have Ny1123 := m0 hy1123
                                    clear hy1123
                                    by_cases c75 : x15_5 = true
                                    · subst c75
                                      rw [if_pos rfl] at H
                                      replace H := ob H
                                      obtain ⟨t1124, A76, H⟩ := H
                                      (try dsimp only at H)
                                      replace A76 := m0 A76
                                      have H' := m0 H
                                      clear H
                                      try go_wp2
                                      replace HO_13 := m0 (Kd.R_drew HO_13.out); replace BK1091 := bd BK1091; replace BK1092 := bd BK1092; replace BK1106 := bd BK1106; replace HB := sd HB
                                      have p1122 : 0 ≤ (x16_5 : Int) := od
                                      have q1122 : x16_5 < (l0.length : Int) := od
                                      obtain ⟨ad1122, e1122, hx1122_0, hx1122_1, hx1122_2⟩ := at_T85 HR0.out x16_5 p1122 q1122
                                      have hw1122_2 := hx1122_2
                                      have hw1122_1 := hx1122_1
                                      have hw1122_0 := hx1122_0
                                      cases e1122
                                      replace hx1122_0 := (HB.out.cell (World.block_lt_of_cell? w _ hx1122_0)).trans hx1122_0
                                      replace hx1122_1 := (HB.out.cell (World.block_lt_of_cell? w _ hx1122_1)).trans hx1122_1
                                      replace hx1122_2 := (HB.out.cell (World.block_lt_of_cell? w _ hx1122_2)).trans hx1122_2
                                      replace p1122 := eq_true p1122
                                      replace q1122 := eq_true q1122
                                      refine start_ (n := 12) (S := fun w' => w'.cell? ⟨gb1092, 0, none⟩ = some (.int .i64 a2_0) ∧ w'.cell? ⟨gb1092, 1, none⟩ = some (.int .i64 a2_1) ∧ w'.cell? (ad1122.add ((x16_5).toNat * 3)) = some (.int .i64 ((rd_T85 l0 x16_5).f0)) ∧ w'.cell? ⟨(ad1122.add ((x16_5).toNat * 3)).block, (ad1122.add ((x16_5).toNat * 3)).off + 1, none⟩ = some (.int .i64 ((rd_T85 l0 x16_5).f1)) ∧ w'.cell? ⟨(ad1122.add ((x16_5).toNat * 3)).block, (ad1122.add ((x16_5).toNat * 3)).off + 2, none⟩ = some (.int .i64 ((rd_T85 l0 x16_5).f2))) (ds := []) #[false, false, false, false, false, false, false, false, false, false, false, false] (by kernel_rfl) rfl rfl ⟨(blk_cell BK1092.out 0).trans rfl, (blk_cell BK1092.out 1).trans rfl, ((HB.out.cell (World.block_lt_of_cell? w _ hw1122_0)).trans hw1122_0), ((HB.out.cell (World.block_lt_of_cell? w _ hw1122_1)).trans hw1122_1), ((HB.out.cell (World.block_lt_of_cell? w _ hw1122_2)).trans hw1122_2)⟩ (fun hH => ?_); refine with_tabW Lw_TargetBest.tab21 Lw_TargetBest.bits21 (fun HT_ HW_ => ?_)
                                      generalize wr.drew = w77 at HO_13 BK1091 BK1092 BK1106 HB hx1122_0 hx1122_1 hx1122_2 hH ⊢
                                      refine pZ 0 (some 100) (bs 12 1) HT_ ?_
                                      refine pZ 2 (some 102) (bs 12 5) HT_ ?_
                                      refine pZ 3 (some 103) (bs 12 13) HT_ ?_
                                      refine pZ 4 (some 104) (bs 12 29) HT_ ?_
                                      refine pZ 5 (some 105) (bs 12 61) HT_ ?_
                                      refine pZ 8 (some 108) (bs 12 317) HT_ ?_
                                      refine takeZ 1 (some 101) (bs 12 319) (take_ofW HT_.out HW_.out (by kernel_rfl)) hH ?_
                                      refine takeZ 6 (some 106) (bs 12 383) (take_ofW HT_.out HW_.out (by kernel_rfl)) hH ?_
                                      refine pZ 7 (some 107) (bs 12 511) HT_ ?_
                                      refine takeZ 9 (some 109) (bs 12 1023) (take_ofW HT_.out HW_.out (by kernel_rfl)) hH ?_
                                      refine pZ 10 (some 110) (bs 12 2047) HT_ ?_
                                      refine pZ 11 (some 17) (bs 12 4095) HT_ ?_
                                      refine done_ (done_of HT_.out (by kernel_rfl)) ?_
                                      have p74 : 0 ≤ (x16_5 : Int) := od
                                      have q74 : (x16_5 : Int) < ((x13_5.length : Int) : Int) := od
                                      obtain ⟨go74, co74, eo74, gb74, gl74, cl74, HG74⟩ := Kd.R_form HO_13.out (by omega)
                                      (first | cases eo74 | (injection eo74 with ea_ en_ ec_; (first | subst ea_ | (injection ea_ with ea_; subst ea_)); subst ec_; clear en_))
                                      have GB74 := m0 gb74
                                      have GG74 := m0 HG74
                                      clear gb74 gl74 HG74
                                      obtain ⟨ce74, hcl74, hM74, hcc74, hfr74⟩ := Kd.R_elem HO_13.out z85 (x16_5 : Int) p74 q74
                                      obtain rfl := k85_openM hM74
                                      have hx74_0 : w77.cell? ⟨go74, (x16_5 : Int).toNat * 3, none⟩ = some (.int .i64 ((rd_T85 x13_5 x16_5).f0)) := hcc74 0 _ rfl
                                      have hx74_1 : w77.cell? ⟨go74, (x16_5 : Int).toNat * 3 + 1, none⟩ = some (.int .i64 ((rd_T85 x13_5 x16_5).f1)) := hcc74 1 _ rfl
                                      have hx74_2 : w77.cell? ⟨go74, (x16_5 : Int).toNat * 3 + 2, none⟩ = some (.int .i64 ((rd_T85 x13_5 x16_5).f2)) := hcc74 2 _ rfl
                                      have hf74_0 : w77.frozen? ⟨go74, (x16_5 : Int).toNat * 3, none⟩ = false := hfr74 0
                                      have hf74_1 : w77.frozen? ⟨go74, (x16_5 : Int).toNat * 3 + 1, none⟩ = false := hfr74 1
                                      have hf74_2 : w77.frozen? ⟨go74, (x16_5 : Int).toNat * 3 + 2, none⟩ = false := hfr74 2
                                      clear hcl74 hcc74 hfr74 hM74
                                      replace p74 := eq_true p74
                                      replace q74 := eq_true q74
                                      have HX78 := m0 (show Kd.R k85 85 w77 w.heap.size (fun _ => True) (.slice (some ⟨go74, 0, none⟩) x13_5.length co74) x13_5 from (br HO_13.out))
                                      obtain ⟨ce78, hcl78, hM78, hcc78, hfr78⟩ := Kd.R_elem HX78.out z85 (x16_5 : Int) (od) (by have h_ : (x16_5 : Int) < ((x13_5.length : Int) : Int) := od; first | exact h_ | (have e_ := (Kd.R_reads' HO_13.out).1; omega) | simpa using h_)
                                      obtain rfl := k85_openM hM78
                                      have HP78 := Kd.R_seg HX78.out (x16_5 : Int) (od) (by have h_ : (x16_5 : Int) < ((x13_5.length : Int) : Int) := od; first | exact h_ | (have e_ := (Kd.R_reads' HO_13.out).1; omega) | simpa using h_) (seg := [.int .i64 (wrap64 ((wrap64 (a2_0 * ((rd_T85 l0 x16_5).f0))) + a2_1))]) (j := 1) hcl78 hcc78 (show 2 ≤ 3 from by decide) (x' := (⟨(rd_T85 x13_5 x16_5).f0, wrap64 ((wrap64 (a2_0 * ((rd_T85 l0 x16_5).f0))) + a2_1), (rd_T85 x13_5 x16_5).f2⟩ : S85)) (k85_mkM _ _ _ (⟨(rd_T85 x13_5 x16_5).f0, wrap64 ((wrap64 (a2_0 * ((rd_T85 l0 x16_5).f0))) + a2_1), (rd_T85 x13_5 x16_5).f2⟩ : S85) ) (fun _ hk => hk)
                                      have hx78_1 := hcc78 1 _ rfl
                                      (try simp only [show (k85).sz = 3 from rfl, Nat.mul_one, Nat.add_zero] at hx78_1)
                                      have hf78_1 := hfr78 1
                                      (try simp only [show (k85).sz = 3 from rfl, Nat.mul_one, Nat.add_zero] at hf78_1)
                                      clear hcl78 hcc78 hfr78 hM78
                                      try go_wp2_with (first | ((with_reducible refine gate_store (t := 3) (p := 115) rfl ?_); refine store_event (t := 3) (p := 115) (v := ?vo_w79) (w1 := (w77.setCell ⟨go74, (x16_5 : Int).toNat * 3 + 1, none⟩ (.int .i64 (wrap64 ((wrap64 (a2_0 * ((rd_T85 l0 x16_5).f0))) + a2_1))))) ?hg ?ho ?hn ?hr ?_; (case ho => rfl); (case hg => rfl); (case hn => rfl); (case hr => first | (go_simp; done) | (go_simp; rfl)); intro w79 hw; have hg : w77.grownBy w79 (some go74) := (by rw [hw]; exact HP78.2); have hp_ : Kd.R k85 85 w79 w.heap.size (fun _ => True) (.slice (some ⟨go74, 0, none⟩) x13_5.length co74) y1123 := (by rw [hw, Ny1123.out]; exact HP78.1); clear HP78; replace BK1091 := m0 (blk_grown (g := gb1091) (o := .cells #[.int .i64 a1_0, .int .i64 a1_1, .int .i64 a1_2] 56 (0, 0)) (bk BK1091.out) hg (Kd.R_ne HO_13.out BK1091.out (by decide))); replace BK1092 := m0 (blk_grown (g := gb1092) (o := .cells #[.int .i64 a2_0, .int .i64 a2_1] 83 (0, 0)) (bk BK1092.out) hg (Kd.R_ne HO_13.out BK1092.out (by decide))); replace BK1106 := m0 (blk_grown (g := gb1106) (o := .cells #[.int .i64 t1102, .int .i64 t1103, .int .i64 t1104] 56 (0, 0)) (bk BK1106.out) hg (Kd.R_ne HO_13.out BK1106.out (by decide))); replace HO_13 := m0 (hp_); replace HB := m0 ((by rw [hw]; exact below_set (HB.out) GB74.out : Below w.heap.size w w79)); clear hg hw hp_) | (go_at_call 24; (with_reducible refine (Bs_Within.calls (wrap64 ((wrap64 (a2_0 * ((rd_T85 l0 x16_5).f0))) + a2_1)) 0 2000 t1124 _ A76.out).mono ?_); rintro e w' ⟨rfl, ⟨nd, rfl⟩⟩))
                                      (try (rw [drewN_self w79]; generalize hq_ : World.drewN w79 _ = w79; replace HO_13 := gr HO_13 hq_; replace BK1091 := gd BK1091 hq_; replace BK1092 := gd BK1092 hq_; replace BK1106 := gd BK1106 hq_; replace HB := gs HB hq_; clear hq_))
                                      replace HO_13 := m0 (Kd.R_drew HO_13.out); replace BK1091 := bd BK1091; replace BK1092 := bd BK1092; replace BK1106 := bd BK1106; replace HB := sd HB
                                      have p1125 : 0 ≤ (x16_5 : Int) := od
                                      have q1125 : x16_5 < (l0.length : Int) := od
                                      obtain ⟨ad1125, e1125, hx1125_0, hx1125_1, hx1125_2⟩ := at_T85 HR0.out x16_5 p1125 q1125
                                      have hw1125_2 := hx1125_2
                                      have hw1125_1 := hx1125_1
                                      have hw1125_0 := hx1125_0
                                      obtain rfl : ad1122 = ad1125 := (by injection e1125)
                                      replace hx1125_0 := (HB.out.cell (World.block_lt_of_cell? w _ hx1125_0)).trans hx1125_0
                                      replace hx1125_1 := (HB.out.cell (World.block_lt_of_cell? w _ hx1125_1)).trans hx1125_1
                                      replace hx1125_2 := (HB.out.cell (World.block_lt_of_cell? w _ hx1125_2)).trans hx1125_2
                                      replace p1125 := eq_true p1125
                                      replace q1125 := eq_true q1125
                                      have p1126 : 0 ≤ (x16_5 : Int) := od
                                      have q1126 : x16_5 < (l0.length : Int) := od
                                      obtain ⟨ad1126, e1126, hx1126_0, hx1126_1, hx1126_2⟩ := at_T85 HR0.out x16_5 p1126 q1126
                                      have hw1126_2 := hx1126_2
                                      have hw1126_1 := hx1126_1
                                      have hw1126_0 := hx1126_0
                                      obtain rfl : ad1122 = ad1126 := (by injection e1126)
                                      replace hx1126_0 := (HB.out.cell (World.block_lt_of_cell? w _ hx1126_0)).trans hx1126_0
                                      replace hx1126_1 := (HB.out.cell (World.block_lt_of_cell? w _ hx1126_1)).trans hx1126_1
                                      replace hx1126_2 := (HB.out.cell (World.block_lt_of_cell? w _ hx1126_2)).trans hx1126_2
                                      replace p1126 := eq_true p1126
                                      replace q1126 := eq_true q1126
                                      refine start_ (n := 18) (S := fun w' => w'.cell? (ad1122.add ((x16_5).toNat * 3)) = some (.int .i64 ((rd_T85 l0 x16_5).f0)) ∧ w'.cell? ⟨(ad1122.add ((x16_5).toNat * 3)).block, (ad1122.add ((x16_5).toNat * 3)).off + 1, none⟩ = some (.int .i64 ((rd_T85 l0 x16_5).f1)) ∧ w'.cell? ⟨(ad1122.add ((x16_5).toNat * 3)).block, (ad1122.add ((x16_5).toNat * 3)).off + 2, none⟩ = some (.int .i64 ((rd_T85 l0 x16_5).f2)) ∧ w'.cell? (ad1122.add ((x16_5).toNat * 3)) = some (.int .i64 ((rd_T85 l0 x16_5).f0)) ∧ w'.cell? ⟨(ad1122.add ((x16_5).toNat * 3)).block, (ad1122.add ((x16_5).toNat * 3)).off + 1, none⟩ = some (.int .i64 ((rd_T85 l0 x16_5).f1)) ∧ w'.cell? ⟨(ad1122.add ((x16_5).toNat * 3)).block, (ad1122.add ((x16_5).toNat * 3)).off + 2, none⟩ = some (.int .i64 ((rd_T85 l0 x16_5).f2))) (ds := []) #[false, false, false, false, false, false, false, false, false, false, false, false, false, false, false, false, false, false] (by kernel_rfl) rfl rfl ⟨((HB.out.cell (World.block_lt_of_cell? w _ hw1125_0)).trans hw1125_0), ((HB.out.cell (World.block_lt_of_cell? w _ hw1125_1)).trans hw1125_1), ((HB.out.cell (World.block_lt_of_cell? w _ hw1125_2)).trans hw1125_2), ((HB.out.cell (World.block_lt_of_cell? w _ hw1126_0)).trans hw1126_0), ((HB.out.cell (World.block_lt_of_cell? w _ hw1126_1)).trans hw1126_1), ((HB.out.cell (World.block_lt_of_cell? w _ hw1126_2)).trans hw1126_2)⟩ (fun hH => ?_); refine with_tabW Lw_TargetBest.tab24 Lw_TargetBest.bits24 (fun HT_ HW_ => ?_)
                                      generalize w79.drew = w80 at HO_13 BK1091 BK1092 BK1106 HB hx1125_0 hx1125_1 hx1125_2 hx1126_0 hx1126_1 hx1126_2 hH ⊢
                                      refine pZ 0 (some 121) (bs 18 1) HT_ ?_
                                      refine pZ 1 (some 122) (bs 18 3) HT_ ?_
                                      refine pZ 2 (some 123) (bs 18 7) HT_ ?_
                                      refine pZ 3 (some 124) (bs 18 15) HT_ ?_
                                      refine pZ 4 (some 125) (bs 18 31) HT_ ?_
                                      refine pZ 6 (some 127) (bs 18 95) HT_ ?_
                                      refine pZ 8 (some 129) (bs 18 351) HT_ ?_
                                      refine pZ 9 (some 130) (bs 18 863) HT_ ?_
                                      refine pZ 10 (some 131) (bs 18 1887) HT_ ?_
                                      refine pZ 11 (some 132) (bs 18 3935) HT_ ?_
                                      refine pZ 13 (some 134) (bs 18 12127) HT_ ?_
                                      refine takeZ 5 (some 126) (bs 18 12159) (take_ofW HT_.out HW_.out (by kernel_rfl)) hH ?_
                                      refine pZ 7 (some 128) (bs 18 12287) HT_ ?_
                                      refine takeZ 12 (some 133) (bs 18 16383) (take_ofW HT_.out HW_.out (by kernel_rfl)) hH ?_
                                      refine pZ 14 (some 135) (bs 18 32767) HT_ ?_
                                      refine pZ 15 (some 136) (bs 18 65535) HT_ ?_
                                      refine pZ 16 (some 137) (bs 18 131071) HT_ ?_
                                      refine pZ 17 (some 14) (bs 18 262143) HT_ ?_
                                      refine done_ (done_of HT_.out (by kernel_rfl)) ?_
                                      try go_wp2
                                      go_roundg k5
                                      case measure => have := HJ5.out; have := HJ25.out; have := HJ42.out; have := HJ50.out; have := HK5.out; omega
                                      case rel => exact ⟨(y1123), (wrap64 (x14_5 + (wrap64 ((wrap64 (((rd_T85 l0 x16_5).f1) - (wrap64 ((wrap64 (a2_0 * ((rd_T85 l0 x16_5).f0))) + a2_1)))) * (wrap64 (((rd_T85 l0 x16_5).f1) - (wrap64 ((wrap64 (a2_0 * ((rd_T85 l0 x16_5).f0))) + a2_1)))))))), (t1124), (wrap64 (x16_5 + 1)), (by first | rfl | (simp; done) | (simp [*]; done)), (by first | rfl | (simp; done) | (simp [*]; done)), (by first | rfl | (simp; done) | (simp [*]; done)), H', ⟨by have := HJ5.out; have := HJ25.out; have := HJ42.out; have := HJ50.out; have := HK5.out; omega⟩, ⟨br HO_13.out⟩, ⟨bk BK1091.out⟩, ⟨bk BK1092.out⟩, ⟨bk BK1106.out⟩, ⟨bz⟩⟩
                                    · replace c75 := Bool.eq_false_iff.mpr c75
                                      subst c75
                                      rw [if_neg (show ¬ (false = true) by decide)] at H
                                      have H' := m0 H
                                      clear H
                                      try go_wp2
                                      replace HO_13 := m0 (Kd.R_drew HO_13.out); replace BK1091 := bd BK1091; replace BK1092 := bd BK1092; replace BK1106 := bd BK1106; replace HB := sd HB
                                      have p1122 : 0 ≤ (x16_5 : Int) := od
                                      have q1122 : x16_5 < (l0.length : Int) := od
                                      obtain ⟨ad1122, e1122, hx1122_0, hx1122_1, hx1122_2⟩ := at_T85 HR0.out x16_5 p1122 q1122
                                      have hw1122_2 := hx1122_2
                                      have hw1122_1 := hx1122_1
                                      have hw1122_0 := hx1122_0
                                      cases e1122
                                      replace hx1122_0 := (HB.out.cell (World.block_lt_of_cell? w _ hx1122_0)).trans hx1122_0
                                      replace hx1122_1 := (HB.out.cell (World.block_lt_of_cell? w _ hx1122_1)).trans hx1122_1
                                      replace hx1122_2 := (HB.out.cell (World.block_lt_of_cell? w _ hx1122_2)).trans hx1122_2
                                      replace p1122 := eq_true p1122
                                      replace q1122 := eq_true q1122
                                      refine start_ (n := 12) (S := fun w' => w'.cell? ⟨gb1092, 0, none⟩ = some (.int .i64 a2_0) ∧ w'.cell? ⟨gb1092, 1, none⟩ = some (.int .i64 a2_1) ∧ w'.cell? (ad1122.add ((x16_5).toNat * 3)) = some (.int .i64 ((rd_T85 l0 x16_5).f0)) ∧ w'.cell? ⟨(ad1122.add ((x16_5).toNat * 3)).block, (ad1122.add ((x16_5).toNat * 3)).off + 1, none⟩ = some (.int .i64 ((rd_T85 l0 x16_5).f1)) ∧ w'.cell? ⟨(ad1122.add ((x16_5).toNat * 3)).block, (ad1122.add ((x16_5).toNat * 3)).off + 2, none⟩ = some (.int .i64 ((rd_T85 l0 x16_5).f2))) (ds := []) #[false, false, false, false, false, false, false, false, false, false, false, false] (by kernel_rfl) rfl rfl ⟨(blk_cell BK1092.out 0).trans rfl, (blk_cell BK1092.out 1).trans rfl, ((HB.out.cell (World.block_lt_of_cell? w _ hw1122_0)).trans hw1122_0), ((HB.out.cell (World.block_lt_of_cell? w _ hw1122_1)).trans hw1122_1), ((HB.out.cell (World.block_lt_of_cell? w _ hw1122_2)).trans hw1122_2)⟩ (fun hH => ?_); refine with_tabW Lw_TargetBest.tab21 Lw_TargetBest.bits21 (fun HT_ HW_ => ?_)
                                      generalize wr.drew = w81 at HO_13 BK1091 BK1092 BK1106 HB hx1122_0 hx1122_1 hx1122_2 hH ⊢
                                      refine pZ 0 (some 100) (bs 12 1) HT_ ?_
                                      refine pZ 2 (some 102) (bs 12 5) HT_ ?_
                                      refine pZ 3 (some 103) (bs 12 13) HT_ ?_
                                      refine pZ 4 (some 104) (bs 12 29) HT_ ?_
                                      refine pZ 5 (some 105) (bs 12 61) HT_ ?_
                                      refine pZ 8 (some 108) (bs 12 317) HT_ ?_
                                      refine takeZ 1 (some 101) (bs 12 319) (take_ofW HT_.out HW_.out (by kernel_rfl)) hH ?_
                                      refine takeZ 6 (some 106) (bs 12 383) (take_ofW HT_.out HW_.out (by kernel_rfl)) hH ?_
                                      refine pZ 7 (some 107) (bs 12 511) HT_ ?_
                                      refine takeZ 9 (some 109) (bs 12 1023) (take_ofW HT_.out HW_.out (by kernel_rfl)) hH ?_
                                      refine pZ 10 (some 110) (bs 12 2047) HT_ ?_
                                      refine pZ 11 (some 17) (bs 12 4095) HT_ ?_
                                      refine done_ (done_of HT_.out (by kernel_rfl)) ?_
                                      have p74 : 0 ≤ (x16_5 : Int) := od
                                      have q74 : (x16_5 : Int) < ((x13_5.length : Int) : Int) := od
                                      obtain ⟨go74, co74, eo74, gb74, gl74, cl74, HG74⟩ := Kd.R_form HO_13.out (by omega)
                                      (first | cases eo74 | (injection eo74 with ea_ en_ ec_; (first | subst ea_ | (injection ea_ with ea_; subst ea_)); subst ec_; clear en_))
                                      have GB74 := m0 gb74
                                      have GG74 := m0 HG74
                                      clear gb74 gl74 HG74
                                      obtain ⟨ce74, hcl74, hM74, hcc74, hfr74⟩ := Kd.R_elem HO_13.out z85 (x16_5 : Int) p74 q74
                                      obtain rfl := k85_openM hM74
                                      have hx74_0 : w81.cell? ⟨go74, (x16_5 : Int).toNat * 3, none⟩ = some (.int .i64 ((rd_T85 x13_5 x16_5).f0)) := hcc74 0 _ rfl
                                      have hx74_1 : w81.cell? ⟨go74, (x16_5 : Int).toNat * 3 + 1, none⟩ = some (.int .i64 ((rd_T85 x13_5 x16_5).f1)) := hcc74 1 _ rfl
                                      have hx74_2 : w81.cell? ⟨go74, (x16_5 : Int).toNat * 3 + 2, none⟩ = some (.int .i64 ((rd_T85 x13_5 x16_5).f2)) := hcc74 2 _ rfl
                                      have hf74_0 : w81.frozen? ⟨go74, (x16_5 : Int).toNat * 3, none⟩ = false := hfr74 0
                                      have hf74_1 : w81.frozen? ⟨go74, (x16_5 : Int).toNat * 3 + 1, none⟩ = false := hfr74 1
                                      have hf74_2 : w81.frozen? ⟨go74, (x16_5 : Int).toNat * 3 + 2, none⟩ = false := hfr74 2
                                      clear hcl74 hcc74 hfr74 hM74
                                      replace p74 := eq_true p74
                                      replace q74 := eq_true q74
                                      have HX82 := m0 (show Kd.R k85 85 w81 w.heap.size (fun _ => True) (.slice (some ⟨go74, 0, none⟩) x13_5.length co74) x13_5 from (br HO_13.out))
                                      obtain ⟨ce82, hcl82, hM82, hcc82, hfr82⟩ := Kd.R_elem HX82.out z85 (x16_5 : Int) (od) (by have h_ : (x16_5 : Int) < ((x13_5.length : Int) : Int) := od; first | exact h_ | (have e_ := (Kd.R_reads' HO_13.out).1; omega) | simpa using h_)
                                      obtain rfl := k85_openM hM82
                                      have HP82 := Kd.R_seg HX82.out (x16_5 : Int) (od) (by have h_ : (x16_5 : Int) < ((x13_5.length : Int) : Int) := od; first | exact h_ | (have e_ := (Kd.R_reads' HO_13.out).1; omega) | simpa using h_) (seg := [.int .i64 (wrap64 ((wrap64 (a2_0 * ((rd_T85 l0 x16_5).f0))) + a2_1))]) (j := 1) hcl82 hcc82 (show 2 ≤ 3 from by decide) (x' := (⟨(rd_T85 x13_5 x16_5).f0, wrap64 ((wrap64 (a2_0 * ((rd_T85 l0 x16_5).f0))) + a2_1), (rd_T85 x13_5 x16_5).f2⟩ : S85)) (k85_mkM _ _ _ (⟨(rd_T85 x13_5 x16_5).f0, wrap64 ((wrap64 (a2_0 * ((rd_T85 l0 x16_5).f0))) + a2_1), (rd_T85 x13_5 x16_5).f2⟩ : S85) ) (fun _ hk => hk)
                                      have hx82_1 := hcc82 1 _ rfl
                                      (try simp only [show (k85).sz = 3 from rfl, Nat.mul_one, Nat.add_zero] at hx82_1)
                                      have hf82_1 := hfr82 1
                                      (try simp only [show (k85).sz = 3 from rfl, Nat.mul_one, Nat.add_zero] at hf82_1)
                                      clear hcl82 hcc82 hfr82 hM82
                                      try go_wp2_with (first | ((with_reducible refine gate_store (t := 3) (p := 115) rfl ?_); refine store_event (t := 3) (p := 115) (v := ?vo_w83) (w1 := (w81.setCell ⟨go74, (x16_5 : Int).toNat * 3 + 1, none⟩ (.int .i64 (wrap64 ((wrap64 (a2_0 * ((rd_T85 l0 x16_5).f0))) + a2_1))))) ?hg ?ho ?hn ?hr ?_; (case ho => rfl); (case hg => rfl); (case hn => rfl); (case hr => first | (go_simp; done) | (go_simp; rfl)); intro w83 hw; have hg : w81.grownBy w83 (some go74) := (by rw [hw]; exact HP82.2); have hp_ : Kd.R k85 85 w83 w.heap.size (fun _ => True) (.slice (some ⟨go74, 0, none⟩) x13_5.length co74) y1123 := (by rw [hw, Ny1123.out]; exact HP82.1); clear HP82; replace BK1091 := m0 (blk_grown (g := gb1091) (o := .cells #[.int .i64 a1_0, .int .i64 a1_1, .int .i64 a1_2] 56 (0, 0)) (bk BK1091.out) hg (Kd.R_ne HO_13.out BK1091.out (by decide))); replace BK1092 := m0 (blk_grown (g := gb1092) (o := .cells #[.int .i64 a2_0, .int .i64 a2_1] 83 (0, 0)) (bk BK1092.out) hg (Kd.R_ne HO_13.out BK1092.out (by decide))); replace BK1106 := m0 (blk_grown (g := gb1106) (o := .cells #[.int .i64 t1102, .int .i64 t1103, .int .i64 t1104] 56 (0, 0)) (bk BK1106.out) hg (Kd.R_ne HO_13.out BK1106.out (by decide))); replace HO_13 := m0 (hp_); replace HB := m0 ((by rw [hw]; exact below_set (HB.out) GB74.out : Below w.heap.size w w83)); clear hg hw hp_))
                                      replace HO_13 := m0 (Kd.R_drew HO_13.out); replace BK1091 := bd BK1091; replace BK1092 := bd BK1092; replace BK1106 := bd BK1106; replace HB := sd HB
                                      have p1127 : 0 ≤ (x16_5 : Int) := od
                                      have q1127 : x16_5 < (l0.length : Int) := od
                                      obtain ⟨ad1127, e1127, hx1127_0, hx1127_1, hx1127_2⟩ := at_T85 HR0.out x16_5 p1127 q1127
                                      have hw1127_2 := hx1127_2
                                      have hw1127_1 := hx1127_1
                                      have hw1127_0 := hx1127_0
                                      obtain rfl : ad1122 = ad1127 := (by injection e1127)
                                      replace hx1127_0 := (HB.out.cell (World.block_lt_of_cell? w _ hx1127_0)).trans hx1127_0
                                      replace hx1127_1 := (HB.out.cell (World.block_lt_of_cell? w _ hx1127_1)).trans hx1127_1
                                      replace hx1127_2 := (HB.out.cell (World.block_lt_of_cell? w _ hx1127_2)).trans hx1127_2
                                      replace p1127 := eq_true p1127
                                      replace q1127 := eq_true q1127
                                      have p1128 : 0 ≤ (x16_5 : Int) := od
                                      have q1128 : x16_5 < (l0.length : Int) := od
                                      obtain ⟨ad1128, e1128, hx1128_0, hx1128_1, hx1128_2⟩ := at_T85 HR0.out x16_5 p1128 q1128
                                      have hw1128_2 := hx1128_2
                                      have hw1128_1 := hx1128_1
                                      have hw1128_0 := hx1128_0
                                      obtain rfl : ad1122 = ad1128 := (by injection e1128)
                                      replace hx1128_0 := (HB.out.cell (World.block_lt_of_cell? w _ hx1128_0)).trans hx1128_0
                                      replace hx1128_1 := (HB.out.cell (World.block_lt_of_cell? w _ hx1128_1)).trans hx1128_1
                                      replace hx1128_2 := (HB.out.cell (World.block_lt_of_cell? w _ hx1128_2)).trans hx1128_2
                                      replace p1128 := eq_true p1128
                                      replace q1128 := eq_true q1128
                                      refine start_ (n := 18) (S := fun w' => w'.cell? (ad1122.add ((x16_5).toNat * 3)) = some (.int .i64 ((rd_T85 l0 x16_5).f0)) ∧ w'.cell? ⟨(ad1122.add ((x16_5).toNat * 3)).block, (ad1122.add ((x16_5).toNat * 3)).off + 1, none⟩ = some (.int .i64 ((rd_T85 l0 x16_5).f1)) ∧ w'.cell? ⟨(ad1122.add ((x16_5).toNat * 3)).block, (ad1122.add ((x16_5).toNat * 3)).off + 2, none⟩ = some (.int .i64 ((rd_T85 l0 x16_5).f2)) ∧ w'.cell? (ad1122.add ((x16_5).toNat * 3)) = some (.int .i64 ((rd_T85 l0 x16_5).f0)) ∧ w'.cell? ⟨(ad1122.add ((x16_5).toNat * 3)).block, (ad1122.add ((x16_5).toNat * 3)).off + 1, none⟩ = some (.int .i64 ((rd_T85 l0 x16_5).f1)) ∧ w'.cell? ⟨(ad1122.add ((x16_5).toNat * 3)).block, (ad1122.add ((x16_5).toNat * 3)).off + 2, none⟩ = some (.int .i64 ((rd_T85 l0 x16_5).f2))) (ds := []) #[false, false, false, false, false, false, false, false, false, false, false, false, false, false, false, false, false, false] (by kernel_rfl) rfl rfl ⟨((HB.out.cell (World.block_lt_of_cell? w _ hw1127_0)).trans hw1127_0), ((HB.out.cell (World.block_lt_of_cell? w _ hw1127_1)).trans hw1127_1), ((HB.out.cell (World.block_lt_of_cell? w _ hw1127_2)).trans hw1127_2), ((HB.out.cell (World.block_lt_of_cell? w _ hw1128_0)).trans hw1128_0), ((HB.out.cell (World.block_lt_of_cell? w _ hw1128_1)).trans hw1128_1), ((HB.out.cell (World.block_lt_of_cell? w _ hw1128_2)).trans hw1128_2)⟩ (fun hH => ?_); refine with_tabW Lw_TargetBest.tab24 Lw_TargetBest.bits24 (fun HT_ HW_ => ?_)
                                      generalize w83.drew = w84 at HO_13 BK1091 BK1092 BK1106 HB hx1127_0 hx1127_1 hx1127_2 hx1128_0 hx1128_1 hx1128_2 hH ⊢
                                      refine pZ 0 (some 121) (bs 18 1) HT_ ?_
                                      refine pZ 1 (some 122) (bs 18 3) HT_ ?_
                                      refine pZ 2 (some 123) (bs 18 7) HT_ ?_
                                      refine pZ 3 (some 124) (bs 18 15) HT_ ?_
                                      refine pZ 4 (some 125) (bs 18 31) HT_ ?_
                                      refine pZ 6 (some 127) (bs 18 95) HT_ ?_
                                      refine pZ 8 (some 129) (bs 18 351) HT_ ?_
                                      refine pZ 9 (some 130) (bs 18 863) HT_ ?_
                                      refine pZ 10 (some 131) (bs 18 1887) HT_ ?_
                                      refine pZ 11 (some 132) (bs 18 3935) HT_ ?_
                                      refine pZ 13 (some 134) (bs 18 12127) HT_ ?_
                                      refine takeZ 5 (some 126) (bs 18 12159) (take_ofW HT_.out HW_.out (by kernel_rfl)) hH ?_
                                      refine pZ 7 (some 128) (bs 18 12287) HT_ ?_
                                      refine takeZ 12 (some 133) (bs 18 16383) (take_ofW HT_.out HW_.out (by kernel_rfl)) hH ?_
                                      refine pZ 14 (some 135) (bs 18 32767) HT_ ?_
                                      refine pZ 15 (some 136) (bs 18 65535) HT_ ?_
                                      refine pZ 16 (some 137) (bs 18 131071) HT_ ?_
                                      refine pZ 17 (some 14) (bs 18 262143) HT_ ?_
                                      refine done_ (done_of HT_.out (by kernel_rfl)) ?_
                                      try go_wp2
                                      go_roundg k5
                                      case measure => have := HJ5.out; have := HJ25.out; have := HJ42.out; have := HJ50.out; have := HK5.out; omega
                                      case rel => exact ⟨(y1123), (wrap64 (x14_5 + (wrap64 ((wrap64 (((rd_T85 l0 x16_5).f1) - (wrap64 ((wrap64 (a2_0 * ((rd_T85 l0 x16_5).f0))) + a2_1)))) * (wrap64 (((rd_T85 l0 x16_5).f1) - (wrap64 ((wrap64 (a2_0 * ((rd_T85 l0 x16_5).f0))) + a2_1)))))))), (false), (wrap64 (x16_5 + 1)), (by first | rfl | (simp; done) | (simp [*]; done)), (by first | rfl | (simp; done) | (simp [*]; done)), (by first | rfl | (simp; done) | (simp [*]; done)), H', ⟨by have := HJ5.out; have := HJ25.out; have := HJ42.out; have := HJ50.out; have := HK5.out; omega⟩, ⟨br HO_13.out⟩, ⟨bk BK1091.out⟩, ⟨bk BK1092.out⟩, ⟨bk BK1106.out⟩, ⟨bz⟩⟩
                                  · rw [if_neg c73] at H
                                    exact absurd H (by simp)
                                · rw [if_neg c72] at H
                                  exact absurd H (by simp)
                              · rw [if_neg c71] at H
                                have c71b0 := decide_eq_false c71
                                clear c71
                                replace H := ob H
                                obtain ⟨t1129, A85, H⟩ := H
                                (try dsimp only at H)
                                replace A85 := m0 A85
                                replace H := ob H
                                obtain ⟨⟨t1132, t1133, t1134⟩, A86, H⟩ := H
                                (try dsimp only at H)
                                replace A86 := m0 A86
                                have HC87 := m0 H
                                clear H
                                go_upto_region 26 with (first | ((with_reducible refine gate_callee (f := 38) rfl ?_); refine gl (some 140) Try.func38 #[.slice A0 l0.length c0] ?_; (with_reducible refine (Rf_CopyReadings.calls _ _ l0 t1129 _ ?side1 ?side2 A85.out).mono ?_); (case side1 => exact cb HR0 HB); (case side2 => exact HC0.out); rintro e w88 ⟨v1130, rfl, ho0, hb⟩; refine ⟨_, rfl, ?_⟩; have HO1131 := m0 (Kd.R_lower (Kd.R_new' ho0 (Kd.R_lt (br HO_13.out))) (below_size bz)); replace HO_13 := m0 (Kd.R_elder' (br HO_13.out) (Kd.R_base ho0) hb); replace BK1091 := bb BK1091 hb; replace BK1092 := bb BK1092 hb; replace BK1106 := bb BK1106 hb; replace HB := sb HB hb; (try clear hb); (try clear ho0); obtain ⟨Ao89, co89, eo89⟩ := Kd.R_slice HO1131.out; subst eo89) | ((with_reducible refine gate_callee (f := 39) rfl ?_); refine gl (some 141) Try.func39 #[.slice Ao89 t1129.length co89] ?_; (with_reducible refine (L_ResidualOf.calls k5 _ _ t1129 t1132 t1133 t1134 _ ?side1 ?side2 A86.out).mono ?_); (case side1 => exact bc (Kd.R_reads' HO1131.out).2.2); (case side2 => exact (Kd.R_reads' HO1131.out).2.1); rintro e w90 ⟨rfl, hb⟩; refine ⟨_, rfl, ?_⟩; replace HO_13 := rb HO_13 hb; replace HO1131 := rb HO1131 hb; replace BK1091 := bb BK1091 hb; replace BK1092 := bb BK1092 hb; replace BK1106 := bb BK1106 hb; replace HB := sb HB hb; (try clear hb)) | ((with_reducible refine gate_dst (N := 18) rfl ?_); refine be 18 73 #[.int .i64 0, .int .i64 0] ?_; intro gb1135 hg w91 hbox hb; replace HO_13 := rb HO_13 hb; replace HO1131 := rb HO1131 hb; have BK1135 := m0 hbox; have GE1135 := gw w hg; replace HB := sb HB hb; have NB1091_1135 := nl BK1091 hg; have NB1135_1091 := ng (nl BK1091 hg); replace BK1091 := bb BK1091 hb; have NB1092_1135 := nl BK1092 hg; have NB1135_1092 := ng (nl BK1092 hg); replace BK1092 := bb BK1092 hb; have NB1106_1135 := nl BK1106 hg; have NB1135_1106 := ng (nl BK1106 hg); replace BK1106 := bb BK1106 hb; clear hb hbox hg; have hnb92 := NB1135_1091.out; have hnc92 := NB1091_1135.out; have hnb93 := NB1135_1092.out; have hnc93 := NB1092_1135.out; have hnb94 := NB1135_1106.out; have hnc94 := NB1106_1135.out; obtain ⟨hcz95_0, hcz95_1, hfz95_0, hfz95_1⟩ := b2 BK1135))
                                (try simp only [Act.put, List.setIfInBounds_toArray, List.set_cons_zero, List.set_cons_succ])
                                go_cut [172] (fun v172 wc => ∃ (kq : Nat) (x172_86 : Bool), v172 = .bool x172_86 ∧ Aside0 (Lw_TargetBest.j5 kq x13_5 x15_5 x172_86 a2_0 a2_1 = some r) ∧ Aside0 (kq ≤ k5) ∧ Aside0 (Kd.R k85 85 wc w.heap.size (fun _ => True) v1120 x13_5) ∧ Aside0 (wc.heap[gb1091]? = some (.cells #[.int .i64 a1_0, .int .i64 a1_1, .int .i64 a1_2] 56 (0, 0))) ∧ Aside0 (wc.heap[gb1092]? = some (.cells #[.int .i64 a2_0, .int .i64 a2_1] 83 (0, 0))) ∧ Aside0 (wc.heap[gb1106]? = some (.cells #[.int .i64 t1102, .int .i64 t1103, .int .i64 t1104] 56 (0, 0))) ∧ Aside0 (wc.heap[gb1135]? = some (.cells #[.int .i64 t1132, .int .i64 t1133] 73 (0, 0))) ∧ Aside0 (Below w.heap.size w wc))
                                case first =>
                                  have H := HC87.out
                                  clear HC87
                                  by_cases c96 : t1134 = 0
                                  · rw [if_pos c96] at H
                                    have c96b0 := beq_iff_eq.mpr c96
                                    have c96b1 := bne_eq_false_iff_eq.mpr c96
                                    clear c96
                                    (first | rw [c96b0] | (simp only [i64_w, i32_w]; rw [c96b0]) | skip)
                                    replace H := ob H
                                    obtain ⟨t1136, A97, H⟩ := H
                                    (try dsimp only at H)
                                    replace A97 := m0 A97
                                    by_cases c98 : t1136 = true
                                    · subst c98
                                      rw [if_pos rfl] at H
                                      by_cases c99 : t1132 < 0
                                      · rw [if_pos c99] at H
                                        exact absurd H (by simp)
                                      · rw [if_neg c99] at H
                                        have c99b0 := decide_eq_false c99
                                        clear c99
                                        replace H := ob H
                                        obtain ⟨t1137, A100, H⟩ := H
                                        (try dsimp only at H)
                                        replace A100 := m0 A100
                                        have H' := m0 H
                                        clear H
                                        have hnb101 := NB1135_1091.out
                                        have hnc101 := NB1091_1135.out
                                        have hnb102 := NB1135_1092.out
                                        have hnc102 := NB1092_1135.out
                                        have hnb103 := NB1135_1106.out
                                        have hnc103 := NB1106_1135.out
                                        obtain ⟨hcz104_0, hcz104_1, hfz104_0, hfz104_1⟩ := b2 BK1135
                                        go_wp2_with (first | (go_at_call 46; (with_reducible refine (Bs_IsSmall.calls t1132 t1133 true _ A97.out).mono ?_); rintro e w105 ⟨rfl, hb⟩; replace HO_13 := m0 (Kd.R_below (by (with_reducible repeat (first | apply Kd.R_alloc | apply Kd.R_drewN | apply Kd.R_drew)); exact (Kd.R_mono (Kd.R_far (p := ⟨gb1135, 1, none⟩) (Kd.R_far (p := ⟨gb1135, 0, none⟩) (Kd.R_types HO_13.out BK1135.out (by decide)) (fun _ hk => hk.2) (.int .i64 t1132)) (fun _ hk => hk.2) (.int .i64 t1133)) (fun _ h_ => h_.1))) hb); replace HO1131 := m0 (Kd.R_below (by (with_reducible repeat (first | apply Kd.R_alloc | apply Kd.R_drewN | apply Kd.R_drew)); exact (Kd.R_mono (Kd.R_far (p := ⟨gb1135, 1, none⟩) (Kd.R_far (p := ⟨gb1135, 0, none⟩) (Kd.R_types HO1131.out BK1135.out (by decide)) (fun _ hk => hk.2) (.int .i64 t1132)) (fun _ hk => hk.2) (.int .i64 t1133)) (fun _ h_ => h_.1))) hb); replace BK1091 := m0 (blk_below (g := gb1091) (o := .cells #[.int .i64 a1_0, .int .i64 a1_1, .int .i64 a1_2] 56 (0, 0)) (bq BK1091.out) hb); replace BK1092 := m0 (blk_below (g := gb1092) (o := .cells #[.int .i64 a2_0, .int .i64 a2_1] 83 (0, 0)) (bq BK1092.out) hb); replace BK1106 := m0 (blk_below (g := gb1106) (o := .cells #[.int .i64 t1102, .int .i64 t1103, .int .i64 t1104] 56 (0, 0)) (bq BK1106.out) hb); replace BK1135 := m0 (blk_below (g := gb1135) (o := .cells #[.int .i64 t1132, .int .i64 t1133] 73 (0, 0)) (bq BK1135.out) hb); replace HB := sb HB hb; (try clear hb); obtain ⟨hcz106_0, hcz106_1, hfz106_0, hfz106_1⟩ := b2 BK1135) | (go_at_call 47; (with_reducible refine (Bs_Compare.calls k5 t1132 t1133 x14_5 1 t1137 _ A100.out).mono ?_); rintro e w' ⟨rfl, ⟨nd, rfl⟩⟩))
                                        go_meet
                                        case rel => exact ⟨_, (decide (t1137 > 0)), (by first | rfl | (simp; done) | (simp [*]; done)), H', ⟨by have := HJ5.out; have := HJ25.out; have := HJ42.out; have := HJ50.out; have := HK5.out; first | omega | exact Nat.le_refl _⟩, ⟨by (with_reducible repeat (first | apply Kd.R_alloc | apply Kd.R_drewN | apply Kd.R_drew)); exact Kd.R_mono HO_13.out (fun _ hk => trivial)⟩, ⟨bk BK1091.out⟩, ⟨bk BK1092.out⟩, ⟨bk BK1106.out⟩, ⟨bk BK1135.out⟩, ⟨bz⟩⟩
                                    · replace c98 := Bool.eq_false_iff.mpr c98
                                      subst c98
                                      rw [if_neg (show ¬ (false = true) by decide)] at H
                                      exact absurd H (by simp)
                                  · rw [if_neg c96] at H
                                    have c96b0 := beq_eq_false_iff_ne.mpr c96
                                    have c96b1 := bne_iff_ne.mpr c96
                                    (first | rw [c96b0] | (simp only [i64_w, i32_w]; rw [c96b0]) | skip)
                                    by_cases c107 : t1134 = 8
                                    · rw [if_pos c107] at H
                                      have c107b0 := beq_iff_eq.mpr c107
                                      have c107b1 := bne_eq_false_iff_eq.mpr c107
                                      clear c107
                                      have H' := m0 H
                                      clear H
                                      go_wp2
                                      go_meet
                                      case rel => exact ⟨_, (false), (by first | rfl | (simp; done) | (simp [*]; done)), H', ⟨by have := HJ5.out; have := HJ25.out; have := HJ42.out; have := HJ50.out; have := HK5.out; first | omega | exact Nat.le_refl _⟩, ⟨by (with_reducible repeat (first | apply Kd.R_alloc | apply Kd.R_drewN | apply Kd.R_drew)); exact Kd.R_mono (Kd.R_far (p := ⟨gb1135, 1, none⟩) (Kd.R_far (p := ⟨gb1135, 0, none⟩) (Kd.R_types HO_13.out BK1135.out (by decide)) (fun _ hk => hk.2) (.int .i64 t1132)) (fun _ hk => hk.2) (.int .i64 t1133)) (fun _ hk => trivial)⟩, ⟨bq BK1091.out⟩, ⟨bq BK1092.out⟩, ⟨bq BK1106.out⟩, ⟨bq BK1135.out⟩, ⟨bz⟩⟩
                                    · rw [if_neg c107] at H
                                      exact absurd H (by simp)
                                case rest =>
                                  as_aux_lemma =>
                                  clear HC87
                                  try clear hx1
                                  try clear hx7
                                  try clear hf7
                                  try clear hx8
                                  try clear hf8
                                  try clear hx11
                                  try clear hx74
                                  try clear hf74
                                  try clear hx82
                                  try clear hf82
                                  try clear hcz104_0
                                  try clear hcz104_1
                                  try clear hcz106_0
                                  try clear hcz106_1
                                  try clear hcz95_0
                                  try clear hcz95_1
                                  try clear hfz104_0
                                  try clear hfz104_1
                                  try clear hfz106_0
                                  try clear hfz106_1
                                  try clear hfz95_0
                                  try clear hfz95_1
                                  try clear hx1122_0
                                  try clear hx1122_1
                                  try clear hx1122_2
                                  try clear hx1125_0
                                  try clear hx1125_1
                                  try clear hx1125_2
                                  try clear hx1126_0
                                  try clear hx1126_1
                                  try clear hx1126_2
                                  try clear hx1127_0
                                  try clear hx1127_1
                                  try clear hx1127_2
                                  try clear hx1128_0
                                  try clear hx1128_1
                                  try clear hx1128_2
                                  try clear hx74_0
                                  try clear hx74_1
                                  try clear hx74_2
                                  try clear hx82_1
                                  obtain ⟨kq, x172_86, rfl, HA, HJ86, HO_13, BK1091, BK1092, BK1106, BK1135, HB⟩ := hcut
                                  cases kq with
                                  | zero => exact absurd HA.out (by simp [Lw_TargetBest.j5])
                                  | succ kj86 =>
                                    have H := HA.out
                                    clear HA
                                    simp only [Lw_TargetBest.j5] at H
                                    by_cases c108 : x172_86 = true
                                    · subst c108
                                      rw [if_pos rfl] at H
                                      exact absurd H (by simp)
                                    · replace c108 := Bool.eq_false_iff.mpr c108
                                      subst c108
                                      rw [if_neg (show ¬ (false = true) by decide)] at H
                                      by_cases c109 : x15_5 = true
                                      · subst c109
                                        rw [if_pos rfl] at H
                                        replace H := ob H
                                        obtain ⟨t1138, A110, H⟩ := H
                                        (try dsimp only at H)
                                        replace A110 := m0 A110
                                        replace H := ob H
                                        obtain ⟨⟨t1141, t1142, t1143, t1144⟩, A111, H⟩ := H
                                        (try dsimp only at H)
                                        replace A111 := m0 A111
                                        replace H := ob H
                                        obtain ⟨t1146, A112, H⟩ := H
                                        (try dsimp only at H)
                                        replace A112 := m0 A112
                                        replace H := ob H
                                        obtain ⟨⟨t1149, t1150, t1151⟩, A113, H⟩ := H
                                        (try dsimp only at H)
                                        replace A113 := m0 A113
                                        by_cases c114 : t1144 = 0
                                        · rw [if_pos c114] at H
                                          have c114b0 := beq_iff_eq.mpr c114
                                          have c114b1 := bne_eq_false_iff_eq.mpr c114
                                          clear c114
                                          by_cases c115 : (t1141 == a2_0 && (t1142 == a2_1 && (t1143 == 1))) = true
                                          · rw [if_pos c115] at H
                                            have c115b0 : (t1141 == a2_0 && (t1142 == a2_1 && (t1143 == 1))) = true := c115
                                            (try (have c115b1 : decide (t1141 = a2_0 && (t1142 == a2_1 && (t1143 == 1))) = true := by simpa using c115))
                                            (try (have c115b2 : (t1141 == a2_0 && (t1142 == a2_1 && (t1143 == 1))) = true := by simpa using c115))
                                            clear c115
                                            by_cases c116 : t1151 = 0
                                            · rw [if_pos c116] at H
                                              have c116b0 := beq_iff_eq.mpr c116
                                              have c116b1 := bne_eq_false_iff_eq.mpr c116
                                              clear c116
                                              obtain rfl := Option.some.inj H
                                              obtain ⟨Ao117, co117, eo117⟩ := Kd.R_slice HO_13.out
                                              subst eo117
                                              go_wp2_with (first | ((with_reducible refine gate_callee (f := 38) rfl ?_); refine gl (some 177) Try.func38 #[.slice Ao117 x13_5.length co117] ?_; (with_reducible refine (Rf_CopyReadings.calls _ _ x13_5 t1138 _ ?side1 ?side2 A110.out).mono ?_); (case side1 => exact bc (Kd.R_reads' HO_13.out).2.2); (case side2 => exact (Kd.R_reads' HO_13.out).2.1); rintro e w118 ⟨v1139, rfl, ho0, hb⟩; refine ⟨_, rfl, ?_⟩; have HO1140 := m0 (Kd.R_lower (Kd.R_new' ho0 (Kd.R_lt (br HO_13.out))) (below_size bz)); replace HO_13 := m0 (Kd.R_elder' (br HO_13.out) (Kd.R_base ho0) hb); replace BK1091 := bb BK1091 hb; replace BK1092 := bb BK1092 hb; replace BK1106 := bb BK1106 hb; replace BK1135 := bb BK1135 hb; replace HB := sb HB hb; (try clear hb); (try clear ho0); obtain ⟨Ao119, co119, eo119⟩ := Kd.R_slice HO1140.out; subst eo119) | ((with_reducible refine gate_callee (f := 37) rfl ?_); refine gl (some 178) Try.func37 #[.slice Ao119 t1138.length co119] ?_; (with_reducible refine (L_LineOf.calls kj86 _ _ t1138 t1141 t1142 t1143 t1144 _ ?side1 ?side2 A111.out).mono ?_); (case side1 => exact bc (Kd.R_reads' HO1140.out).2.2); (case side2 => exact (Kd.R_reads' HO1140.out).2.1); rintro e w120 ⟨rfl, hb⟩; refine ⟨_, rfl, ?_⟩; replace HO_13 := rb HO_13 hb; replace HO1140 := rb HO1140 hb; replace BK1091 := bb BK1091 hb; replace BK1092 := bb BK1092 hb; replace BK1106 := bb BK1106 hb; replace BK1135 := bb BK1135 hb; replace HB := sb HB hb; (try clear hb)) | ((with_reducible refine gate_dst (N := 20) rfl ?_); refine be 20 56 #[.int .i64 0, .int .i64 0, .int .i64 0] ?_; intro gb1145 hg w121 hbox hb; replace HO_13 := rb HO_13 hb; replace HO1140 := rb HO1140 hb; have BK1145 := m0 hbox; have GE1145 := gw w hg; replace HB := sb HB hb; have NB1091_1145 := nl BK1091 hg; have NB1145_1091 := ng (nl BK1091 hg); replace BK1091 := bb BK1091 hb; have NB1092_1145 := nl BK1092 hg; have NB1145_1092 := ng (nl BK1092 hg); replace BK1092 := bb BK1092 hb; have NB1106_1145 := nl BK1106 hg; have NB1145_1106 := ng (nl BK1106 hg); replace BK1106 := bb BK1106 hb; have NB1135_1145 := nl BK1135 hg; have NB1145_1135 := ng (nl BK1135 hg); replace BK1135 := bb BK1135 hb; clear hb hbox hg; have hnb122 := NB1145_1091.out; have hnc122 := NB1091_1145.out; have hnb123 := NB1145_1092.out; have hnc123 := NB1092_1145.out; have hnb124 := NB1145_1106.out; have hnc124 := NB1106_1145.out; have hnb125 := NB1145_1135.out; have hnc125 := NB1135_1145.out; obtain ⟨_, _, _, _, _, _⟩ := b3 BK1145) | ((with_reducible refine gate_callee (f := 38) rfl ?_); refine gl (some 183) Try.func38 #[.slice Ao117 x13_5.length co117] ?_; (with_reducible refine (Rf_CopyReadings.calls _ _ x13_5 t1146 _ ?side1 ?side2 A112.out).mono ?_); (case side1 => refine (Kd.R_reads' (e := 85) (base := w.heap.size) (ok := fun k_ => (True ∧ some k_ ≠ (.slice Ao119 t1138.length co119 : Value).ownBlock)) (n := x13_5.length) (c := co117) ?_).2.2; exact (by (with_reducible repeat (first | apply Kd.R_alloc | apply Kd.R_drewN | apply Kd.R_drew)); exact (Kd.R_mono (Kd.R_far (p := ⟨gb1145, 2, none⟩) (Kd.R_far (p := ⟨gb1145, 1, none⟩) (Kd.R_far (p := ⟨gb1145, 0, none⟩) (Kd.R_types HO_13.out BK1145.out (by decide)) (fun _ hk => hk.2) (.int .i64 t1141)) (fun _ hk => hk.2) (.int .i64 t1142)) (fun _ hk => hk.2) (.int .i64 t1143)) (fun _ h_ => h_.1)))); (case side2 => exact (Kd.R_reads' HO_13.out).2.1); rintro e w127 ⟨v1147, rfl, ho0, hb⟩; refine ⟨_, rfl, ?_⟩; have HO1148 := m0 (Kd.R_lower (Kd.R_new' (Kd.R_new' ho0 (Kd.R_lt (by (with_reducible repeat (first | apply Kd.R_alloc | apply Kd.R_drewN | apply Kd.R_drew)); exact (Kd.R_mono (Kd.R_far (p := ⟨gb1145, 2, none⟩) (Kd.R_far (p := ⟨gb1145, 1, none⟩) (Kd.R_far (p := ⟨gb1145, 0, none⟩) (Kd.R_types HO_13.out BK1145.out (by decide)) (fun _ hk => hk.2) (.int .i64 t1141)) (fun _ hk => hk.2) (.int .i64 t1142)) (fun _ hk => hk.2) (.int .i64 t1143)) (fun _ h_ => h_.1))))) (Kd.R_lt (by (with_reducible repeat (first | apply Kd.R_alloc | apply Kd.R_drewN | apply Kd.R_drew)); exact (Kd.R_mono (Kd.R_far (p := ⟨gb1145, 2, none⟩) (Kd.R_far (p := ⟨gb1145, 1, none⟩) (Kd.R_far (p := ⟨gb1145, 0, none⟩) (Kd.R_types HO1140.out BK1145.out (by decide)) (fun _ hk => hk.2) (.int .i64 t1141)) (fun _ hk => hk.2) (.int .i64 t1142)) (fun _ hk => hk.2) (.int .i64 t1143)) (fun _ h_ => h_.1))))) (below_size bz)); replace HO_13 := m0 (Kd.R_elder' (by (with_reducible repeat (first | apply Kd.R_alloc | apply Kd.R_drewN | apply Kd.R_drew)); exact (Kd.R_mono (Kd.R_far (p := ⟨gb1145, 2, none⟩) (Kd.R_far (p := ⟨gb1145, 1, none⟩) (Kd.R_far (p := ⟨gb1145, 0, none⟩) (Kd.R_types HO_13.out BK1145.out (by decide)) (fun _ hk => hk.2) (.int .i64 t1141)) (fun _ hk => hk.2) (.int .i64 t1142)) (fun _ hk => hk.2) (.int .i64 t1143)) (fun _ h_ => h_.1))) (Kd.R_base ho0) hb); replace HO1140 := m0 (Kd.R_elder' (by (with_reducible repeat (first | apply Kd.R_alloc | apply Kd.R_drewN | apply Kd.R_drew)); exact (Kd.R_mono (Kd.R_far (p := ⟨gb1145, 2, none⟩) (Kd.R_far (p := ⟨gb1145, 1, none⟩) (Kd.R_far (p := ⟨gb1145, 0, none⟩) (Kd.R_types HO1140.out BK1145.out (by decide)) (fun _ hk => hk.2) (.int .i64 t1141)) (fun _ hk => hk.2) (.int .i64 t1142)) (fun _ hk => hk.2) (.int .i64 t1143)) (fun _ h_ => h_.1))) (Kd.R_base ho0) hb); replace BK1091 := m0 (blk_below (g := gb1091) (o := .cells #[.int .i64 a1_0, .int .i64 a1_1, .int .i64 a1_2] 56 (0, 0)) (bq BK1091.out) hb); replace BK1092 := m0 (blk_below (g := gb1092) (o := .cells #[.int .i64 a2_0, .int .i64 a2_1] 83 (0, 0)) (bq BK1092.out) hb); replace BK1106 := m0 (blk_below (g := gb1106) (o := .cells #[.int .i64 t1102, .int .i64 t1103, .int .i64 t1104] 56 (0, 0)) (bq BK1106.out) hb); replace BK1135 := m0 (blk_below (g := gb1135) (o := .cells #[.int .i64 t1132, .int .i64 t1133] 73 (0, 0)) (bq BK1135.out) hb); replace BK1145 := m0 (blk_below (g := gb1145) (o := .cells #[.int .i64 t1141, .int .i64 t1142, .int .i64 t1143] 56 (0, 0)) (bq BK1145.out) hb); replace HB := sb HB hb; (try clear hb); (try clear ho0); obtain ⟨Ao128, co128, eo128⟩ := Kd.R_slice HO1148.out; subst eo128) | ((with_reducible refine gate_callee (f := 39) rfl ?_); refine gl (some 184) Try.func39 #[.slice Ao128 t1146.length co128] ?_; (with_reducible refine (L_ResidualOf.calls kj86 _ _ t1146 t1149 t1150 t1151 _ ?side1 ?side2 A113.out).mono ?_); (case side1 => exact bc (Kd.R_reads' HO1148.out).2.2); (case side2 => exact (Kd.R_reads' HO1148.out).2.1); rintro e w129 ⟨rfl, hb⟩; refine ⟨_, rfl, ?_⟩; replace HO_13 := rb HO_13 hb; replace HO1140 := rb HO1140 hb; replace HO1148 := rb HO1148 hb; replace BK1091 := bb BK1091 hb; replace BK1092 := bb BK1092 hb; replace BK1106 := bb BK1106 hb; replace BK1135 := bb BK1135 hb; replace BK1145 := bb BK1145 hb; replace HB := sb HB hb; (try clear hb)) | ((with_reducible refine gate_dst (N := 22) rfl ?_); refine be 22 73 #[.int .i64 0, .int .i64 0] ?_; intro gb1152 hg w130 hbox hb; replace HO_13 := rb HO_13 hb; replace HO1140 := rb HO1140 hb; replace HO1148 := rb HO1148 hb; have BK1152 := m0 hbox; have GE1152 := gw w hg; replace HB := sb HB hb; have NB1091_1152 := nl BK1091 hg; have NB1152_1091 := ng (nl BK1091 hg); replace BK1091 := bb BK1091 hb; have NB1092_1152 := nl BK1092 hg; have NB1152_1092 := ng (nl BK1092 hg); replace BK1092 := bb BK1092 hb; have NB1106_1152 := nl BK1106 hg; have NB1152_1106 := ng (nl BK1106 hg); replace BK1106 := bb BK1106 hb; have NB1135_1152 := nl BK1135 hg; have NB1152_1135 := ng (nl BK1135 hg); replace BK1135 := bb BK1135 hb; have NB1145_1152 := nl BK1145 hg; have NB1152_1145 := ng (nl BK1145 hg); replace BK1145 := bb BK1145 hb; clear hb hbox hg; have hnb131 := NB1152_1091.out; have hnc131 := NB1091_1152.out; have hnb132 := NB1152_1092.out; have hnc132 := NB1092_1152.out; have hnb133 := NB1152_1106.out; have hnc133 := NB1106_1152.out; have hnb134 := NB1152_1135.out; have hnc134 := NB1135_1152.out; have hnb135 := NB1152_1145.out; have hnc135 := NB1145_1152.out; obtain ⟨_, _, _, _⟩ := b2 BK1152; obtain ⟨_, _, _, _, _, _⟩ := b3 BK1145; have hnb138 := NB1092_1091.out; have hnc138 := NB1091_1092.out; have hnb139 := NB1092_1106.out; have hnc139 := NB1106_1092.out; have hnb140 := NB1092_1135.out; have hnc140 := NB1135_1092.out; obtain ⟨_, _, _, _⟩ := b2 BK1092))
                                              go_ret
                                              exact ez
                                            · rw [if_neg c116] at H
                                              exact absurd H (by simp)
                                          · rw [if_neg c115] at H
                                            exact absurd H (by simp)
                                        · rw [if_neg c114] at H
                                          exact absurd H (by simp)
                                      · replace c109 := Bool.eq_false_iff.mpr c109
                                        subst c109
                                        rw [if_neg (show ¬ (false = true) by decide)] at H
                                        obtain rfl := Option.some.inj H
                                        go_wp2
                                        go_ret
                                        exact ez
  · replace c5 := Bool.eq_false_iff.mpr c5
    subst c5
    rw [if_neg (show ¬ (false = true) by decide)] at H
    exact absurd H (by simp)
end Go.Proofs.Ytibhfahbabgbaaa.A
