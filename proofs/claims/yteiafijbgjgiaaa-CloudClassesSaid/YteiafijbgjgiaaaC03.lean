/- Walks of the program's functions (printed, made shorter), each with what it computes. -/
import Derived.Test.YteiafijbgjgiaaaB15
import Derived.Test.YteiafijbgjgiaaaC02
namespace Go.Proofs.Yteiafijbgjgiaaa.A
set_option maxHeartbeats 8000000
set_option maxRecDepth 100000
open Go.RowKit Go.Proofs.YteiafijbgjgiaaaW.PrintWords Go.Proofs.YteiafijbgjgiaaaW.PrintLast Go.Proofs.YteiafijbgjgiaaaW.PrintMore
attribute [local go_sem] max2_int min2_int max_two min_two max_three min_three max_four min_four
set_option linter.unusedVariables false
set_option linter.unusedSimpArgs false
mutual
def Lw_CloudClasses.j0 : Nat → List (S143) → Int → Int → Int → Bool → Int → Int → Bool → Int → Int → Option (Bool)
  | 0, _, _, _, _, _, _, _, _, _, _ => none
  | k + 1, x0, x2, x9, x10, x11, x12, x14, x58, x1008000, x1008001 => if x58 = true then (some false) else ((Rf_SignalErr.f x1008000 x1008001).bind fun t1026 => ((Lw_both.f x14 t1026).bind fun t1027 => (if t1027 = 0 then ((Rf_Class.f k x0 x1008000 x1008001).bind fun t1028 => (Lw_CloudClasses.j1 k x0 x2 x9 x10 x11 x12 t1027 t1027 (decide (t1028 < 0)) x1008000 x1008001)) else (Lw_CloudClasses.j1 k x0 x2 x9 x10 x11 x12 t1027 t1027 false x1008000 x1008001))))
def Lw_CloudClasses.j1 : Nat → List (S143) → Int → Int → Int → Bool → Int → Int → Int → Bool → Int → Int → Option (Bool)
  | 0, _, _, _, _, _, _, _, _, _, _, _ => none
  | k + 1, x0, x2, x9, x10, x11, x12, x14, x15, x71, x1008000, x1008001 => if x71 = true then (Lw_CloudClasses.j2 k x0 x2 x9 x10 x11 x12 x14 12 x1008000 x1008001) else (Lw_CloudClasses.j2 k x0 x2 x9 x10 x11 x12 x14 x15 x1008000 x1008001)
def Lw_CloudClasses.j2 : Nat → List (S143) → Int → Int → Int → Bool → Int → Int → Int → Int → Int → Option (Bool)
  | 0, _, _, _, _, _, _, _, _, _, _ => none
  | k + 1, x0, x2, x9, x10, x11, x12, x14, x15, x1008000, x1008001 => if x15 = 0 then (if x10 = 0 then ((Rf_Class.f k x0 x1008000 x1008001).bind fun t1029 => (Lw_CloudClasses.j3 k x0 x2 x11 x12 x14 x15 (x9 != t1029) x1008000 x1008001)) else (Lw_CloudClasses.j3 k x0 x2 x11 x12 x14 x15 true x1008000 x1008001)) else (if x10 = x15 then (if x9 = 0 then (Lw_CloudClasses.j3 k x0 x2 x11 x12 x14 x15 false x1008000 x1008001) else (Lw_CloudClasses.j3 k x0 x2 x11 x12 x14 x15 true x1008000 x1008001)) else (Lw_CloudClasses.j3 k x0 x2 x11 x12 x14 x15 true x1008000 x1008001))
def Lw_CloudClasses.j3 : Nat → List (S143) → Int → Bool → Int → Int → Int → Bool → Int → Int → Option (Bool)
  | 0, _, _, _, _, _, _, _, _, _ => none
  | k + 1, x0, x2, x11, x12, x14, x15, x97, x1008000, x1008001 => if x97 = true then (some false) else (if x14 = 0 then ((Bs_Within.f x2 0 10).bind fun t1030 => (Lw_CloudClasses.j4 k x0 x2 x11 x12 x14 x15 (!t1030) x1008000 x1008001)) else (Lw_CloudClasses.j4 k x0 x2 x11 x12 x14 x15 false x1008000 x1008001))
def Lw_CloudClasses.j4 : Nat → List (S143) → Int → Bool → Int → Int → Int → Bool → Int → Int → Option (Bool)
  | 0, _, _, _, _, _, _, _, _, _ => none
  | k + 1, x0, x2, x11, x12, x14, x15, x104, x1008000, x1008001 => if x104 = true then (Lw_CloudClasses.j5 k x0 x2 x11 x12 2 x15 x1008000 x1008001) else (Lw_CloudClasses.j5 k x0 x2 x11 x12 x14 x15 x1008000 x1008001)
def Lw_CloudClasses.j5 : Nat → List (S143) → Int → Bool → Int → Int → Int → Int → Int → Option (Bool)
  | 0, _, _, _, _, _, _, _, _ => none
  | k + 1, x0, x2, x11, x12, x14, x15, x1008000, x1008001 => (Lw_both.f x14 x15).bind fun t1031 => (if t1031 = 0 then (if x12 = 0 then ((Rf_Sure.f k x0 x1008000 x1008001 x2).bind fun t1032 => (Lw_CloudClasses.j6 k x0 x2 x11 (x11 != t1032) x1008000 x1008001)) else (Lw_CloudClasses.j6 k x0 x2 x11 true x1008000 x1008001)) else (if x12 = t1031 then (some (!x11)) else (some false)))
def Lw_CloudClasses.j6 : Nat → List (S143) → Int → Bool → Bool → Int → Int → Option (Bool)
  | 0, _, _, _, _, _, _ => none
  | k + 1, x0, x2, x11, x126, x1008000, x1008001 => if x126 = true then (some false) else ((Rf_CopyClasses.f x0).bind fun t1033 => ((L_IsSureClass.f k t1033 x1008000 x1008001 (wrap64 (Int.tdiv x2 2))).bind fun bt1036 => ((Rf_CopyClasses.f x0).bind fun t1038 => ((L_IsSureClass.f k t1038 x1008000 x1008001 0).bind fun bt1041 => (if bt1036.2 = 0 then (if bt1041.2 = 0 then (if bt1041.1 = true then (if x11 = true then (some bt1036.1) else (some true)) else (some false)) else (some false)) else (some false))))))
end
def Lw_CloudClasses.f (k : Nat) (l0 : List (S143)) (a1_0 : Int) (a1_1 : Int) (a2 : Int) : Option (Bool) := (Lw_awake.f k).bind fun t1008 => (if t1008 = true then (if (l0.length : Int) > 12 then (some true) else ((Rf_CopyClasses.f l0).bind fun t1009 => ((L_CheckClasses.f k t1009).bind fun bt1012 => ((Rf_CopyClasses.f l0).bind fun t1014 => ((L_ClassOf.f k t1014 a1_0 a1_1).bind fun bt1017 => ((Rf_CopyClasses.f l0).bind fun t1019 => ((L_IsSureClass.f k t1019 a1_0 a1_1 a2).bind fun bt1022 => ((Rf_CheckClasses.f k l0).bind fun bt1024 => (if bt1012.2 = bt1024.2 then (Lw_CloudClasses.j0 k l0 a2 bt1017.1 bt1017.2 bt1022.1 bt1022.2 bt1024.2 (bt1012.1 != bt1024.1) a1_0 a1_1) else (Lw_CloudClasses.j0 k l0 a2 bt1017.1 bt1017.2 bt1022.1 bt1022.2 bt1024.2 true a1_0 a1_1)))))))))) else (some false))
theorem Lw_CloudClasses.mono_l : ∀ k, (∀ y0 y1 y2 y3 y4 y5 y6 y7 y8 y9, LeO (Lw_CloudClasses.j0 k y0 y1 y2 y3 y4 y5 y6 y7 y8 y9) (Lw_CloudClasses.j0 (k + 1) y0 y1 y2 y3 y4 y5 y6 y7 y8 y9)) ∧ (∀ y0 y1 y2 y3 y4 y5 y6 y7 y8 y9 y10, LeO (Lw_CloudClasses.j1 k y0 y1 y2 y3 y4 y5 y6 y7 y8 y9 y10) (Lw_CloudClasses.j1 (k + 1) y0 y1 y2 y3 y4 y5 y6 y7 y8 y9 y10)) ∧ (∀ y0 y1 y2 y3 y4 y5 y6 y7 y8 y9, LeO (Lw_CloudClasses.j2 k y0 y1 y2 y3 y4 y5 y6 y7 y8 y9) (Lw_CloudClasses.j2 (k + 1) y0 y1 y2 y3 y4 y5 y6 y7 y8 y9)) ∧ (∀ y0 y1 y2 y3 y4 y5 y6 y7 y8, LeO (Lw_CloudClasses.j3 k y0 y1 y2 y3 y4 y5 y6 y7 y8) (Lw_CloudClasses.j3 (k + 1) y0 y1 y2 y3 y4 y5 y6 y7 y8)) ∧ (∀ y0 y1 y2 y3 y4 y5 y6 y7 y8, LeO (Lw_CloudClasses.j4 k y0 y1 y2 y3 y4 y5 y6 y7 y8) (Lw_CloudClasses.j4 (k + 1) y0 y1 y2 y3 y4 y5 y6 y7 y8)) ∧ (∀ y0 y1 y2 y3 y4 y5 y6 y7, LeO (Lw_CloudClasses.j5 k y0 y1 y2 y3 y4 y5 y6 y7) (Lw_CloudClasses.j5 (k + 1) y0 y1 y2 y3 y4 y5 y6 y7)) ∧ (∀ y0 y1 y2 y3 y4 y5, LeO (Lw_CloudClasses.j6 k y0 y1 y2 y3 y4 y5) (Lw_CloudClasses.j6 (k + 1) y0 y1 y2 y3 y4 y5))
  | 0 => ⟨fun _ _ _ _ _ _ _ _ _ _ r h => by simp [Lw_CloudClasses.j0] at h, fun _ _ _ _ _ _ _ _ _ _ _ r h => by simp [Lw_CloudClasses.j1] at h, fun _ _ _ _ _ _ _ _ _ _ r h => by simp [Lw_CloudClasses.j2] at h, fun _ _ _ _ _ _ _ _ _ r h => by simp [Lw_CloudClasses.j3] at h, fun _ _ _ _ _ _ _ _ _ r h => by simp [Lw_CloudClasses.j4] at h, fun _ _ _ _ _ _ _ _ r h => by simp [Lw_CloudClasses.j5] at h, fun _ _ _ _ _ _ r h => by simp [Lw_CloudClasses.j6] at h⟩
  | k + 1 => by
    obtain ⟨ih0, ih1, ih2, ih3, ih4, ih5, ih6⟩ := Lw_CloudClasses.mono_l k; refine ⟨?_, ?_, ?_, ?_, ?_, ?_, ?_⟩
    · intro y0 y1 y2 y3 y4 y5 y6 y7 y8 y9; unfold Lw_CloudClasses.j0
      repeat' with_reducible first
        | exact ih0 ..
        | exact ih1 ..
        | exact ih2 ..
        | exact ih3 ..
        | exact ih4 ..
        | exact ih5 ..
        | exact ih6 ..
        | exact L_CheckClasses.mono ..
        | exact L_ClassOf.mono ..
        | exact L_IsSureClass.mono ..
        | exact Lw_awake.mono ..
        | exact Rf_CheckClasses.mono ..
        | exact Rf_Class.mono ..
        | exact Rf_Sure.mono ..
        | exact LeO.refl ..
        | exact LeO.none ..
        | refine LeO.ite ?_ ?_
        | refine LeO.bind ?_ (fun _ => ?_)
    · intro y0 y1 y2 y3 y4 y5 y6 y7 y8 y9 y10; unfold Lw_CloudClasses.j1
      repeat' with_reducible first
        | exact ih0 ..
        | exact ih1 ..
        | exact ih2 ..
        | exact ih3 ..
        | exact ih4 ..
        | exact ih5 ..
        | exact ih6 ..
        | exact L_CheckClasses.mono ..
        | exact L_ClassOf.mono ..
        | exact L_IsSureClass.mono ..
        | exact Lw_awake.mono ..
        | exact Rf_CheckClasses.mono ..
        | exact Rf_Class.mono ..
        | exact Rf_Sure.mono ..
        | exact LeO.refl ..
        | exact LeO.none ..
        | refine LeO.ite ?_ ?_
        | refine LeO.bind ?_ (fun _ => ?_)
    · intro y0 y1 y2 y3 y4 y5 y6 y7 y8 y9; unfold Lw_CloudClasses.j2
      repeat' with_reducible first
        | exact ih0 ..
        | exact ih1 ..
        | exact ih2 ..
        | exact ih3 ..
        | exact ih4 ..
        | exact ih5 ..
        | exact ih6 ..
        | exact L_CheckClasses.mono ..
        | exact L_ClassOf.mono ..
        | exact L_IsSureClass.mono ..
        | exact Lw_awake.mono ..
        | exact Rf_CheckClasses.mono ..
        | exact Rf_Class.mono ..
        | exact Rf_Sure.mono ..
        | exact LeO.refl ..
        | exact LeO.none ..
        | refine LeO.ite ?_ ?_
        | refine LeO.bind ?_ (fun _ => ?_)
    · intro y0 y1 y2 y3 y4 y5 y6 y7 y8; unfold Lw_CloudClasses.j3
      repeat' with_reducible first
        | exact ih0 ..
        | exact ih1 ..
        | exact ih2 ..
        | exact ih3 ..
        | exact ih4 ..
        | exact ih5 ..
        | exact ih6 ..
        | exact L_CheckClasses.mono ..
        | exact L_ClassOf.mono ..
        | exact L_IsSureClass.mono ..
        | exact Lw_awake.mono ..
        | exact Rf_CheckClasses.mono ..
        | exact Rf_Class.mono ..
        | exact Rf_Sure.mono ..
        | exact LeO.refl ..
        | exact LeO.none ..
        | refine LeO.ite ?_ ?_
        | refine LeO.bind ?_ (fun _ => ?_)
    · intro y0 y1 y2 y3 y4 y5 y6 y7 y8; unfold Lw_CloudClasses.j4
      repeat' with_reducible first
        | exact ih0 ..
        | exact ih1 ..
        | exact ih2 ..
        | exact ih3 ..
        | exact ih4 ..
        | exact ih5 ..
        | exact ih6 ..
        | exact L_CheckClasses.mono ..
        | exact L_ClassOf.mono ..
        | exact L_IsSureClass.mono ..
        | exact Lw_awake.mono ..
        | exact Rf_CheckClasses.mono ..
        | exact Rf_Class.mono ..
        | exact Rf_Sure.mono ..
        | exact LeO.refl ..
        | exact LeO.none ..
        | refine LeO.ite ?_ ?_
        | refine LeO.bind ?_ (fun _ => ?_)
    · intro y0 y1 y2 y3 y4 y5 y6 y7; unfold Lw_CloudClasses.j5
      repeat' with_reducible first
        | exact ih0 ..
        | exact ih1 ..
        | exact ih2 ..
        | exact ih3 ..
        | exact ih4 ..
        | exact ih5 ..
        | exact ih6 ..
        | exact L_CheckClasses.mono ..
        | exact L_ClassOf.mono ..
        | exact L_IsSureClass.mono ..
        | exact Lw_awake.mono ..
        | exact Rf_CheckClasses.mono ..
        | exact Rf_Class.mono ..
        | exact Rf_Sure.mono ..
        | exact LeO.refl ..
        | exact LeO.none ..
        | refine LeO.ite ?_ ?_
        | refine LeO.bind ?_ (fun _ => ?_)
    · intro y0 y1 y2 y3 y4 y5; unfold Lw_CloudClasses.j6
      repeat' with_reducible first
        | exact ih0 ..
        | exact ih1 ..
        | exact ih2 ..
        | exact ih3 ..
        | exact ih4 ..
        | exact ih5 ..
        | exact ih6 ..
        | exact L_CheckClasses.mono ..
        | exact L_ClassOf.mono ..
        | exact L_IsSureClass.mono ..
        | exact Lw_awake.mono ..
        | exact Rf_CheckClasses.mono ..
        | exact Rf_Class.mono ..
        | exact Rf_Sure.mono ..
        | exact LeO.refl ..
        | exact LeO.none ..
        | refine LeO.ite ?_ ?_
        | refine LeO.bind ?_ (fun _ => ?_)
theorem Lw_CloudClasses.mono : ∀ a0 a1 a2 a3 k, LeO (Lw_CloudClasses.f k a0 a1 a2 a3) (Lw_CloudClasses.f (k + 1) a0 a1 a2 a3) := by
  intro a0 a1 a2 a3 k; obtain ⟨ih0, ih1, ih2, ih3, ih4, ih5, ih6⟩ := Lw_CloudClasses.mono_l k; unfold Lw_CloudClasses.f
  repeat' with_reducible first
    | exact ih0 ..
    | exact ih1 ..
    | exact ih2 ..
    | exact ih3 ..
    | exact ih4 ..
    | exact ih5 ..
    | exact ih6 ..
    | exact L_CheckClasses.mono ..
    | exact L_ClassOf.mono ..
    | exact L_IsSureClass.mono ..
    | exact Lw_awake.mono ..
    | exact Rf_CheckClasses.mono ..
    | exact Rf_Class.mono ..
    | exact Rf_Sure.mono ..
    | exact LeO.refl ..
    | exact LeO.none ..
    | refine LeO.ite ?_ ?_
    | refine LeO.bind ?_ (fun _ => ?_)
def Lw_CloudClasses.T6 : Bool × List (List Nat × List Nat) := (true, [([], []), ([0], [0]), ([], []), ([1, 2, 1], [1, 2]), ([3], [3]), ([4], [4]), ([4], [4]), ([5, 3, 0, 1, 2, 3, 4, 5], [5]), ([6, 7, 0, 1, 2, 3, 4, 5, 6, 7], [6])])
def Lw_CloudClasses.B6 : List Nat := [0, 1, 0, 7, 15, 31, 31, 63, 255]
theorem Lw_CloudClasses.tab6 : rtab .any (opsOf Try.f10 6) = Lw_CloudClasses.T6 := by kernel_rfl
theorem Lw_CloudClasses.bits6 : waitsOk Lw_CloudClasses.T6.2 Lw_CloudClasses.B6 = true := by kernel_rfl
def Lw_CloudClasses.T7 : Bool × List (List Nat × List Nat) := (true, [([], []), ([0], [0]), ([], []), ([], []), ([1, 2, 3, 1], [1, 2, 3]), ([4], [4]), ([5], [5]), ([5], [5]), ([6, 4, 0, 1, 2, 3, 4, 5, 6], [6]), ([7, 8, 0, 1, 2, 3, 4, 5, 6, 7, 8], [7])])
def Lw_CloudClasses.B7 : List Nat := [0, 1, 0, 0, 15, 31, 63, 63, 127, 511]
theorem Lw_CloudClasses.tab7 : rtab .any (opsOf Try.f10 7) = Lw_CloudClasses.T7 := by kernel_rfl
theorem Lw_CloudClasses.bits7 : waitsOk Lw_CloudClasses.T7.2 Lw_CloudClasses.B7 = true := by kernel_rfl
def Lw_CloudClasses.T24 : Bool × List (List Nat × List Nat) := (true, [([], []), ([0], [0]), ([], []), ([], []), ([3], [3]), ([1, 2, 4, 1], [1, 2, 4]), ([5], [5]), ([6], [6]), ([6], [6]), ([7, 5, 0, 1, 2, 3, 4, 5, 6, 7], [7]), ([8, 9, 0, 1, 2, 3, 4, 5, 6, 7, 8, 9], [8])])
def Lw_CloudClasses.B24 : List Nat := [0, 1, 0, 0, 8, 31, 63, 127, 127, 255, 1023]
theorem Lw_CloudClasses.tab24 : rtab .any (opsOf Try.f10 24) = Lw_CloudClasses.T24 := by kernel_rfl
theorem Lw_CloudClasses.bits24 : waitsOk Lw_CloudClasses.T24.2 Lw_CloudClasses.B24 = true := by kernel_rfl
def Lw_CloudClasses.T25 : Bool × List (List Nat × List Nat) := (true, [([], []), ([0], [0]), ([], []), ([1, 2, 1], [1, 2]), ([3], [3]), ([4], [4]), ([4], [4]), ([5, 3, 0, 1, 2, 3, 4, 5], [5]), ([6, 7, 0, 1, 2, 3, 4, 5, 6, 7], [6])])
def Lw_CloudClasses.B25 : List Nat := [0, 1, 0, 7, 15, 31, 31, 63, 255]
theorem Lw_CloudClasses.tab25 : rtab .any (opsOf Try.f10 25) = Lw_CloudClasses.T25 := by kernel_rfl
theorem Lw_CloudClasses.bits25 : waitsOk Lw_CloudClasses.T25.2 Lw_CloudClasses.B25 = true := by kernel_rfl
theorem Lw_CloudClasses.calls (k : Nat) (A0 : Option Addr) (c0 : Nat) (l0 : List (S143)) (a1_0 : Int) (a1_1 : Int) (a2 : Int) (r : Bool) (w : World) (hr0 : Kd.C k143 w A0 l0.length l0) (hc0 : l0.length ≤ c0) (H : Lw_CloudClasses.f k l0 a1_0 a1_1 a2 = some r) :
    Calls Try.prog 10 #[.slice A0 l0.length c0, .agg #[.int .i64 a1_0, .int .i64 a1_1], .int .i64 a2] w fun e w' => e = .returned (.bool r) ∧ Below w.heap.size w w' := by
  have hu87 := Try.underlying87; have HR0 := m0 hr0; have HC0 := m0 hc0; clear hr0 hc0; have HB := m0 (Below.refl w.heap.size w); unfold Lw_CloudClasses.f at H; replace H := oa H; obtain ⟨t1008, A4, H⟩ := H; (try dsimp only at H)
  by_cases c5 : t1008 = true
  · subst c5; rw [if_pos rfl] at H
    by_cases c6 : (l0.length : Int) > 12
    · rw [if_pos c6] at H; have c6b0 := decide_eq_true c6; have c6b1 : decide (12 < l0.length) = true := decide_eq_true (by omega); clear c6; obtain rfl := Option.some.inj H; go_enter Try.func10, Try.ntmps10
      go_wp2_with (first | ((with_reducible refine ga 4 rfl ?_); refine be 4 87 #[.int .i64 a1_0, .int .i64 a1_1] ?_; intro gb1007 hg w7 hbox hb; have BK1007 := m0 hbox; have GE1007 := gw w hg; replace HB := sb HB hb; clear hb hbox hg) | ((with_reducible refine gc 11 rfl ?_); refine gl (some 20) Try.func11 #[] ?_; (with_reducible refine (Lw_awake.calls k  true _ A4.out).mono ?_); rintro e w8 ⟨rfl, hb⟩; refine ⟨_, rfl, ?_⟩; replace BK1007 := bb BK1007 hb; replace HB := sb HB hb; (try clear hb)))
      go_ret
      exact ez
    · rw [if_neg c6] at H; have c6b0 := decide_eq_false c6; have c6b1 : decide (12 < l0.length) = false := decide_eq_false (by omega); clear c6; replace H := oa H; obtain ⟨t1009, A9, H⟩ := H; (try dsimp only at H); replace H := oa H; obtain ⟨⟨t1012, t1013⟩, A10, H⟩ := H; (try dsimp only at H); replace H := oa H; obtain ⟨t1014, A11, H⟩ := H; (try dsimp only at H); replace H := oa H; obtain ⟨⟨t1017, t1018⟩, A12, H⟩ := H; (try dsimp only at H); replace H := oa H; obtain ⟨t1019, A13, H⟩ := H; (try dsimp only at H); replace H := oa H; obtain ⟨⟨t1022, t1023⟩, A14, H⟩ := H; (try dsimp only at H); replace H := oa H; obtain ⟨⟨t1024, t1025⟩, A15, H⟩ := H; (try dsimp only at H); have HC16 := m0 H; clear H; go_enter Try.func10, Try.ntmps10
      try go_wp2_with (first | ((with_reducible refine ga 4 rfl ?_); refine be 4 87 #[.int .i64 a1_0, .int .i64 a1_1] ?_; intro gb1007 hg w17 hbox hb; have BK1007 := m0 hbox; have GE1007 := gw w hg; replace HB := sb HB hb; clear hb hbox hg) | ((with_reducible refine gc 11 rfl ?_); refine gl (some 20) Try.func11 #[] ?_; (with_reducible refine (Lw_awake.calls k  true _ A4.out).mono ?_); rintro e w18 ⟨rfl, hb⟩; refine ⟨_, rfl, ?_⟩; replace BK1007 := bb BK1007 hb; replace HB := sb HB hb; (try clear hb)) | ((with_reducible refine gc 56 rfl ?_); refine gl (some 27) Try.func56 #[.slice A0 l0.length c0] ?_; (with_reducible refine (Rf_CopyClasses.calls _ _ l0 t1009 _ ?side1 ?side2 A9.out).mono ?_); (case side1 => exact cb HR0 HB); (case side2 => exact HC0.out); rintro e w19 ⟨v1010, rfl, ho0, hb⟩; refine ⟨_, rfl, ?_⟩; have HO1011 := m0 (Kd.R_lower ho0 (below_size bz)); replace BK1007 := bb BK1007 hb; replace HB := sb HB hb; (try clear hb); (try clear ho0); obtain ⟨Ao20, co20, eo20⟩ := Kd.R_slice HO1011.out; subst eo20) | ((with_reducible refine gc 55 rfl ?_); refine gl (some 28) Try.func55 #[.slice Ao20 t1009.length co20] ?_; (with_reducible refine (L_CheckClasses.calls k _ _ t1009 t1012 t1013 _ ?side1 ?side2 A10.out).mono ?_); (case side1 => exact bc (Kd.R_reads' HO1011.out).2.2); (case side2 => exact (Kd.R_reads' HO1011.out).2.1); rintro e w21 ⟨rfl, hb⟩; refine ⟨_, rfl, ?_⟩; replace HO1011 := rb HO1011 hb; replace BK1007 := bb BK1007 hb; replace HB := sb HB hb; (try clear hb)))
      replace HO1011 := m0 (Kd.R_drew HO1011.out); replace BK1007 := bd BK1007; replace HB := sd HB; refine start_ (n := 9) (S := fun w' => w'.cell? ⟨gb1007, 0, none⟩ = some (.int .i64 a1_0) ∧ w'.cell? ⟨gb1007, 1, none⟩ = some (.int .i64 a1_1)) (ds := []) _ (by kernel_rfl) rfl rfl cz (fun hH => ?_); refine with_tabW Lw_CloudClasses.tab6 Lw_CloudClasses.bits6 (fun HT_ HW_ => ?_); generalize w21.drew = w22 at HO1011 BK1007 HB hH ⊢; refine pZ 0 (some 32) #[true, false, false, false, false, false, false, false, false] HT_ ?_; refine takeZ 2 (some 34) #[true, false, true, false, false, false, false, false, false] (tw HT_ HW_) hH ?_; refine oneZ 1 (some 33) #[true, true, true, false, false, false, false, false, false] (o1 HT_) fun K hK => ?_; refine gz Try.func56 #[.slice A0 l0.length c0] ?_
      with_reducible refine (Rf_CopyClasses.calls _ _ l0 t1014 _ ?side1 ?side2 A11.out).mono ?_
      (case side1 => exact cb HR0 HB)
      (case side2 => exact HC0.out)
      rintro e w23 ⟨v1015, rfl, ho0, hb⟩; refine ⟨_, rfl, ?_⟩; have HO1016 := m0 (Kd.R_lower (Kd.R_new' ho0 (Kd.R_lt (br HO1011.out))) (below_size bz)); replace HO1011 := m0 (Kd.R_elder' (br HO1011.out) (Kd.R_base ho0) hb); replace BK1007 := bb BK1007 hb; replace HB := sb HB hb; (try clear hb); (try clear ho0); obtain ⟨Ao24, co24, eo24⟩ := Kd.R_slice HO1016.out; subst eo24; refine hK.out _ _ cz (fun hH => ?_); clear hK K; refine nz 33 ?_; refine oneZ 3 (some 35) #[true, true, true, true, false, false, false, false, false] (o1 HT_) fun K hK => ?_; refine gz Try.func57 #[.slice Ao24 t1014.length co24, .agg #[.int .i64 a1_0, .int .i64 a1_1]] ?_
      with_reducible refine (L_ClassOf.calls k _ _ t1014 a1_0 a1_1 t1017 t1018 _ ?side1 ?side2 A12.out).mono ?_
      (case side1 => exact bc (Kd.R_reads' HO1016.out).2.2)
      (case side2 => exact (Kd.R_reads' HO1016.out).2.1)
      rintro e w25 ⟨rfl, hb⟩; refine ⟨_, rfl, ?_⟩; replace HO1011 := rb HO1011 hb; replace HO1016 := rb HO1016 hb; replace BK1007 := bb BK1007 hb; replace HB := sb HB hb; (try clear hb); refine hK.out _ _ cz (fun hH => ?_); clear hK K; refine nz 35 ?_; refine pZ 4 (some 31) #[true, true, true, true, true, false, false, false, false] HT_ ?_; refine pZ 5 (some 36) #[true, true, true, true, true, true, false, false, false] HT_ ?_; refine pZ 6 (some 37) #[true, true, true, true, true, true, true, false, false] HT_ ?_; refine pZ 7 (some 9) #[true, true, true, true, true, true, true, true, false] HT_ ?_; refine pZ 8 (some 10) #[true, true, true, true, true, true, true, true, true] HT_ ?_; refine done_ (done_of HT_.out (by kernel_rfl)) ?_
      try go_wp2
      replace HO1011 := m0 (Kd.R_drew HO1011.out); replace HO1016 := m0 (Kd.R_drew HO1016.out); replace BK1007 := bd BK1007; replace HB := sd HB; refine start_ (n := 10) (S := fun w' => w'.cell? ⟨gb1007, 0, none⟩ = some (.int .i64 a1_0) ∧ w'.cell? ⟨gb1007, 1, none⟩ = some (.int .i64 a1_1)) (ds := []) _ (by kernel_rfl) rfl rfl cz (fun hH => ?_); refine with_tabW Lw_CloudClasses.tab7 Lw_CloudClasses.bits7 (fun HT_ HW_ => ?_); generalize w25.drew = w26 at HO1011 HO1016 BK1007 HB hH ⊢; refine pZ 0 (some 39) #[true, false, false, false, false, false, false, false, false, false] HT_ ?_; refine pZ 3 (some 42) #[true, false, false, true, false, false, false, false, false, false] HT_ ?_; refine takeZ 2 (some 41) #[true, false, true, true, false, false, false, false, false, false] (tw HT_ HW_) hH ?_; refine oneZ 1 (some 40) #[true, true, true, true, false, false, false, false, false, false] (o1 HT_) fun K hK => ?_; refine gz Try.func56 #[.slice A0 l0.length c0] ?_
      with_reducible refine (Rf_CopyClasses.calls _ _ l0 t1019 _ ?side1 ?side2 A13.out).mono ?_
      (case side1 => exact cb HR0 HB)
      (case side2 => exact HC0.out)
      rintro e w27 ⟨v1020, rfl, ho0, hb⟩; refine ⟨_, rfl, ?_⟩; have HO1021 := m0 (Kd.R_lower (Kd.R_new' (Kd.R_new' ho0 (Kd.R_lt (br HO1011.out))) (Kd.R_lt (br HO1016.out))) (below_size bz)); replace HO1011 := m0 (Kd.R_elder' (br HO1011.out) (Kd.R_base ho0) hb); replace HO1016 := m0 (Kd.R_elder' (br HO1016.out) (Kd.R_base ho0) hb); replace BK1007 := bb BK1007 hb; replace HB := sb HB hb; (try clear hb); (try clear ho0); obtain ⟨Ao28, co28, eo28⟩ := Kd.R_slice HO1021.out; subst eo28; refine hK.out _ _ cz (fun hH => ?_); clear hK K; refine nz 40 ?_; refine oneZ 4 (some 43) #[true, true, true, true, true, false, false, false, false, false] (o1 HT_) fun K hK => ?_; refine gz Try.func58 #[.slice Ao28 t1019.length co28, .agg #[.int .i64 a1_0, .int .i64 a1_1], .int .i64 a2] ?_
      with_reducible refine (L_IsSureClass.calls k _ _ t1019 a1_0 a1_1 a2 t1022 t1023 _ ?side1 ?side2 A14.out).mono ?_
      (case side1 => exact bc (Kd.R_reads' HO1021.out).2.2)
      (case side2 => exact (Kd.R_reads' HO1021.out).2.1)
      rintro e w29 ⟨rfl, hb⟩; refine ⟨_, rfl, ?_⟩; replace HO1011 := rb HO1011 hb; replace HO1016 := rb HO1016 hb; replace HO1021 := rb HO1021 hb; replace BK1007 := bb BK1007 hb; replace HB := sb HB hb; (try clear hb); refine hK.out _ _ cz (fun hH => ?_); clear hK K; refine nz 43 ?_; refine pZ 5 (some 38) #[true, true, true, true, true, true, false, false, false, false] HT_ ?_; refine pZ 6 (some 44) #[true, true, true, true, true, true, true, false, false, false] HT_ ?_; refine pZ 7 (some 45) #[true, true, true, true, true, true, true, true, false, false] HT_ ?_; refine pZ 8 (some 11) #[true, true, true, true, true, true, true, true, true, false] HT_ ?_; refine pZ 9 (some 12) #[true, true, true, true, true, true, true, true, true, true] HT_ ?_; refine done_ (done_of HT_.out (by kernel_rfl)) ?_
      go_upto_region 9 with (first | ((with_reducible refine gc 59 rfl ?_); refine gl (some 48) Try.func59 #[.slice A0 l0.length c0] ?_; (with_reducible refine (Rf_CheckClasses.calls k _ _ l0 t1024 t1025 _ ?side1 ?side2 A15.out).mono ?_); (case side1 => exact cb HR0 HB); (case side2 => exact HC0.out); rintro e w30 ⟨rfl, hb⟩; refine ⟨_, rfl, ?_⟩; replace HO1011 := rb HO1011 hb; replace HO1016 := rb HO1016 hb; replace HO1021 := rb HO1021 hb; replace BK1007 := bb BK1007 hb; replace HB := sb HB hb; (try clear hb)))
      (try simp only [Act.put, List.setIfInBounds_toArray, List.set_cons_zero, List.set_cons_succ])
      go_cut [58] (fun v58 wc => ∃ (kq : Nat) (x58_15 : Bool), v58 = .bool x58_15 ∧ Aside0 (Lw_CloudClasses.j0 kq l0 a2 t1017 t1018 t1022 t1023 t1025 x58_15 a1_0 a1_1 = some r) ∧ Aside0 (kq ≤ k) ∧ Aside0 (wc.heap[gb1007]? = some (.cells #[.int .i64 a1_0, .int .i64 a1_1] 87 (0, 0))) ∧ Aside0 (Below w.heap.size w wc))
      case first =>
        have H := HC16.out; clear HC16
        by_cases c31 : t1013 = t1025
        · rw [if_pos c31] at H; have c31b0 := beq_iff_eq.mpr c31; have c31b1 := bne_eq_false_iff_eq.mpr c31; clear c31
          (first | rw [c31b0] | (simp only [i64_w, i32_w]; rw [c31b0]) | skip)
          have H' := m0 H; clear H
          go_wp2
          go_meet
          case rel => exact ⟨_, ((t1012 != t1024)), rz, H', ⟨by first | omega | exact Nat.le_refl _⟩, ⟨bk BK1007.out⟩, ⟨bz⟩⟩
        · rw [if_neg c31] at H; have c31b0 := beq_eq_false_iff_ne.mpr c31; have c31b1 := bne_iff_ne.mpr c31
          (first | rw [c31b0] | (simp only [i64_w, i32_w]; rw [c31b0]) | skip)
          have H' := m0 H; clear H
          go_wp2
          go_meet
          case rel => exact ⟨_, (true), rz, H', ⟨by first | omega | exact Nat.le_refl _⟩, ⟨bk BK1007.out⟩, ⟨bz⟩⟩
      case rest =>
        clear HC16; obtain ⟨kq, x58_15, rfl, HA, HJ15, BK1007, HB⟩ := hcut
        cases kq with
        | zero => exact absurd HA.out (by simp [Lw_CloudClasses.j0])
        | succ kj15 =>
          have H := HA.out; clear HA; simp only [Lw_CloudClasses.j0] at H
          by_cases c32 : x58_15 = true
          · subst c32; rw [if_pos rfl] at H; obtain rfl := Option.some.inj H
            go_wp2
            go_ret
            exact ez
          · replace c32 := Bool.eq_false_iff.mpr c32; subst c32; rw [if_neg (show ¬ (false = true) by decide)] at H; replace H := oa H; obtain ⟨t1026, A33, H⟩ := H; (try dsimp only at H); replace H := oa H; obtain ⟨t1027, A34, H⟩ := H; (try dsimp only at H); have HC35 := m0 H; clear H; obtain ⟨hcz36_0, hcz36_1, hfz36_0, hfz36_1⟩ := b2 BK1007
            go_upto_region 13 with (first | ((with_reducible refine gc 60 rfl ?_); refine gl (some 61) Try.func60 #[.agg #[.int .i64 a1_0, .int .i64 a1_1]] ?_; (with_reducible refine (Rf_SignalErr.calls a1_0 a1_1 t1026 _ A33.out).mono ?_); rintro e w37 ⟨rfl, hb⟩; refine ⟨_, rfl, ?_⟩; replace BK1007 := bb BK1007 hb; replace HB := sb HB hb; (try clear hb)) | ((with_reducible refine gc 15 rfl ?_); refine gl (some 62) Try.func15 #[.int .i64 t1025, .int .i64 t1026] ?_; (with_reducible refine (Lw_both.calls t1025 t1026 t1027 _ A34.out).mono ?_); rintro e w' ⟨rfl, ⟨nd, rfl⟩⟩; refine ⟨_, rfl, ?_⟩))
            (try simp only [Act.put, List.setIfInBounds_toArray, List.set_cons_zero, List.set_cons_succ])
            go_cut [71] (fun v71 wc => ∃ (kq : Nat) (x71_34 : Bool), v71 = .bool x71_34 ∧ Aside0 (Lw_CloudClasses.j1 kq l0 a2 t1017 t1018 t1022 t1023 t1027 t1027 x71_34 a1_0 a1_1 = some r) ∧ Aside0 (kq ≤ kj15) ∧ Aside0 (wc.heap[gb1007]? = some (.cells #[.int .i64 a1_0, .int .i64 a1_1] 87 (0, 0))) ∧ Aside0 (Below w.heap.size w wc))
            case first =>
              have H := HC35.out; clear HC35
              by_cases c38 : t1027 = 0
              · rw [if_pos c38] at H; have c38b0 := beq_iff_eq.mpr c38; have c38b1 := bne_eq_false_iff_eq.mpr c38; clear c38
                (first | rw [c38b0] | (simp only [i64_w, i32_w]; rw [c38b0]) | skip)
                replace H := oa H; obtain ⟨t1028, A39, H⟩ := H; (try dsimp only at H); have H' := m0 H; clear H; obtain ⟨hcz40_0, hcz40_1, hfz40_0, hfz40_1⟩ := b2 BK1007
                go_wp2_with (first | (go_at_call 61; (with_reducible refine (Rf_Class.calls kj15 _ _ l0 a1_0 a1_1 t1028 _ ?side1 ?side2 A39.out).mono ?_); (case side1 => exact cb HR0 HB); (case side2 => exact HC0.out); rintro e w41 ⟨rfl, hb⟩; replace BK1007 := bb BK1007 hb; replace HB := sb HB hb; (try clear hb)))
                go_meet
                case rel => exact ⟨_, (decide (t1028 < 0)), rz, H', ⟨by have := HJ15.out; first | omega | exact Nat.le_refl _⟩, ⟨bk BK1007.out⟩, ⟨bz⟩⟩
              · rw [if_neg c38] at H; have c38b0 := beq_eq_false_iff_ne.mpr c38; have c38b1 := bne_iff_ne.mpr c38
                (first | rw [c38b0] | (simp only [i64_w, i32_w]; rw [c38b0]) | skip)
                have H' := m0 H; clear H
                go_wp2
                go_meet
                case rel => exact ⟨_, (false), rz, H', ⟨by have := HJ15.out; first | omega | exact Nat.le_refl _⟩, ⟨bk BK1007.out⟩, ⟨bz⟩⟩
            case rest =>
              clear HC35
              try clear hcz36_0
              try clear hcz36_1
              try clear hcz40_0
              try clear hcz40_1
              try clear hfz36_0
              try clear hfz36_1
              try clear hfz40_0
              try clear hfz40_1
              obtain ⟨kq, x71_34, rfl, HA, HJ34, BK1007, HB⟩ := hcut
              cases kq with
              | zero => exact absurd HA.out (by simp [Lw_CloudClasses.j1])
              | succ kj34 =>
                have H := HA.out; clear HA; simp only [Lw_CloudClasses.j1] at H; have HC42 := m0 H; clear H
                go_upto_if 71 with (fail)
                go_cut [15] (fun v15 wc => ∃ (kq : Nat) (x15_41 : Int), v15 = .int .i64 x15_41 ∧ Aside0 (Lw_CloudClasses.j2 kq l0 a2 t1017 t1018 t1022 t1023 t1027 x15_41 a1_0 a1_1 = some r) ∧ Aside0 (kq ≤ kj34) ∧ Aside0 (wc.heap[gb1007]? = some (.cells #[.int .i64 a1_0, .int .i64 a1_1] 87 (0, 0))) ∧ Aside0 (Below w.heap.size w wc))
                case first =>
                  have H := HC42.out; clear HC42
                  by_cases c43 : x71_34 = true
                  · subst c43; rw [if_pos rfl] at H; have H' := m0 H; clear H
                    go_wp2
                    go_meet
                    case rel => exact ⟨_, (12), rz, H', ⟨by have := HJ15.out; have := HJ34.out; first | omega | exact Nat.le_refl _⟩, ⟨bk BK1007.out⟩, ⟨bz⟩⟩
                  · replace c43 := Bool.eq_false_iff.mpr c43; subst c43; rw [if_neg (show ¬ (false = true) by decide)] at H; have H' := m0 H; clear H
                    go_wp2
                    go_meet
                    case rel => exact ⟨_, (t1027), rz, H', ⟨by have := HJ15.out; have := HJ34.out; first | omega | exact Nat.le_refl _⟩, ⟨bk BK1007.out⟩, ⟨bz⟩⟩
                case rest =>
                  clear HC42
                  try clear hcz36_0
                  try clear hcz36_1
                  try clear hcz40_0
                  try clear hcz40_1
                  try clear hfz36_0
                  try clear hfz36_1
                  try clear hfz40_0
                  try clear hfz40_1
                  obtain ⟨kq, x15_41, rfl, HA, HJ41, BK1007, HB⟩ := hcut
                  cases kq with
                  | zero => exact absurd HA.out (by simp [Lw_CloudClasses.j2])
                  | succ kj41 =>
                    have H := HA.out; clear HA; simp only [Lw_CloudClasses.j2] at H; have HC44 := m0 H; clear H
                    go_upto_region 15 with (fail)
                    go_cut [97] (fun v97 wc => ∃ (kq : Nat) (x97_43 : Bool), v97 = .bool x97_43 ∧ Aside0 (Lw_CloudClasses.j3 kq l0 a2 t1022 t1023 t1027 x15_41 x97_43 a1_0 a1_1 = some r) ∧ Aside0 (kq ≤ kj41) ∧ Aside0 (wc.heap[gb1007]? = some (.cells #[.int .i64 a1_0, .int .i64 a1_1] 87 (0, 0))) ∧ Aside0 (Below w.heap.size w wc))
                    case first =>
                      have H := HC44.out; clear HC44
                      by_cases c45 : x15_41 = 0
                      · rw [if_pos c45] at H; have c45b0 := beq_iff_eq.mpr c45; have c45b1 := bne_eq_false_iff_eq.mpr c45; clear c45
                        (first | rw [c45b0] | (simp only [i64_w, i32_w]; rw [c45b0]) | skip)
                        by_cases c46 : t1018 = 0
                        · rw [if_pos c46] at H; have c46b0 := beq_iff_eq.mpr c46; have c46b1 := bne_eq_false_iff_eq.mpr c46; clear c46; replace H := oa H; obtain ⟨t1029, A47, H⟩ := H; (try dsimp only at H); have H' := m0 H; clear H; obtain ⟨hcz48_0, hcz48_1, hfz48_0, hfz48_1⟩ := b2 BK1007
                          go_wp2_with (first | (go_at_call 61; (with_reducible refine (Rf_Class.calls kj41 _ _ l0 a1_0 a1_1 t1029 _ ?side1 ?side2 A47.out).mono ?_); (case side1 => exact cb HR0 HB); (case side2 => exact HC0.out); rintro e w49 ⟨rfl, hb⟩; replace BK1007 := bb BK1007 hb; replace HB := sb HB hb; (try clear hb)))
                          go_meet
                          case rel => exact ⟨_, ((t1017 != t1029)), rz, H', ⟨by have := HJ15.out; have := HJ34.out; have := HJ41.out; first | omega | exact Nat.le_refl _⟩, ⟨bk BK1007.out⟩, ⟨bz⟩⟩
                        · rw [if_neg c46] at H; have c46b0 := beq_eq_false_iff_ne.mpr c46; have c46b1 := bne_iff_ne.mpr c46; have H' := m0 H; clear H
                          go_wp2
                          go_meet
                          case rel => exact ⟨_, (true), rz, H', ⟨by have := HJ15.out; have := HJ34.out; have := HJ41.out; first | omega | exact Nat.le_refl _⟩, ⟨bk BK1007.out⟩, ⟨bz⟩⟩
                      · rw [if_neg c45] at H; have c45b0 := beq_eq_false_iff_ne.mpr c45; have c45b1 := bne_iff_ne.mpr c45
                        (first | rw [c45b0] | (simp only [i64_w, i32_w]; rw [c45b0]) | skip)
                        by_cases c50 : t1018 = x15_41
                        · rw [if_pos c50] at H; have c50b0 := beq_iff_eq.mpr c50; have c50b1 := bne_eq_false_iff_eq.mpr c50; clear c50
                          by_cases c51 : t1017 = 0
                          · rw [if_pos c51] at H; have c51b0 := beq_iff_eq.mpr c51; have c51b1 := bne_eq_false_iff_eq.mpr c51; clear c51; have H' := m0 H; clear H
                            go_wp2
                            go_meet
                            case rel => exact ⟨_, (false), rz, H', ⟨by have := HJ15.out; have := HJ34.out; have := HJ41.out; first | omega | exact Nat.le_refl _⟩, ⟨bk BK1007.out⟩, ⟨bz⟩⟩
                          · rw [if_neg c51] at H; have c51b0 := beq_eq_false_iff_ne.mpr c51; have c51b1 := bne_iff_ne.mpr c51; have H' := m0 H; clear H
                            go_wp2
                            go_meet
                            case rel => exact ⟨_, (true), rz, H', ⟨by have := HJ15.out; have := HJ34.out; have := HJ41.out; first | omega | exact Nat.le_refl _⟩, ⟨bk BK1007.out⟩, ⟨bz⟩⟩
                        · rw [if_neg c50] at H; have c50b0 := beq_eq_false_iff_ne.mpr c50; have c50b1 := bne_iff_ne.mpr c50; have H' := m0 H; clear H
                          go_wp2
                          go_meet
                          case rel => exact ⟨_, (true), rz, H', ⟨by have := HJ15.out; have := HJ34.out; have := HJ41.out; first | omega | exact Nat.le_refl _⟩, ⟨bk BK1007.out⟩, ⟨bz⟩⟩
                    case rest =>
                      clear HC44
                      try clear hcz36_0
                      try clear hcz36_1
                      try clear hcz40_0
                      try clear hcz40_1
                      try clear hcz48_0
                      try clear hcz48_1
                      try clear hfz36_0
                      try clear hfz36_1
                      try clear hfz40_0
                      try clear hfz40_1
                      try clear hfz48_0
                      try clear hfz48_1
                      obtain ⟨kq, x97_43, rfl, HA, HJ43, BK1007, HB⟩ := hcut
                      cases kq with
                      | zero => exact absurd HA.out (by simp [Lw_CloudClasses.j3])
                      | succ kj43 =>
                        have H := HA.out; clear HA; simp only [Lw_CloudClasses.j3] at H
                        by_cases c52 : x97_43 = true
                        · subst c52; rw [if_pos rfl] at H; obtain rfl := Option.some.inj H
                          go_wp2
                          go_ret
                          exact ez
                        · replace c52 := Bool.eq_false_iff.mpr c52; subst c52; rw [if_neg (show ¬ (false = true) by decide)] at H; have HC53 := m0 H; clear H
                          go_upto_region 17 with (fail)
                          go_cut [104] (fun v104 wc => ∃ (kq : Nat) (x104_52 : Bool), v104 = .bool x104_52 ∧ Aside0 (Lw_CloudClasses.j4 kq l0 a2 t1022 t1023 t1027 x15_41 x104_52 a1_0 a1_1 = some r) ∧ Aside0 (kq ≤ kj43) ∧ Aside0 (wc.heap[gb1007]? = some (.cells #[.int .i64 a1_0, .int .i64 a1_1] 87 (0, 0))) ∧ Aside0 (Below w.heap.size w wc))
                          case first =>
                            have H := HC53.out; clear HC53
                            by_cases c54 : t1027 = 0
                            · rw [if_pos c54] at H; have c54b0 := beq_iff_eq.mpr c54; have c54b1 := bne_eq_false_iff_eq.mpr c54; clear c54
                              (first | rw [c54b0] | (simp only [i64_w, i32_w]; rw [c54b0]) | skip)
                              replace H := oa H; obtain ⟨t1030, A55, H⟩ := H; (try dsimp only at H); have H' := m0 H; clear H
                              go_wp2_with (first | (go_at_call 19; (with_reducible refine (Bs_Within.calls a2 0 10 t1030 _ A55.out).mono ?_); rintro e w' ⟨rfl, ⟨nd, rfl⟩⟩))
                              go_meet
                              case rel => exact ⟨_, (!t1030), rz, H', ⟨by have := HJ15.out; have := HJ34.out; have := HJ41.out; have := HJ43.out; first | omega | exact Nat.le_refl _⟩, ⟨bk BK1007.out⟩, ⟨bz⟩⟩
                            · rw [if_neg c54] at H; have c54b0 := beq_eq_false_iff_ne.mpr c54; have c54b1 := bne_iff_ne.mpr c54
                              (first | rw [c54b0] | (simp only [i64_w, i32_w]; rw [c54b0]) | skip)
                              have H' := m0 H; clear H
                              go_wp2
                              go_meet
                              case rel => exact ⟨_, (false), rz, H', ⟨by have := HJ15.out; have := HJ34.out; have := HJ41.out; have := HJ43.out; first | omega | exact Nat.le_refl _⟩, ⟨bk BK1007.out⟩, ⟨bz⟩⟩
                          case rest =>
                            clear HC53
                            try clear hcz36_0
                            try clear hcz36_1
                            try clear hcz40_0
                            try clear hcz40_1
                            try clear hcz48_0
                            try clear hcz48_1
                            try clear hfz36_0
                            try clear hfz36_1
                            try clear hfz40_0
                            try clear hfz40_1
                            try clear hfz48_0
                            try clear hfz48_1
                            obtain ⟨kq, x104_52, rfl, HA, HJ52, BK1007, HB⟩ := hcut
                            cases kq with
                            | zero => exact absurd HA.out (by simp [Lw_CloudClasses.j4])
                            | succ kj52 =>
                              have H := HA.out; clear HA; simp only [Lw_CloudClasses.j4] at H; have HC56 := m0 H; clear H
                              go_upto_if 104 with (fail)
                              go_cut [14] (fun v14 wc => ∃ (kq : Nat) (x14_55 : Int), v14 = .int .i64 x14_55 ∧ Aside0 (Lw_CloudClasses.j5 kq l0 a2 t1022 t1023 x14_55 x15_41 a1_0 a1_1 = some r) ∧ Aside0 (kq ≤ kj52) ∧ Aside0 (wc.heap[gb1007]? = some (.cells #[.int .i64 a1_0, .int .i64 a1_1] 87 (0, 0))) ∧ Aside0 (Below w.heap.size w wc))
                              case first =>
                                have H := HC56.out; clear HC56
                                by_cases c57 : x104_52 = true
                                · subst c57; rw [if_pos rfl] at H; have H' := m0 H; clear H
                                  go_wp2
                                  go_meet
                                  case rel => exact ⟨_, (2), rz, H', ⟨by have := HJ15.out; have := HJ34.out; have := HJ41.out; have := HJ43.out; have := HJ52.out; first | omega | exact Nat.le_refl _⟩, ⟨bk BK1007.out⟩, ⟨bz⟩⟩
                                · replace c57 := Bool.eq_false_iff.mpr c57; subst c57; rw [if_neg (show ¬ (false = true) by decide)] at H; have H' := m0 H; clear H
                                  go_wp2
                                  go_meet
                                  case rel => exact ⟨_, (t1027), rz, H', ⟨by have := HJ15.out; have := HJ34.out; have := HJ41.out; have := HJ43.out; have := HJ52.out; first | omega | exact Nat.le_refl _⟩, ⟨bk BK1007.out⟩, ⟨bz⟩⟩
                              case rest =>
                                clear HC56
                                try clear hcz36_0
                                try clear hcz36_1
                                try clear hcz40_0
                                try clear hcz40_1
                                try clear hcz48_0
                                try clear hcz48_1
                                try clear hfz36_0
                                try clear hfz36_1
                                try clear hfz40_0
                                try clear hfz40_1
                                try clear hfz48_0
                                try clear hfz48_1
                                obtain ⟨kq, x14_55, rfl, HA, HJ55, BK1007, HB⟩ := hcut
                                cases kq with
                                | zero => exact absurd HA.out (by simp [Lw_CloudClasses.j5])
                                | succ kj55 =>
                                  have H := HA.out; clear HA; simp only [Lw_CloudClasses.j5] at H; replace H := oa H; obtain ⟨t1031, A58, H⟩ := H; (try dsimp only at H)
                                  by_cases c59 : t1031 = 0
                                  · rw [if_pos c59] at H; have c59b0 := beq_iff_eq.mpr c59; have c59b1 := bne_eq_false_iff_eq.mpr c59; clear c59; have HC60 := m0 H; clear H
                                    go_upto_region 22 with (first | ((with_reducible refine gc 15 rfl ?_); refine gl (some 107) Try.func15 #[.int .i64 x14_55, .int .i64 x15_41] ?_; (with_reducible refine (Lw_both.calls x14_55 x15_41 t1031 _ A58.out).mono ?_); rintro e w' ⟨rfl, ⟨nd, rfl⟩⟩; refine ⟨_, rfl, ?_⟩))
                                    (try simp only [Act.put, List.setIfInBounds_toArray, List.set_cons_zero, List.set_cons_succ])
                                    go_cut [126] (fun v126 wc => ∃ (kq : Nat) (x126_59 : Bool), v126 = .bool x126_59 ∧ Aside0 (Lw_CloudClasses.j6 kq l0 a2 t1022 x126_59 a1_0 a1_1 = some r) ∧ Aside0 (kq ≤ kj55) ∧ Aside0 (wc.heap[gb1007]? = some (.cells #[.int .i64 a1_0, .int .i64 a1_1] 87 (0, 0))) ∧ Aside0 (Below w.heap.size w wc))
                                    case first =>
                                      have H := HC60.out; clear HC60
                                      by_cases c61 : t1023 = 0
                                      · rw [if_pos c61] at H; have c61b0 := beq_iff_eq.mpr c61; have c61b1 := bne_eq_false_iff_eq.mpr c61; clear c61
                                        (first | rw [c61b0] | (simp only [i64_w, i32_w]; rw [c61b0]) | skip)
                                        replace H := oa H; obtain ⟨t1032, A62, H⟩ := H; (try dsimp only at H); have H' := m0 H; clear H; obtain ⟨hcz63_0, hcz63_1, hfz63_0, hfz63_1⟩ := b2 BK1007
                                        go_wp2_with (first | (go_at_call 62; (with_reducible refine (Rf_Sure.calls kj55 _ _ l0 a1_0 a1_1 a2 t1032 _ ?side1 ?side2 A62.out).mono ?_); (case side1 => exact cb HR0 HB); (case side2 => exact HC0.out); rintro e w64 ⟨rfl, hb⟩; replace BK1007 := bb BK1007 hb; replace HB := sb HB hb; (try clear hb)))
                                        go_meet
                                        case rel => exact ⟨_, ((t1022 != t1032)), rz, H', ⟨by have := HJ15.out; have := HJ34.out; have := HJ41.out; have := HJ43.out; have := HJ52.out; have := HJ55.out; first | omega | exact Nat.le_refl _⟩, ⟨bk BK1007.out⟩, ⟨bz⟩⟩
                                      · rw [if_neg c61] at H; have c61b0 := beq_eq_false_iff_ne.mpr c61; have c61b1 := bne_iff_ne.mpr c61
                                        (first | rw [c61b0] | (simp only [i64_w, i32_w]; rw [c61b0]) | skip)
                                        have H' := m0 H; clear H
                                        go_wp2
                                        go_meet
                                        case rel => exact ⟨_, (true), rz, H', ⟨by have := HJ15.out; have := HJ34.out; have := HJ41.out; have := HJ43.out; have := HJ52.out; have := HJ55.out; first | omega | exact Nat.le_refl _⟩, ⟨bk BK1007.out⟩, ⟨bz⟩⟩
                                    case rest =>
                                      clear HC60
                                      try clear hcz36_0
                                      try clear hcz36_1
                                      try clear hcz40_0
                                      try clear hcz40_1
                                      try clear hcz48_0
                                      try clear hcz48_1
                                      try clear hcz63_0
                                      try clear hcz63_1
                                      try clear hfz36_0
                                      try clear hfz36_1
                                      try clear hfz40_0
                                      try clear hfz40_1
                                      try clear hfz48_0
                                      try clear hfz48_1
                                      try clear hfz63_0
                                      try clear hfz63_1
                                      obtain ⟨kq, x126_59, rfl, HA, HJ59, BK1007, HB⟩ := hcut
                                      cases kq with
                                      | zero => exact absurd HA.out (by simp [Lw_CloudClasses.j6])
                                      | succ kj59 =>
                                        have H := HA.out; clear HA; simp only [Lw_CloudClasses.j6] at H
                                        by_cases c65 : x126_59 = true
                                        · subst c65; rw [if_pos rfl] at H; obtain rfl := Option.some.inj H
                                          go_wp2
                                          go_ret
                                          exact ez
                                        · replace c65 := Bool.eq_false_iff.mpr c65; subst c65; rw [if_neg (show ¬ (false = true) by decide)] at H; replace H := oa H; obtain ⟨t1033, A66, H⟩ := H; (try dsimp only at H); replace H := oa H; obtain ⟨⟨t1036, t1037⟩, A67, H⟩ := H; (try dsimp only at H); replace H := oa H; obtain ⟨t1038, A68, H⟩ := H; (try dsimp only at H); replace H := oa H; obtain ⟨⟨t1041, t1042⟩, A69, H⟩ := H; (try dsimp only at H)
                                          by_cases c70 : t1037 = 0
                                          · rw [if_pos c70] at H; have c70b0 := beq_iff_eq.mpr c70; have c70b1 := bne_eq_false_iff_eq.mpr c70; clear c70
                                            by_cases c71 : t1042 = 0
                                            · rw [if_pos c71] at H; have c71b0 := beq_iff_eq.mpr c71; have c71b1 := bne_eq_false_iff_eq.mpr c71; clear c71
                                              by_cases c72 : t1041 = true
                                              · subst c72; rw [if_pos rfl] at H
                                                by_cases c73 : t1022 = true
                                                · subst c73; rw [if_pos rfl] at H; obtain rfl := Option.some.inj H
                                                  try go_wp2
                                                  replace BK1007 := bd BK1007; replace HB := sd HB; refine start_ (n := 11) (S := fun w' => w'.cell? ⟨gb1007, 0, none⟩ = some (.int .i64 a1_0) ∧ w'.cell? ⟨gb1007, 1, none⟩ = some (.int .i64 a1_1)) (ds := []) _ (by kernel_rfl) rfl rfl cz (fun hH => ?_); refine with_tabW Lw_CloudClasses.tab24 Lw_CloudClasses.bits24 (fun HT_ HW_ => ?_); generalize wc.drew = w74 at BK1007 HB hH ⊢; refine pZ 0 (some 128) #[true, false, false, false, false, false, false, false, false, false, false] HT_ ?_; refine pZ 3 (some 131) #[true, false, false, true, false, false, false, false, false, false, false] HT_ ?_; refine pZ 4 (some 132) #[true, false, false, true, true, false, false, false, false, false, false] HT_ ?_; refine takeZ 2 (some 130) #[true, false, true, true, true, false, false, false, false, false, false] (tw HT_ HW_) hH ?_; refine oneZ 1 (some 129) #[true, true, true, true, true, false, false, false, false, false, false] (o1 HT_) fun K hK => ?_; refine gz Try.func56 #[.slice A0 l0.length c0] ?_
                                                  with_reducible refine (Rf_CopyClasses.calls _ _ l0 t1033 _ ?side1 ?side2 A66.out).mono ?_
                                                  (case side1 => exact cb HR0 HB)
                                                  (case side2 => exact HC0.out)
                                                  rintro e w75 ⟨v1034, rfl, ho0, hb⟩; refine ⟨_, rfl, ?_⟩; have HO1035 := m0 (Kd.R_lower ho0 (below_size bz)); replace BK1007 := bb BK1007 hb; replace HB := sb HB hb; (try clear hb); (try clear ho0); obtain ⟨Ao76, co76, eo76⟩ := Kd.R_slice HO1035.out; subst eo76; refine hK.out _ _ cz (fun hH => ?_); clear hK K; refine nz 129 ?_; refine oneZ 5 (some 133) #[true, true, true, true, true, true, false, false, false, false, false] (o1 HT_) fun K hK => ?_; refine gz Try.func58 #[.slice Ao76 t1033.length co76, .agg #[.int .i64 a1_0, .int .i64 a1_1], .int .i64 (wrap64 (Int.tdiv a2 2))] ?_
                                                  with_reducible refine (L_IsSureClass.calls kj59 _ _ t1033 a1_0 a1_1 (wrap64 (Int.tdiv a2 2)) t1036 t1037 _ ?side1 ?side2 A67.out).mono ?_
                                                  (case side1 => exact bc (Kd.R_reads' HO1035.out).2.2)
                                                  (case side2 => exact (Kd.R_reads' HO1035.out).2.1)
                                                  rintro e w77 ⟨rfl, hb⟩; refine ⟨_, rfl, ?_⟩; replace HO1035 := rb HO1035 hb; replace BK1007 := bb BK1007 hb; replace HB := sb HB hb; (try clear hb); refine hK.out _ _ cz (fun hH => ?_); clear hK K; refine nz 133 ?_; refine pZ 6 (some 127) #[true, true, true, true, true, true, true, false, false, false, false] HT_ ?_; refine pZ 7 (some 134) #[true, true, true, true, true, true, true, true, false, false, false] HT_ ?_; refine pZ 8 (some 135) #[true, true, true, true, true, true, true, true, true, false, false] HT_ ?_; refine pZ 9 (some 16) #[true, true, true, true, true, true, true, true, true, true, false] HT_ ?_; refine pZ 10 (some 17) #[true, true, true, true, true, true, true, true, true, true, true] HT_ ?_; refine done_ (done_of HT_.out (by kernel_rfl)) ?_
                                                  try go_wp2
                                                  replace HO1035 := m0 (Kd.R_drew HO1035.out); replace BK1007 := bd BK1007; replace HB := sd HB; refine start_ (n := 9) (S := fun w' => w'.cell? ⟨gb1007, 0, none⟩ = some (.int .i64 a1_0) ∧ w'.cell? ⟨gb1007, 1, none⟩ = some (.int .i64 a1_1)) (ds := []) _ (by kernel_rfl) rfl rfl cz (fun hH => ?_); refine with_tabW Lw_CloudClasses.tab25 Lw_CloudClasses.bits25 (fun HT_ HW_ => ?_); generalize w77.drew = w78 at HO1035 BK1007 HB hH ⊢; refine pZ 0 (some 137) #[true, false, false, false, false, false, false, false, false] HT_ ?_; refine takeZ 2 (some 139) #[true, false, true, false, false, false, false, false, false] (tw HT_ HW_) hH ?_; refine oneZ 1 (some 138) #[true, true, true, false, false, false, false, false, false] (o1 HT_) fun K hK => ?_; refine gz Try.func56 #[.slice A0 l0.length c0] ?_
                                                  with_reducible refine (Rf_CopyClasses.calls _ _ l0 t1038 _ ?side1 ?side2 A68.out).mono ?_
                                                  (case side1 => exact cb HR0 HB)
                                                  (case side2 => exact HC0.out)
                                                  rintro e w79 ⟨v1039, rfl, ho0, hb⟩; refine ⟨_, rfl, ?_⟩; have HO1040 := m0 (Kd.R_lower (Kd.R_new' ho0 (Kd.R_lt (br HO1035.out))) (below_size bz)); replace HO1035 := m0 (Kd.R_elder' (br HO1035.out) (Kd.R_base ho0) hb); replace BK1007 := bb BK1007 hb; replace HB := sb HB hb; (try clear hb); (try clear ho0); obtain ⟨Ao80, co80, eo80⟩ := Kd.R_slice HO1040.out; subst eo80; refine hK.out _ _ cz (fun hH => ?_); clear hK K; refine nz 138 ?_; refine oneZ 3 (some 140) #[true, true, true, true, false, false, false, false, false] (o1 HT_) fun K hK => ?_; refine gz Try.func58 #[.slice Ao80 t1038.length co80, .agg #[.int .i64 a1_0, .int .i64 a1_1], .int .i64 0] ?_
                                                  with_reducible refine (L_IsSureClass.calls kj59 _ _ t1038 a1_0 a1_1 0 true t1042 _ ?side1 ?side2 A69.out).mono ?_
                                                  (case side1 => exact bc (Kd.R_reads' HO1040.out).2.2)
                                                  (case side2 => exact (Kd.R_reads' HO1040.out).2.1)
                                                  rintro e w81 ⟨rfl, hb⟩; refine ⟨_, rfl, ?_⟩; replace HO1035 := rb HO1035 hb; replace HO1040 := rb HO1040 hb; replace BK1007 := bb BK1007 hb; replace HB := sb HB hb; (try clear hb); refine hK.out _ _ cz (fun hH => ?_); clear hK K; refine nz 140 ?_; refine pZ 4 (some 136) #[true, true, true, true, true, false, false, false, false] HT_ ?_; refine pZ 5 (some 141) #[true, true, true, true, true, true, false, false, false] HT_ ?_; refine pZ 6 (some 142) #[true, true, true, true, true, true, true, false, false] HT_ ?_; refine pZ 7 (some 18) #[true, true, true, true, true, true, true, true, false] HT_ ?_; refine pZ 8 (some 19) #[true, true, true, true, true, true, true, true, true] HT_ ?_; refine done_ (done_of HT_.out (by kernel_rfl)) ?_
                                                  try go_wp2
                                                  go_ret
                                                  exact ez
                                                · replace c73 := Bool.eq_false_iff.mpr c73; subst c73; rw [if_neg (show ¬ (false = true) by decide)] at H; obtain rfl := Option.some.inj H
                                                  try go_wp2
                                                  replace BK1007 := bd BK1007; replace HB := sd HB; refine start_ (n := 11) (S := fun w' => w'.cell? ⟨gb1007, 0, none⟩ = some (.int .i64 a1_0) ∧ w'.cell? ⟨gb1007, 1, none⟩ = some (.int .i64 a1_1)) (ds := []) _ (by kernel_rfl) rfl rfl cz (fun hH => ?_); refine with_tabW Lw_CloudClasses.tab24 Lw_CloudClasses.bits24 (fun HT_ HW_ => ?_); generalize wc.drew = w82 at BK1007 HB hH ⊢; refine pZ 0 (some 128) #[true, false, false, false, false, false, false, false, false, false, false] HT_ ?_; refine pZ 3 (some 131) #[true, false, false, true, false, false, false, false, false, false, false] HT_ ?_; refine pZ 4 (some 132) #[true, false, false, true, true, false, false, false, false, false, false] HT_ ?_; refine takeZ 2 (some 130) #[true, false, true, true, true, false, false, false, false, false, false] (tw HT_ HW_) hH ?_; refine oneZ 1 (some 129) #[true, true, true, true, true, false, false, false, false, false, false] (o1 HT_) fun K hK => ?_; refine gz Try.func56 #[.slice A0 l0.length c0] ?_
                                                  with_reducible refine (Rf_CopyClasses.calls _ _ l0 t1033 _ ?side1 ?side2 A66.out).mono ?_
                                                  (case side1 => exact cb HR0 HB)
                                                  (case side2 => exact HC0.out)
                                                  rintro e w83 ⟨v1034, rfl, ho0, hb⟩; refine ⟨_, rfl, ?_⟩; have HO1035 := m0 (Kd.R_lower ho0 (below_size bz)); replace BK1007 := bb BK1007 hb; replace HB := sb HB hb; (try clear hb); (try clear ho0); obtain ⟨Ao84, co84, eo84⟩ := Kd.R_slice HO1035.out; subst eo84; refine hK.out _ _ cz (fun hH => ?_); clear hK K; refine nz 129 ?_; refine oneZ 5 (some 133) #[true, true, true, true, true, true, false, false, false, false, false] (o1 HT_) fun K hK => ?_; refine gz Try.func58 #[.slice Ao84 t1033.length co84, .agg #[.int .i64 a1_0, .int .i64 a1_1], .int .i64 (wrap64 (Int.tdiv a2 2))] ?_
                                                  with_reducible refine (L_IsSureClass.calls kj59 _ _ t1033 a1_0 a1_1 (wrap64 (Int.tdiv a2 2)) t1036 t1037 _ ?side1 ?side2 A67.out).mono ?_
                                                  (case side1 => exact bc (Kd.R_reads' HO1035.out).2.2)
                                                  (case side2 => exact (Kd.R_reads' HO1035.out).2.1)
                                                  rintro e w85 ⟨rfl, hb⟩; refine ⟨_, rfl, ?_⟩; replace HO1035 := rb HO1035 hb; replace BK1007 := bb BK1007 hb; replace HB := sb HB hb; (try clear hb); refine hK.out _ _ cz (fun hH => ?_); clear hK K; refine nz 133 ?_; refine pZ 6 (some 127) #[true, true, true, true, true, true, true, false, false, false, false] HT_ ?_; refine pZ 7 (some 134) #[true, true, true, true, true, true, true, true, false, false, false] HT_ ?_; refine pZ 8 (some 135) #[true, true, true, true, true, true, true, true, true, false, false] HT_ ?_; refine pZ 9 (some 16) #[true, true, true, true, true, true, true, true, true, true, false] HT_ ?_; refine pZ 10 (some 17) #[true, true, true, true, true, true, true, true, true, true, true] HT_ ?_; refine done_ (done_of HT_.out (by kernel_rfl)) ?_
                                                  try go_wp2
                                                  replace HO1035 := m0 (Kd.R_drew HO1035.out); replace BK1007 := bd BK1007; replace HB := sd HB; refine start_ (n := 9) (S := fun w' => w'.cell? ⟨gb1007, 0, none⟩ = some (.int .i64 a1_0) ∧ w'.cell? ⟨gb1007, 1, none⟩ = some (.int .i64 a1_1)) (ds := []) _ (by kernel_rfl) rfl rfl cz (fun hH => ?_); refine with_tabW Lw_CloudClasses.tab25 Lw_CloudClasses.bits25 (fun HT_ HW_ => ?_); generalize w85.drew = w86 at HO1035 BK1007 HB hH ⊢; refine pZ 0 (some 137) #[true, false, false, false, false, false, false, false, false] HT_ ?_; refine takeZ 2 (some 139) #[true, false, true, false, false, false, false, false, false] (tw HT_ HW_) hH ?_; refine oneZ 1 (some 138) #[true, true, true, false, false, false, false, false, false] (o1 HT_) fun K hK => ?_; refine gz Try.func56 #[.slice A0 l0.length c0] ?_
                                                  with_reducible refine (Rf_CopyClasses.calls _ _ l0 t1038 _ ?side1 ?side2 A68.out).mono ?_
                                                  (case side1 => exact cb HR0 HB)
                                                  (case side2 => exact HC0.out)
                                                  rintro e w87 ⟨v1039, rfl, ho0, hb⟩; refine ⟨_, rfl, ?_⟩; have HO1040 := m0 (Kd.R_lower (Kd.R_new' ho0 (Kd.R_lt (br HO1035.out))) (below_size bz)); replace HO1035 := m0 (Kd.R_elder' (br HO1035.out) (Kd.R_base ho0) hb); replace BK1007 := bb BK1007 hb; replace HB := sb HB hb; (try clear hb); (try clear ho0); obtain ⟨Ao88, co88, eo88⟩ := Kd.R_slice HO1040.out; subst eo88; refine hK.out _ _ cz (fun hH => ?_); clear hK K; refine nz 138 ?_; refine oneZ 3 (some 140) #[true, true, true, true, false, false, false, false, false] (o1 HT_) fun K hK => ?_; refine gz Try.func58 #[.slice Ao88 t1038.length co88, .agg #[.int .i64 a1_0, .int .i64 a1_1], .int .i64 0] ?_
                                                  with_reducible refine (L_IsSureClass.calls kj59 _ _ t1038 a1_0 a1_1 0 true t1042 _ ?side1 ?side2 A69.out).mono ?_
                                                  (case side1 => exact bc (Kd.R_reads' HO1040.out).2.2)
                                                  (case side2 => exact (Kd.R_reads' HO1040.out).2.1)
                                                  rintro e w89 ⟨rfl, hb⟩; refine ⟨_, rfl, ?_⟩; replace HO1035 := rb HO1035 hb; replace HO1040 := rb HO1040 hb; replace BK1007 := bb BK1007 hb; replace HB := sb HB hb; (try clear hb); refine hK.out _ _ cz (fun hH => ?_); clear hK K; refine nz 140 ?_; refine pZ 4 (some 136) #[true, true, true, true, true, false, false, false, false] HT_ ?_; refine pZ 5 (some 141) #[true, true, true, true, true, true, false, false, false] HT_ ?_; refine pZ 6 (some 142) #[true, true, true, true, true, true, true, false, false] HT_ ?_; refine pZ 7 (some 18) #[true, true, true, true, true, true, true, true, false] HT_ ?_; refine pZ 8 (some 19) #[true, true, true, true, true, true, true, true, true] HT_ ?_; refine done_ (done_of HT_.out (by kernel_rfl)) ?_
                                                  try go_wp2
                                                  go_ret
                                                  exact ez
                                              · replace c72 := Bool.eq_false_iff.mpr c72; subst c72; rw [if_neg (show ¬ (false = true) by decide)] at H; obtain rfl := Option.some.inj H
                                                try go_wp2
                                                replace BK1007 := bd BK1007; replace HB := sd HB; refine start_ (n := 11) (S := fun w' => w'.cell? ⟨gb1007, 0, none⟩ = some (.int .i64 a1_0) ∧ w'.cell? ⟨gb1007, 1, none⟩ = some (.int .i64 a1_1)) (ds := []) _ (by kernel_rfl) rfl rfl cz (fun hH => ?_); refine with_tabW Lw_CloudClasses.tab24 Lw_CloudClasses.bits24 (fun HT_ HW_ => ?_); generalize wc.drew = w90 at BK1007 HB hH ⊢; refine pZ 0 (some 128) #[true, false, false, false, false, false, false, false, false, false, false] HT_ ?_; refine pZ 3 (some 131) #[true, false, false, true, false, false, false, false, false, false, false] HT_ ?_; refine pZ 4 (some 132) #[true, false, false, true, true, false, false, false, false, false, false] HT_ ?_; refine takeZ 2 (some 130) #[true, false, true, true, true, false, false, false, false, false, false] (tw HT_ HW_) hH ?_; refine oneZ 1 (some 129) #[true, true, true, true, true, false, false, false, false, false, false] (o1 HT_) fun K hK => ?_; refine gz Try.func56 #[.slice A0 l0.length c0] ?_
                                                with_reducible refine (Rf_CopyClasses.calls _ _ l0 t1033 _ ?side1 ?side2 A66.out).mono ?_
                                                (case side1 => exact cb HR0 HB)
                                                (case side2 => exact HC0.out)
                                                rintro e w91 ⟨v1034, rfl, ho0, hb⟩; refine ⟨_, rfl, ?_⟩; have HO1035 := m0 (Kd.R_lower ho0 (below_size bz)); replace BK1007 := bb BK1007 hb; replace HB := sb HB hb; (try clear hb); (try clear ho0); obtain ⟨Ao92, co92, eo92⟩ := Kd.R_slice HO1035.out; subst eo92; refine hK.out _ _ cz (fun hH => ?_); clear hK K; refine nz 129 ?_; refine oneZ 5 (some 133) #[true, true, true, true, true, true, false, false, false, false, false] (o1 HT_) fun K hK => ?_; refine gz Try.func58 #[.slice Ao92 t1033.length co92, .agg #[.int .i64 a1_0, .int .i64 a1_1], .int .i64 (wrap64 (Int.tdiv a2 2))] ?_
                                                with_reducible refine (L_IsSureClass.calls kj59 _ _ t1033 a1_0 a1_1 (wrap64 (Int.tdiv a2 2)) t1036 t1037 _ ?side1 ?side2 A67.out).mono ?_
                                                (case side1 => exact bc (Kd.R_reads' HO1035.out).2.2)
                                                (case side2 => exact (Kd.R_reads' HO1035.out).2.1)
                                                rintro e w93 ⟨rfl, hb⟩; refine ⟨_, rfl, ?_⟩; replace HO1035 := rb HO1035 hb; replace BK1007 := bb BK1007 hb; replace HB := sb HB hb; (try clear hb); refine hK.out _ _ cz (fun hH => ?_); clear hK K; refine nz 133 ?_; refine pZ 6 (some 127) #[true, true, true, true, true, true, true, false, false, false, false] HT_ ?_; refine pZ 7 (some 134) #[true, true, true, true, true, true, true, true, false, false, false] HT_ ?_; refine pZ 8 (some 135) #[true, true, true, true, true, true, true, true, true, false, false] HT_ ?_; refine pZ 9 (some 16) #[true, true, true, true, true, true, true, true, true, true, false] HT_ ?_; refine pZ 10 (some 17) #[true, true, true, true, true, true, true, true, true, true, true] HT_ ?_; refine done_ (done_of HT_.out (by kernel_rfl)) ?_
                                                try go_wp2
                                                replace HO1035 := m0 (Kd.R_drew HO1035.out); replace BK1007 := bd BK1007; replace HB := sd HB; refine start_ (n := 9) (S := fun w' => w'.cell? ⟨gb1007, 0, none⟩ = some (.int .i64 a1_0) ∧ w'.cell? ⟨gb1007, 1, none⟩ = some (.int .i64 a1_1)) (ds := []) _ (by kernel_rfl) rfl rfl cz (fun hH => ?_); refine with_tabW Lw_CloudClasses.tab25 Lw_CloudClasses.bits25 (fun HT_ HW_ => ?_); generalize w93.drew = w94 at HO1035 BK1007 HB hH ⊢; refine pZ 0 (some 137) #[true, false, false, false, false, false, false, false, false] HT_ ?_; refine takeZ 2 (some 139) #[true, false, true, false, false, false, false, false, false] (tw HT_ HW_) hH ?_; refine oneZ 1 (some 138) #[true, true, true, false, false, false, false, false, false] (o1 HT_) fun K hK => ?_; refine gz Try.func56 #[.slice A0 l0.length c0] ?_
                                                with_reducible refine (Rf_CopyClasses.calls _ _ l0 t1038 _ ?side1 ?side2 A68.out).mono ?_
                                                (case side1 => exact cb HR0 HB)
                                                (case side2 => exact HC0.out)
                                                rintro e w95 ⟨v1039, rfl, ho0, hb⟩; refine ⟨_, rfl, ?_⟩; have HO1040 := m0 (Kd.R_lower (Kd.R_new' ho0 (Kd.R_lt (br HO1035.out))) (below_size bz)); replace HO1035 := m0 (Kd.R_elder' (br HO1035.out) (Kd.R_base ho0) hb); replace BK1007 := bb BK1007 hb; replace HB := sb HB hb; (try clear hb); (try clear ho0); obtain ⟨Ao96, co96, eo96⟩ := Kd.R_slice HO1040.out; subst eo96; refine hK.out _ _ cz (fun hH => ?_); clear hK K; refine nz 138 ?_; refine oneZ 3 (some 140) #[true, true, true, true, false, false, false, false, false] (o1 HT_) fun K hK => ?_; refine gz Try.func58 #[.slice Ao96 t1038.length co96, .agg #[.int .i64 a1_0, .int .i64 a1_1], .int .i64 0] ?_
                                                with_reducible refine (L_IsSureClass.calls kj59 _ _ t1038 a1_0 a1_1 0 false t1042 _ ?side1 ?side2 A69.out).mono ?_
                                                (case side1 => exact bc (Kd.R_reads' HO1040.out).2.2)
                                                (case side2 => exact (Kd.R_reads' HO1040.out).2.1)
                                                rintro e w97 ⟨rfl, hb⟩; refine ⟨_, rfl, ?_⟩; replace HO1035 := rb HO1035 hb; replace HO1040 := rb HO1040 hb; replace BK1007 := bb BK1007 hb; replace HB := sb HB hb; (try clear hb); refine hK.out _ _ cz (fun hH => ?_); clear hK K; refine nz 140 ?_; refine pZ 4 (some 136) #[true, true, true, true, true, false, false, false, false] HT_ ?_; refine pZ 5 (some 141) #[true, true, true, true, true, true, false, false, false] HT_ ?_; refine pZ 6 (some 142) #[true, true, true, true, true, true, true, false, false] HT_ ?_; refine pZ 7 (some 18) #[true, true, true, true, true, true, true, true, false] HT_ ?_; refine pZ 8 (some 19) #[true, true, true, true, true, true, true, true, true] HT_ ?_; refine done_ (done_of HT_.out (by kernel_rfl)) ?_
                                                try go_wp2
                                                go_ret
                                                exact ez
                                            · rw [if_neg c71] at H; have c71b0 := beq_eq_false_iff_ne.mpr c71; have c71b1 := bne_iff_ne.mpr c71; obtain rfl := Option.some.inj H
                                              try go_wp2
                                              replace BK1007 := bd BK1007; replace HB := sd HB; refine start_ (n := 11) (S := fun w' => w'.cell? ⟨gb1007, 0, none⟩ = some (.int .i64 a1_0) ∧ w'.cell? ⟨gb1007, 1, none⟩ = some (.int .i64 a1_1)) (ds := []) _ (by kernel_rfl) rfl rfl cz (fun hH => ?_); refine with_tabW Lw_CloudClasses.tab24 Lw_CloudClasses.bits24 (fun HT_ HW_ => ?_); generalize wc.drew = w98 at BK1007 HB hH ⊢; refine pZ 0 (some 128) #[true, false, false, false, false, false, false, false, false, false, false] HT_ ?_; refine pZ 3 (some 131) #[true, false, false, true, false, false, false, false, false, false, false] HT_ ?_; refine pZ 4 (some 132) #[true, false, false, true, true, false, false, false, false, false, false] HT_ ?_; refine takeZ 2 (some 130) #[true, false, true, true, true, false, false, false, false, false, false] (tw HT_ HW_) hH ?_; refine oneZ 1 (some 129) #[true, true, true, true, true, false, false, false, false, false, false] (o1 HT_) fun K hK => ?_; refine gz Try.func56 #[.slice A0 l0.length c0] ?_
                                              with_reducible refine (Rf_CopyClasses.calls _ _ l0 t1033 _ ?side1 ?side2 A66.out).mono ?_
                                              (case side1 => exact cb HR0 HB)
                                              (case side2 => exact HC0.out)
                                              rintro e w99 ⟨v1034, rfl, ho0, hb⟩; refine ⟨_, rfl, ?_⟩; have HO1035 := m0 (Kd.R_lower ho0 (below_size bz)); replace BK1007 := bb BK1007 hb; replace HB := sb HB hb; (try clear hb); (try clear ho0); obtain ⟨Ao100, co100, eo100⟩ := Kd.R_slice HO1035.out; subst eo100; refine hK.out _ _ cz (fun hH => ?_); clear hK K; refine nz 129 ?_; refine oneZ 5 (some 133) #[true, true, true, true, true, true, false, false, false, false, false] (o1 HT_) fun K hK => ?_; refine gz Try.func58 #[.slice Ao100 t1033.length co100, .agg #[.int .i64 a1_0, .int .i64 a1_1], .int .i64 (wrap64 (Int.tdiv a2 2))] ?_
                                              with_reducible refine (L_IsSureClass.calls kj59 _ _ t1033 a1_0 a1_1 (wrap64 (Int.tdiv a2 2)) t1036 t1037 _ ?side1 ?side2 A67.out).mono ?_
                                              (case side1 => exact bc (Kd.R_reads' HO1035.out).2.2)
                                              (case side2 => exact (Kd.R_reads' HO1035.out).2.1)
                                              rintro e w101 ⟨rfl, hb⟩; refine ⟨_, rfl, ?_⟩; replace HO1035 := rb HO1035 hb; replace BK1007 := bb BK1007 hb; replace HB := sb HB hb; (try clear hb); refine hK.out _ _ cz (fun hH => ?_); clear hK K; refine nz 133 ?_; refine pZ 6 (some 127) #[true, true, true, true, true, true, true, false, false, false, false] HT_ ?_; refine pZ 7 (some 134) #[true, true, true, true, true, true, true, true, false, false, false] HT_ ?_; refine pZ 8 (some 135) #[true, true, true, true, true, true, true, true, true, false, false] HT_ ?_; refine pZ 9 (some 16) #[true, true, true, true, true, true, true, true, true, true, false] HT_ ?_; refine pZ 10 (some 17) #[true, true, true, true, true, true, true, true, true, true, true] HT_ ?_; refine done_ (done_of HT_.out (by kernel_rfl)) ?_
                                              try go_wp2
                                              replace HO1035 := m0 (Kd.R_drew HO1035.out); replace BK1007 := bd BK1007; replace HB := sd HB; refine start_ (n := 9) (S := fun w' => w'.cell? ⟨gb1007, 0, none⟩ = some (.int .i64 a1_0) ∧ w'.cell? ⟨gb1007, 1, none⟩ = some (.int .i64 a1_1)) (ds := []) _ (by kernel_rfl) rfl rfl cz (fun hH => ?_); refine with_tabW Lw_CloudClasses.tab25 Lw_CloudClasses.bits25 (fun HT_ HW_ => ?_); generalize w101.drew = w102 at HO1035 BK1007 HB hH ⊢; refine pZ 0 (some 137) #[true, false, false, false, false, false, false, false, false] HT_ ?_; refine takeZ 2 (some 139) #[true, false, true, false, false, false, false, false, false] (tw HT_ HW_) hH ?_; refine oneZ 1 (some 138) #[true, true, true, false, false, false, false, false, false] (o1 HT_) fun K hK => ?_; refine gz Try.func56 #[.slice A0 l0.length c0] ?_
                                              with_reducible refine (Rf_CopyClasses.calls _ _ l0 t1038 _ ?side1 ?side2 A68.out).mono ?_
                                              (case side1 => exact cb HR0 HB)
                                              (case side2 => exact HC0.out)
                                              rintro e w103 ⟨v1039, rfl, ho0, hb⟩; refine ⟨_, rfl, ?_⟩; have HO1040 := m0 (Kd.R_lower (Kd.R_new' ho0 (Kd.R_lt (br HO1035.out))) (below_size bz)); replace HO1035 := m0 (Kd.R_elder' (br HO1035.out) (Kd.R_base ho0) hb); replace BK1007 := bb BK1007 hb; replace HB := sb HB hb; (try clear hb); (try clear ho0); obtain ⟨Ao104, co104, eo104⟩ := Kd.R_slice HO1040.out; subst eo104; refine hK.out _ _ cz (fun hH => ?_); clear hK K; refine nz 138 ?_; refine oneZ 3 (some 140) #[true, true, true, true, false, false, false, false, false] (o1 HT_) fun K hK => ?_; refine gz Try.func58 #[.slice Ao104 t1038.length co104, .agg #[.int .i64 a1_0, .int .i64 a1_1], .int .i64 0] ?_
                                              with_reducible refine (L_IsSureClass.calls kj59 _ _ t1038 a1_0 a1_1 0 t1041 t1042 _ ?side1 ?side2 A69.out).mono ?_
                                              (case side1 => exact bc (Kd.R_reads' HO1040.out).2.2)
                                              (case side2 => exact (Kd.R_reads' HO1040.out).2.1)
                                              rintro e w105 ⟨rfl, hb⟩; refine ⟨_, rfl, ?_⟩; replace HO1035 := rb HO1035 hb; replace HO1040 := rb HO1040 hb; replace BK1007 := bb BK1007 hb; replace HB := sb HB hb; (try clear hb); refine hK.out _ _ cz (fun hH => ?_); clear hK K; refine nz 140 ?_; refine pZ 4 (some 136) #[true, true, true, true, true, false, false, false, false] HT_ ?_; refine pZ 5 (some 141) #[true, true, true, true, true, true, false, false, false] HT_ ?_; refine pZ 6 (some 142) #[true, true, true, true, true, true, true, false, false] HT_ ?_; refine pZ 7 (some 18) #[true, true, true, true, true, true, true, true, false] HT_ ?_; refine pZ 8 (some 19) #[true, true, true, true, true, true, true, true, true] HT_ ?_; refine done_ (done_of HT_.out (by kernel_rfl)) ?_
                                              try go_wp2
                                              go_ret
                                              exact ez
                                          · rw [if_neg c70] at H; have c70b0 := beq_eq_false_iff_ne.mpr c70; have c70b1 := bne_iff_ne.mpr c70; obtain rfl := Option.some.inj H
                                            try go_wp2
                                            replace BK1007 := bd BK1007; replace HB := sd HB; refine start_ (n := 11) (S := fun w' => w'.cell? ⟨gb1007, 0, none⟩ = some (.int .i64 a1_0) ∧ w'.cell? ⟨gb1007, 1, none⟩ = some (.int .i64 a1_1)) (ds := []) _ (by kernel_rfl) rfl rfl cz (fun hH => ?_); refine with_tabW Lw_CloudClasses.tab24 Lw_CloudClasses.bits24 (fun HT_ HW_ => ?_); generalize wc.drew = w106 at BK1007 HB hH ⊢; refine pZ 0 (some 128) #[true, false, false, false, false, false, false, false, false, false, false] HT_ ?_; refine pZ 3 (some 131) #[true, false, false, true, false, false, false, false, false, false, false] HT_ ?_; refine pZ 4 (some 132) #[true, false, false, true, true, false, false, false, false, false, false] HT_ ?_; refine takeZ 2 (some 130) #[true, false, true, true, true, false, false, false, false, false, false] (tw HT_ HW_) hH ?_; refine oneZ 1 (some 129) #[true, true, true, true, true, false, false, false, false, false, false] (o1 HT_) fun K hK => ?_; refine gz Try.func56 #[.slice A0 l0.length c0] ?_
                                            with_reducible refine (Rf_CopyClasses.calls _ _ l0 t1033 _ ?side1 ?side2 A66.out).mono ?_
                                            (case side1 => exact cb HR0 HB)
                                            (case side2 => exact HC0.out)
                                            rintro e w107 ⟨v1034, rfl, ho0, hb⟩; refine ⟨_, rfl, ?_⟩; have HO1035 := m0 (Kd.R_lower ho0 (below_size bz)); replace BK1007 := bb BK1007 hb; replace HB := sb HB hb; (try clear hb); (try clear ho0); obtain ⟨Ao108, co108, eo108⟩ := Kd.R_slice HO1035.out; subst eo108; refine hK.out _ _ cz (fun hH => ?_); clear hK K; refine nz 129 ?_; refine oneZ 5 (some 133) #[true, true, true, true, true, true, false, false, false, false, false] (o1 HT_) fun K hK => ?_; refine gz Try.func58 #[.slice Ao108 t1033.length co108, .agg #[.int .i64 a1_0, .int .i64 a1_1], .int .i64 (wrap64 (Int.tdiv a2 2))] ?_
                                            with_reducible refine (L_IsSureClass.calls kj59 _ _ t1033 a1_0 a1_1 (wrap64 (Int.tdiv a2 2)) t1036 t1037 _ ?side1 ?side2 A67.out).mono ?_
                                            (case side1 => exact bc (Kd.R_reads' HO1035.out).2.2)
                                            (case side2 => exact (Kd.R_reads' HO1035.out).2.1)
                                            rintro e w109 ⟨rfl, hb⟩; refine ⟨_, rfl, ?_⟩; replace HO1035 := rb HO1035 hb; replace BK1007 := bb BK1007 hb; replace HB := sb HB hb; (try clear hb); refine hK.out _ _ cz (fun hH => ?_); clear hK K; refine nz 133 ?_; refine pZ 6 (some 127) #[true, true, true, true, true, true, true, false, false, false, false] HT_ ?_; refine pZ 7 (some 134) #[true, true, true, true, true, true, true, true, false, false, false] HT_ ?_; refine pZ 8 (some 135) #[true, true, true, true, true, true, true, true, true, false, false] HT_ ?_; refine pZ 9 (some 16) #[true, true, true, true, true, true, true, true, true, true, false] HT_ ?_; refine pZ 10 (some 17) #[true, true, true, true, true, true, true, true, true, true, true] HT_ ?_; refine done_ (done_of HT_.out (by kernel_rfl)) ?_
                                            try go_wp2
                                            replace HO1035 := m0 (Kd.R_drew HO1035.out); replace BK1007 := bd BK1007; replace HB := sd HB; refine start_ (n := 9) (S := fun w' => w'.cell? ⟨gb1007, 0, none⟩ = some (.int .i64 a1_0) ∧ w'.cell? ⟨gb1007, 1, none⟩ = some (.int .i64 a1_1)) (ds := []) _ (by kernel_rfl) rfl rfl cz (fun hH => ?_); refine with_tabW Lw_CloudClasses.tab25 Lw_CloudClasses.bits25 (fun HT_ HW_ => ?_); generalize w109.drew = w110 at HO1035 BK1007 HB hH ⊢; refine pZ 0 (some 137) #[true, false, false, false, false, false, false, false, false] HT_ ?_; refine takeZ 2 (some 139) #[true, false, true, false, false, false, false, false, false] (tw HT_ HW_) hH ?_; refine oneZ 1 (some 138) #[true, true, true, false, false, false, false, false, false] (o1 HT_) fun K hK => ?_; refine gz Try.func56 #[.slice A0 l0.length c0] ?_
                                            with_reducible refine (Rf_CopyClasses.calls _ _ l0 t1038 _ ?side1 ?side2 A68.out).mono ?_
                                            (case side1 => exact cb HR0 HB)
                                            (case side2 => exact HC0.out)
                                            rintro e w111 ⟨v1039, rfl, ho0, hb⟩; refine ⟨_, rfl, ?_⟩; have HO1040 := m0 (Kd.R_lower (Kd.R_new' ho0 (Kd.R_lt (br HO1035.out))) (below_size bz)); replace HO1035 := m0 (Kd.R_elder' (br HO1035.out) (Kd.R_base ho0) hb); replace BK1007 := bb BK1007 hb; replace HB := sb HB hb; (try clear hb); (try clear ho0); obtain ⟨Ao112, co112, eo112⟩ := Kd.R_slice HO1040.out; subst eo112; refine hK.out _ _ cz (fun hH => ?_); clear hK K; refine nz 138 ?_; refine oneZ 3 (some 140) #[true, true, true, true, false, false, false, false, false] (o1 HT_) fun K hK => ?_; refine gz Try.func58 #[.slice Ao112 t1038.length co112, .agg #[.int .i64 a1_0, .int .i64 a1_1], .int .i64 0] ?_
                                            with_reducible refine (L_IsSureClass.calls kj59 _ _ t1038 a1_0 a1_1 0 t1041 t1042 _ ?side1 ?side2 A69.out).mono ?_
                                            (case side1 => exact bc (Kd.R_reads' HO1040.out).2.2)
                                            (case side2 => exact (Kd.R_reads' HO1040.out).2.1)
                                            rintro e w113 ⟨rfl, hb⟩; refine ⟨_, rfl, ?_⟩; replace HO1035 := rb HO1035 hb; replace HO1040 := rb HO1040 hb; replace BK1007 := bb BK1007 hb; replace HB := sb HB hb; (try clear hb); refine hK.out _ _ cz (fun hH => ?_); clear hK K; refine nz 140 ?_; refine pZ 4 (some 136) #[true, true, true, true, true, false, false, false, false] HT_ ?_; refine pZ 5 (some 141) #[true, true, true, true, true, true, false, false, false] HT_ ?_; refine pZ 6 (some 142) #[true, true, true, true, true, true, true, false, false] HT_ ?_; refine pZ 7 (some 18) #[true, true, true, true, true, true, true, true, false] HT_ ?_; refine pZ 8 (some 19) #[true, true, true, true, true, true, true, true, true] HT_ ?_; refine done_ (done_of HT_.out (by kernel_rfl)) ?_
                                            try go_wp2
                                            go_ret
                                            exact ez
                                  · rw [if_neg c59] at H; have c59b0 := beq_eq_false_iff_ne.mpr c59; have c59b1 := bne_iff_ne.mpr c59
                                    by_cases c114 : t1023 = t1031
                                    · rw [if_pos c114] at H; have c114b0 := beq_iff_eq.mpr c114; have c114b1 := bne_eq_false_iff_eq.mpr c114; clear c114; obtain rfl := Option.some.inj H
                                      go_wp2_with (first | ((with_reducible refine gc 15 rfl ?_); refine gl (some 107) Try.func15 #[.int .i64 x14_55, .int .i64 x15_41] ?_; (with_reducible refine (Lw_both.calls x14_55 x15_41 t1031 _ A58.out).mono ?_); rintro e w' ⟨rfl, ⟨nd, rfl⟩⟩; refine ⟨_, rfl, ?_⟩))
                                      go_ret
                                      exact ez
                                    · rw [if_neg c114] at H; have c114b0 := beq_eq_false_iff_ne.mpr c114; have c114b1 := bne_iff_ne.mpr c114; obtain rfl := Option.some.inj H
                                      go_wp2_with (first | ((with_reducible refine gc 15 rfl ?_); refine gl (some 107) Try.func15 #[.int .i64 x14_55, .int .i64 x15_41] ?_; (with_reducible refine (Lw_both.calls x14_55 x15_41 t1031 _ A58.out).mono ?_); rintro e w' ⟨rfl, ⟨nd, rfl⟩⟩; refine ⟨_, rfl, ?_⟩))
                                      go_ret
                                      exact ez
  · replace c5 := Bool.eq_false_iff.mpr c5; subst c5; rw [if_neg (show ¬ (false = true) by decide)] at H; obtain rfl := Option.some.inj H; go_enter Try.func10, Try.ntmps10
    go_wp2_with (first | ((with_reducible refine ga 4 rfl ?_); refine be 4 87 #[.int .i64 a1_0, .int .i64 a1_1] ?_; intro gb1007 hg w115 hbox hb; have BK1007 := m0 hbox; have GE1007 := gw w hg; replace HB := sb HB hb; clear hb hbox hg) | ((with_reducible refine gc 11 rfl ?_); refine gl (some 20) Try.func11 #[] ?_; (with_reducible refine (Lw_awake.calls k  false _ A4.out).mono ?_); rintro e w116 ⟨rfl, hb⟩; refine ⟨_, rfl, ?_⟩; replace BK1007 := bb BK1007 hb; replace HB := sb HB hb; (try clear hb)))
    go_ret
    exact ez
end Go.Proofs.Yteiafijbgjgiaaa.A
