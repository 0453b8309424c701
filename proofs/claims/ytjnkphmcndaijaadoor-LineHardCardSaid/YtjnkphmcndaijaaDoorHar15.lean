/- Walks of the program's functions (printed, made shorter), each with what it computes. -/
import Derived.Test.YtjnkphmcndaijaaDoorHar04
import Derived.Test.YtjnkphmcndaijaaDoorHar12
import Derived.Test.YtjnkphmcndaijaaDoorHar13
import Derived.Test.YtjnkphmcndaijaaDoorHar14
import Derived.Test.YtjnkphmcndaijaaDoorHar03
namespace Go.Proofs.YtjnkphmcndaijaaDoor.A
set_option maxHeartbeats 8000000
set_option maxRecDepth 100000
open Go.RowKit Go.Proofs.YtjnkphmcndaijaaDoorW.PrintWords Go.Proofs.YtjnkphmcndaijaaDoorW.PrintLast Go.Proofs.YtjnkphmcndaijaaDoorW.PrintMore
attribute [local go_sem] max2_int min2_int max_two min_two max_three min_three max_four min_four
set_option linter.unusedVariables false
set_option linter.unusedSimpArgs false
mutual
def Lw_LineHard.l0 : Nat → List (List Int) → Int → Int → Int → Int → Int → Int → Option (Bool)
  | 0, _, _, _, _, _, _, _ => none
  | k + 1, x0, x2, x7, x1391000, x1391001, x1391002, x1391003 => if x7 < (x0.length : Int) then (if 0 ≤ x7 then ((Lw_short.f (rd_L1 x0 x7)).bind fun t1393 => (if t1393 = true then (Lw_LineHard.l0 k x0 x2 (wrap64 (x7 + 1)) x1391000 x1391001 x1391002 x1391003) else (some true))) else (none)) else ((Rf_CopyGates.f k x0).bind fun t1394 => ((line_HardIn.f k t1394 x1391000 x1391001 x1391002 x1391003).bind fun bt1397 => ((Rf_HardErr.f k x0 x1391000 x1391001 x1391002 x1391003).bind fun t1401 => (if t1401 = 0 then (if bt1397.2 = 0 then ((Rf_Hard.f k x0 x1391000 x1391001 x1391002 x1391003).bind fun t1402 => ((Bs_Ints.f k bt1397.1 t1402).bind fun t1405 => (Lw_LineHard.j1 k x0 x2 bt1397.1 (!t1405) x1391000 x1391001 x1391002 x1391003))) else (Lw_LineHard.j1 k x0 x2 bt1397.1 true x1391000 x1391001 x1391002 x1391003)) else (if bt1397.2 = t1401 then (some ((bt1397.1.length : Int) == 0)) else (none))))))
def Lw_LineHard.j1 : Nat → List (List Int) → Int → List Int → Bool → Int → Int → Int → Int → Option (Bool)
  | 0, _, _, _, _, _, _, _, _ => none
  | k + 1, x0, x2, x8, x64, x1391000, x1391001, x1391002, x1391003 => if x64 = true then (none) else (if 0 ≤ (wrap64 (x1391000 + 1)) then (if (wrap64 (x1391000 + 1) : Int).toNat ≤ 35184372088832 then ((some (List.replicate (wrap64 (x1391000 + 1) : Int).toNat 0 : List Int)).bind fun y1406 => (if 0 ≤ x1391000 then (if x1391000 < (y1406.length : Int) then ((line_HardIn.f k (([(y1406.set (x1391000 : Int).toNat (mn 10000 x1391002))] : List (List Int))) x1391000 x1391001 x1391002 x1391003).bind fun bt1413 => (if bt1413.2 = 0 then (Lw_LineHard.j2 k x0 x2 x8 (((bt1413.1.length : Int) == 1) != (decide (x1391002 ≤ 10000))) x1391000 x1391001 x1391002 x1391003) else (Lw_LineHard.j2 k x0 x2 x8 true x1391000 x1391001 x1391002 x1391003))) else (none)) else (none))) else (none)) else (none))
def Lw_LineHard.j2 : Nat → List (List Int) → Int → List Int → Bool → Int → Int → Int → Int → Option (Bool)
  | 0, _, _, _, _, _, _, _, _ => none
  | k + 1, x0, x2, x8, x93, x1391000, x1391001, x1391002, x1391003 => if x93 = true then (none) else ((Bs_Within.f x2 0 100).bind fun t1417 => (if t1417 = true then (Lw_LineHard.j3 k x0 x2 x8 (decide ((wrap64 (x1391003 + x2)) > 100)) x1391000 x1391001 x1391002 x1391003) else (Lw_LineHard.j3 k x0 x2 x8 true x1391000 x1391001 x1391002 x1391003)))
def Lw_LineHard.j3 : Nat → List (List Int) → Int → List Int → Bool → Int → Int → Int → Int → Option (Bool)
  | 0, _, _, _, _, _, _, _, _ => none
  | k + 1, x0, x2, x8, x103, x1391000, x1391001, x1391002, x1391003 => if x103 = true then (some true) else ((Rf_CopyGates.f k x0).bind fun t1419 => ((line_HardIn.f k t1419 x1391000 x1391001 x1391002 (wrap64 (x1391003 + x2))).bind fun bt1422 => (if bt1422.2 = 0 then (Lw_LineHard.j4 k x8 bt1422.1 (decide ((bt1422.1.length : Int) > (x8.length : Int)))) else (Lw_LineHard.j4 k x8 bt1422.1 true))))
def Lw_LineHard.j4 : Nat → List Int → List Int → Bool → Option (Bool)
  | 0, _, _, _ => none
  | k + 1, x8, x15, x125 => if x125 = true then (none) else (Lw_LineHard.l1 k x8 x15 0)
def Lw_LineHard.l1 : Nat → List Int → List Int → Int → Option (Bool)
  | 0, _, _, _ => none
  | k + 1, x8, x15, x17 => if x17 < (x15.length : Int) then (if 0 ≤ x17 then ((Bs_Has.f k x8 (rd x15 x17)).bind fun t1427 => (if t1427 = true then (Lw_LineHard.l1 k x8 x15 (wrap64 (x17 + 1))) else (none))) else (none)) else (some true)
end
def Lw_LineHard.f (k : Nat) (l0 : List (List Int)) (a1_0 : Int) (a1_1 : Int) (a1_2 : Int) (a1_3 : Int) (a2 : Int) : Option (Bool) := (Lw_awake.f k).bind fun t1391 => (if t1391 = true then (if (l0.length : Int) > 24 then (some true) else (Lw_LineHard.l0 k l0 a2 0 a1_0 a1_1 a1_2 a1_3)) else (none))
theorem Lw_LineHard.mono_l : ∀ k, (∀ y0 y1 y2 y3 y4 y5 y6, LeO (Lw_LineHard.l0 k y0 y1 y2 y3 y4 y5 y6) (Lw_LineHard.l0 (k + 1) y0 y1 y2 y3 y4 y5 y6)) ∧ (∀ y0 y1 y2 y3 y4 y5 y6 y7, LeO (Lw_LineHard.j1 k y0 y1 y2 y3 y4 y5 y6 y7) (Lw_LineHard.j1 (k + 1) y0 y1 y2 y3 y4 y5 y6 y7)) ∧ (∀ y0 y1 y2 y3 y4 y5 y6 y7, LeO (Lw_LineHard.j2 k y0 y1 y2 y3 y4 y5 y6 y7) (Lw_LineHard.j2 (k + 1) y0 y1 y2 y3 y4 y5 y6 y7)) ∧ (∀ y0 y1 y2 y3 y4 y5 y6 y7, LeO (Lw_LineHard.j3 k y0 y1 y2 y3 y4 y5 y6 y7) (Lw_LineHard.j3 (k + 1) y0 y1 y2 y3 y4 y5 y6 y7)) ∧ (∀ y0 y1 y2, LeO (Lw_LineHard.j4 k y0 y1 y2) (Lw_LineHard.j4 (k + 1) y0 y1 y2)) ∧ (∀ y0 y1 y2, LeO (Lw_LineHard.l1 k y0 y1 y2) (Lw_LineHard.l1 (k + 1) y0 y1 y2))
  | 0 => ⟨fun _ _ _ _ _ _ _ r h => by simp [Lw_LineHard.l0] at h, fun _ _ _ _ _ _ _ _ r h => by simp [Lw_LineHard.j1] at h, fun _ _ _ _ _ _ _ _ r h => by simp [Lw_LineHard.j2] at h, fun _ _ _ _ _ _ _ _ r h => by simp [Lw_LineHard.j3] at h, fun _ _ _ r h => by simp [Lw_LineHard.j4] at h, fun _ _ _ r h => by simp [Lw_LineHard.l1] at h⟩
  | k + 1 => by
    obtain ⟨ih0, ih1, ih2, ih3, ih4, ih5⟩ := Lw_LineHard.mono_l k
    refine ⟨?_, ?_, ?_, ?_, ?_, ?_⟩
    · intro y0 y1 y2 y3 y4 y5 y6
      unfold Lw_LineHard.l0
      repeat' first
      | (with_reducible exact ih0 _ _ _ _ _ _ _)
      | (with_reducible exact ih1 _ _ _ _ _ _ _ _)
      | (with_reducible exact ih2 _ _ _ _ _ _ _ _)
      | (with_reducible exact ih3 _ _ _ _ _ _ _ _)
      | (with_reducible exact ih4 _ _ _)
      | (with_reducible exact ih5 _ _ _)
      | (with_reducible exact Bs_Has.mono _ _ _)
      | (with_reducible exact Bs_Ints.mono _ _ _)
      | (with_reducible exact Lw_awake.mono _)
      | (with_reducible exact Rf_CopyGates.mono _ _)
      | (with_reducible exact Rf_Hard.mono _ _ _ _ _ _)
      | (with_reducible exact Rf_HardErr.mono _ _ _ _ _ _)
      | (with_reducible exact line_HardIn.mono _ _ _ _ _ _)
      | (with_reducible exact LeO.refl _)
      | (with_reducible exact LeO.none _)
      | (with_reducible refine LeO.ite ?_ ?_)
      | (with_reducible refine LeO.bind ?_ (fun _ => ?_))
      | exact ih0 _ _ _ _ _ _ _
      | exact ih1 _ _ _ _ _ _ _ _
      | exact ih2 _ _ _ _ _ _ _ _
      | exact ih3 _ _ _ _ _ _ _ _
      | exact ih4 _ _ _
      | exact ih5 _ _ _
      | exact Bs_Has.mono _ _ _
      | exact Bs_Ints.mono _ _ _
      | exact Lw_awake.mono _
      | exact Rf_CopyGates.mono _ _
      | exact Rf_Hard.mono _ _ _ _ _ _
      | exact Rf_HardErr.mono _ _ _ _ _ _
      | exact line_HardIn.mono _ _ _ _ _ _
      | exact LeO.none _
      | refine LeO.ite ?_ ?_
      | refine LeO.bind ?_ (fun _ => ?_)
    · intro y0 y1 y2 y3 y4 y5 y6 y7
      unfold Lw_LineHard.j1
      repeat' first
      | (with_reducible exact ih0 _ _ _ _ _ _ _)
      | (with_reducible exact ih1 _ _ _ _ _ _ _ _)
      | (with_reducible exact ih2 _ _ _ _ _ _ _ _)
      | (with_reducible exact ih3 _ _ _ _ _ _ _ _)
      | (with_reducible exact ih4 _ _ _)
      | (with_reducible exact ih5 _ _ _)
      | (with_reducible exact Bs_Has.mono _ _ _)
      | (with_reducible exact Bs_Ints.mono _ _ _)
      | (with_reducible exact Lw_awake.mono _)
      | (with_reducible exact Rf_CopyGates.mono _ _)
      | (with_reducible exact Rf_Hard.mono _ _ _ _ _ _)
      | (with_reducible exact Rf_HardErr.mono _ _ _ _ _ _)
      | (with_reducible exact line_HardIn.mono _ _ _ _ _ _)
      | (with_reducible exact LeO.refl _)
      | (with_reducible exact LeO.none _)
      | (with_reducible refine LeO.ite ?_ ?_)
      | (with_reducible refine LeO.bind ?_ (fun _ => ?_))
      | exact ih0 _ _ _ _ _ _ _
      | exact ih1 _ _ _ _ _ _ _ _
      | exact ih2 _ _ _ _ _ _ _ _
      | exact ih3 _ _ _ _ _ _ _ _
      | exact ih4 _ _ _
      | exact ih5 _ _ _
      | exact Bs_Has.mono _ _ _
      | exact Bs_Ints.mono _ _ _
      | exact Lw_awake.mono _
      | exact Rf_CopyGates.mono _ _
      | exact Rf_Hard.mono _ _ _ _ _ _
      | exact Rf_HardErr.mono _ _ _ _ _ _
      | exact line_HardIn.mono _ _ _ _ _ _
      | exact LeO.none _
      | refine LeO.ite ?_ ?_
      | refine LeO.bind ?_ (fun _ => ?_)
    · intro y0 y1 y2 y3 y4 y5 y6 y7
      unfold Lw_LineHard.j2
      repeat' first
      | (with_reducible exact ih0 _ _ _ _ _ _ _)
      | (with_reducible exact ih1 _ _ _ _ _ _ _ _)
      | (with_reducible exact ih2 _ _ _ _ _ _ _ _)
      | (with_reducible exact ih3 _ _ _ _ _ _ _ _)
      | (with_reducible exact ih4 _ _ _)
      | (with_reducible exact ih5 _ _ _)
      | (with_reducible exact Bs_Has.mono _ _ _)
      | (with_reducible exact Bs_Ints.mono _ _ _)
      | (with_reducible exact Lw_awake.mono _)
      | (with_reducible exact Rf_CopyGates.mono _ _)
      | (with_reducible exact Rf_Hard.mono _ _ _ _ _ _)
      | (with_reducible exact Rf_HardErr.mono _ _ _ _ _ _)
      | (with_reducible exact line_HardIn.mono _ _ _ _ _ _)
      | (with_reducible exact LeO.refl _)
      | (with_reducible exact LeO.none _)
      | (with_reducible refine LeO.ite ?_ ?_)
      | (with_reducible refine LeO.bind ?_ (fun _ => ?_))
      | exact ih0 _ _ _ _ _ _ _
      | exact ih1 _ _ _ _ _ _ _ _
      | exact ih2 _ _ _ _ _ _ _ _
      | exact ih3 _ _ _ _ _ _ _ _
      | exact ih4 _ _ _
      | exact ih5 _ _ _
      | exact Bs_Has.mono _ _ _
      | exact Bs_Ints.mono _ _ _
      | exact Lw_awake.mono _
      | exact Rf_CopyGates.mono _ _
      | exact Rf_Hard.mono _ _ _ _ _ _
      | exact Rf_HardErr.mono _ _ _ _ _ _
      | exact line_HardIn.mono _ _ _ _ _ _
      | exact LeO.none _
      | refine LeO.ite ?_ ?_
      | refine LeO.bind ?_ (fun _ => ?_)
    · intro y0 y1 y2 y3 y4 y5 y6 y7
      unfold Lw_LineHard.j3
      repeat' first
      | (with_reducible exact ih0 _ _ _ _ _ _ _)
      | (with_reducible exact ih1 _ _ _ _ _ _ _ _)
      | (with_reducible exact ih2 _ _ _ _ _ _ _ _)
      | (with_reducible exact ih3 _ _ _ _ _ _ _ _)
      | (with_reducible exact ih4 _ _ _)
      | (with_reducible exact ih5 _ _ _)
      | (with_reducible exact Bs_Has.mono _ _ _)
      | (with_reducible exact Bs_Ints.mono _ _ _)
      | (with_reducible exact Lw_awake.mono _)
      | (with_reducible exact Rf_CopyGates.mono _ _)
      | (with_reducible exact Rf_Hard.mono _ _ _ _ _ _)
      | (with_reducible exact Rf_HardErr.mono _ _ _ _ _ _)
      | (with_reducible exact line_HardIn.mono _ _ _ _ _ _)
      | (with_reducible exact LeO.refl _)
      | (with_reducible exact LeO.none _)
      | (with_reducible refine LeO.ite ?_ ?_)
      | (with_reducible refine LeO.bind ?_ (fun _ => ?_))
      | exact ih0 _ _ _ _ _ _ _
      | exact ih1 _ _ _ _ _ _ _ _
      | exact ih2 _ _ _ _ _ _ _ _
      | exact ih3 _ _ _ _ _ _ _ _
      | exact ih4 _ _ _
      | exact ih5 _ _ _
      | exact Bs_Has.mono _ _ _
      | exact Bs_Ints.mono _ _ _
      | exact Lw_awake.mono _
      | exact Rf_CopyGates.mono _ _
      | exact Rf_Hard.mono _ _ _ _ _ _
      | exact Rf_HardErr.mono _ _ _ _ _ _
      | exact line_HardIn.mono _ _ _ _ _ _
      | exact LeO.none _
      | refine LeO.ite ?_ ?_
      | refine LeO.bind ?_ (fun _ => ?_)
    · intro y0 y1 y2
      unfold Lw_LineHard.j4
      repeat' first
      | (with_reducible exact ih0 _ _ _ _ _ _ _)
      | (with_reducible exact ih1 _ _ _ _ _ _ _ _)
      | (with_reducible exact ih2 _ _ _ _ _ _ _ _)
      | (with_reducible exact ih3 _ _ _ _ _ _ _ _)
      | (with_reducible exact ih4 _ _ _)
      | (with_reducible exact ih5 _ _ _)
      | (with_reducible exact Bs_Has.mono _ _ _)
      | (with_reducible exact Bs_Ints.mono _ _ _)
      | (with_reducible exact Lw_awake.mono _)
      | (with_reducible exact Rf_CopyGates.mono _ _)
      | (with_reducible exact Rf_Hard.mono _ _ _ _ _ _)
      | (with_reducible exact Rf_HardErr.mono _ _ _ _ _ _)
      | (with_reducible exact line_HardIn.mono _ _ _ _ _ _)
      | (with_reducible exact LeO.refl _)
      | (with_reducible exact LeO.none _)
      | (with_reducible refine LeO.ite ?_ ?_)
      | (with_reducible refine LeO.bind ?_ (fun _ => ?_))
      | exact ih0 _ _ _ _ _ _ _
      | exact ih1 _ _ _ _ _ _ _ _
      | exact ih2 _ _ _ _ _ _ _ _
      | exact ih3 _ _ _ _ _ _ _ _
      | exact ih4 _ _ _
      | exact ih5 _ _ _
      | exact Bs_Has.mono _ _ _
      | exact Bs_Ints.mono _ _ _
      | exact Lw_awake.mono _
      | exact Rf_CopyGates.mono _ _
      | exact Rf_Hard.mono _ _ _ _ _ _
      | exact Rf_HardErr.mono _ _ _ _ _ _
      | exact line_HardIn.mono _ _ _ _ _ _
      | exact LeO.none _
      | refine LeO.ite ?_ ?_
      | refine LeO.bind ?_ (fun _ => ?_)
    · intro y0 y1 y2
      unfold Lw_LineHard.l1
      repeat' first
      | (with_reducible exact ih0 _ _ _ _ _ _ _)
      | (with_reducible exact ih1 _ _ _ _ _ _ _ _)
      | (with_reducible exact ih2 _ _ _ _ _ _ _ _)
      | (with_reducible exact ih3 _ _ _ _ _ _ _ _)
      | (with_reducible exact ih4 _ _ _)
      | (with_reducible exact ih5 _ _ _)
      | (with_reducible exact Bs_Has.mono _ _ _)
      | (with_reducible exact Bs_Ints.mono _ _ _)
      | (with_reducible exact Lw_awake.mono _)
      | (with_reducible exact Rf_CopyGates.mono _ _)
      | (with_reducible exact Rf_Hard.mono _ _ _ _ _ _)
      | (with_reducible exact Rf_HardErr.mono _ _ _ _ _ _)
      | (with_reducible exact line_HardIn.mono _ _ _ _ _ _)
      | (with_reducible exact LeO.refl _)
      | (with_reducible exact LeO.none _)
      | (with_reducible refine LeO.ite ?_ ?_)
      | (with_reducible refine LeO.bind ?_ (fun _ => ?_))
      | exact ih0 _ _ _ _ _ _ _
      | exact ih1 _ _ _ _ _ _ _ _
      | exact ih2 _ _ _ _ _ _ _ _
      | exact ih3 _ _ _ _ _ _ _ _
      | exact ih4 _ _ _
      | exact ih5 _ _ _
      | exact Bs_Has.mono _ _ _
      | exact Bs_Ints.mono _ _ _
      | exact Lw_awake.mono _
      | exact Rf_CopyGates.mono _ _
      | exact Rf_Hard.mono _ _ _ _ _ _
      | exact Rf_HardErr.mono _ _ _ _ _ _
      | exact line_HardIn.mono _ _ _ _ _ _
      | exact LeO.none _
      | refine LeO.ite ?_ ?_
      | refine LeO.bind ?_ (fun _ => ?_)
theorem Lw_LineHard.mono : ∀ a0 a1 a2 a3 a4 a5 k, LeO (Lw_LineHard.f k a0 a1 a2 a3 a4 a5) (Lw_LineHard.f (k + 1) a0 a1 a2 a3 a4 a5) := by
  intro a0 a1 a2 a3 a4 a5 k
  obtain ⟨ih0, ih1, ih2, ih3, ih4, ih5⟩ := Lw_LineHard.mono_l k
  unfold Lw_LineHard.f
  repeat' first
      | (with_reducible exact ih0 _ _ _ _ _ _ _)
      | (with_reducible exact ih1 _ _ _ _ _ _ _ _)
      | (with_reducible exact ih2 _ _ _ _ _ _ _ _)
      | (with_reducible exact ih3 _ _ _ _ _ _ _ _)
      | (with_reducible exact ih4 _ _ _)
      | (with_reducible exact ih5 _ _ _)
      | (with_reducible exact Bs_Has.mono _ _ _)
      | (with_reducible exact Bs_Ints.mono _ _ _)
      | (with_reducible exact Lw_awake.mono _)
      | (with_reducible exact Rf_CopyGates.mono _ _)
      | (with_reducible exact Rf_Hard.mono _ _ _ _ _ _)
      | (with_reducible exact Rf_HardErr.mono _ _ _ _ _ _)
      | (with_reducible exact line_HardIn.mono _ _ _ _ _ _)
      | (with_reducible exact LeO.refl _)
      | (with_reducible exact LeO.none _)
      | (with_reducible refine LeO.ite ?_ ?_)
      | (with_reducible refine LeO.bind ?_ (fun _ => ?_))
      | exact ih0 _ _ _ _ _ _ _
      | exact ih1 _ _ _ _ _ _ _ _
      | exact ih2 _ _ _ _ _ _ _ _
      | exact ih3 _ _ _ _ _ _ _ _
      | exact ih4 _ _ _
      | exact ih5 _ _ _
      | exact Bs_Has.mono _ _ _
      | exact Bs_Ints.mono _ _ _
      | exact Lw_awake.mono _
      | exact Rf_CopyGates.mono _ _
      | exact Rf_Hard.mono _ _ _ _ _ _
      | exact Rf_HardErr.mono _ _ _ _ _ _
      | exact line_HardIn.mono _ _ _ _ _ _
      | exact LeO.none _
      | refine LeO.ite ?_ ?_
      | refine LeO.bind ?_ (fun _ => ?_)
def Lw_LineHard.T10 : Bool × List (List Nat × List Nat) := (true, [([], []), ([0], [0]), ([], []), ([1, 2, 1], [1, 2]), ([3], [3]), ([4], [4]), ([4], [4]), ([5, 3, 0, 1, 2, 3, 4, 5], [5]), ([6, 7, 0, 1, 2, 3, 4, 5, 6, 7], [6])])
def Lw_LineHard.B10 : List Nat := [0, 1, 0, 7, 15, 31, 31, 63, 255]
theorem Lw_LineHard.tab10 : rtab .any (opsOf Tryd.f13 10) = Lw_LineHard.T10 := by kernel_rfl
theorem Lw_LineHard.bits10 : waitsOk Lw_LineHard.T10.2 Lw_LineHard.B10 = true := by kernel_rfl
def Lw_LineHard.T25 : Bool × List (List Nat × List Nat) := (true, [([], []), ([0], [0]), ([], []), ([1, 2, 1], [1, 2]), ([3], [3]), ([4], [4]), ([4], [4]), ([5, 3, 0, 1, 2, 3, 4, 5], [5]), ([6, 7, 0, 1, 2, 3, 4, 5, 6, 7], [6])])
def Lw_LineHard.B25 : List Nat := [0, 1, 0, 7, 15, 31, 31, 63, 255]
theorem Lw_LineHard.tab25 : rtab .any (opsOf Tryd.f13 25) = Lw_LineHard.T25 := by kernel_rfl
theorem Lw_LineHard.bits25 : waitsOk Lw_LineHard.T25.2 Lw_LineHard.B25 = true := by kernel_rfl
theorem Lw_LineHard.calls (k : Nat) (A0 : Option Addr) (c0 : Nat) (l0 : List (List Int)) (a1_0 : Int) (a1_1 : Int) (a1_2 : Int) (a1_3 : Int) (a2 : Int) (r : Bool) (w : World) (hr0 : Kd.C (Kd.slice 3 (Kd.int .i64)) w A0 l0.length l0) (hc0 : l0.length ≤ c0) (hG : EstG w) (h : Lw_LineHard.f k l0 a1_0 a1_1 a1_2 a1_3 a2 = some r) :
    Calls Tryd.prog 13 #[.slice A0 l0.length c0, .agg #[.int .i64 a1_0, .int .i64 a1_1, .int .i64 a1_2, .int .i64 a1_3], .int .i64 a2] w fun e w' => e = .returned (.bool r) ∧ Below w.heap.size w w' := by
  have hu94 := Tryd.underlying94
  have HG := m0 hG
  clear hG
  have HR0 := m0 hr0
  have HC0 := m0 hc0
  clear hr0 hc0
  have HB := m0 (Below.refl w.heap.size w)
  have H : ((Lw_awake.f k).bind fun t1391 => (if t1391 = true then (if (l0.length : Int) > 24 then (some true) else (Lw_LineHard.l0 k l0 a2 0 a1_0 a1_1 a1_2 a1_3)) else (none))) = some r := h
  clear h
  replace H := ob H
  obtain ⟨t1391, A40, H⟩ := H
  (try dsimp only at H)
  have A4 := m0 A40
  clear A40
  by_cases c5 : t1391 = true
  · subst c5
    rw [if_pos rfl] at H
    by_cases c6 : (l0.length : Int) > 24
    · rw [if_pos c6] at H
      have c6b0 := decide_eq_true c6
      have c6b1 : decide (24 < l0.length) = true := decide_eq_true (by omega)
      clear c6
      obtain rfl := Option.some.inj H
      go_enter Tryd.func13, Tryd.ntmps13
      go_wp2_with (first | ((with_reducible refine gate_dst (N := 4) rfl ?_); (try (refine gate_guard (by rfl) ?_; dsimp only)); refine be 4 94 #[.int .i64 a1_0, .int .i64 a1_1, .int .i64 a1_2, .int .i64 a1_3] ?_; intro gb1390 hg w7 hbox hb; have BK1390 := m0 hbox; have GW1390 := m0 (bg (n := w.heap.size) hg); have GE1390 := m0 (bg (n := w.heap.size) hg); replace HB := sb HB hb; clear hb hbox hg) | ((with_reducible refine gate_callee (f := 18) rfl ?_); refine gl (some 18) Tryd.func18 #[] ?_; (with_reducible refine (Lw_awake.calls k  true _ ?side1 A4.out).mono ?_); (case side1 => exact EstG.below HG.out bz); rintro e w8 ⟨rfl, hb⟩; refine ⟨_, rfl, ?_⟩; replace BK1390 := bb BK1390 hb; replace HB := sb HB hb; (try clear hb)))
      go_ret
      exact ez
    · rw [if_neg c6] at H
      have c6b0 := decide_eq_false c6
      have c6b1 : decide (24 < l0.length) = false := decide_eq_false (by omega)
      clear c6
      have H' := m0 H
      clear H
      go_enter Tryd.func13, Tryd.ntmps13
      go_wp2_with (first | ((with_reducible refine gate_dst (N := 4) rfl ?_); (try (refine gate_guard (by rfl) ?_; dsimp only)); refine be 4 94 #[.int .i64 a1_0, .int .i64 a1_1, .int .i64 a1_2, .int .i64 a1_3] ?_; intro gb1390 hg w9 hbox hb; have BK1390 := m0 hbox; have GW1390 := m0 (bg (n := w.heap.size) hg); have GE1390 := m0 (bg (n := w.heap.size) hg); replace HB := sb HB hb; clear hb hbox hg) | ((with_reducible refine gate_callee (f := 18) rfl ?_); refine gl (some 18) Tryd.func18 #[] ?_; (with_reducible refine (Lw_awake.calls k  true _ ?side1 A4.out).mono ?_); (case side1 => exact EstG.below HG.out bz); rintro e w10 ⟨rfl, hb⟩; refine ⟨_, rfl, ?_⟩; replace BK1390 := bb BK1390 hb; replace HB := sb HB hb; (try clear hb)))
      go_loopg [7] k (fun kq v7 w' => ∃ (x7_1 : Int), v7 = .int .i64 x7_1 ∧ Aside0 (Lw_LineHard.l0 kq l0 a2 x7_1 a1_0 a1_1 a1_2 a1_3 = some r) ∧ Aside0 (kq ≤ k) ∧ Aside0 (w'.heap[gb1390]? = some (.cells #[.int .i64 a1_0, .int .i64 a1_1, .int .i64 a1_2, .int .i64 a1_3] 94 (0, 0))) ∧ Aside0 (Below w.heap.size w w'))
      case atStart => exact ⟨(0), (by first | rfl | (simp; done) | (simp [*]; done)), H', ⟨Nat.le_refl _⟩, ⟨bk BK1390.out⟩, ⟨bz⟩⟩
      case round =>
        clear H'
        try clear c1
        try clear p2
        try clear c5
        try clear c6
        try clear c6b0
        try clear c6b1
        obtain ⟨x7_1, rfl, HA, HK1, BK1390, HB⟩ := hrel
        cases gk with
        | zero => exact absurd HA.out (by simp [Lw_LineHard.l0])
        | succ k1 =>
          have H := HA.out
          clear HA
          simp only [Lw_LineHard.l0] at H
          by_cases c11 : x7_1 < (l0.length : Int)
          · rw [if_pos c11] at H
            have c11b0 := decide_eq_true c11
            clear c11
            by_cases c12 : 0 ≤ x7_1
            · rw [if_pos c12] at H
              have c12b0 := decide_eq_true c12
              clear c12
              replace H := ob H
              obtain ⟨t1393, A130, H⟩ := H
              (try dsimp only at H)
              have A13 := m0 A130
              clear A130
              by_cases c14 : t1393 = true
              · subst c14
                rw [if_pos rfl] at H
                have H' := m0 H
                clear H
                have p1392 : 0 ≤ (x7_1 : Int) := of_decide_eq_true (by first | (with_reducible assumption) | assumption)
                have q1392 : x7_1 < (l0.length : Int) := of_decide_eq_true (by first | (with_reducible assumption) | assumption)
                obtain ⟨ad1392, A1392_0, c1392_0, e1392, hx1392_0, hl1392_0, hi1392_0⟩ := at_L1 HR0.out x7_1 p1392 q1392
                cases e1392
                replace hx1392_0 := (HB.out.cell (World.block_lt_of_cell? w _ hx1392_0)).trans hx1392_0
                have HR1392_0 := m0 hi1392_0
                have HC1392_0 := m0 hl1392_0
                clear hi1392_0 hl1392_0
                replace p1392 := eq_true p1392
                replace q1392 := eq_true q1392
                go_wp2_with (first | ((with_reducible refine gate_callee (f := 50) rfl ?_); refine gl (some 33) Tryd.func50 #[.slice A1392_0 (rd_L1 l0 x7_1).length c1392_0] ?_; (with_reducible refine (Lw_short.calls _ _ (rd_L1 l0 x7_1) true _ ?side1 ?side2 A13.out).mono ?_); (case side1 => exact cb HR1392_0 HB); (case side2 => exact HC1392_0.out); rintro e w' ⟨rfl, ⟨nd, rfl⟩⟩; refine ⟨_, rfl, ?_⟩))
                go_roundg k1
                case measure => have := HK1.out; omega
                case rel => exact ⟨(wrap64 (x7_1 + 1)), (by first | rfl | (simp; done) | (simp [*]; done)), H', ⟨by have := HK1.out; omega⟩, ⟨bk BK1390.out⟩, ⟨bz⟩⟩
              · replace c14 := Bool.eq_false_iff.mpr c14
                subst c14
                rw [if_neg (show ¬ (false = true) by decide)] at H
                obtain rfl := Option.some.inj H
                have p1392 : 0 ≤ (x7_1 : Int) := of_decide_eq_true (by first | (with_reducible assumption) | assumption)
                have q1392 : x7_1 < (l0.length : Int) := of_decide_eq_true (by first | (with_reducible assumption) | assumption)
                obtain ⟨ad1392, A1392_0, c1392_0, e1392, hx1392_0, hl1392_0, hi1392_0⟩ := at_L1 HR0.out x7_1 p1392 q1392
                cases e1392
                replace hx1392_0 := (HB.out.cell (World.block_lt_of_cell? w _ hx1392_0)).trans hx1392_0
                have HR1392_0 := m0 hi1392_0
                have HC1392_0 := m0 hl1392_0
                clear hi1392_0 hl1392_0
                replace p1392 := eq_true p1392
                replace q1392 := eq_true q1392
                go_wp2_with (first | ((with_reducible refine gate_callee (f := 50) rfl ?_); refine gl (some 33) Tryd.func50 #[.slice A1392_0 (rd_L1 l0 x7_1).length c1392_0] ?_; (with_reducible refine (Lw_short.calls _ _ (rd_L1 l0 x7_1) false _ ?side1 ?side2 A13.out).mono ?_); (case side1 => exact cb HR1392_0 HB); (case side2 => exact HC1392_0.out); rintro e w' ⟨rfl, ⟨nd, rfl⟩⟩; refine ⟨_, rfl, ?_⟩))
                go_ret
                exact ez
            · rw [if_neg c12] at H
              exact absurd H (by simp)
          · rw [if_neg c11] at H
            have c11b0 := decide_eq_false c11
            clear c11
            replace H := ob H
            obtain ⟨t1394, A150, H⟩ := H
            (try dsimp only at H)
            have A15 := m0 A150
            clear A150
            replace H := ob H
            obtain ⟨⟨t1397, t1400⟩, A160, H⟩ := H
            (try dsimp only at H)
            have A16 := m0 A160
            clear A160
            replace H := ob H
            obtain ⟨t1401, A170, H⟩ := H
            (try dsimp only at H)
            have A17 := m0 A170
            clear A170
            by_cases c18 : t1401 = 0
            · rw [if_pos c18] at H
              have c18b0 := beq_iff_eq.mpr c18
              have c18b1 := bne_eq_false_iff_eq.mpr c18
              clear c18
              have HC19 := m0 H
              clear H
              try go_wp2
              replace BK1390 := bd BK1390; replace HB := sd HB
              refine start_ (n := 9) (S := fun w' => w'.cell? ⟨gb1390, 0, none⟩ = some (.int .i64 a1_0) ∧ w'.cell? ⟨gb1390, 1, none⟩ = some (.int .i64 a1_1) ∧ w'.cell? ⟨gb1390, 2, none⟩ = some (.int .i64 a1_2) ∧ w'.cell? ⟨gb1390, 3, none⟩ = some (.int .i64 a1_3)) (ds := []) #[false, false, false, false, false, false, false, false, false] (by kernel_rfl) rfl rfl cz (fun hHeld => ?_); refine with_tabW Lw_LineHard.tab10 Lw_LineHard.bits10 (fun HT_ HW_ => ?_)
              generalize wr.drew = w20 at BK1390 HB hHeld ⊢
              refine pureZ (i := 0) (N := some 36) #[true, false, false, false, false, false, false, false, false] HT_ ?_
              refine takeZ 2 (some 38) #[true, false, true, false, false, false, false, false, false] (take_ofW HT_.out HW_.out (by kernel_rfl)) hHeld ?_
              refine oneZ 1 (some 37) #[true, true, true, false, false, false, false, false, false] (one_of HT_.out (by kernel_rfl)) fun K hK => ?_
              refine goes_ Tryd.func72 (by kernel_rfl) rfl #[.slice A0 l0.length c0] (by rfl) rfl rfl mz ?_
              with_reducible refine (Rf_CopyGates.calls k1 _ _ l0 t1394 _ ?side1 ?side2 A15.out).mono ?_
              (case side1 => exact cb HR0 HB)
              (case side2 => exact HC0.out)
              rintro e w21 ⟨v1395, rfl, ho0, hb⟩
              refine ⟨_, rfl, ?_⟩
              have HO1396 := m0 (Kd.N_lower (Kd.N_mono (ok' := fun k_ => k_ ≠ gb1390) (Kd.S_N (Kd.S_bound ho0)) (fun k_ hk_ => (Kd.freshB (g := gb1390) (o := .cells #[.int .i64 a1_0, .int .i64 a1_1, .int .i64 a1_2, .int .i64 a1_3] 94 (0, 0)) (bk BK1390.out) k_ hk_.2.1))) (below_size bz)); replace BK1390 := bb BK1390 hb; replace HB := sb HB hb
              (try clear hb)
              (try clear ho0)
              obtain ⟨Ao22, co22, eo22⟩ := Kd.N_slice HO1396.out
              (first | subst eo22 | (injection eo22 with f1_ f2_ f3_; have f4_ := f1_.symm; have f5_ := f3_.symm; clear f1_ f2_ f3_; subst f4_; subst f5_))
              refine hK.out _ _ cz (fun hHeld => ?_)
              clear hK K
              refine norm_ (a' := ?_) ?_ ?_
              rotate_left
              · show Act.put _ (some 37) _ = _
                exact pz
              refine oneZ 3 (some 39) #[true, true, true, true, false, false, false, false, false] (one_of HT_.out (by kernel_rfl)) fun K hK => ?_
              refine goes_ Tryd.func71 (by kernel_rfl) rfl #[.slice Ao22 t1394.length co22, .agg #[.int .i64 a1_0, .int .i64 a1_1, .int .i64 a1_2, .int .i64 a1_3]] (by rfl) rfl rfl mz ?_
              with_reducible refine (line_HardIn.calls k1 _ _ t1394 a1_0 a1_1 a1_2 a1_3 t1397 t1400 _ ?side1 ?side2 A16.out).mono ?_
              (case side1 => repeat (first | exact (Kd.N_reads' HO1396.out).2.2 | (with_reducible refine Kd.C_alloc ?_ _) | (with_reducible refine Kd.C_drewN ?_ _) | (with_reducible refine Kd.C_drew ?_)))
              (case side2 => exact (Kd.N_reads' HO1396.out).2.1)
              rintro e w23 ⟨v1398, rfl, ho0, hb⟩
              refine ⟨_, rfl, ?_⟩
              replace HO1396 := m0 (Kd.N_elder' (by (with_reducible repeat (first | apply Kd.N_alloc | apply Kd.N_drewN | apply Kd.N_drew)); exact HO1396.out) (Kd.R_base ho0) hb); have HO1399 := m0 (Kd.R_lower ho0 (below_size bz)); replace BK1390 := bb BK1390 hb; replace HB := sb HB hb
              (try clear hb)
              (try clear ho0)
              refine hK.out _ _ cz (fun hHeld => ?_)
              clear hK K
              refine norm_ (a' := ?_) ?_ ?_
              rotate_left
              · show Act.put _ (some 39) _ = _
                exact pz
              refine pureZ (i := 4) (N := some 35) #[true, true, true, true, true, false, false, false, false] HT_ ?_
              refine pureZ (i := 5) (N := some 40) #[true, true, true, true, true, true, false, false, false] HT_ ?_
              refine pureZ (i := 6) (N := some 41) #[true, true, true, true, true, true, true, false, false] HT_ ?_
              refine pureZ (i := 7) (N := some 8) #[true, true, true, true, true, true, true, true, false] HT_ ?_
              refine pureZ (i := 8) (N := some 9) #[true, true, true, true, true, true, true, true, true] HT_ ?_
              refine done_ (done_of HT_.out (by kernel_rfl)) ?_
              obtain ⟨hcz24_0, hcz24_1, hcz24_2, hcz24_3, hfz24_0, hfz24_1, hfz24_2, hfz24_3⟩ := b4 BK1390
              go_upto_region 14 with (first | ((with_reducible refine gate_callee (f := 73) rfl ?_); refine gl (some 44) Tryd.func73 #[.slice A0 l0.length c0, .agg #[.int .i64 a1_0, .int .i64 a1_1, .int .i64 a1_2, .int .i64 a1_3]] ?_; (with_reducible refine (Rf_HardErr.calls k1 _ _ l0 a1_0 a1_1 a1_2 a1_3 t1401 _ ?side1 ?side2 A17.out).mono ?_); (case side1 => exact cb HR0 HB); (case side2 => exact HC0.out); rintro e w25 ⟨rfl, hb⟩; refine ⟨_, rfl, ?_⟩; replace HO1396 := m0 (Kd.N_below (by (with_reducible repeat (first | apply Kd.N_alloc | apply Kd.N_drewN | apply Kd.N_drew)); exact HO1396.out) hb); replace HO1399 := rb HO1399 hb; replace BK1390 := bb BK1390 hb; replace HB := sb HB hb; (try clear hb)))
              (try simp only [Act.put, List.setIfInBounds_toArray, List.set_cons_zero, List.set_cons_succ])
              go_cut [64] (fun v64 wc => ∃ (kq : Nat) (x64_18 : Bool), v64 = .bool x64_18 ∧ Aside0 (Lw_LineHard.j1 kq l0 a2 t1397 x64_18 a1_0 a1_1 a1_2 a1_3 = some r) ∧ Aside0 (kq ≤ k1) ∧ Aside0 (Kd.R (Kd.int .i64) 3 wc w.heap.size (fun _ => True) v1398 t1397) ∧ Aside0 (wc.heap[gb1390]? = some (.cells #[.int .i64 a1_0, .int .i64 a1_1, .int .i64 a1_2, .int .i64 a1_3] 94 (0, 0))) ∧ Aside0 (Below w.heap.size w wc))
              case first =>
                have H := HC19.out
                clear HC19
                by_cases c26 : t1400 = 0
                · rw [if_pos c26] at H
                  have c26b0 := beq_iff_eq.mpr c26
                  have c26b1 := bne_eq_false_iff_eq.mpr c26
                  clear c26
                  (first | rw [c26b0] | (simp only [i64_w, i32_w]; rw [c26b0]) | skip)
                  replace H := ob H
                  obtain ⟨t1402, A270, H⟩ := H
                  (try dsimp only at H)
                  have A27 := m0 A270
                  clear A270
                  replace H := ob H
                  obtain ⟨t1405, A280, H⟩ := H
                  (try dsimp only at H)
                  have A28 := m0 A280
                  clear A280
                  have H' := m0 H
                  clear H
                  obtain ⟨hcz29_0, hcz29_1, hcz29_2, hcz29_3, hfz29_0, hfz29_1, hfz29_2, hfz29_3⟩ := b4 BK1390
                  go_wp2_with (first | (go_at_call 74; (with_reducible refine (Rf_Hard.calls k1 _ _ l0 a1_0 a1_1 a1_2 a1_3 t1402 _ ?side1 ?side2 A27.out).mono ?_); (case side1 => exact cb HR0 HB); (case side2 => exact HC0.out); rintro e w30 ⟨v1403, rfl, ho0, hb⟩; replace HO1396 := m0 (Kd.N_elder' (by (with_reducible repeat (first | apply Kd.N_alloc | apply Kd.N_drewN | apply Kd.N_drew)); exact HO1396.out) (Kd.R_base ho0) hb); have HO1404 := m0 (Kd.R_lower (Kd.R_new' ho0 (Kd.R_lt (br HO1399.out))) (below_size bz)); replace HO1399 := m0 (Kd.R_elder' (br HO1399.out) (Kd.R_base ho0) hb); replace BK1390 := bb BK1390 hb; replace HB := sb HB hb; (try clear hb); (try clear ho0); obtain ⟨Ao31, co31, eo31⟩ := Kd.R_slice HO1399.out; subst eo31; obtain ⟨Ao32, co32, eo32⟩ := Kd.R_slice HO1404.out; subst eo32) | (go_at_call 57; (with_reducible refine (Bs_Ints.calls k1 _ _ t1397 _ _ t1402 t1405 _ ?side1 ?side2 ?side3 ?side4 A28.out).mono ?_); (case side1 => exact bc (Kd.R_reads' HO1399.out).2.2); (case side2 => exact (Kd.R_reads' HO1399.out).2.1); (case side3 => exact bc (Kd.R_reads' HO1404.out).2.2); (case side4 => exact (Kd.R_reads' HO1404.out).2.1); rintro e w' ⟨rfl, ⟨nd, rfl⟩⟩))
                  go_meet
                  case rel => exact ⟨_, (!t1405), (by first | rfl | (simp; done) | (simp [*]; done)), H', ⟨by have := HK1.out; first | omega | exact Nat.le_refl _⟩, ⟨by (with_reducible repeat (first | apply Kd.R_alloc | apply Kd.R_drewN | apply Kd.R_drew)); exact Kd.R_mono HO1399.out (fun _ hk => trivial)⟩, ⟨bk BK1390.out⟩, ⟨bz⟩⟩
                · rw [if_neg c26] at H
                  have c26b0 := beq_eq_false_iff_ne.mpr c26
                  have c26b1 := bne_iff_ne.mpr c26
                  (first | rw [c26b0] | (simp only [i64_w, i32_w]; rw [c26b0]) | skip)
                  have H' := m0 H
                  clear H
                  go_wp2
                  go_meet
                  case rel => exact ⟨_, (true), (by first | rfl | (simp; done) | (simp [*]; done)), H', ⟨by have := HK1.out; first | omega | exact Nat.le_refl _⟩, ⟨br HO1399.out⟩, ⟨bk BK1390.out⟩, ⟨bz⟩⟩
              case rest =>
                clear HC19
                try clear c1
                try clear p1
                try clear q1
                try clear hx1
                try clear c2
                try clear p2
                try clear c5
                try clear c6
                try clear c6b0
                try clear c6b1
                try clear p6
                try clear c7
                try clear c11
                try clear c11b0
                try clear c12
                try clear c12b0
                try clear c13
                try clear p13
                try clear q13
                try clear hx13
                try clear c14
                try clear c18
                try clear c18b0
                try clear c18b1
                try clear c26
                try clear c26b0
                try clear c26b1
                try clear hcz24_0
                try clear hcz24_1
                try clear hcz24_2
                try clear hcz24_3
                try clear hcz29_0
                try clear hcz29_1
                try clear hcz29_2
                try clear hcz29_3
                try clear hfz24_0
                try clear hfz24_1
                try clear hfz24_2
                try clear hfz24_3
                try clear hfz29_0
                try clear hfz29_1
                try clear hfz29_2
                try clear hfz29_3
                try clear hx1392_0
                try clear p1392
                try clear p2
                try clear q1392
                obtain ⟨kq, x64_18, rfl, HA, HJ18, HO_8, BK1390, HB⟩ := hcut
                cases kq with
                | zero => exact absurd HA.out (by simp [Lw_LineHard.j1])
                | succ kj18 =>
                  have H := HA.out
                  clear HA
                  simp only [Lw_LineHard.j1] at H
                  by_cases c33 : x64_18 = true
                  · subst c33
                    rw [if_pos rfl] at H
                    exact absurd H (by simp)
                  · replace c33 := Bool.eq_false_iff.mpr c33
                    subst c33
                    rw [if_neg (show ¬ (false = true) by decide)] at H
                    obtain ⟨ji34, hji34⟩ : ∃ j_ : Int, (wrap64 (a1_0 + 1)) = j_ := ⟨_, rfl⟩
                    replace H : (if 0 ≤ (ji34) then (if (ji34 : Int).toNat ≤ 35184372088832 then ((some (List.replicate (ji34 : Int).toNat 0 : List Int)).bind fun y1406 => (if 0 ≤ a1_0 then (if a1_0 < (y1406.length : Int) then ((line_HardIn.f kj18 (([(y1406.set (a1_0 : Int).toNat (mn 10000 a1_2))] : List (List Int))) a1_0 a1_1 a1_2 a1_3).bind fun bt1413 => (if bt1413.2 = 0 then (Lw_LineHard.j2 kj18 l0 a2 t1397 (((bt1413.1.length : Int) == 1) != (decide (a1_2 ≤ 10000))) a1_0 a1_1 a1_2 a1_3) else (Lw_LineHard.j2 kj18 l0 a2 t1397 true a1_0 a1_1 a1_2 a1_3))) else (none)) else (none))) else (none)) else (none)) = some r := by first | (rw [hji34] at H; exact H) | (simp only [hji34] at H ⊢; exact H)
                    have hji34w : (IntKind.i64.wrap (a1_0 + 1)) = ji34 := (i64_w _).trans hji34
                    by_cases c35 : 0 ≤ (ji34)
                    · rw [if_pos c35] at H
                      have c35b0 := eq_true c35
                      have c35b1 := decide_eq_true c35
                      clear c35
                      by_cases c36 : (ji34 : Int).toNat ≤ 35184372088832
                      · rw [if_pos c36] at H
                        have c36b0 := eq_true c36
                        have c36b1 := decide_eq_true c36
                        clear c36
                        obtain ⟨y1406, hy1406⟩ : ∃ y_ : List Int, y_ = (List.replicate (ji34 : Int).toNat 0) := ⟨_, rfl⟩
                        replace H : (if 0 ≤ a1_0 then (if a1_0 < (y1406.length : Int) then ((line_HardIn.f kj18 (([(y1406.set (a1_0 : Int).toNat (mn 10000 a1_2))] : List (List Int))) a1_0 a1_1 a1_2 a1_3).bind fun bt1413 => (if bt1413.2 = 0 then (Lw_LineHard.j2 kj18 l0 a2 t1397 (((bt1413.1.length : Int) == 1) != (decide (a1_2 ≤ 10000))) a1_0 a1_1 a1_2 a1_3) else (Lw_LineHard.j2 kj18 l0 a2 t1397 true a1_0 a1_1 a1_2 a1_3))) else (none)) else (none)) = some r := by first | (rw [hy1406]; with_reducible exact H) | (have H2_ := (Option.bind_some _ _).symm.trans H; rw [hy1406]; with_reducible exact H2_) | (have H2_ := (Option.bind_some _ _).symm.trans H; with_reducible exact H2_) | with_reducible exact H | (rw [hy1406]; exact H) | exact H
                        have Ny1406 := m0 hy1406
                        clear hy1406
                        obtain ⟨ji37, hji37⟩ : ∃ j_ : Int, (mn 10000 a1_2) = j_ := ⟨_, rfl⟩
                        replace H : (if 0 ≤ a1_0 then (if a1_0 < (y1406.length : Int) then ((line_HardIn.f kj18 (([(y1406.set (a1_0 : Int).toNat (ji37))] : List (List Int))) a1_0 a1_1 a1_2 a1_3).bind fun bt1413 => (if bt1413.2 = 0 then (Lw_LineHard.j2 kj18 l0 a2 t1397 (((bt1413.1.length : Int) == 1) != (decide (a1_2 ≤ 10000))) a1_0 a1_1 a1_2 a1_3) else (Lw_LineHard.j2 kj18 l0 a2 t1397 true a1_0 a1_1 a1_2 a1_3))) else (none)) else (none)) = some r := by first | (rw [hji37] at H; exact H) | (simp only [hji37] at H ⊢; exact H)
                        have hji37_ : (if a1_2 < 10000 then a1_2 else 10000) = ji37 := hji37
                        by_cases c38 : 0 ≤ a1_0
                        · rw [if_pos c38] at H
                          have c38b0 := decide_eq_true c38
                          clear c38
                          by_cases c39 : a1_0 < (y1406.length : Int)
                          · rw [if_pos c39] at H
                            have c39b0 := decide_eq_true c39
                            clear c39
                            obtain ⟨y1409, hy1409⟩ : ∃ y_ : List Int, y_ = (y1406.set (a1_0 : Int).toNat (ji37)) := ⟨_, rfl⟩
                            replace H : ((line_HardIn.f kj18 (([y1409] : List (List Int))) a1_0 a1_1 a1_2 a1_3).bind fun bt1413 => (if bt1413.2 = 0 then (Lw_LineHard.j2 kj18 l0 a2 t1397 (((bt1413.1.length : Int) == 1) != (decide (a1_2 ≤ 10000))) a1_0 a1_1 a1_2 a1_3) else (Lw_LineHard.j2 kj18 l0 a2 t1397 true a1_0 a1_1 a1_2 a1_3))) = some r := by first | (rw [hy1409]; with_reducible exact H) | (have H2_ := (Option.bind_some _ _).symm.trans H; rw [hy1409]; with_reducible exact H2_) | (have H2_ := (Option.bind_some _ _).symm.trans H; with_reducible exact H2_) | with_reducible exact H | (rw [hy1409]; exact H) | exact H
                            have Ny1409 := m0 hy1409
                            clear hy1409
                            obtain ⟨y1410, hy1410⟩ : ∃ y_ : List (List Int), y_ = (([y1409] : List (List Int))) := ⟨_, rfl⟩
                            replace H : ((line_HardIn.f kj18 y1410 a1_0 a1_1 a1_2 a1_3).bind fun bt1413 => (if bt1413.2 = 0 then (Lw_LineHard.j2 kj18 l0 a2 t1397 (((bt1413.1.length : Int) == 1) != (decide (a1_2 ≤ 10000))) a1_0 a1_1 a1_2 a1_3) else (Lw_LineHard.j2 kj18 l0 a2 t1397 true a1_0 a1_1 a1_2 a1_3))) = some r := by first | (rw [hy1410]; with_reducible exact H) | (have H2_ := (Option.bind_some _ _).symm.trans H; rw [hy1410]; with_reducible exact H2_) | (have H2_ := (Option.bind_some _ _).symm.trans H; with_reducible exact H2_) | with_reducible exact H | (rw [hy1410]; exact H) | exact H
                            have Ny1410 := m0 hy1410
                            clear hy1410
                            replace H := ob H
                            obtain ⟨⟨t1413, t1416⟩, A410, H⟩ := H
                            (try dsimp only at H)
                            have A41 := m0 A410
                            clear A410
                            have HC42 := m0 H
                            clear H
                            obtain ⟨hcz43_0, hcz43_1, hcz43_2, hcz43_3, hfz43_0, hfz43_1, hfz43_2, hfz43_3⟩ := b4 BK1390
                            go_upto_region 19 with (first | ((with_reducible refine gate_dst (N := 68) rfl ?_); (try (refine gate_guard (by rfl) ?_; dsimp only)); refine Kd.R_make (Kd.int .i64) _ 3 rfl (N := 68) rfl 22 _ _ rfl ji34 rfl rfl Tryd.underlying22 (.int .i64 0) 8 info3 rfl (by decide) (by omega) 0 (ok := fun _ => True) (okp := fun _ => True) rfl (fun _ hk => hk) trivial (of_decide_eq_true (by first | (with_reducible assumption) | assumption)) (Nat.le_trans (Nat.mul_le_mul_right _ (of_decide_eq_true (by first | (with_reducible assumption) | assumption) : ji34.toNat ≤ 35184372088832)) (by omega)) (Below.refl _ _) (Nat.le_refl _) ?_; intro v1407 w44 ho45 hb hg_ hnew_; clear hg_ hnew_; (first | rw [← Ny1406.out] at ho45 | (simp only [Int.reduceToNat] at ho45; rw [← Ny1406.out] at ho45)); have HO1408 := m0 (Kd.R_lower (Kd.R_new' ho45 (Kd.R_lt (br HO_8.out))) (below_size bz)); replace HO_8 := m0 (Kd.R_elder' (br HO_8.out) (Kd.R_base ho45) hb); replace BK1390 := bb BK1390 hb; replace HB := sb HB hb; clear hb ho45; obtain ⟨hcz46_0, hcz46_1, hcz46_2, hcz46_3, hfz46_0, hfz46_1, hfz46_2, hfz46_3⟩ := b4 BK1390; have p40 : 0 ≤ (a1_0 : Int) := of_decide_eq_true (by first | (with_reducible assumption) | assumption); have q40 : (a1_0 : Int) < ((y1406.length : Int) : Int) := of_decide_eq_true (by first | (with_reducible assumption) | assumption); obtain ⟨go40, co40, eo40, gb40, gl40, cl40, HG40⟩ := Kd.R_form HO1408.out (by omega); (first | cases eo40 | (injection eo40 with ea_ en_ ec_; (first | subst ea_ | (injection ea_ with ea_; subst ea_)); subst ec_; clear en_)); have GB40 := m0 gb40; have GG40 := m0 HG40; clear gb40 gl40 HG40; obtain ⟨hx40_0, hf40_0⟩ := Kd.R_celln 0 HO1408.out (a1_0 : Int) p40 q40; replace p40 := eq_true p40; replace q40 := eq_true q40; have n_ := m0 (Kd.R_mono (ok' := (fun k_ => some k_ ≠ (v1398 : Value).ownBlock)) HO1408.out (fun k_ hk => hk.2)); clear HO1408; have HO1408 := n_; clear n_; obtain ⟨hy47_, hz47_⟩ := Kd.R_celln 0 HO1408.out (a1_0 : Int) (of_decide_eq_true (by first | (with_reducible assumption) | assumption)) (of_decide_eq_true (by first | (with_reducible assumption) | assumption)); have HP47 := Kd.R_putg HO1408.out (a1_0 : Int) ji37) | ((with_reducible refine gate_store (t := 3) (p := 75) rfl ?_); refine store_event (t := 3) (p := 75) (v := ?vo_w48) (w1 := (w44.setCell ⟨go40, (a1_0 : Int).toNat, none⟩ (.int .i64 ji37))) ?hg ?ho ?hn ?hr ?_; (case ho => rfl); (case hg => rfl); (case hn => rfl); (case hr => first | (go_simp; done) | (go_simp; rfl)); intro w48 hw; have hg : w44.grownBy w48 (some go40) := (by rw [hw]; exact HP47.2); have hp_ : Kd.R (Kd.int .i64) 3 w48 w.heap.size (fun k_ => some k_ ≠ (v1398 : Value).ownBlock) (.slice (some ⟨go40, 0, none⟩) y1406.length co40) y1409 := (by rw [hw, Ny1409.out]; exact HP47.1); clear HP47; replace HO_8 := m0 (Kd.R_after (v := (.slice (some ⟨go40, 0, none⟩) y1406.length co40)) (v1 := (.slice (some ⟨go40, 0, none⟩) y1406.length co40)) (ok := (fun _ => True)) (br HO_8.out) hg (.inl rfl)); replace BK1390 := m0 (blk_grown (g := gb1390) (o := .cells #[.int .i64 a1_0, .int .i64 a1_1, .int .i64 a1_2, .int .i64 a1_3] 94 (0, 0)) (bk BK1390.out) hg (Kd.R_ne HO1408.out BK1390.out (by decide))); replace HO1408 := m0 (hp_); replace HB := m0 ((by rw [hw]; exact below_set (HB.out) GB40.out : Below w.heap.size w w48)); clear hg hw hp_) | ((with_reducible refine gate_dst (N := 78) rfl ?_); (try (refine gate_guard (by rfl) ?_; dsimp only)); refine Kd.N_lit (Kd.slice 3 (Kd.int .i64)) _ 22 ?hg (N' := 78) ?hd (xs := ([y1409] : List (List Int))) (inner := [.slice (some ⟨go40, 0, none⟩) y1406.length co40]) (ok := (fun k_ => some k_ ≠ (v1398 : Value).ownBlock ∧ k_ ≠ gb1390)) (okp := (fun k_ => some k_ ≠ (v1398 : Value).ownBlock ∧ k_ ≠ gb1390)) ?hr ?hp (fun _ hk => hk) ((show ∀ k_, w48.heap.size ≤ k_ → (fun k_ => some k_ ≠ (v1398 : Value).ownBlock ∧ k_ ≠ gb1390) k_ from fun k_ hk => ⟨Kd.fresh' (Kd.R_lt (br HO_8.out)) k_ hk, Kd.freshB (g := gb1390) (o := .cells #[.int .i64 a1_0, .int .i64 a1_1, .int .i64 a1_2, .int .i64 a1_3] 94 (0, 0)) (bk BK1390.out) k_ hk⟩) _ (Nat.le_refl _)) (Below.refl _ _) (Nat.le_refl _) (by simp) ?_; (case hd => rfl); (case hg => rfl); (case hr => first | (go_simp; done) | (go_simp; rfl)); (case hp => exact (Reps.one (show Kd.FK (Kd.slice 3 (Kd.int .i64)) _ _ y1409 [.slice (some ⟨go40, 0, none⟩) y1406.length co40] from (by have z2_ := Kd.R_mono (ok' := (fun k_ => some k_ ≠ (v1398 : Value).ownBlock ∧ k_ ≠ gb1390)) (Kd.R_types (HO1408.out) BK1390.out (by decide)) (fun k_ hk => ⟨hk.1, hk.2⟩); have e_ := (Kd.R_reads' z2_).1; rw [e_] at z2_ ⊢; exact Kd.FK_slice_mk (Kd.R_reads' z2_).2.1 (Kd.R_F z2_))) (Reps.none _ _))); intro v1411 w49 ho50 hb hg_ hnew_; clear hg_ hnew_; (first | rw [← Ny1410.out] at ho50 | (simp only [Int.reduceToNat] at ho50; rw [← Ny1410.out] at ho50)); have n0_ := rb HO_8 hb; have n1_ := m0 (Kd.N_lower ho50 (below_size bz)); have n2_ := bb BK1390 hb; have n3_ := sb HB hb; clear HO_8; clear BK1390; clear HB; clear HO1408; have HO_8 := n0_; have HO1412 := n1_; have BK1390 := n2_; have HB := n3_; clear n0_ n1_ n2_ n3_; clear hb ho50; obtain ⟨hcz51_0, hcz51_1, hcz51_2, hcz51_3, hfz51_0, hfz51_1, hfz51_2, hfz51_3⟩ := b4 BK1390; obtain ⟨Ao52, co52, eo52⟩ := Kd.N_slice HO1412.out; subst eo52) | ((with_reducible refine gate_callee (f := 71) rfl ?_); refine gl (some 80) Tryd.func71 #[.slice Ao52 y1410.length co52, .agg #[.int .i64 a1_0, .int .i64 a1_1, .int .i64 a1_2, .int .i64 a1_3]] ?_; (with_reducible refine (line_HardIn.calls kj18 _ _ y1410 a1_0 a1_1 a1_2 a1_3 t1413 t1416 _ ?side1 ?side2 A41.out).mono ?_); (case side1 => repeat (first | exact (Kd.N_reads' HO1412.out).2.2 | (with_reducible refine Kd.C_alloc ?_ _) | (with_reducible refine Kd.C_drewN ?_ _) | (with_reducible refine Kd.C_drew ?_))); (case side2 => exact (Kd.N_reads' HO1412.out).2.1); rintro e w53 ⟨v1414, rfl, ho0, hb⟩; refine ⟨_, rfl, ?_⟩; replace HO1412 := m0 (Kd.N_elder' (by (with_reducible repeat (first | apply Kd.N_alloc | apply Kd.N_drewN | apply Kd.N_drew)); exact HO1412.out) (Kd.R_base ho0) hb); have HO1415 := m0 (Kd.R_lower (Kd.R_new' ho0 (Kd.R_lt (br HO_8.out))) (below_size bz)); replace HO_8 := m0 (Kd.R_elder' (br HO_8.out) (Kd.R_base ho0) hb); replace BK1390 := bb BK1390 hb; replace HB := sb HB hb; (try clear hb); (try clear ho0)))
                            (try simp only [Act.put, List.setIfInBounds_toArray, List.set_cons_zero, List.set_cons_succ])
                            go_cut [93] (fun v93 wc => ∃ (kq : Nat) (x93_41 : Bool), v93 = .bool x93_41 ∧ Aside0 (Lw_LineHard.j2 kq l0 a2 t1397 x93_41 a1_0 a1_1 a1_2 a1_3 = some r) ∧ Aside0 (kq ≤ kj18) ∧ Aside0 (Kd.R (Kd.int .i64) 3 wc w.heap.size (fun _ => True) v1398 t1397) ∧ Aside0 (wc.heap[gb1390]? = some (.cells #[.int .i64 a1_0, .int .i64 a1_1, .int .i64 a1_2, .int .i64 a1_3] 94 (0, 0))) ∧ Aside0 (Below w.heap.size w wc))
                            case first =>
                              have H := HC42.out
                              clear HC42
                              by_cases c54 : t1416 = 0
                              · rw [if_pos c54] at H
                                have c54b0 := beq_iff_eq.mpr c54
                                have c54b1 := bne_eq_false_iff_eq.mpr c54
                                clear c54
                                (first | rw [c54b0] | (simp only [i64_w, i32_w]; rw [c54b0]) | skip)
                                have H' := m0 H
                                clear H
                                obtain ⟨Ao55, co55, eo55⟩ := Kd.R_slice HO1415.out
                                subst eo55
                                obtain ⟨hcz56_0, hcz56_1, hcz56_2, hcz56_3, hfz56_0, hfz56_1, hfz56_2, hfz56_3⟩ := b4 BK1390
                                go_wp2
                                go_meet
                                case rel => exact ⟨_, ((((t1413.length : Int) == 1) != (decide (a1_2 ≤ 10000)))), (by first | rfl | (simp; done) | (simp [*]; done)), H', ⟨by have := HK1.out; have := HJ18.out; first | omega | exact Nat.le_refl _⟩, ⟨by (with_reducible repeat (first | apply Kd.R_alloc | apply Kd.R_drewN | apply Kd.R_drew)); exact Kd.R_mono HO_8.out (fun _ hk => trivial)⟩, ⟨bk BK1390.out⟩, ⟨bz⟩⟩
                              · rw [if_neg c54] at H
                                have c54b0 := beq_eq_false_iff_ne.mpr c54
                                have c54b1 := bne_iff_ne.mpr c54
                                (first | rw [c54b0] | (simp only [i64_w, i32_w]; rw [c54b0]) | skip)
                                have H' := m0 H
                                clear H
                                go_wp2
                                go_meet
                                case rel => exact ⟨_, (true), (by first | rfl | (simp; done) | (simp [*]; done)), H', ⟨by have := HK1.out; have := HJ18.out; first | omega | exact Nat.le_refl _⟩, ⟨by (with_reducible repeat (first | apply Kd.R_alloc | apply Kd.R_drewN | apply Kd.R_drew)); exact Kd.R_mono HO_8.out (fun _ hk => trivial)⟩, ⟨bk BK1390.out⟩, ⟨bz⟩⟩
                            case rest =>
                              clear HC42
                              try clear c1
                              try clear p1
                              try clear q1
                              try clear hx1
                              try clear c2
                              try clear p2
                              try clear c3
                              try clear p4
                              try clear q4
                              try clear hx4
                              try clear hf4
                              try clear c5
                              try clear c6
                              try clear c6b0
                              try clear c6b1
                              try clear p6
                              try clear c7
                              try clear c11
                              try clear c11b0
                              try clear c12
                              try clear c12b0
                              try clear c13
                              try clear p13
                              try clear q13
                              try clear hx13
                              try clear c14
                              try clear c18
                              try clear c18b0
                              try clear c18b1
                              try clear c26
                              try clear c26b0
                              try clear c26b1
                              try clear c33
                              try clear c35
                              try clear c35b0
                              try clear c35b1
                              try clear c36
                              try clear c36b0
                              try clear c36b1
                              try clear c38
                              try clear c38b0
                              try clear c39
                              try clear c39b0
                              try clear p40
                              try clear q40
                              try clear hx40
                              try clear hf40
                              try clear c50
                              try clear c54
                              try clear c54b0
                              try clear c54b1
                              try clear hcz24_0
                              try clear hcz24_1
                              try clear hcz24_2
                              try clear hcz24_3
                              try clear hcz29_0
                              try clear hcz29_1
                              try clear hcz29_2
                              try clear hcz29_3
                              try clear hcz43_0
                              try clear hcz43_1
                              try clear hcz43_2
                              try clear hcz43_3
                              try clear hcz46_0
                              try clear hcz46_1
                              try clear hcz46_2
                              try clear hcz46_3
                              try clear hcz51_0
                              try clear hcz51_1
                              try clear hcz51_2
                              try clear hcz51_3
                              try clear hcz56_0
                              try clear hcz56_1
                              try clear hcz56_2
                              try clear hcz56_3
                              try clear hfz24_0
                              try clear hfz24_1
                              try clear hfz24_2
                              try clear hfz24_3
                              try clear hfz29_0
                              try clear hfz29_1
                              try clear hfz29_2
                              try clear hfz29_3
                              try clear hfz43_0
                              try clear hfz43_1
                              try clear hfz43_2
                              try clear hfz43_3
                              try clear hfz46_0
                              try clear hfz46_1
                              try clear hfz46_2
                              try clear hfz46_3
                              try clear hfz51_0
                              try clear hfz51_1
                              try clear hfz51_2
                              try clear hfz51_3
                              try clear hfz56_0
                              try clear hfz56_1
                              try clear hfz56_2
                              try clear hfz56_3
                              try clear hx1392_0
                              try clear hx40_0
                              try clear p1
                              try clear p13
                              try clear p1392
                              try clear p2
                              try clear p40
                              try clear p6
                              try clear q1
                              try clear q13
                              try clear q1392
                              try clear q40
                              obtain ⟨kq, x93_41, rfl, HA, HJ41, HO_8, BK1390, HB⟩ := hcut
                              cases kq with
                              | zero => exact absurd HA.out (by simp [Lw_LineHard.j2])
                              | succ kj41 =>
                                have H := HA.out
                                clear HA
                                simp only [Lw_LineHard.j2] at H
                                by_cases c57 : x93_41 = true
                                · subst c57
                                  rw [if_pos rfl] at H
                                  exact absurd H (by simp)
                                · replace c57 := Bool.eq_false_iff.mpr c57
                                  subst c57
                                  rw [if_neg (show ¬ (false = true) by decide)] at H
                                  have HC58 := m0 H
                                  clear H
                                  go_upto_region 21 with (fail)
                                  go_cut [103] (fun v103 wc => ∃ (kq : Nat) (x103_57 : Bool), v103 = .bool x103_57 ∧ Aside0 (Lw_LineHard.j3 kq l0 a2 t1397 x103_57 a1_0 a1_1 a1_2 a1_3 = some r) ∧ Aside0 (kq ≤ kj41) ∧ Aside0 (Kd.R (Kd.int .i64) 3 wc w.heap.size (fun _ => True) v1398 t1397) ∧ Aside0 (wc.heap[gb1390]? = some (.cells #[.int .i64 a1_0, .int .i64 a1_1, .int .i64 a1_2, .int .i64 a1_3] 94 (0, 0))) ∧ Aside0 (Below w.heap.size w wc))
                                  case first =>
                                    have H := HC58.out
                                    clear HC58
                                    replace H := ob H
                                    obtain ⟨t1417, A590, H⟩ := H
                                    (try dsimp only at H)
                                    have A59 := m0 A590
                                    clear A590
                                    by_cases c60 : t1417 = true
                                    · subst c60
                                      rw [if_pos rfl] at H
                                      have H' := m0 H
                                      clear H
                                      go_wp2_with (first | ((with_reducible refine gate_callee (f := 31) rfl ?_); refine gl (some 95) Tryd.func31 #[.int .i64 a2, .int .i64 0, .int .i64 100] ?_; (with_reducible refine (Bs_Within.calls a2 0 100 true _ A59.out).mono ?_); rintro e w' ⟨rfl, ⟨nd, rfl⟩⟩; refine ⟨_, rfl, ?_⟩; obtain ⟨hcz61_0, hcz61_1, hcz61_2, hcz61_3, hfz61_0, hfz61_1, hfz61_2, hfz61_3⟩ := b4 BK1390))
                                      go_meet
                                      case rel => exact ⟨_, (decide ((wrap64 (a1_3 + a2)) > 100)), (by first | rfl | (simp; done) | (simp [*]; done)), H', ⟨by have := HK1.out; have := HJ18.out; have := HJ41.out; first | omega | exact Nat.le_refl _⟩, ⟨br HO_8.out⟩, ⟨bk BK1390.out⟩, ⟨bz⟩⟩
                                    · replace c60 := Bool.eq_false_iff.mpr c60
                                      subst c60
                                      rw [if_neg (show ¬ (false = true) by decide)] at H
                                      have H' := m0 H
                                      clear H
                                      go_wp2_with (first | ((with_reducible refine gate_callee (f := 31) rfl ?_); refine gl (some 95) Tryd.func31 #[.int .i64 a2, .int .i64 0, .int .i64 100] ?_; (with_reducible refine (Bs_Within.calls a2 0 100 false _ A59.out).mono ?_); rintro e w' ⟨rfl, ⟨nd, rfl⟩⟩; refine ⟨_, rfl, ?_⟩))
                                      go_meet
                                      case rel => exact ⟨_, (true), (by first | rfl | (simp; done) | (simp [*]; done)), H', ⟨by have := HK1.out; have := HJ18.out; have := HJ41.out; first | omega | exact Nat.le_refl _⟩, ⟨br HO_8.out⟩, ⟨bk BK1390.out⟩, ⟨bz⟩⟩
                                  case rest =>
                                    clear HC58
                                    try clear c1
                                    try clear p1
                                    try clear q1
                                    try clear hx1
                                    try clear c2
                                    try clear p2
                                    try clear c3
                                    try clear p4
                                    try clear q4
                                    try clear hx4
                                    try clear hf4
                                    try clear c5
                                    try clear c6
                                    try clear c6b0
                                    try clear c6b1
                                    try clear p6
                                    try clear c7
                                    try clear c11
                                    try clear c11b0
                                    try clear c12
                                    try clear c12b0
                                    try clear c13
                                    try clear p13
                                    try clear q13
                                    try clear hx13
                                    try clear c14
                                    try clear c18
                                    try clear c18b0
                                    try clear c18b1
                                    try clear c26
                                    try clear c26b0
                                    try clear c26b1
                                    try clear c31
                                    try clear c33
                                    try clear c35
                                    try clear c35b0
                                    try clear c35b1
                                    try clear c36
                                    try clear c36b0
                                    try clear c36b1
                                    try clear c38
                                    try clear c38b0
                                    try clear c39
                                    try clear c39b0
                                    try clear p40
                                    try clear q40
                                    try clear hx40
                                    try clear hf40
                                    try clear c50
                                    try clear c54
                                    try clear c54b0
                                    try clear c54b1
                                    try clear c57
                                    try clear c60
                                    try clear hcz24_0
                                    try clear hcz24_1
                                    try clear hcz24_2
                                    try clear hcz24_3
                                    try clear hcz29_0
                                    try clear hcz29_1
                                    try clear hcz29_2
                                    try clear hcz29_3
                                    try clear hcz43_0
                                    try clear hcz43_1
                                    try clear hcz43_2
                                    try clear hcz43_3
                                    try clear hcz46_0
                                    try clear hcz46_1
                                    try clear hcz46_2
                                    try clear hcz46_3
                                    try clear hcz51_0
                                    try clear hcz51_1
                                    try clear hcz51_2
                                    try clear hcz51_3
                                    try clear hcz56_0
                                    try clear hcz56_1
                                    try clear hcz56_2
                                    try clear hcz56_3
                                    try clear hcz61_0
                                    try clear hcz61_1
                                    try clear hcz61_2
                                    try clear hcz61_3
                                    try clear hfz24_0
                                    try clear hfz24_1
                                    try clear hfz24_2
                                    try clear hfz24_3
                                    try clear hfz29_0
                                    try clear hfz29_1
                                    try clear hfz29_2
                                    try clear hfz29_3
                                    try clear hfz43_0
                                    try clear hfz43_1
                                    try clear hfz43_2
                                    try clear hfz43_3
                                    try clear hfz46_0
                                    try clear hfz46_1
                                    try clear hfz46_2
                                    try clear hfz46_3
                                    try clear hfz51_0
                                    try clear hfz51_1
                                    try clear hfz51_2
                                    try clear hfz51_3
                                    try clear hfz56_0
                                    try clear hfz56_1
                                    try clear hfz56_2
                                    try clear hfz56_3
                                    try clear hfz61_0
                                    try clear hfz61_1
                                    try clear hfz61_2
                                    try clear hfz61_3
                                    try clear hx1392_0
                                    try clear hx40_0
                                    try clear p1
                                    try clear p13
                                    try clear p1392
                                    try clear p2
                                    try clear p4
                                    try clear p40
                                    try clear p6
                                    try clear q1
                                    try clear q13
                                    try clear q1392
                                    try clear q4
                                    try clear q40
                                    obtain ⟨kq, x103_57, rfl, HA, HJ57, HO_8, BK1390, HB⟩ := hcut
                                    cases kq with
                                    | zero => exact absurd HA.out (by simp [Lw_LineHard.j3])
                                    | succ kj57 =>
                                      have H := HA.out
                                      clear HA
                                      simp only [Lw_LineHard.j3] at H
                                      by_cases c62 : x103_57 = true
                                      · subst c62
                                        rw [if_pos rfl] at H
                                        obtain rfl := Option.some.inj H
                                        go_wp2
                                        go_ret
                                        exact ⟨by first | rfl | (simp [errW_none, errW_some] <;> rfl) | (simp only [← hji34, ← hji37]; first | rfl | (simp [errW_none, errW_some] <;> rfl)) | (simp [*, errW_none, errW_some] <;> rfl), by repeat (first | (with_reducible first | exact HB.out | apply below_alloc | apply pw_below_drewN | apply below_drew1 | refine below_set ?_ GE1390.out) | exact HB.out)⟩
                                      · replace c62 := Bool.eq_false_iff.mpr c62
                                        subst c62
                                        rw [if_neg (show ¬ (false = true) by decide)] at H
                                        replace H := ob H
                                        obtain ⟨t1419, A630, H⟩ := H
                                        (try dsimp only at H)
                                        have A63 := m0 A630
                                        clear A630
                                        replace H := ob H
                                        obtain ⟨⟨t1422, t1425⟩, A640, H⟩ := H
                                        (try dsimp only at H)
                                        have A64 := m0 A640
                                        clear A640
                                        have HC65 := m0 H
                                        clear H
                                        obtain ⟨hcz66_0, hcz66_1, hcz66_2, hcz66_3, hfz66_0, hfz66_1, hfz66_2, hfz66_3⟩ := b4 BK1390
                                        try go_wp2_with (first | ((with_reducible refine gate_dst (N := 14) rfl ?_); (try (refine gate_guard (by rfl) ?_; dsimp only)); refine be 14 94 #[.int .i64 0, .int .i64 0, .int .i64 0, .int .i64 0] ?_; intro gb1418 hg w67 hbox hb; replace HO_8 := rb HO_8 hb; have BK1418 := m0 hbox; have GW1418 := m0 (bg (n := w.heap.size) hg); have GE1418 := m0 (bg (n := w.heap.size) hg); replace HB := sb HB hb; have NB1390_1418 := nl BK1390 hg; have NB1418_1390 := ng (nl BK1390 hg); replace BK1390 := bb BK1390 hb; clear hb hbox hg; have hnb68 := NB1418_1390.out; have hnc68 := NB1390_1418.out; obtain ⟨hcz69_0, hcz69_1, hcz69_2, hcz69_3, hfz69_0, hfz69_1, hfz69_2, hfz69_3⟩ := b4 BK1418; obtain ⟨hcz70_0, hcz70_1, hcz70_2, hcz70_3, hfz70_0, hfz70_1, hfz70_2, hfz70_3⟩ := b4 BK1390))
                                        have n0_ : Aside0 (Kd.R (Kd.int .i64) 3 (((((w67.setCell ⟨gb1418, 0, none⟩ (.int .i64 a1_0)).setCell ⟨gb1418, 1, none⟩ (.int .i64 a1_1)).setCell ⟨gb1418, 2, none⟩ (.int .i64 a1_2)).setCell ⟨gb1418, 3, none⟩ (.int .i64 a1_3)).setCell ⟨gb1418, 3, none⟩ (.int .i64 (wrap64 (a1_3 + a2)))) w.heap.size (fun _ => True) v1398 t1397) := ⟨by (with_reducible repeat (first | apply Kd.R_alloc | apply Kd.R_drewN | apply Kd.R_drew)); exact Kd.R_mono (Kd.R_far (p := ⟨gb1418, 3, none⟩) (Kd.R_far (p := ⟨gb1418, 3, none⟩) (Kd.R_far (p := ⟨gb1418, 2, none⟩) (Kd.R_far (p := ⟨gb1418, 1, none⟩) (Kd.R_far (p := ⟨gb1418, 0, none⟩) (Kd.R_types HO_8.out BK1418.out (by decide)) (fun _ hk => hk.2) (.int .i64 a1_0)) (fun _ hk => hk.2) (.int .i64 a1_1)) (fun _ hk => hk.2) (.int .i64 a1_2)) (fun _ hk => hk.2) (.int .i64 a1_3)) (fun _ hk => hk.2) (.int .i64 (wrap64 (a1_3 + a2)))) (fun _ hk => trivial)⟩
                                        have n1_ : Aside0 ((((((w67.setCell ⟨gb1418, 0, none⟩ (.int .i64 a1_0)).setCell ⟨gb1418, 1, none⟩ (.int .i64 a1_1)).setCell ⟨gb1418, 2, none⟩ (.int .i64 a1_2)).setCell ⟨gb1418, 3, none⟩ (.int .i64 a1_3)).setCell ⟨gb1418, 3, none⟩ (.int .i64 (wrap64 (a1_3 + a2)))).heap[gb1390]? = some (.cells #[.int .i64 a1_0, .int .i64 a1_1, .int .i64 a1_2, .int .i64 a1_3] 94 (0, 0))) := ⟨bq BK1390.out⟩
                                        have n2_ : Aside0 ((((((w67.setCell ⟨gb1418, 0, none⟩ (.int .i64 a1_0)).setCell ⟨gb1418, 1, none⟩ (.int .i64 a1_1)).setCell ⟨gb1418, 2, none⟩ (.int .i64 a1_2)).setCell ⟨gb1418, 3, none⟩ (.int .i64 a1_3)).setCell ⟨gb1418, 3, none⟩ (.int .i64 (wrap64 (a1_3 + a2)))).heap[gb1418]? = some (.cells #[.int .i64 a1_0, .int .i64 a1_1, .int .i64 a1_2, .int .i64 (wrap64 (a1_3 + a2))] 94 (0, 0))) := ⟨bq BK1418.out⟩
                                        have n3_ : Aside0 (Below w.heap.size w (((((w67.setCell ⟨gb1418, 0, none⟩ (.int .i64 a1_0)).setCell ⟨gb1418, 1, none⟩ (.int .i64 a1_1)).setCell ⟨gb1418, 2, none⟩ (.int .i64 a1_2)).setCell ⟨gb1418, 3, none⟩ (.int .i64 a1_3)).setCell ⟨gb1418, 3, none⟩ (.int .i64 (wrap64 (a1_3 + a2))))) := ⟨bz⟩
                                        (try clear HO_8)
                                        (try clear BK1390)
                                        (try clear BK1418)
                                        (try clear HB)
                                        generalize (((((w67.setCell ⟨gb1418, 0, none⟩ (.int .i64 a1_0)).setCell ⟨gb1418, 1, none⟩ (.int .i64 a1_1)).setCell ⟨gb1418, 2, none⟩ (.int .i64 a1_2)).setCell ⟨gb1418, 3, none⟩ (.int .i64 a1_3)).setCell ⟨gb1418, 3, none⟩ (.int .i64 (wrap64 (a1_3 + a2)))) = w71 at n0_ n1_ n2_ n3_ ⊢
                                        have HO_8 := n0_
                                        have BK1390 := n1_
                                        have BK1418 := n2_
                                        have HB := n3_
                                        clear n0_ n1_ n2_ n3_
                                        replace HO_8 := m0 (Kd.R_drew HO_8.out); replace BK1390 := bd BK1390; replace BK1418 := bd BK1418; replace HB := sd HB
                                        refine start_ (n := 9) (S := fun w' => w'.cell? ⟨gb1418, 0, none⟩ = some (.int .i64 a1_0) ∧ w'.cell? ⟨gb1418, 1, none⟩ = some (.int .i64 a1_1) ∧ w'.cell? ⟨gb1418, 2, none⟩ = some (.int .i64 a1_2) ∧ w'.cell? ⟨gb1418, 3, none⟩ = some (.int .i64 (wrap64 (a1_3 + a2)))) (ds := []) #[false, false, false, false, false, false, false, false, false] (by kernel_rfl) rfl rfl cz (fun hHeld => ?_); refine with_tabW Lw_LineHard.tab25 Lw_LineHard.bits25 (fun HT_ HW_ => ?_)
                                        generalize w71.drew = w72 at HO_8 BK1390 BK1418 HB hHeld ⊢
                                        refine pureZ (i := 0) (N := some 111) #[true, false, false, false, false, false, false, false, false] HT_ ?_
                                        refine takeZ 2 (some 113) #[true, false, true, false, false, false, false, false, false] (take_ofW HT_.out HW_.out (by kernel_rfl)) hHeld ?_
                                        refine oneZ 1 (some 112) #[true, true, true, false, false, false, false, false, false] (one_of HT_.out (by kernel_rfl)) fun K hK => ?_
                                        refine goes_ Tryd.func72 (by kernel_rfl) rfl #[.slice A0 l0.length c0] (by rfl) rfl rfl mz ?_
                                        with_reducible refine (Rf_CopyGates.calls kj57 _ _ l0 t1419 _ ?side1 ?side2 A63.out).mono ?_
                                        (case side1 => exact cb HR0 HB)
                                        (case side2 => exact HC0.out)
                                        rintro e w73 ⟨v1420, rfl, ho0, hb⟩
                                        refine ⟨_, rfl, ?_⟩
                                        have HO1421 := m0 (Kd.N_lower (Kd.N_mono (ok' := fun k_ => some k_ ≠ (v1398 : Value).ownBlock ∧ k_ ≠ gb1390 ∧ k_ ≠ gb1418) (Kd.S_N (Kd.S_bound ho0)) (fun k_ hk_ => ⟨(Kd.fresh' (Kd.R_lt (br HO_8.out)) k_ hk_.2.1), (Kd.freshB (g := gb1390) (o := .cells #[.int .i64 a1_0, .int .i64 a1_1, .int .i64 a1_2, .int .i64 a1_3] 94 (0, 0)) (bk BK1390.out) k_ hk_.2.1), (Kd.freshB (g := gb1418) (o := .cells #[.int .i64 a1_0, .int .i64 a1_1, .int .i64 a1_2, .int .i64 (wrap64 (a1_3 + a2))] 94 (0, 0)) (bk BK1418.out) k_ hk_.2.1)⟩)) (below_size bz)); replace HO_8 := rb HO_8 hb; replace BK1390 := bb BK1390 hb; replace BK1418 := bb BK1418 hb; replace HB := sb HB hb
                                        (try clear hb)
                                        (try clear ho0)
                                        obtain ⟨Ao74, co74, eo74⟩ := Kd.N_slice HO1421.out
                                        (first | subst eo74 | (injection eo74 with f1_ f2_ f3_; have f4_ := f1_.symm; have f5_ := f3_.symm; clear f1_ f2_ f3_; subst f4_; subst f5_))
                                        refine hK.out _ _ cz (fun hHeld => ?_)
                                        clear hK K
                                        refine norm_ (a' := ?_) ?_ ?_
                                        rotate_left
                                        · show Act.put _ (some 112) _ = _
                                          exact pz
                                        refine oneZ 3 (some 114) #[true, true, true, true, false, false, false, false, false] (one_of HT_.out (by kernel_rfl)) fun K hK => ?_
                                        refine goes_ Tryd.func71 (by kernel_rfl) rfl #[.slice Ao74 t1419.length co74, .agg #[.int .i64 a1_0, .int .i64 a1_1, .int .i64 a1_2, .int .i64 (wrap64 (a1_3 + a2))]] (by rfl) rfl rfl mz ?_
                                        with_reducible refine (line_HardIn.calls kj57 _ _ t1419 a1_0 a1_1 a1_2 (wrap64 (a1_3 + a2)) t1422 t1425 _ ?side1 ?side2 A64.out).mono ?_
                                        (case side1 => repeat (first | exact (Kd.N_reads' HO1421.out).2.2 | (with_reducible refine Kd.C_alloc ?_ _) | (with_reducible refine Kd.C_drewN ?_ _) | (with_reducible refine Kd.C_drew ?_)))
                                        (case side2 => exact (Kd.N_reads' HO1421.out).2.1)
                                        rintro e w75 ⟨v1423, rfl, ho0, hb⟩
                                        refine ⟨_, rfl, ?_⟩
                                        replace HO1421 := m0 (Kd.N_elder' (by (with_reducible repeat (first | apply Kd.N_alloc | apply Kd.N_drewN | apply Kd.N_drew)); exact HO1421.out) (Kd.R_base ho0) hb); have HO1424 := m0 (Kd.R_lower (Kd.R_new' ho0 (Kd.R_lt (br HO_8.out))) (below_size bz)); replace HO_8 := m0 (Kd.R_elder' (br HO_8.out) (Kd.R_base ho0) hb); replace BK1390 := bb BK1390 hb; replace BK1418 := bb BK1418 hb; replace HB := sb HB hb
                                        (try clear hb)
                                        (try clear ho0)
                                        refine hK.out _ _ cz (fun hHeld => ?_)
                                        clear hK K
                                        refine norm_ (a' := ?_) ?_ ?_
                                        rotate_left
                                        · show Act.put _ (some 114) _ = _
                                          exact pz
                                        refine pureZ (i := 4) (N := some 110) #[true, true, true, true, true, false, false, false, false] HT_ ?_
                                        refine pureZ (i := 5) (N := some 115) #[true, true, true, true, true, true, false, false, false] HT_ ?_
                                        refine pureZ (i := 6) (N := some 116) #[true, true, true, true, true, true, true, false, false] HT_ ?_
                                        refine pureZ (i := 7) (N := some 15) #[true, true, true, true, true, true, true, true, false] HT_ ?_
                                        refine pureZ (i := 8) (N := some 16) #[true, true, true, true, true, true, true, true, true] HT_ ?_
                                        refine done_ (done_of HT_.out (by kernel_rfl)) ?_
                                        go_upto_region 26 with (fail)
                                        go_cut [125] (fun v125 wc => ∃ (kq : Nat) (x125_64 : Bool), v125 = .bool x125_64 ∧ Aside0 (Lw_LineHard.j4 kq t1397 t1422 x125_64 = some r) ∧ Aside0 (kq ≤ kj57) ∧ Aside0 (Kd.R (Kd.int .i64) 3 wc w.heap.size (fun k_ => some k_ ≠ (v1423 : Value).ownBlock) v1398 t1397) ∧ Aside0 (Kd.R (Kd.int .i64) 3 wc w.heap.size (fun k_ => some k_ ≠ (v1398 : Value).ownBlock) v1423 t1422) ∧ Aside0 (wc.heap[gb1390]? = some (.cells #[.int .i64 a1_0, .int .i64 a1_1, .int .i64 a1_2, .int .i64 a1_3] 94 (0, 0))) ∧ Aside0 (wc.heap[gb1418]? = some (.cells #[.int .i64 a1_0, .int .i64 a1_1, .int .i64 a1_2, .int .i64 (wrap64 (a1_3 + a2))] 94 (0, 0))) ∧ Aside0 (Below w.heap.size w wc))
                                        case first =>
                                          have H := HC65.out
                                          clear HC65
                                          by_cases c76 : t1425 = 0
                                          · rw [if_pos c76] at H
                                            have c76b0 := beq_iff_eq.mpr c76
                                            have c76b1 := bne_eq_false_iff_eq.mpr c76
                                            clear c76
                                            (first | rw [c76b0] | (simp only [i64_w, i32_w]; rw [c76b0]) | skip)
                                            have H' := m0 H
                                            clear H
                                            obtain ⟨Ao77, co77, eo77⟩ := Kd.R_slice HO1424.out
                                            subst eo77
                                            obtain ⟨Ao78, co78, eo78⟩ := Kd.R_slice HO_8.out
                                            subst eo78
                                            go_wp2
                                            go_meet
                                            case rel => exact ⟨_, (decide ((t1422.length : Int) > (t1397.length : Int))), (by first | rfl | (simp; done) | (simp [*]; done)), H', ⟨by have := HK1.out; have := HJ18.out; have := HJ41.out; have := HJ57.out; first | omega | exact Nat.le_refl _⟩, ⟨by (with_reducible repeat (first | apply Kd.R_alloc | apply Kd.R_drewN | apply Kd.R_drew)); exact Kd.R_mono HO_8.out (fun _ hk => hk.2)⟩, ⟨by (with_reducible repeat (first | apply Kd.R_alloc | apply Kd.R_drewN | apply Kd.R_drew)); exact Kd.R_mono HO1424.out (fun _ hk => hk.2)⟩, ⟨bk BK1390.out⟩, ⟨bk BK1418.out⟩, ⟨bz⟩⟩
                                          · rw [if_neg c76] at H
                                            have c76b0 := beq_eq_false_iff_ne.mpr c76
                                            have c76b1 := bne_iff_ne.mpr c76
                                            (first | rw [c76b0] | (simp only [i64_w, i32_w]; rw [c76b0]) | skip)
                                            have H' := m0 H
                                            clear H
                                            go_wp2
                                            go_meet
                                            case rel => exact ⟨_, (true), (by first | rfl | (simp; done) | (simp [*]; done)), H', ⟨by have := HK1.out; have := HJ18.out; have := HJ41.out; have := HJ57.out; first | omega | exact Nat.le_refl _⟩, ⟨by (with_reducible repeat (first | apply Kd.R_alloc | apply Kd.R_drewN | apply Kd.R_drew)); exact Kd.R_mono HO_8.out (fun _ hk => hk.2)⟩, ⟨by (with_reducible repeat (first | apply Kd.R_alloc | apply Kd.R_drewN | apply Kd.R_drew)); exact Kd.R_mono HO1424.out (fun _ hk => hk.2)⟩, ⟨bk BK1390.out⟩, ⟨bk BK1418.out⟩, ⟨bz⟩⟩
                                        case rest =>
                                          clear HC65
                                          try clear c1
                                          try clear p1
                                          try clear q1
                                          try clear hx1
                                          try clear c2
                                          try clear p2
                                          try clear c3
                                          try clear p4
                                          try clear q4
                                          try clear hx4
                                          try clear hf4
                                          try clear c5
                                          try clear c6
                                          try clear c6b0
                                          try clear c6b1
                                          try clear p6
                                          try clear c7
                                          try clear c11
                                          try clear c11b0
                                          try clear c12
                                          try clear c12b0
                                          try clear c13
                                          try clear p13
                                          try clear q13
                                          try clear hx13
                                          try clear c14
                                          try clear c18
                                          try clear c18b0
                                          try clear c18b1
                                          try clear c26
                                          try clear c26b0
                                          try clear c26b1
                                          try clear c31
                                          try clear c33
                                          try clear c35
                                          try clear c35b0
                                          try clear c35b1
                                          try clear c36
                                          try clear c36b0
                                          try clear c36b1
                                          try clear c38
                                          try clear c38b0
                                          try clear c39
                                          try clear c39b0
                                          try clear p40
                                          try clear q40
                                          try clear hx40
                                          try clear hf40
                                          try clear c50
                                          try clear c54
                                          try clear c54b0
                                          try clear c54b1
                                          try clear c57
                                          try clear c60
                                          try clear c62
                                          try clear p64
                                          try clear c68
                                          try clear c71
                                          try clear c72
                                          try clear c76
                                          try clear c76b0
                                          try clear c76b1
                                          try clear hcz24_0
                                          try clear hcz24_1
                                          try clear hcz24_2
                                          try clear hcz24_3
                                          try clear hcz29_0
                                          try clear hcz29_1
                                          try clear hcz29_2
                                          try clear hcz29_3
                                          try clear hcz43_0
                                          try clear hcz43_1
                                          try clear hcz43_2
                                          try clear hcz43_3
                                          try clear hcz46_0
                                          try clear hcz46_1
                                          try clear hcz46_2
                                          try clear hcz46_3
                                          try clear hcz51_0
                                          try clear hcz51_1
                                          try clear hcz51_2
                                          try clear hcz51_3
                                          try clear hcz56_0
                                          try clear hcz56_1
                                          try clear hcz56_2
                                          try clear hcz56_3
                                          try clear hcz61_0
                                          try clear hcz61_1
                                          try clear hcz61_2
                                          try clear hcz61_3
                                          try clear hcz66_0
                                          try clear hcz66_1
                                          try clear hcz66_2
                                          try clear hcz66_3
                                          try clear hcz69_0
                                          try clear hcz69_1
                                          try clear hcz69_2
                                          try clear hcz69_3
                                          try clear hcz70_0
                                          try clear hcz70_1
                                          try clear hcz70_2
                                          try clear hcz70_3
                                          try clear hfz24_0
                                          try clear hfz24_1
                                          try clear hfz24_2
                                          try clear hfz24_3
                                          try clear hfz29_0
                                          try clear hfz29_1
                                          try clear hfz29_2
                                          try clear hfz29_3
                                          try clear hfz43_0
                                          try clear hfz43_1
                                          try clear hfz43_2
                                          try clear hfz43_3
                                          try clear hfz46_0
                                          try clear hfz46_1
                                          try clear hfz46_2
                                          try clear hfz46_3
                                          try clear hfz51_0
                                          try clear hfz51_1
                                          try clear hfz51_2
                                          try clear hfz51_3
                                          try clear hfz56_0
                                          try clear hfz56_1
                                          try clear hfz56_2
                                          try clear hfz56_3
                                          try clear hfz61_0
                                          try clear hfz61_1
                                          try clear hfz61_2
                                          try clear hfz61_3
                                          try clear hfz66_0
                                          try clear hfz66_1
                                          try clear hfz66_2
                                          try clear hfz66_3
                                          try clear hfz69_0
                                          try clear hfz69_1
                                          try clear hfz69_2
                                          try clear hfz69_3
                                          try clear hfz70_0
                                          try clear hfz70_1
                                          try clear hfz70_2
                                          try clear hfz70_3
                                          try clear hx1392_0
                                          try clear hx40_0
                                          try clear p1
                                          try clear p13
                                          try clear p1392
                                          try clear p2
                                          try clear p4
                                          try clear p40
                                          try clear p6
                                          try clear q1
                                          try clear q13
                                          try clear q1392
                                          try clear q4
                                          try clear q40
                                          obtain ⟨kq, x125_64, rfl, HA, HJ64, HO_8, HO_15, BK1390, BK1418, HB⟩ := hcut
                                          cases kq with
                                          | zero => exact absurd HA.out (by simp [Lw_LineHard.j4])
                                          | succ kj64 =>
                                            have H := HA.out
                                            clear HA
                                            simp only [Lw_LineHard.j4] at H
                                            by_cases c79 : x125_64 = true
                                            · subst c79
                                              rw [if_pos rfl] at H
                                              exact absurd H (by simp)
                                            · replace c79 := Bool.eq_false_iff.mpr c79
                                              subst c79
                                              rw [if_neg (show ¬ (false = true) by decide)] at H
                                              have H' := m0 H
                                              clear H
                                              go_wp2
                                              go_loopg [17] kj64 (fun kq v17 w' => ∃ (x17_6 : Int), v17 = .int .i64 x17_6 ∧ Aside0 (Lw_LineHard.l1 kq t1397 t1422 x17_6 = some r) ∧ Aside0 (kq ≤ kj64) ∧ Aside0 (Kd.R (Kd.int .i64) 3 w' w.heap.size (fun k_ => some k_ ≠ (v1423 : Value).ownBlock) v1398 t1397) ∧ Aside0 (Kd.R (Kd.int .i64) 3 w' w.heap.size (fun k_ => some k_ ≠ (v1398 : Value).ownBlock) v1423 t1422) ∧ Aside0 (w'.heap[gb1390]? = some (.cells #[.int .i64 a1_0, .int .i64 a1_1, .int .i64 a1_2, .int .i64 a1_3] 94 (0, 0))) ∧ Aside0 (w'.heap[gb1418]? = some (.cells #[.int .i64 a1_0, .int .i64 a1_1, .int .i64 a1_2, .int .i64 (wrap64 (a1_3 + a2))] 94 (0, 0))) ∧ Aside0 (Below w.heap.size w w'))
                                              case atStart => exact ⟨(0), (by first | rfl | (simp; done) | (simp [*]; done)), H', ⟨Nat.le_refl _⟩, ⟨br HO_8.out⟩, ⟨br HO_15.out⟩, ⟨bk BK1390.out⟩, ⟨bk BK1418.out⟩, ⟨bz⟩⟩
                                              case round =>
                                                clear H'
                                                try clear c1
                                                try clear p1
                                                try clear q1
                                                try clear hx1
                                                try clear c2
                                                try clear p2
                                                try clear c3
                                                try clear p4
                                                try clear q4
                                                try clear hx4
                                                try clear hf4
                                                try clear c5
                                                try clear c6
                                                try clear c6b0
                                                try clear c6b1
                                                try clear p6
                                                try clear c7
                                                try clear c11
                                                try clear c11b0
                                                try clear c12
                                                try clear c12b0
                                                try clear c13
                                                try clear p13
                                                try clear q13
                                                try clear hx13
                                                try clear c14
                                                try clear c18
                                                try clear c18b0
                                                try clear c18b1
                                                try clear c26
                                                try clear c26b0
                                                try clear c26b1
                                                try clear c31
                                                try clear c33
                                                try clear c35
                                                try clear c35b0
                                                try clear c35b1
                                                try clear c36
                                                try clear c36b0
                                                try clear c36b1
                                                try clear c38
                                                try clear c38b0
                                                try clear c39
                                                try clear c39b0
                                                try clear p40
                                                try clear q40
                                                try clear hx40
                                                try clear hf40
                                                try clear c50
                                                try clear c54
                                                try clear c54b0
                                                try clear c54b1
                                                try clear c57
                                                try clear c60
                                                try clear c62
                                                try clear p64
                                                try clear c68
                                                try clear c71
                                                try clear c72
                                                try clear c76
                                                try clear c76b0
                                                try clear c76b1
                                                try clear c79
                                                try clear hcz24_0
                                                try clear hcz24_1
                                                try clear hcz24_2
                                                try clear hcz24_3
                                                try clear hcz29_0
                                                try clear hcz29_1
                                                try clear hcz29_2
                                                try clear hcz29_3
                                                try clear hcz43_0
                                                try clear hcz43_1
                                                try clear hcz43_2
                                                try clear hcz43_3
                                                try clear hcz46_0
                                                try clear hcz46_1
                                                try clear hcz46_2
                                                try clear hcz46_3
                                                try clear hcz51_0
                                                try clear hcz51_1
                                                try clear hcz51_2
                                                try clear hcz51_3
                                                try clear hcz56_0
                                                try clear hcz56_1
                                                try clear hcz56_2
                                                try clear hcz56_3
                                                try clear hcz61_0
                                                try clear hcz61_1
                                                try clear hcz61_2
                                                try clear hcz61_3
                                                try clear hcz66_0
                                                try clear hcz66_1
                                                try clear hcz66_2
                                                try clear hcz66_3
                                                try clear hcz69_0
                                                try clear hcz69_1
                                                try clear hcz69_2
                                                try clear hcz69_3
                                                try clear hcz70_0
                                                try clear hcz70_1
                                                try clear hcz70_2
                                                try clear hcz70_3
                                                try clear hfz24_0
                                                try clear hfz24_1
                                                try clear hfz24_2
                                                try clear hfz24_3
                                                try clear hfz29_0
                                                try clear hfz29_1
                                                try clear hfz29_2
                                                try clear hfz29_3
                                                try clear hfz43_0
                                                try clear hfz43_1
                                                try clear hfz43_2
                                                try clear hfz43_3
                                                try clear hfz46_0
                                                try clear hfz46_1
                                                try clear hfz46_2
                                                try clear hfz46_3
                                                try clear hfz51_0
                                                try clear hfz51_1
                                                try clear hfz51_2
                                                try clear hfz51_3
                                                try clear hfz56_0
                                                try clear hfz56_1
                                                try clear hfz56_2
                                                try clear hfz56_3
                                                try clear hfz61_0
                                                try clear hfz61_1
                                                try clear hfz61_2
                                                try clear hfz61_3
                                                try clear hfz66_0
                                                try clear hfz66_1
                                                try clear hfz66_2
                                                try clear hfz66_3
                                                try clear hfz69_0
                                                try clear hfz69_1
                                                try clear hfz69_2
                                                try clear hfz69_3
                                                try clear hfz70_0
                                                try clear hfz70_1
                                                try clear hfz70_2
                                                try clear hfz70_3
                                                try clear hx1392_0
                                                try clear hx40_0
                                                try clear p1
                                                try clear p13
                                                try clear p1392
                                                try clear p2
                                                try clear p4
                                                try clear p40
                                                try clear p6
                                                try clear p64
                                                try clear q1
                                                try clear q13
                                                try clear q1392
                                                try clear q4
                                                try clear q40
                                                obtain ⟨x17_6, rfl, HA, HK6, HO_8, HO_15, BK1390, BK1418, HB⟩ := hrel
                                                cases gk with
                                                | zero => exact absurd HA.out (by simp [Lw_LineHard.l1])
                                                | succ k6 =>
                                                  have H := HA.out
                                                  clear HA
                                                  simp only [Lw_LineHard.l1] at H
                                                  by_cases c80 : x17_6 < (t1422.length : Int)
                                                  · rw [if_pos c80] at H
                                                    have c80b0 := decide_eq_true c80
                                                    clear c80
                                                    by_cases c81 : 0 ≤ x17_6
                                                    · rw [if_pos c81] at H
                                                      have c81b0 := decide_eq_true c81
                                                      clear c81
                                                      replace H := ob H
                                                      obtain ⟨t1427, A820, H⟩ := H
                                                      (try dsimp only at H)
                                                      have A82 := m0 A820
                                                      clear A820
                                                      by_cases c83 : t1427 = true
                                                      · subst c83
                                                        rw [if_pos rfl] at H
                                                        have H' := m0 H
                                                        clear H
                                                        obtain ⟨Ao84, co84, eo84⟩ := Kd.R_slice HO_15.out
                                                        subst eo84
                                                        have p1426 : 0 ≤ (x17_6 : Int) := of_decide_eq_true (by first | (with_reducible assumption) | assumption)
                                                        have q1426 : x17_6 < (t1422.length : Int) := of_decide_eq_true (by first | (with_reducible assumption) | assumption)
                                                        obtain ⟨ad1426, e1426, hx1426_0⟩ := Kd.at_int (Kd.R_reads' HO_15.out).2.2 x17_6 p1426 q1426
                                                        cases e1426
                                                        replace p1426 := eq_true p1426
                                                        replace q1426 := eq_true q1426
                                                        obtain ⟨Ao85, co85, eo85⟩ := Kd.R_slice HO_8.out
                                                        subst eo85
                                                        go_wp2_with (first | ((with_reducible refine gate_callee (f := 44) rfl ?_); refine gl (some 137) Tryd.func44 #[.slice Ao85 t1397.length co85, .int .i64 (rd t1422 x17_6)] ?_; (with_reducible refine (Bs_Has.calls k6 _ _ t1397 (rd t1422 x17_6) true _ ?side1 ?side2 A82.out).mono ?_); (case side1 => exact bc (Kd.R_reads' HO_8.out).2.2); (case side2 => exact (Kd.R_reads' HO_8.out).2.1); rintro e w' ⟨rfl, ⟨nd, rfl⟩⟩; refine ⟨_, rfl, ?_⟩))
                                                        go_roundg k6
                                                        case measure => have := HK1.out; have := HJ18.out; have := HJ41.out; have := HJ57.out; have := HJ64.out; have := HK6.out; omega
                                                        case rel => exact ⟨(wrap64 (x17_6 + 1)), (by first | rfl | (simp; done) | (simp [*]; done)), H', ⟨by have := HK1.out; have := HJ18.out; have := HJ41.out; have := HJ57.out; have := HJ64.out; have := HK6.out; omega⟩, ⟨br HO_8.out⟩, ⟨br HO_15.out⟩, ⟨bk BK1390.out⟩, ⟨bk BK1418.out⟩, ⟨bz⟩⟩
                                                      · replace c83 := Bool.eq_false_iff.mpr c83
                                                        subst c83
                                                        rw [if_neg (show ¬ (false = true) by decide)] at H
                                                        exact absurd H (by simp)
                                                    · rw [if_neg c81] at H
                                                      exact absurd H (by simp)
                                                  · rw [if_neg c80] at H
                                                    have c80b0 := decide_eq_false c80
                                                    clear c80
                                                    obtain rfl := Option.some.inj H
                                                    obtain ⟨Ao86, co86, eo86⟩ := Kd.R_slice HO_15.out
                                                    subst eo86
                                                    go_wp2
                                                    go_ret
                                                    exact ⟨by first | rfl | (simp [errW_none, errW_some] <;> rfl) | (simp only [← hji34, ← hji37]; first | rfl | (simp [errW_none, errW_some] <;> rfl)) | (simp [*, errW_none, errW_some] <;> rfl), by repeat (first | (with_reducible first | exact HB.out | apply below_alloc | apply pw_below_drewN | apply below_drew1 | refine below_set ?_ GE1390.out | refine below_set ?_ GE1418.out) | exact HB.out)⟩
                          · rw [if_neg c39] at H
                            exact absurd H (by simp)
                        · rw [if_neg c38] at H
                          exact absurd H (by simp)
                      · rw [if_neg c36] at H
                        exact absurd H (by simp)
                    · rw [if_neg c35] at H
                      exact absurd H (by simp)
            · rw [if_neg c18] at H
              have c18b0 := beq_eq_false_iff_ne.mpr c18
              have c18b1 := bne_iff_ne.mpr c18
              by_cases c87 : t1400 = t1401
              · rw [if_pos c87] at H
                have c87b0 := beq_iff_eq.mpr c87
                have c87b1 := bne_eq_false_iff_eq.mpr c87
                clear c87
                obtain rfl := Option.some.inj H
                try go_wp2
                replace BK1390 := bd BK1390; replace HB := sd HB
                refine start_ (n := 9) (S := fun w' => w'.cell? ⟨gb1390, 0, none⟩ = some (.int .i64 a1_0) ∧ w'.cell? ⟨gb1390, 1, none⟩ = some (.int .i64 a1_1) ∧ w'.cell? ⟨gb1390, 2, none⟩ = some (.int .i64 a1_2) ∧ w'.cell? ⟨gb1390, 3, none⟩ = some (.int .i64 a1_3)) (ds := []) #[false, false, false, false, false, false, false, false, false] (by kernel_rfl) rfl rfl cz (fun hHeld => ?_); refine with_tabW Lw_LineHard.tab10 Lw_LineHard.bits10 (fun HT_ HW_ => ?_)
                generalize wr.drew = w88 at BK1390 HB hHeld ⊢
                refine pureZ (i := 0) (N := some 36) #[true, false, false, false, false, false, false, false, false] HT_ ?_
                refine takeZ 2 (some 38) #[true, false, true, false, false, false, false, false, false] (take_ofW HT_.out HW_.out (by kernel_rfl)) hHeld ?_
                refine oneZ 1 (some 37) #[true, true, true, false, false, false, false, false, false] (one_of HT_.out (by kernel_rfl)) fun K hK => ?_
                refine goes_ Tryd.func72 (by kernel_rfl) rfl #[.slice A0 l0.length c0] (by rfl) rfl rfl mz ?_
                with_reducible refine (Rf_CopyGates.calls k1 _ _ l0 t1394 _ ?side1 ?side2 A15.out).mono ?_
                (case side1 => exact cb HR0 HB)
                (case side2 => exact HC0.out)
                rintro e w89 ⟨v1395, rfl, ho0, hb⟩
                refine ⟨_, rfl, ?_⟩
                have HO1396 := m0 (Kd.N_lower (Kd.N_mono (ok' := fun k_ => k_ ≠ gb1390) (Kd.S_N (Kd.S_bound ho0)) (fun k_ hk_ => (Kd.freshB (g := gb1390) (o := .cells #[.int .i64 a1_0, .int .i64 a1_1, .int .i64 a1_2, .int .i64 a1_3] 94 (0, 0)) (bk BK1390.out) k_ hk_.2.1))) (below_size bz)); replace BK1390 := bb BK1390 hb; replace HB := sb HB hb
                (try clear hb)
                (try clear ho0)
                obtain ⟨Ao90, co90, eo90⟩ := Kd.N_slice HO1396.out
                (first | subst eo90 | (injection eo90 with f1_ f2_ f3_; have f4_ := f1_.symm; have f5_ := f3_.symm; clear f1_ f2_ f3_; subst f4_; subst f5_))
                refine hK.out _ _ cz (fun hHeld => ?_)
                clear hK K
                refine norm_ (a' := ?_) ?_ ?_
                rotate_left
                · show Act.put _ (some 37) _ = _
                  exact pz
                refine oneZ 3 (some 39) #[true, true, true, true, false, false, false, false, false] (one_of HT_.out (by kernel_rfl)) fun K hK => ?_
                refine goes_ Tryd.func71 (by kernel_rfl) rfl #[.slice Ao90 t1394.length co90, .agg #[.int .i64 a1_0, .int .i64 a1_1, .int .i64 a1_2, .int .i64 a1_3]] (by rfl) rfl rfl mz ?_
                with_reducible refine (line_HardIn.calls k1 _ _ t1394 a1_0 a1_1 a1_2 a1_3 t1397 t1400 _ ?side1 ?side2 A16.out).mono ?_
                (case side1 => repeat (first | exact (Kd.N_reads' HO1396.out).2.2 | (with_reducible refine Kd.C_alloc ?_ _) | (with_reducible refine Kd.C_drewN ?_ _) | (with_reducible refine Kd.C_drew ?_)))
                (case side2 => exact (Kd.N_reads' HO1396.out).2.1)
                rintro e w91 ⟨v1398, rfl, ho0, hb⟩
                refine ⟨_, rfl, ?_⟩
                replace HO1396 := m0 (Kd.N_elder' (by (with_reducible repeat (first | apply Kd.N_alloc | apply Kd.N_drewN | apply Kd.N_drew)); exact HO1396.out) (Kd.R_base ho0) hb); have HO1399 := m0 (Kd.R_lower ho0 (below_size bz)); replace BK1390 := bb BK1390 hb; replace HB := sb HB hb
                (try clear hb)
                (try clear ho0)
                refine hK.out _ _ cz (fun hHeld => ?_)
                clear hK K
                refine norm_ (a' := ?_) ?_ ?_
                rotate_left
                · show Act.put _ (some 39) _ = _
                  exact pz
                refine pureZ (i := 4) (N := some 35) #[true, true, true, true, true, false, false, false, false] HT_ ?_
                refine pureZ (i := 5) (N := some 40) #[true, true, true, true, true, true, false, false, false] HT_ ?_
                refine pureZ (i := 6) (N := some 41) #[true, true, true, true, true, true, true, false, false] HT_ ?_
                refine pureZ (i := 7) (N := some 8) #[true, true, true, true, true, true, true, true, false] HT_ ?_
                refine pureZ (i := 8) (N := some 9) #[true, true, true, true, true, true, true, true, true] HT_ ?_
                refine done_ (done_of HT_.out (by kernel_rfl)) ?_
                obtain ⟨_, _, _, _, _, _, _, _⟩ := b4 BK1390
                try go_wp2_with (first | ((with_reducible refine gate_callee (f := 73) rfl ?_); refine gl (some 44) Tryd.func73 #[.slice A0 l0.length c0, .agg #[.int .i64 a1_0, .int .i64 a1_1, .int .i64 a1_2, .int .i64 a1_3]] ?_; (with_reducible refine (Rf_HardErr.calls k1 _ _ l0 a1_0 a1_1 a1_2 a1_3 t1401 _ ?side1 ?side2 A17.out).mono ?_); (case side1 => exact cb HR0 HB); (case side2 => exact HC0.out); rintro e w93 ⟨rfl, hb⟩; refine ⟨_, rfl, ?_⟩; replace HO1396 := m0 (Kd.N_below (by (with_reducible repeat (first | apply Kd.N_alloc | apply Kd.N_drewN | apply Kd.N_drew)); exact HO1396.out) hb); replace HO1399 := rb HO1399 hb; replace BK1390 := bb BK1390 hb; replace HB := sb HB hb; (try clear hb); obtain ⟨Ao94, co94, eo94⟩ := Kd.R_slice HO1399.out; subst eo94))
                go_ret
                exact ez
              · rw [if_neg c87] at H
                exact absurd H (by simp)
  · replace c5 := Bool.eq_false_iff.mpr c5
    subst c5
    rw [if_neg (show ¬ (false = true) by decide)] at H
    exact absurd H (by simp)
end Go.Proofs.YtjnkphmcndaijaaDoor.A
