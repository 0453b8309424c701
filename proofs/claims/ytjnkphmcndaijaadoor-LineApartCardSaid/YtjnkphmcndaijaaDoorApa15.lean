/- Walks of the program's functions (printed, made shorter), each with what it computes. -/
import Derived.Test.YtjnkphmcndaijaaDoorApa04
import Derived.Test.YtjnkphmcndaijaaDoorApa05
import Derived.Test.YtjnkphmcndaijaaDoorApa13
import Derived.Test.YtjnkphmcndaijaaDoorApa14
import Derived.Test.YtjnkphmcndaijaaDoorApa03
namespace Go.Proofs.YtjnkphmcndaijaaDoor.A
open Go.RowKit Go.Proofs.YtjnkphmcndaijaaDoorW.PrintWords Go.Proofs.YtjnkphmcndaijaaDoorW.PrintLast Go.Proofs.YtjnkphmcndaijaaDoorW.PrintMore
attribute [local go_sem] max2_int min2_int max_two min_two max_three min_three max_four min_four
set_option linter.unusedVariables false
set_option linter.unusedSimpArgs false
mutual
def glidepathlaw02_LineApart.j0 : Nat → List Int → Int → Bool → Int → Int → Option (Bool)
  | 0, _, _, _, _, _ => none
  | k + 1, x0, x2, x30, x687000, x687001 => if x30 = true then (some true) else ((glidepathbase_CopyInts.f x0).bind fun t691 => ((line_DetectionsIn.f k t691 x687000 x687001).bind fun bt694 => ((glidepathbase_CopyInts.f x0).bind fun t698 => ((line_PeakOf.f k t698).bind fun bt701 => (if bt694.2 = 0 then (if bt701.2 = 0 then ((glidepathbase_Within.f bt701.1 0 (wrap64 ((x0.length : Int) - 1))).bind fun t703 => (if t703 = true then (glidepathlaw02_LineApart.j1 k x0 x2 bt694.1 bt701.1 (decide ((bt694.1.length : Int) > (x0.length : Int))) x687000 x687001) else (glidepathlaw02_LineApart.j1 k x0 x2 bt694.1 bt701.1 true x687000 x687001))) else (glidepathlaw02_LineApart.j1 k x0 x2 bt694.1 bt701.1 true x687000 x687001)) else (glidepathlaw02_LineApart.j1 k x0 x2 bt694.1 bt701.1 true x687000 x687001))))))
def glidepathlaw02_LineApart.j1 : Nat → List Int → Int → List Int → Int → Bool → Int → Int → Option (Bool)
  | 0, _, _, _, _, _, _, _ => none
  | k + 1, x0, x2, x7, x9, x64, x687000, x687001 => if x64 = true then (none) else (glidepathlaw02_LineApart.l0 k x0 x2 x7 x9 0 x687000 x687001)
def glidepathlaw02_LineApart.l0 : Nat → List Int → Int → List Int → Int → Int → Int → Int → Option (Bool)
  | 0, _, _, _, _, _, _, _ => none
  | k + 1, x0, x2, x7, x9, x11, x687000, x687001 => if x11 < (x7.length : Int) then (if 0 ≤ x11 then ((glidepathbase_Within.f (rd x7 x11) 0 (wrap64 ((x0.length : Int) - 1))).bind fun t705 => (if t705 = true then (if 0 ≤ (rd x7 x11) then (if (rd x7 x11) < (x0.length : Int) then (if (rd x0 (rd x7 x11)) < x687000 then (none) else (if x11 > 0 then (if 0 ≤ (wrap64 (x11 - 1)) then (if (wrap64 (x11 - 1)) < (x7.length : Int) then (if (rd x7 x11) ≤ (rd x7 (wrap64 (x11 - 1))) then (none) else (if (wrap64 ((rd x7 x11) - (rd x7 (wrap64 (x11 - 1))))) ≤ x687001 then (none) else (glidepathlaw02_LineApart.l0 k x0 x2 x7 x9 (wrap64 (x11 + 1)) x687000 x687001))) else (none)) else (none)) else (glidepathlaw02_LineApart.l0 k x0 x2 x7 x9 (wrap64 (x11 + 1)) x687000 x687001))) else (none)) else (none)) else (none))) else (none)) else ((glidepathbase_Has.f k x7 x9).bind fun t712 => (if 0 ≤ x9 then (if x9 < (x0.length : Int) then (if (t712 != (decide ((rd x0 x9) ≥ x687000))) = true then (none) else ((glidepathref02_RuleErr.f (wrap64 (x687000 + x2)) x687001).bind fun t715 => (if t715 = 0 then ((glidepathbase_CopyInts.f x0).bind fun t716 => ((line_DetectionsIn.f k t716 (wrap64 (x687000 + x2)) x687001).bind fun bt719 => (if bt719.2 = 0 then (glidepathlaw02_LineApart.l1 k x0 x7 bt719.1 0 (wrap64 (x687000 + x2)) x687001) else (none)))) else (some true)))) else (none)) else (none)))
def glidepathlaw02_LineApart.l1 : Nat → List Int → List Int → List Int → Int → Int → Int → Option (Bool)
  | 0, _, _, _, _, _, _ => none
  | k + 1, x0, x7, x13, x15, x715000, x715001 => if x15 < (x0.length : Int) then ((glidepathbase_Has.f k x13 x15).bind fun t723 => ((glidepathbase_Has.f k x7 x15).bind fun t724 => (if t724 = true then (if 0 ≤ x15 then (if (t723 != (decide ((rd x0 x15) ≥ x715000))) = true then (none) else (glidepathlaw02_LineApart.l1 k x0 x7 x13 (wrap64 (x15 + 1)) x715000 x715001)) else (none)) else (if (t723 != false) = true then (none) else (glidepathlaw02_LineApart.l1 k x0 x7 x13 (wrap64 (x15 + 1)) x715000 x715001))))) else (some true)
end
def glidepathlaw02_LineApart.f (k : Nat) (l0 : List Int) (a1_0 : Int) (a1_1 : Int) (a2 : Int) : Option (Bool) := (glidepathlaw02_awake.f k).bind fun t687 => (if t687 = true then ((glidepathref02_SpectrumErr.f k l0).bind fun t688 => (if t688 = 0 then ((glidepathref02_RuleErr.f a1_0 a1_1).bind fun t689 => (if t689 = 0 then ((glidepathbase_Within.f a2 0 100).bind fun t690 => (glidepathlaw02_LineApart.j0 k l0 a2 (!t690) a1_0 a1_1)) else (glidepathlaw02_LineApart.j0 k l0 a2 true a1_0 a1_1))) else (glidepathlaw02_LineApart.j0 k l0 a2 true a1_0 a1_1))) else (none))
theorem glidepathlaw02_LineApart.mono_l : ∀ k, (∀ y0 y1 y2 y3 y4, LeO (glidepathlaw02_LineApart.j0 k y0 y1 y2 y3 y4) (glidepathlaw02_LineApart.j0 (k + 1) y0 y1 y2 y3 y4)) ∧ (∀ y0 y1 y2 y3 y4 y5 y6, LeO (glidepathlaw02_LineApart.j1 k y0 y1 y2 y3 y4 y5 y6) (glidepathlaw02_LineApart.j1 (k + 1) y0 y1 y2 y3 y4 y5 y6)) ∧ (∀ y0 y1 y2 y3 y4 y5 y6, LeO (glidepathlaw02_LineApart.l0 k y0 y1 y2 y3 y4 y5 y6) (glidepathlaw02_LineApart.l0 (k + 1) y0 y1 y2 y3 y4 y5 y6)) ∧ (∀ y0 y1 y2 y3 y4 y5, LeO (glidepathlaw02_LineApart.l1 k y0 y1 y2 y3 y4 y5) (glidepathlaw02_LineApart.l1 (k + 1) y0 y1 y2 y3 y4 y5))
  | 0 => ⟨fun _ _ _ _ _ r h => by simp [glidepathlaw02_LineApart.j0] at h, fun _ _ _ _ _ _ _ r h => by simp [glidepathlaw02_LineApart.j1] at h, fun _ _ _ _ _ _ _ r h => by simp [glidepathlaw02_LineApart.l0] at h, fun _ _ _ _ _ _ r h => by simp [glidepathlaw02_LineApart.l1] at h⟩
  | k + 1 => by
    obtain ⟨ih0, ih1, ih2, ih3⟩ := glidepathlaw02_LineApart.mono_l k
    refine ⟨?_, ?_, ?_, ?_⟩
    · intro y0 y1 y2 y3 y4
      unfold glidepathlaw02_LineApart.j0
      repeat' first
      | (with_reducible exact ih0 _ _ _ _ _)
      | (with_reducible exact ih1 _ _ _ _ _ _ _)
      | (with_reducible exact ih2 _ _ _ _ _ _ _)
      | (with_reducible exact ih3 _ _ _ _ _ _)
      | (with_reducible exact glidepathbase_Has.mono _ _ _)
      | (with_reducible exact glidepathlaw02_awake.mono _)
      | (with_reducible exact glidepathref02_SpectrumErr.mono _ _)
      | (with_reducible exact line_DetectionsIn.mono _ _ _ _)
      | (with_reducible exact line_PeakOf.mono _ _)
      | (with_reducible exact LeO.refl _)
      | (with_reducible exact LeO.none _)
      | (with_reducible refine LeO.ite ?_ ?_)
      | (with_reducible refine LeO.bind ?_ (fun _ => ?_))
      | exact ih0 _ _ _ _ _
      | exact ih1 _ _ _ _ _ _ _
      | exact ih2 _ _ _ _ _ _ _
      | exact ih3 _ _ _ _ _ _
      | exact glidepathbase_Has.mono _ _ _
      | exact glidepathlaw02_awake.mono _
      | exact glidepathref02_SpectrumErr.mono _ _
      | exact line_DetectionsIn.mono _ _ _ _
      | exact line_PeakOf.mono _ _
      | exact LeO.none _
      | refine LeO.ite ?_ ?_
      | refine LeO.bind ?_ (fun _ => ?_)
    · intro y0 y1 y2 y3 y4 y5 y6
      unfold glidepathlaw02_LineApart.j1
      repeat' first
      | (with_reducible exact ih0 _ _ _ _ _)
      | (with_reducible exact ih1 _ _ _ _ _ _ _)
      | (with_reducible exact ih2 _ _ _ _ _ _ _)
      | (with_reducible exact ih3 _ _ _ _ _ _)
      | (with_reducible exact glidepathbase_Has.mono _ _ _)
      | (with_reducible exact glidepathlaw02_awake.mono _)
      | (with_reducible exact glidepathref02_SpectrumErr.mono _ _)
      | (with_reducible exact line_DetectionsIn.mono _ _ _ _)
      | (with_reducible exact line_PeakOf.mono _ _)
      | (with_reducible exact LeO.refl _)
      | (with_reducible exact LeO.none _)
      | (with_reducible refine LeO.ite ?_ ?_)
      | (with_reducible refine LeO.bind ?_ (fun _ => ?_))
      | exact ih0 _ _ _ _ _
      | exact ih1 _ _ _ _ _ _ _
      | exact ih2 _ _ _ _ _ _ _
      | exact ih3 _ _ _ _ _ _
      | exact glidepathbase_Has.mono _ _ _
      | exact glidepathlaw02_awake.mono _
      | exact glidepathref02_SpectrumErr.mono _ _
      | exact line_DetectionsIn.mono _ _ _ _
      | exact line_PeakOf.mono _ _
      | exact LeO.none _
      | refine LeO.ite ?_ ?_
      | refine LeO.bind ?_ (fun _ => ?_)
    · intro y0 y1 y2 y3 y4 y5 y6
      unfold glidepathlaw02_LineApart.l0
      repeat' first
      | (with_reducible exact ih0 _ _ _ _ _)
      | (with_reducible exact ih1 _ _ _ _ _ _ _)
      | (with_reducible exact ih2 _ _ _ _ _ _ _)
      | (with_reducible exact ih3 _ _ _ _ _ _)
      | (with_reducible exact glidepathbase_Has.mono _ _ _)
      | (with_reducible exact glidepathlaw02_awake.mono _)
      | (with_reducible exact glidepathref02_SpectrumErr.mono _ _)
      | (with_reducible exact line_DetectionsIn.mono _ _ _ _)
      | (with_reducible exact line_PeakOf.mono _ _)
      | (with_reducible exact LeO.refl _)
      | (with_reducible exact LeO.none _)
      | (with_reducible refine LeO.ite ?_ ?_)
      | (with_reducible refine LeO.bind ?_ (fun _ => ?_))
      | exact ih0 _ _ _ _ _
      | exact ih1 _ _ _ _ _ _ _
      | exact ih2 _ _ _ _ _ _ _
      | exact ih3 _ _ _ _ _ _
      | exact glidepathbase_Has.mono _ _ _
      | exact glidepathlaw02_awake.mono _
      | exact glidepathref02_SpectrumErr.mono _ _
      | exact line_DetectionsIn.mono _ _ _ _
      | exact line_PeakOf.mono _ _
      | exact LeO.none _
      | refine LeO.ite ?_ ?_
      | refine LeO.bind ?_ (fun _ => ?_)
    · intro y0 y1 y2 y3 y4 y5
      unfold glidepathlaw02_LineApart.l1
      repeat' first
      | (with_reducible exact ih0 _ _ _ _ _)
      | (with_reducible exact ih1 _ _ _ _ _ _ _)
      | (with_reducible exact ih2 _ _ _ _ _ _ _)
      | (with_reducible exact ih3 _ _ _ _ _ _)
      | (with_reducible exact glidepathbase_Has.mono _ _ _)
      | (with_reducible exact glidepathlaw02_awake.mono _)
      | (with_reducible exact glidepathref02_SpectrumErr.mono _ _)
      | (with_reducible exact line_DetectionsIn.mono _ _ _ _)
      | (with_reducible exact line_PeakOf.mono _ _)
      | (with_reducible exact LeO.refl _)
      | (with_reducible exact LeO.none _)
      | (with_reducible refine LeO.ite ?_ ?_)
      | (with_reducible refine LeO.bind ?_ (fun _ => ?_))
      | exact ih0 _ _ _ _ _
      | exact ih1 _ _ _ _ _ _ _
      | exact ih2 _ _ _ _ _ _ _
      | exact ih3 _ _ _ _ _ _
      | exact glidepathbase_Has.mono _ _ _
      | exact glidepathlaw02_awake.mono _
      | exact glidepathref02_SpectrumErr.mono _ _
      | exact line_DetectionsIn.mono _ _ _ _
      | exact line_PeakOf.mono _ _
      | exact LeO.none _
      | refine LeO.ite ?_ ?_
      | refine LeO.bind ?_ (fun _ => ?_)
theorem glidepathlaw02_LineApart.mono : ∀ a0 a1 a2 a3 k, LeO (glidepathlaw02_LineApart.f k a0 a1 a2 a3) (glidepathlaw02_LineApart.f (k + 1) a0 a1 a2 a3) := by
  intro a0 a1 a2 a3 k
  obtain ⟨ih0, ih1, ih2, ih3⟩ := glidepathlaw02_LineApart.mono_l k
  unfold glidepathlaw02_LineApart.f
  repeat' first
      | (with_reducible exact ih0 _ _ _ _ _)
      | (with_reducible exact ih1 _ _ _ _ _ _ _)
      | (with_reducible exact ih2 _ _ _ _ _ _ _)
      | (with_reducible exact ih3 _ _ _ _ _ _)
      | (with_reducible exact glidepathbase_Has.mono _ _ _)
      | (with_reducible exact glidepathlaw02_awake.mono _)
      | (with_reducible exact glidepathref02_SpectrumErr.mono _ _)
      | (with_reducible exact line_DetectionsIn.mono _ _ _ _)
      | (with_reducible exact line_PeakOf.mono _ _)
      | (with_reducible exact LeO.refl _)
      | (with_reducible exact LeO.none _)
      | (with_reducible refine LeO.ite ?_ ?_)
      | (with_reducible refine LeO.bind ?_ (fun _ => ?_))
      | exact ih0 _ _ _ _ _
      | exact ih1 _ _ _ _ _ _ _
      | exact ih2 _ _ _ _ _ _ _
      | exact ih3 _ _ _ _ _ _
      | exact glidepathbase_Has.mono _ _ _
      | exact glidepathlaw02_awake.mono _
      | exact glidepathref02_SpectrumErr.mono _ _
      | exact line_DetectionsIn.mono _ _ _ _
      | exact line_PeakOf.mono _ _
      | exact LeO.none _
      | refine LeO.ite ?_ ?_
      | refine LeO.bind ?_ (fun _ => ?_)
def glidepathlaw02_LineApart.T5 : Bool × List (List Nat × List Nat) := (true, [([], []), ([0], [0]), ([], []), ([1, 2, 1], [1, 2]), ([3], [3]), ([4], [4]), ([4], [4]), ([5, 3, 0, 1, 2, 3, 4, 5], [5]), ([6, 7, 0, 1, 2, 3, 4, 5, 6, 7], [6])])
def glidepathlaw02_LineApart.B5 : List Nat := [0, 1, 0, 7, 15, 31, 31, 63, 255]
theorem glidepathlaw02_LineApart.tab5 : rtab .any (opsOf Tryd.f6 5) = glidepathlaw02_LineApart.T5 := by kernel_rfl
theorem glidepathlaw02_LineApart.bits5 : waitsOk glidepathlaw02_LineApart.T5.2 glidepathlaw02_LineApart.B5 = true := by kernel_rfl
def glidepathlaw02_LineApart.T12 : Bool × List (List Nat × List Nat) := (true, [([], []), ([], []), ([0, 1], [0, 1]), ([2], [2]), ([], []), ([4], [4]), ([5], [5]), ([3, 6], [3, 6]), ([7], [7]), ([8, 7], [8]), ([9], [9]), ([9], [9]), ([9], [9]), ([11, 12, 9], [9, 11, 12]), ([13, 9], [9, 13]), ([10, 14, 9], [9, 10, 14]), ([15, 9], [9, 15]), ([9], [9]), ([17, 9], [9, 17]), ([16, 18, 9], [9, 16, 18]), ([9, 19], [9, 19]), ([20, 9], [20]), ([21], [21]), ([22, 21], [21, 22]), ([23, 21, 21], [21, 23]), ([24], [24]), ([24], [24]), ([25, 26, 24], [24, 25, 26]), ([27, 24], [24, 27]), ([24], [24]), ([24], [24]), ([30, 24], [24, 30]), ([29, 31, 24], [24, 29, 31]), ([32, 24], [24, 32]), ([28, 33, 24], [24, 28, 33]), ([34, 24, 24], [24, 34]), ([35], [35]), ([35], [35]), ([36, 37, 35], [35, 36, 37]), ([38, 35], [35, 38]), ([35], [35]), ([35], [35]), ([41, 35], [35, 41]), ([40, 42, 35], [35, 40, 42]), ([43, 35], [35, 43]), ([39, 44, 35], [35, 39, 44]), ([35], [35]), ([46, 35], [35, 46]), ([45, 47, 35], [35, 45, 47]), ([35, 48, 24], [24, 35, 48]), ([24, 49, 21], [21, 24, 49]), ([21, 50], [21, 50])])
def glidepathlaw02_LineApart.B12 : List Nat := [0, 0, 3, 7, 0, 16, 48, 127, 255, 511, 1023, 1023, 1023, 7167, 15359, 32767, 65535, 1023, 132095, 524287, 1048575, 2097151, 4194303, 8388607, 16777215, 33554431, 33554431, 134217727, 268435455, 33554431, 33554431, 1107296255, 3791650815, 8086618111, 17179869183, 34359738367, 68719476735, 68719476735, 274877906943, 549755813887, 68719476735, 68719476735, 2267742732287, 7765300871167, 16561393893375, 35184372088831, 68719476735, 70437463654399, 281474976710655, 562949953421311, 1125899906842623, 2251799813685247]
theorem glidepathlaw02_LineApart.tab12 : rtab .any (opsOf Tryd.f6 12) = glidepathlaw02_LineApart.T12 := by kernel_rfl
theorem glidepathlaw02_LineApart.bits12 : waitsOk glidepathlaw02_LineApart.T12.2 glidepathlaw02_LineApart.B12 = true := by kernel_rfl
def glidepathlaw02_LineApart.T14 : Bool × List (List Nat × List Nat) := (true, [([], []), ([], []), ([0, 1], [0, 1]), ([], []), ([], []), ([3, 4], [3, 4]), ([5], [5]), ([], []), ([7], [7]), ([6, 8], [6, 8]), ([2, 9], [2, 9])])
def glidepathlaw02_LineApart.B14 : List Nat := [0, 0, 3, 0, 0, 24, 56, 0, 128, 504, 1023]
theorem glidepathlaw02_LineApart.tab14 : rtab .any (opsOf Tryd.f6 14) = glidepathlaw02_LineApart.T14 := by kernel_rfl
theorem glidepathlaw02_LineApart.bits14 : waitsOk glidepathlaw02_LineApart.T14.2 glidepathlaw02_LineApart.B14 = true := by kernel_rfl
def glidepathlaw02_LineApart.T19 : Bool × List (List Nat × List Nat) := (true, [([], []), ([0], [0]), ([], []), ([1, 2, 1], [1, 2]), ([3], [3]), ([4], [4]), ([4], [4]), ([5, 3, 0, 1, 2, 3, 4, 5], [5]), ([6, 7, 0, 1, 2, 3, 4, 5, 6, 7], [6])])
def glidepathlaw02_LineApart.B19 : List Nat := [0, 1, 0, 7, 15, 31, 31, 63, 255]
theorem glidepathlaw02_LineApart.tab19 : rtab .any (opsOf Tryd.f6 19) = glidepathlaw02_LineApart.T19 := by kernel_rfl
theorem glidepathlaw02_LineApart.bits19 : waitsOk glidepathlaw02_LineApart.T19.2 glidepathlaw02_LineApart.B19 = true := by kernel_rfl
def glidepathlaw02_LineApart.T25 : Bool × List (List Nat × List Nat) := (true, [([], []), ([], []), ([0, 1], [0, 1]), ([], []), ([], []), ([3, 4, 2], [3, 4]), ([5, 5], [5]), ([6], [6]), ([6], [6]), ([7, 8, 6], [6, 7, 8]), ([9, 6], [6, 9]), ([6], [6]), ([11, 6], [6, 11]), ([10, 12, 6], [6, 10, 12]), ([6, 13], [6, 13]), ([2, 14], [2, 14])])
def glidepathlaw02_LineApart.B25 : List Nat := [0, 0, 3, 0, 0, 31, 63, 127, 127, 511, 1023, 127, 2175, 8191, 16383, 32767]
theorem glidepathlaw02_LineApart.tab25 : rtab .any (opsOf Tryd.f6 25) = glidepathlaw02_LineApart.T25 := by kernel_rfl
theorem glidepathlaw02_LineApart.bits25 : waitsOk glidepathlaw02_LineApart.T25.2 glidepathlaw02_LineApart.B25 = true := by kernel_rfl
set_option maxHeartbeats 8000000 in
set_option maxRecDepth 100000 in
theorem glidepathlaw02_LineApart.calls (k : Nat) (A0 : Option Addr) (c0 : Nat) (l0 : List Int) (a1_0 : Int) (a1_1 : Int) (a2 : Int) (r : Bool) (w : World) (hr0 : Kd.C (Kd.int .i64) w A0 l0.length l0) (hc0 : l0.length ≤ c0) (hG : EstG w) (h : glidepathlaw02_LineApart.f k l0 a1_0 a1_1 a2 = some r) :
    Calls Tryd.prog 6 #[.slice A0 l0.length c0, .agg #[.int .i64 a1_0, .int .i64 a1_1], .int .i64 a2] w fun e w' => e = .returned (.bool r) ∧ Below w.heap.size w w' := by
  have hu57 := Tryd.underlying57
  have HG := Aside0.mk hG
  clear hG
  have HR0 := Aside0.mk hr0
  have HC0 := Aside0.mk hc0
  clear hr0 hc0
  have HB := Aside0.mk (Below.refl w.heap.size w)
  have H : ((glidepathlaw02_awake.f k).bind fun t687 => (if t687 = true then ((glidepathref02_SpectrumErr.f k l0).bind fun t688 => (if t688 = 0 then ((glidepathref02_RuleErr.f a1_0 a1_1).bind fun t689 => (if t689 = 0 then ((glidepathbase_Within.f a2 0 100).bind fun t690 => (glidepathlaw02_LineApart.j0 k l0 a2 (!t690) a1_0 a1_1)) else (glidepathlaw02_LineApart.j0 k l0 a2 true a1_0 a1_1))) else (glidepathlaw02_LineApart.j0 k l0 a2 true a1_0 a1_1))) else (none))) = some r := h
  clear h
  replace H := Option.bind_eq_some_iff.mp H
  obtain ⟨t687, A40, H⟩ := H
  (try dsimp only at H)
  have A4 := Aside0.mk A40
  clear A40
  by_cases c5 : t687 = true
  · subst c5
    rw [if_pos rfl] at H
    have HC6 := Aside0.mk H
    clear H
    go_enter Tryd.func6, Tryd.ntmps6
    go_upto_region 3 with (first | ((with_reducible refine gate_dst (N := 4) rfl ?_); (try (refine gate_guard (by rfl) ?_; dsimp only)); refine be 4 57 #[.int .i64 a1_0, .int .i64 a1_1] ?_; intro gb686 hg w7 hbox hb; have BK686 := Aside0.mk hbox; have GW686 := Aside0.mk (bg (n := w.heap.size) hg); have GE686 := Aside0.mk (bg (n := w.heap.size) hg); replace HB := sb HB hb; clear hb hbox hg) | ((with_reducible refine gate_callee (f := 18) rfl ?_); refine gl (some 16) Tryd.func18 #[] ?_; (with_reducible refine (glidepathlaw02_awake.calls k  true _ ?side1 A4.out).mono ?_); (case side1 => exact EstG.below HG.out bz); rintro e w8 ⟨rfl, hb⟩; refine ⟨_, rfl, ?_⟩; replace BK686 := bb BK686 hb; replace HB := sb HB hb; (try clear hb)))
    (try simp only [Act.put, List.setIfInBounds_toArray, List.set_cons_zero, List.set_cons_succ])
    go_cut [30] (fun v30 wc => ∃ (kq : Nat) (x30_5 : Bool), v30 = .bool x30_5 ∧ Aside0 (glidepathlaw02_LineApart.j0 kq l0 a2 x30_5 a1_0 a1_1 = some r) ∧ Aside0 (kq ≤ k) ∧ Aside0 (wc.heap[gb686]? = some (.cells #[.int .i64 a1_0, .int .i64 a1_1] 57 (0, 0))) ∧ Aside0 (Below w.heap.size w wc))
    case first =>
      have H := HC6.out
      clear HC6
      replace H := Option.bind_eq_some_iff.mp H
      obtain ⟨t688, A90, H⟩ := H
      (try dsimp only at H)
      have A9 := Aside0.mk A90
      clear A90
      by_cases c10 : t688 = 0
      · rw [if_pos c10] at H
        have c10b0 := beq_iff_eq.mpr c10
        have c10b1 := bne_eq_false_iff_eq.mpr c10
        clear c10
        (first | rw [c10b0] | (simp only [i64_w, i32_w]; rw [c10b0]) | skip)
        replace H := Option.bind_eq_some_iff.mp H
        obtain ⟨t689, A110, H⟩ := H
        (try dsimp only at H)
        have A11 := Aside0.mk A110
        clear A110
        by_cases c12 : t689 = 0
        · rw [if_pos c12] at H
          have c12b0 := beq_iff_eq.mpr c12
          have c12b1 := bne_eq_false_iff_eq.mpr c12
          clear c12
          replace H := Option.bind_eq_some_iff.mp H
          obtain ⟨t690, A130, H⟩ := H
          (try dsimp only at H)
          have A13 := Aside0.mk A130
          clear A130
          have H' := Aside0.mk H
          clear H
          go_wp2_with (first | ((with_reducible refine gate_callee (f := 30) rfl ?_); refine gl (some 19) Tryd.func30 #[.slice A0 l0.length c0] ?_; (with_reducible refine (glidepathref02_SpectrumErr.calls k _ _ l0 t688 _ ?side1 ?side2 A9.out).mono ?_); (case side1 => exact bc (Kd.C_below HR0.out HB.out)); (case side2 => exact HC0.out); rintro e w' ⟨rfl, ⟨nd, rfl⟩⟩; refine ⟨_, rfl, ?_⟩; obtain ⟨hcz14_0, hcz14_1, hfz14_0, hfz14_1⟩ := b2 BK686) | (go_at_call 42; (with_reducible refine (glidepathref02_RuleErr.calls a1_0 a1_1 t689 _ A11.out).mono ?_); rintro e w15 ⟨rfl, hb⟩; replace BK686 := bb BK686 hb; replace HB := sb HB hb; (try clear hb)) | (go_at_call 31; (with_reducible refine (glidepathbase_Within.calls a2 0 100 t690 _ A13.out).mono ?_); rintro e w' ⟨rfl, ⟨nd, rfl⟩⟩))
          go_meet
          case rel => exact ⟨_, (!t690), (by first | rfl | (simp; done) | (simp [*]; done)), H', ⟨by first | omega | exact Nat.le_refl _⟩, ⟨by (with_reducible repeat (first | refine blk_drewN ?_ _ | refine blk_drew ?_ | refine blk_alloc ?_ _)); exact BK686.out⟩, ⟨by repeat (first | (with_reducible first | exact HB.out | apply below_alloc | apply pw_below_drewN | apply below_drew1 | refine below_set ?_ GE686.out) | exact HB.out)⟩⟩
        · rw [if_neg c12] at H
          have c12b0 := beq_eq_false_iff_ne.mpr c12
          have c12b1 := bne_iff_ne.mpr c12
          have H' := Aside0.mk H
          clear H
          go_wp2_with (first | ((with_reducible refine gate_callee (f := 30) rfl ?_); refine gl (some 19) Tryd.func30 #[.slice A0 l0.length c0] ?_; (with_reducible refine (glidepathref02_SpectrumErr.calls k _ _ l0 t688 _ ?side1 ?side2 A9.out).mono ?_); (case side1 => exact bc (Kd.C_below HR0.out HB.out)); (case side2 => exact HC0.out); rintro e w' ⟨rfl, ⟨nd, rfl⟩⟩; refine ⟨_, rfl, ?_⟩; obtain ⟨hcz16_0, hcz16_1, hfz16_0, hfz16_1⟩ := b2 BK686) | (go_at_call 42; (with_reducible refine (glidepathref02_RuleErr.calls a1_0 a1_1 t689 _ A11.out).mono ?_); rintro e w17 ⟨rfl, hb⟩; replace BK686 := bb BK686 hb; replace HB := sb HB hb; (try clear hb)))
          go_meet
          case rel => exact ⟨_, (true), (by first | rfl | (simp; done) | (simp [*]; done)), H', ⟨by first | omega | exact Nat.le_refl _⟩, ⟨by (with_reducible repeat (first | refine blk_drewN ?_ _ | refine blk_drew ?_ | refine blk_alloc ?_ _)); exact BK686.out⟩, ⟨by repeat (first | (with_reducible first | exact HB.out | apply below_alloc | apply pw_below_drewN | apply below_drew1 | refine below_set ?_ GE686.out) | exact HB.out)⟩⟩
      · rw [if_neg c10] at H
        have c10b0 := beq_eq_false_iff_ne.mpr c10
        have c10b1 := bne_iff_ne.mpr c10
        (first | rw [c10b0] | (simp only [i64_w, i32_w]; rw [c10b0]) | skip)
        have H' := Aside0.mk H
        clear H
        go_wp2_with (first | ((with_reducible refine gate_callee (f := 30) rfl ?_); refine gl (some 19) Tryd.func30 #[.slice A0 l0.length c0] ?_; (with_reducible refine (glidepathref02_SpectrumErr.calls k _ _ l0 t688 _ ?side1 ?side2 A9.out).mono ?_); (case side1 => exact bc (Kd.C_below HR0.out HB.out)); (case side2 => exact HC0.out); rintro e w' ⟨rfl, ⟨nd, rfl⟩⟩; refine ⟨_, rfl, ?_⟩))
        go_meet
        case rel => exact ⟨_, (true), (by first | rfl | (simp; done) | (simp [*]; done)), H', ⟨by first | omega | exact Nat.le_refl _⟩, ⟨by (with_reducible repeat (first | refine blk_drewN ?_ _ | refine blk_drew ?_ | refine blk_alloc ?_ _)); exact BK686.out⟩, ⟨by repeat (first | (with_reducible first | exact HB.out | apply below_alloc | apply pw_below_drewN | apply below_drew1 | refine below_set ?_ GE686.out) | exact HB.out)⟩⟩
    case rest =>
      clear HC6
      try clear c1
      try clear p2
      try clear c3
      try clear c5
      try clear c6
      try clear c10
      try clear c10b0
      try clear c10b1
      try clear c12
      try clear c12b0
      try clear c12b1
      try clear hcz14_0
      try clear hcz14_1
      try clear hcz16_0
      try clear hcz16_1
      try clear hfz14_0
      try clear hfz14_1
      try clear hfz16_0
      try clear hfz16_1
      obtain ⟨kq, x30_5, rfl, HA, HJ5, BK686, HB⟩ := hcut
      cases kq with
      | zero => exact absurd HA.out (by simp [glidepathlaw02_LineApart.j0])
      | succ kj5 =>
        have H := HA.out
        clear HA
        simp only [glidepathlaw02_LineApart.j0] at H
        by_cases c18 : x30_5 = true
        · subst c18
          rw [if_pos rfl] at H
          obtain rfl := Option.some.inj H
          go_wp2
          go_ret
          exact ez
        · replace c18 := Bool.eq_false_iff.mpr c18
          subst c18
          rw [if_neg (show ¬ (false = true) by decide)] at H
          replace H := Option.bind_eq_some_iff.mp H
          obtain ⟨t691, A190, H⟩ := H
          (try dsimp only at H)
          have A19 := Aside0.mk A190
          clear A190
          replace H := Option.bind_eq_some_iff.mp H
          obtain ⟨⟨t694, t697⟩, A200, H⟩ := H
          (try dsimp only at H)
          have A20 := Aside0.mk A200
          clear A200
          replace H := Option.bind_eq_some_iff.mp H
          obtain ⟨t698, A210, H⟩ := H
          (try dsimp only at H)
          have A21 := Aside0.mk A210
          clear A210
          replace H := Option.bind_eq_some_iff.mp H
          obtain ⟨⟨t701, t702⟩, A220, H⟩ := H
          (try dsimp only at H)
          have A22 := Aside0.mk A220
          clear A220
          have HC23 := Aside0.mk H
          clear H
          try go_wp2
          replace BK686 := Aside0.mk (blk_drew BK686.out); replace HB := Aside0.mk (below_drew1 HB.out)
          refine start_ (n := 9) (S := fun w' => w'.cell? ⟨gb686, 0, none⟩ = some (.int .i64 a1_0) ∧ w'.cell? ⟨gb686, 1, none⟩ = some (.int .i64 a1_1)) (ds := []) #[false, false, false, false, false, false, false, false, false] (by kernel_rfl) rfl rfl ⟨(blk_cell BK686.out 0).trans rfl, (blk_cell BK686.out 1).trans rfl⟩ (fun hHeld => ?_); refine with_tabW glidepathlaw02_LineApart.tab5 glidepathlaw02_LineApart.bits5 (fun HT_ HW_ => ?_)
          generalize wc.drew = w24 at BK686 HB hHeld ⊢
          refine pureZ (i := 0) (N := some 32) #[true, false, false, false, false, false, false, false, false] HT_ ?_
          refine take_ (i := 2) (N := some 34) (v := ?_) (a' := ?_) #[true, false, true, false, false, false, false, false, false] rfl rfl (take_ofW HT_.out HW_.out (by kernel_rfl)) (fun _ _ _ h => h) (Or.inl ⟨by rfl, ?_⟩) hHeld ?_ ?_
          rotate_left
          · rintro w' ⟨s0, s1⟩
            go_simp
            with_reducible rfl
          rotate_left
          · exact pz
          refine one_ (i := 1) (N := some 33) #[true, true, true, false, false, false, false, false, false] rfl rfl (one_of HT_.out (by kernel_rfl)) (by decide) (fun K hK => ?_)
          refine goes_ Tryd.func33 (by kernel_rfl) rfl #[.slice A0 l0.length c0] (by rfl) rfl rfl mz ?_
          with_reducible refine (glidepathbase_CopyInts.calls _ _ l0 t691 _ ?side1 ?side2 A19.out).mono ?_
          (case side1 => exact bc (Kd.C_below HR0.out HB.out))
          (case side2 => exact HC0.out)
          rintro e w25 ⟨v692, rfl, ho0, hb⟩
          refine ⟨_, rfl, ?_⟩
          have HO693 := Aside0.mk (Kd.R_lower ho0 (below_size bz)); replace BK686 := bb BK686 hb; replace HB := sb HB hb
          (try clear hb)
          (try clear hb2)
          (try clear hk)
          (try clear hi)
          (try clear ho0)
          obtain ⟨Ao26, co26, eo26⟩ := Kd.R_slice HO693.out
          (first | subst eo26 | (injection eo26 with f1_ f2_ f3_; have f4_ := f1_.symm; have f5_ := f3_.symm; clear f1_ f2_ f3_; subst f4_; subst f5_))
          refine hK.out _ _ ⟨(blk_cell BK686.out 0).trans rfl, (blk_cell BK686.out 1).trans rfl⟩ (fun hHeld => ?_)
          clear hK K
          refine norm_ (a' := ?_) ?_ ?_
          rotate_left
          · show Act.put _ (some 33) _ = _
            exact pz
          refine one_ (i := 3) (N := some 35) #[true, true, true, true, false, false, false, false, false] rfl rfl (one_of HT_.out (by kernel_rfl)) (by decide) (fun K hK => ?_)
          refine goes_ Tryd.func43 (by kernel_rfl) rfl #[.slice Ao26 t691.length co26, .agg #[.int .i64 a1_0, .int .i64 a1_1]] (by rfl) rfl rfl mz ?_
          with_reducible refine (line_DetectionsIn.calls kj5 _ _ t691 a1_0 a1_1 t694 t697 _ ?side1 ?side2 A20.out).mono ?_
          (case side1 => exact bc (Kd.R_reads' HO693.out).2.2)
          (case side2 => exact (Kd.R_reads' HO693.out).2.1)
          rintro e w27 ⟨v695, rfl, ho0, hb⟩
          refine ⟨_, rfl, ?_⟩
          have HO696 := Aside0.mk (Kd.R_lower (Kd.R_new' ho0 (Kd.R_lt (br HO693.out))) (below_size bz)); replace HO693 := Aside0.mk (Kd.R_elder' (br HO693.out) (Kd.R_base ho0) hb); replace BK686 := bb BK686 hb; replace HB := sb HB hb
          (try clear hb)
          (try clear hb2)
          (try clear hk)
          (try clear hi)
          (try clear ho0)
          refine hK.out _ _ ⟨(blk_cell BK686.out 0).trans rfl, (blk_cell BK686.out 1).trans rfl⟩ (fun hHeld => ?_)
          clear hK K
          refine norm_ (a' := ?_) ?_ ?_
          rotate_left
          · show Act.put _ (some 35) _ = _
            exact pz
          refine pureZ (i := 4) (N := some 31) #[true, true, true, true, true, false, false, false, false] HT_ ?_
          refine pureZ (i := 5) (N := some 36) #[true, true, true, true, true, true, false, false, false] HT_ ?_
          refine pureZ (i := 6) (N := some 37) #[true, true, true, true, true, true, true, false, false] HT_ ?_
          refine pureZ (i := 7) (N := some 7) #[true, true, true, true, true, true, true, true, false] HT_ ?_
          refine pureZ (i := 8) (N := some 8) #[true, true, true, true, true, true, true, true, true] HT_ ?_
          refine done_ (done_of HT_.out (by kernel_rfl)) ?_
          go_upto_region 7 with (first | ((with_reducible refine gate_callee (f := 33) rfl ?_); refine gl (some 40) Tryd.func33 #[.slice A0 l0.length c0] ?_; (with_reducible refine (glidepathbase_CopyInts.calls _ _ l0 t698 _ ?side1 ?side2 A21.out).mono ?_); (case side1 => exact bc (Kd.C_below HR0.out HB.out)); (case side2 => exact HC0.out); rintro e w28 ⟨v699, rfl, ho0, hb⟩; refine ⟨_, rfl, ?_⟩; have HO700 := Aside0.mk (Kd.R_lower (Kd.R_new' (Kd.R_new' ho0 (Kd.R_lt (br HO693.out))) (Kd.R_lt (br HO696.out))) (below_size bz)); replace HO693 := Aside0.mk (Kd.R_elder' (br HO693.out) (Kd.R_base ho0) hb); replace HO696 := Aside0.mk (Kd.R_elder' (br HO696.out) (Kd.R_base ho0) hb); replace BK686 := bb BK686 hb; replace HB := sb HB hb; (try clear hb); (try clear ho0); obtain ⟨Ao29, co29, eo29⟩ := Kd.R_slice HO700.out; subst eo29) | ((with_reducible refine gate_callee (f := 32) rfl ?_); refine gl (some 41) Tryd.func32 #[.slice Ao29 t698.length co29] ?_; (with_reducible refine (line_PeakOf.calls kj5 _ _ t698 t701 t702 _ ?side1 ?side2 A22.out).mono ?_); (case side1 => exact bc (Kd.R_reads' HO700.out).2.2); (case side2 => exact (Kd.R_reads' HO700.out).2.1); rintro e w30 ⟨rfl, hb⟩; refine ⟨_, rfl, ?_⟩; replace HO693 := rb HO693 hb; replace HO696 := rb HO696 hb; replace HO700 := rb HO700 hb; replace BK686 := bb BK686 hb; replace HB := sb HB hb; (try clear hb)))
          (try simp only [Act.put, List.setIfInBounds_toArray, List.set_cons_zero, List.set_cons_succ])
          go_cut [64] (fun v64 wc => ∃ (kq : Nat) (x64_22 : Bool), v64 = .bool x64_22 ∧ Aside0 (glidepathlaw02_LineApart.j1 kq l0 a2 t694 t701 x64_22 a1_0 a1_1 = some r) ∧ Aside0 (kq ≤ kj5) ∧ Aside0 (Kd.R (Kd.int .i64) 3 wc w.heap.size (fun _ => True) v695 t694) ∧ Aside0 (wc.heap[gb686]? = some (.cells #[.int .i64 a1_0, .int .i64 a1_1] 57 (0, 0))) ∧ Aside0 (Below w.heap.size w wc))
          case first =>
            have H := HC23.out
            clear HC23
            by_cases c31 : t697 = 0
            · rw [if_pos c31] at H
              have c31b0 := beq_iff_eq.mpr c31
              have c31b1 := bne_eq_false_iff_eq.mpr c31
              clear c31
              (first | rw [c31b0] | (simp only [i64_w, i32_w]; rw [c31b0]) | skip)
              by_cases c32 : t702 = 0
              · rw [if_pos c32] at H
                have c32b0 := beq_iff_eq.mpr c32
                have c32b1 := bne_eq_false_iff_eq.mpr c32
                clear c32
                replace H := Option.bind_eq_some_iff.mp H
                obtain ⟨t703, A330, H⟩ := H
                (try dsimp only at H)
                have A33 := Aside0.mk A330
                clear A330
                by_cases c34 : t703 = true
                · subst c34
                  rw [if_pos rfl] at H
                  have H' := Aside0.mk H
                  clear H
                  go_wp2_with (first | (go_at_call 31; (with_reducible refine (glidepathbase_Within.calls t701 0 (wrap64 ((l0.length : Int) - 1)) true _ A33.out).mono ?_); rintro e w' ⟨rfl, ⟨nd, rfl⟩⟩; obtain ⟨Ao35, co35, eo35⟩ := Kd.R_slice HO696.out; subst eo35))
                  go_meet
                  case rel => exact ⟨_, (decide ((t694.length : Int) > (l0.length : Int))), (by first | rfl | (simp; done) | (simp [*]; done)), H', ⟨by have := HJ5.out; first | omega | exact Nat.le_refl _⟩, ⟨by (with_reducible repeat (first | apply Kd.R_alloc | apply Kd.R_drewN | apply Kd.R_drew)); exact Kd.R_mono HO696.out (fun _ hk => trivial)⟩, ⟨by (with_reducible repeat (first | refine blk_drewN ?_ _ | refine blk_drew ?_ | refine blk_alloc ?_ _)); exact BK686.out⟩, ⟨by repeat (first | (with_reducible first | exact HB.out | apply below_alloc | apply pw_below_drewN | apply below_drew1 | refine below_set ?_ GE686.out) | exact HB.out)⟩⟩
                · replace c34 := Bool.eq_false_iff.mpr c34
                  subst c34
                  rw [if_neg (show ¬ (false = true) by decide)] at H
                  have H' := Aside0.mk H
                  clear H
                  go_wp2_with (first | (go_at_call 31; (with_reducible refine (glidepathbase_Within.calls t701 0 (wrap64 ((l0.length : Int) - 1)) false _ A33.out).mono ?_); rintro e w' ⟨rfl, ⟨nd, rfl⟩⟩))
                  go_meet
                  case rel => exact ⟨_, (true), (by first | rfl | (simp; done) | (simp [*]; done)), H', ⟨by have := HJ5.out; first | omega | exact Nat.le_refl _⟩, ⟨by (with_reducible repeat (first | apply Kd.R_alloc | apply Kd.R_drewN | apply Kd.R_drew)); exact Kd.R_mono HO696.out (fun _ hk => trivial)⟩, ⟨by (with_reducible repeat (first | refine blk_drewN ?_ _ | refine blk_drew ?_ | refine blk_alloc ?_ _)); exact BK686.out⟩, ⟨by repeat (first | (with_reducible first | exact HB.out | apply below_alloc | apply pw_below_drewN | apply below_drew1 | refine below_set ?_ GE686.out) | exact HB.out)⟩⟩
              · rw [if_neg c32] at H
                have c32b0 := beq_eq_false_iff_ne.mpr c32
                have c32b1 := bne_iff_ne.mpr c32
                have H' := Aside0.mk H
                clear H
                go_wp2
                go_meet
                case rel => exact ⟨_, (true), (by first | rfl | (simp; done) | (simp [*]; done)), H', ⟨by have := HJ5.out; first | omega | exact Nat.le_refl _⟩, ⟨by (with_reducible repeat (first | apply Kd.R_alloc | apply Kd.R_drewN | apply Kd.R_drew)); exact Kd.R_mono HO696.out (fun _ hk => trivial)⟩, ⟨by (with_reducible repeat (first | refine blk_drewN ?_ _ | refine blk_drew ?_ | refine blk_alloc ?_ _)); exact BK686.out⟩, ⟨by repeat (first | (with_reducible first | exact HB.out | apply below_alloc | apply pw_below_drewN | apply below_drew1 | refine below_set ?_ GE686.out) | exact HB.out)⟩⟩
            · rw [if_neg c31] at H
              have c31b0 := beq_eq_false_iff_ne.mpr c31
              have c31b1 := bne_iff_ne.mpr c31
              (first | rw [c31b0] | (simp only [i64_w, i32_w]; rw [c31b0]) | skip)
              have H' := Aside0.mk H
              clear H
              go_wp2
              go_meet
              case rel => exact ⟨_, (true), (by first | rfl | (simp; done) | (simp [*]; done)), H', ⟨by have := HJ5.out; first | omega | exact Nat.le_refl _⟩, ⟨by (with_reducible repeat (first | apply Kd.R_alloc | apply Kd.R_drewN | apply Kd.R_drew)); exact Kd.R_mono HO696.out (fun _ hk => trivial)⟩, ⟨by (with_reducible repeat (first | refine blk_drewN ?_ _ | refine blk_drew ?_ | refine blk_alloc ?_ _)); exact BK686.out⟩, ⟨by repeat (first | (with_reducible first | exact HB.out | apply below_alloc | apply pw_below_drewN | apply below_drew1 | refine below_set ?_ GE686.out) | exact HB.out)⟩⟩
          case rest =>
            clear HC23
            try clear c1
            try clear p2
            try clear c3
            try clear c4
            try clear c5
            try clear c6
            try clear p6
            try clear c10
            try clear c10b0
            try clear c10b1
            try clear c12
            try clear c12b0
            try clear c12b1
            try clear c18
            try clear c30
            try clear c31
            try clear c31b0
            try clear c31b1
            try clear c32
            try clear c32b0
            try clear c32b1
            try clear c33
            try clear c34
            try clear hcz14_0
            try clear hcz14_1
            try clear hcz16_0
            try clear hcz16_1
            try clear hfz14_0
            try clear hfz14_1
            try clear hfz16_0
            try clear hfz16_1
            try clear p2
            obtain ⟨kq, x64_22, rfl, HA, HJ22, HO_7, BK686, HB⟩ := hcut
            cases kq with
            | zero => exact absurd HA.out (by simp [glidepathlaw02_LineApart.j1])
            | succ kj22 =>
              have H := HA.out
              clear HA
              simp only [glidepathlaw02_LineApart.j1] at H
              by_cases c36 : x64_22 = true
              · subst c36
                rw [if_pos rfl] at H
                exact absurd H (by simp)
              · replace c36 := Bool.eq_false_iff.mpr c36
                subst c36
                rw [if_neg (show ¬ (false = true) by decide)] at H
                have H' := Aside0.mk H
                clear H
                go_wp2
                go_loopg [11] kj22 (fun kq v11 w' => ∃ (x11_3 : Int), v11 = .int .i64 x11_3 ∧ Aside0 (glidepathlaw02_LineApart.l0 kq l0 a2 t694 t701 x11_3 a1_0 a1_1 = some r) ∧ Aside0 (kq ≤ kj22) ∧ Aside0 (Kd.R (Kd.int .i64) 3 w' w.heap.size (fun _ => True) v695 t694) ∧ Aside0 (w'.heap[gb686]? = some (.cells #[.int .i64 a1_0, .int .i64 a1_1] 57 (0, 0))) ∧ Aside0 (Below w.heap.size w w'))
                case atStart => exact ⟨(0), (by first | rfl | (simp; done) | (simp [*]; done)), H', ⟨Nat.le_refl _⟩, ⟨by (with_reducible repeat (first | apply Kd.R_alloc | apply Kd.R_drewN | apply Kd.R_drew)); exact HO_7.out⟩, ⟨by (with_reducible repeat (first | refine blk_drewN ?_ _ | refine blk_drew ?_ | refine blk_alloc ?_ _)); exact BK686.out⟩, ⟨by repeat (first | (with_reducible first | exact HB.out | apply below_alloc | apply pw_below_drewN | apply below_drew1 | refine below_set ?_ GE686.out) | exact HB.out)⟩⟩
                case round =>
                  clear H'
                  try clear c1
                  try clear p2
                  try clear c3
                  try clear c4
                  try clear c5
                  try clear c6
                  try clear p6
                  try clear c10
                  try clear c10b0
                  try clear c10b1
                  try clear c12
                  try clear c12b0
                  try clear c12b1
                  try clear c18
                  try clear c30
                  try clear c31
                  try clear c31b0
                  try clear c31b1
                  try clear c32
                  try clear c32b0
                  try clear c32b1
                  try clear c33
                  try clear c34
                  try clear c36
                  try clear hcz14_0
                  try clear hcz14_1
                  try clear hcz16_0
                  try clear hcz16_1
                  try clear hfz14_0
                  try clear hfz14_1
                  try clear hfz16_0
                  try clear hfz16_1
                  try clear p2
                  try clear p6
                  obtain ⟨x11_3, rfl, HA, HK3, HO_7, BK686, HB⟩ := hrel
                  cases gk with
                  | zero => exact absurd HA.out (by simp [glidepathlaw02_LineApart.l0])
                  | succ k3 =>
                    have H := HA.out
                    clear HA
                    simp only [glidepathlaw02_LineApart.l0] at H
                    by_cases c37 : x11_3 < (t694.length : Int)
                    · rw [if_pos c37] at H
                      have c37b0 := decide_eq_true c37
                      clear c37
                      by_cases c38 : 0 ≤ x11_3
                      · rw [if_pos c38] at H
                        have c38b0 := decide_eq_true c38
                        clear c38
                        replace H := Option.bind_eq_some_iff.mp H
                        obtain ⟨t705, A390, H⟩ := H
                        (try dsimp only at H)
                        have A39 := Aside0.mk A390
                        clear A390
                        by_cases c40 : t705 = true
                        · subst c40
                          rw [if_pos rfl] at H
                          by_cases c41 : 0 ≤ (rd t694 x11_3)
                          · rw [if_pos c41] at H
                            have c41b0 := decide_eq_true c41
                            clear c41
                            by_cases c42 : (rd t694 x11_3) < (l0.length : Int)
                            · rw [if_pos c42] at H
                              have c42b0 := decide_eq_true c42
                              clear c42
                              by_cases c43 : (rd l0 (rd t694 x11_3)) < a1_0
                              · rw [if_pos c43] at H
                                have c43b0 := decide_eq_true c43
                                clear c43
                                exact absurd H (by simp)
                              · rw [if_neg c43] at H
                                have c43b0 := decide_eq_false c43
                                clear c43
                                by_cases c44 : x11_3 > 0
                                · rw [if_pos c44] at H
                                  have c44b0 := decide_eq_true c44
                                  clear c44
                                  obtain ⟨ji45, hji45⟩ : ∃ j_ : Int, (wrap64 (x11_3 - 1)) = j_ := ⟨_, rfl⟩
                                  replace H : (if 0 ≤ (ji45) then (if (ji45) < (t694.length : Int) then (if (rd t694 x11_3) ≤ (rd t694 (ji45)) then (none) else (if (wrap64 ((rd t694 x11_3) - (rd t694 (ji45)))) ≤ a1_1 then (none) else (glidepathlaw02_LineApart.l0 k3 l0 a2 t694 t701 (wrap64 (x11_3 + 1)) a1_0 a1_1))) else (none)) else (none)) = some r := by first | (rw [hji45] at H; exact H) | (simp only [hji45] at H ⊢; exact H)
                                  (try rw [hji45] at A39)
                                  have hji45w : (IntKind.i64.wrap (x11_3 - 1)) = ji45 := (i64_w _).trans hji45
                                  by_cases c46 : 0 ≤ (ji45)
                                  · rw [if_pos c46] at H
                                    have c46b0 := decide_eq_true c46
                                    clear c46
                                    by_cases c47 : (ji45) < (t694.length : Int)
                                    · rw [if_pos c47] at H
                                      have c47b0 := decide_eq_true c47
                                      clear c47
                                      by_cases c48 : (rd t694 x11_3) ≤ (rd t694 (ji45))
                                      · rw [if_pos c48] at H
                                        have c48b0 := decide_eq_true c48
                                        clear c48
                                        exact absurd H (by simp)
                                      · rw [if_neg c48] at H
                                        have c48b0 := decide_eq_false c48
                                        clear c48
                                        by_cases c49 : (wrap64 ((rd t694 x11_3) - (rd t694 (ji45)))) ≤ a1_1
                                        · rw [if_pos c49] at H
                                          exact absurd H (by simp)
                                        · rw [if_neg c49] at H
                                          have c49b0 := decide_eq_false c49
                                          clear c49
                                          have H' := Aside0.mk H
                                          clear H
                                          obtain ⟨Ao50, co50, eo50⟩ := Kd.R_slice HO_7.out
                                          subst eo50
                                          try go_wp2
                                          replace HO_7 := Aside0.mk (Kd.R_drew HO_7.out); replace BK686 := Aside0.mk (blk_drew BK686.out); replace HB := Aside0.mk (below_drew1 HB.out)
                                          have p704 : 0 ≤ (x11_3 : Int) := of_decide_eq_true (by first | (with_reducible assumption) | assumption)
                                          have q704 : x11_3 < (t694.length : Int) := of_decide_eq_true (by first | (with_reducible assumption) | assumption)
                                          obtain ⟨ad704, e704, hx704_0⟩ := Kd.at_int (Kd.R_reads' HO_7.out).2.2 x11_3 p704 q704
                                          cases e704
                                          replace p704 := eq_true p704
                                          replace q704 := eq_true q704
                                          have p706 : 0 ≤ (x11_3 : Int) := of_decide_eq_true (by first | (with_reducible assumption) | assumption)
                                          have q706 : x11_3 < (t694.length : Int) := of_decide_eq_true (by first | (with_reducible assumption) | assumption)
                                          obtain ⟨ad706, e706, hx706_0⟩ := Kd.at_int (Kd.R_reads' HO_7.out).2.2 x11_3 p706 q706
                                          obtain rfl : ad704 = ad706 := (by injection e706)
                                          replace p706 := eq_true p706
                                          replace q706 := eq_true q706
                                          have p707 : 0 ≤ ((rd t694 x11_3) : Int) := of_decide_eq_true (by first | (with_reducible assumption) | assumption)
                                          have q707 : (rd t694 x11_3) < (l0.length : Int) := of_decide_eq_true (by first | (with_reducible assumption) | assumption)
                                          obtain ⟨ad707, e707, hx707_0⟩ := Kd.at_int HR0.out (rd t694 x11_3) p707 q707
                                          have hw707_0 := hx707_0
                                          cases e707
                                          replace hx707_0 := (HB.out.cell (World.block_lt_of_cell? w _ hx707_0)).trans hx707_0
                                          replace p707 := eq_true p707
                                          replace q707 := eq_true q707
                                          have p708 : 0 ≤ (x11_3 : Int) := of_decide_eq_true (by first | (with_reducible assumption) | assumption)
                                          have q708 : x11_3 < (t694.length : Int) := of_decide_eq_true (by first | (with_reducible assumption) | assumption)
                                          obtain ⟨ad708, e708, hx708_0⟩ := Kd.at_int (Kd.R_reads' HO_7.out).2.2 x11_3 p708 q708
                                          obtain rfl : ad704 = ad708 := (by injection e708)
                                          replace p708 := eq_true p708
                                          replace q708 := eq_true q708
                                          have p709 : 0 ≤ ((ji45) : Int) := of_decide_eq_true (by first | (with_reducible assumption) | assumption)
                                          have q709 : (ji45) < (t694.length : Int) := of_decide_eq_true (by first | (with_reducible assumption) | assumption)
                                          obtain ⟨ad709, e709, hx709_0⟩ := Kd.at_int (Kd.R_reads' HO_7.out).2.2 (ji45) p709 q709
                                          obtain rfl : ad704 = ad709 := (by injection e709)
                                          replace p709 := eq_true p709
                                          replace q709 := eq_true q709
                                          have p710 : 0 ≤ (x11_3 : Int) := of_decide_eq_true (by first | (with_reducible assumption) | assumption)
                                          have q710 : x11_3 < (t694.length : Int) := of_decide_eq_true (by first | (with_reducible assumption) | assumption)
                                          obtain ⟨ad710, e710, hx710_0⟩ := Kd.at_int (Kd.R_reads' HO_7.out).2.2 x11_3 p710 q710
                                          obtain rfl : ad704 = ad710 := (by injection e710)
                                          replace p710 := eq_true p710
                                          replace q710 := eq_true q710
                                          have p711 : 0 ≤ ((ji45) : Int) := of_decide_eq_true (by first | (with_reducible assumption) | assumption)
                                          have q711 : (ji45) < (t694.length : Int) := of_decide_eq_true (by first | (with_reducible assumption) | assumption)
                                          obtain ⟨ad711, e711, hx711_0⟩ := Kd.at_int (Kd.R_reads' HO_7.out).2.2 (ji45) p711 q711
                                          obtain rfl : ad704 = ad711 := (by injection e711)
                                          replace p711 := eq_true p711
                                          replace q711 := eq_true q711
                                          refine start_ (n := 52) (S := fun w' => w'.cell? ⟨gb686, 0, none⟩ = some (.int .i64 a1_0) ∧ w'.cell? ⟨gb686, 1, none⟩ = some (.int .i64 a1_1) ∧ w'.cell? (ad704.add (x11_3).toNat) = some (.int .i64 (rd t694 x11_3)) ∧ w'.cell? (ad704.add (x11_3).toNat) = some (.int .i64 (rd t694 x11_3)) ∧ w'.cell? (ad707.add ((rd t694 x11_3)).toNat) = some (.int .i64 (rd l0 (rd t694 x11_3))) ∧ w'.cell? (ad704.add (x11_3).toNat) = some (.int .i64 (rd t694 x11_3)) ∧ w'.cell? (ad704.add ((ji45)).toNat) = some (.int .i64 (rd t694 (ji45))) ∧ w'.cell? (ad704.add (x11_3).toNat) = some (.int .i64 (rd t694 x11_3)) ∧ w'.cell? (ad704.add ((ji45)).toNat) = some (.int .i64 (rd t694 (ji45)))) (ds := []) #[false, false, false, false, false, false, false, false, false, false, false, false, false, false, false, false, false, false, false, false, false, false, false, false, false, false, false, false, false, false, false, false, false, false, false, false, false, false, false, false, false, false, false, false, false, false, false, false, false, false, false, false] (by kernel_rfl) rfl rfl ⟨(blk_cell BK686.out 0).trans rfl, (blk_cell BK686.out 1).trans rfl, hx704_0, hx706_0, ((HB.out.cell (World.block_lt_of_cell? w _ hw707_0)).trans hw707_0), hx708_0, hx709_0, hx710_0, hx711_0⟩ (fun hHeld => ?_); refine with_tabW glidepathlaw02_LineApart.tab12 glidepathlaw02_LineApart.bits12 (fun HT_ HW_ => ?_)
                                          generalize wr.drew = w51 at HO_7 BK686 HB hx704_0 hx706_0 hx707_0 hx708_0 hx709_0 hx710_0 hx711_0 hHeld ⊢
                                          refine pureZ (i := 0) (N := some 71) (bs 52 1) HT_ ?_
                                          refine pureZ (i := 1) (N := some 72) (bs 52 3) HT_ ?_
                                          refine pureZ (i := 2) (N := some 73) (bs 52 7) HT_ ?_
                                          refine pureZ (i := 4) (N := some 75) (bs 52 23) HT_ ?_
                                          refine pureZ (i := 5) (N := some 76) (bs 52 55) HT_ ?_
                                          refine pureZ (i := 6) (N := some 77) (bs 52 119) HT_ ?_
                                          refine take_ (i := 3) (N := some 74) (v := ?_) (a' := ?_) (bs 52 127) rfl rfl (take_ofW HT_.out HW_.out (by kernel_rfl)) (fun _ _ _ h => h) (Or.inl ⟨by rfl, ?_⟩) hHeld ?_ ?_
                                          rotate_left
                                          · rintro w' ⟨s0, s1, s2, s3, s4, s5, s6, s7, s8⟩
                                            go_simp
                                            with_reducible rfl
                                          rotate_left
                                          · exact pz
                                          refine one_ (i := 7) (N := some 78) (bs 52 255) rfl rfl (one_of HT_.out (by kernel_rfl)) (by decide) (fun K hK => ?_)
                                          refine goes_ Tryd.func31 (by kernel_rfl) rfl #[.int .i64 (rd t694 x11_3), .int .i64 0, .int .i64 (wrap64 ((l0.length : Int) - 1))] (by rfl) rfl rfl mz ?_
                                          with_reducible refine (glidepathbase_Within.calls (rd t694 x11_3) 0 (wrap64 ((l0.length : Int) - 1)) true _ A39.out).mono ?_
                                          rintro e w' ⟨rfl, ⟨nd, rfl⟩⟩
                                          refine ⟨_, rfl, ?_⟩
                                          refine hK.out _ _ ⟨(blk_cell BK686.out 0).trans rfl, (blk_cell BK686.out 1).trans rfl, hHeld.2.2.1, hHeld.2.2.2.1, ((HB.out.cell (World.block_lt_of_cell? w _ hw707_0)).trans hw707_0), hHeld.2.2.2.2.2.1, hHeld.2.2.2.2.2.2.1, hHeld.2.2.2.2.2.2.2.1, hHeld.2.2.2.2.2.2.2.2⟩ (fun hHeld => ?_)
                                          clear hK K
                                          refine norm_ (a' := ?_) ?_ ?_
                                          rotate_left
                                          · show Act.put _ (some 78) _ = _
                                            exact pz
                                          refine pureZ (i := 8) (N := some 79) (bs 52 511) HT_ ?_
                                          refine pureZ (i := 9) (N := some 80) (bs 52 1023) HT_ ?_
                                          refine pureZ (i := 10) (N := some 81) (bs 52 2047) HT_ ?_
                                          refine pureZ (i := 11) (N := some 82) (bs 52 4095) HT_ ?_
                                          refine pureZ (i := 12) (N := some 83) (bs 52 8191) HT_ ?_
                                          refine pureZ (i := 13) (N := some 84) (bs 52 16383) HT_ ?_
                                          refine pureZ (i := 17) (N := some 88) (bs 52 147455) HT_ ?_
                                          refine take_ (i := 14) (N := some 85) (v := ?_) (a' := ?_) (bs 52 163839) rfl rfl (take_ofW HT_.out HW_.out (by kernel_rfl)) (fun _ _ _ h => h) (Or.inl ⟨by rfl, ?_⟩) hHeld ?_ ?_
                                          rotate_left
                                          · rintro w' ⟨s0, s1, s2, s3, s4, s5, s6, s7, s8⟩
                                            go_simp
                                            with_reducible rfl
                                          rotate_left
                                          · exact pz
                                          refine pureZ (i := 15) (N := some 86) (bs 52 196607) HT_ ?_
                                          refine take_ (i := 16) (N := some 87) (v := ?_) (a' := ?_) (bs 52 262143) rfl rfl (take_ofW HT_.out HW_.out (by kernel_rfl)) (fun _ _ _ h => h) (Or.inl ⟨by rfl, ?_⟩) hHeld ?_ ?_
                                          rotate_left
                                          · rintro w' ⟨s0, s1, s2, s3, s4, s5, s6, s7, s8⟩
                                            go_simp
                                            with_reducible rfl
                                          rotate_left
                                          · exact pz
                                          refine take_ (i := 18) (N := some 89) (v := ?_) (a' := ?_) (bs 52 524287) rfl rfl (take_ofW HT_.out HW_.out (by kernel_rfl)) (fun _ _ _ h => h) (Or.inl ⟨by rfl, ?_⟩) hHeld ?_ ?_
                                          rotate_left
                                          · rintro w' ⟨s0, s1, s2, s3, s4, s5, s6, s7, s8⟩
                                            go_simp
                                            with_reducible rfl
                                          rotate_left
                                          · exact pz
                                          refine pureZ (i := 19) (N := some 90) (bs 52 1048575) HT_ ?_
                                          refine pureZ (i := 20) (N := some 91) (bs 52 2097151) HT_ ?_
                                          refine pureZ (i := 21) (N := some 92) (bs 52 4194303) HT_ ?_
                                          refine pureZ (i := 22) (N := some 93) (bs 52 8388607) HT_ ?_
                                          refine pureZ (i := 23) (N := some 94) (bs 52 16777215) HT_ ?_
                                          refine pureZ (i := 24) (N := some 95) (bs 52 33554431) HT_ ?_
                                          refine pureZ (i := 25) (N := some 96) (bs 52 67108863) HT_ ?_
                                          refine pureZ (i := 26) (N := some 97) (bs 52 134217727) HT_ ?_
                                          refine pureZ (i := 27) (N := some 98) (bs 52 268435455) HT_ ?_
                                          refine pureZ (i := 29) (N := some 100) (bs 52 805306367) HT_ ?_
                                          refine pureZ (i := 30) (N := some 101) (bs 52 1879048191) HT_ ?_
                                          refine pureZ (i := 31) (N := some 102) (bs 52 4026531839) HT_ ?_
                                          refine pureZ (i := 32) (N := some 103) (bs 52 8321499135) HT_ ?_
                                          refine take_ (i := 28) (N := some 99) (v := ?_) (a' := ?_) (bs 52 8589934591) rfl rfl (take_ofW HT_.out HW_.out (by kernel_rfl)) (fun _ _ _ h => h) (Or.inl ⟨by rfl, ?_⟩) hHeld ?_ ?_
                                          rotate_left
                                          · rintro w' ⟨s0, s1, s2, s3, s4, s5, s6, s7, s8⟩
                                            go_simp
                                            with_reducible rfl
                                          rotate_left
                                          · exact pz
                                          refine take_ (i := 33) (N := some 104) (v := ?_) (a' := ?_) (bs 52 17179869183) rfl rfl (take_ofW HT_.out HW_.out (by kernel_rfl)) (fun _ _ _ h => h) (Or.inl ⟨by rfl, ?_⟩) hHeld ?_ ?_
                                          rotate_left
                                          · rintro w' ⟨s0, s1, s2, s3, s4, s5, s6, s7, s8⟩
                                            go_simp
                                            with_reducible rfl
                                          rotate_left
                                          · exact pz
                                          refine pureZ (i := 34) (N := some 105) (bs 52 34359738367) HT_ ?_
                                          refine pureZ (i := 35) (N := some 106) (bs 52 68719476735) HT_ ?_
                                          refine pureZ (i := 36) (N := some 107) (bs 52 137438953471) HT_ ?_
                                          refine pureZ (i := 37) (N := some 108) (bs 52 274877906943) HT_ ?_
                                          refine pureZ (i := 38) (N := some 109) (bs 52 549755813887) HT_ ?_
                                          refine pureZ (i := 40) (N := some 111) (bs 52 1649267441663) HT_ ?_
                                          refine pureZ (i := 41) (N := some 112) (bs 52 3848290697215) HT_ ?_
                                          refine pureZ (i := 42) (N := some 113) (bs 52 8246337208319) HT_ ?_
                                          refine pureZ (i := 43) (N := some 114) (bs 52 17042430230527) HT_ ?_
                                          refine pureZ (i := 46) (N := some 117) (bs 52 87411174408191) HT_ ?_
                                          refine take_ (i := 39) (N := some 110) (v := ?_) (a' := ?_) (bs 52 87960930222079) rfl rfl (take_ofW HT_.out HW_.out (by kernel_rfl)) (fun _ _ _ h => h) (Or.inl ⟨by rfl, ?_⟩) hHeld ?_ ?_
                                          rotate_left
                                          · rintro w' ⟨s0, s1, s2, s3, s4, s5, s6, s7, s8⟩
                                            go_simp
                                            with_reducible rfl
                                          rotate_left
                                          · exact pz
                                          refine take_ (i := 44) (N := some 115) (v := ?_) (a' := ?_) (bs 52 105553116266495) rfl rfl (take_ofW HT_.out HW_.out (by kernel_rfl)) (fun _ _ _ h => h) (Or.inl ⟨by rfl, ?_⟩) hHeld ?_ ?_
                                          rotate_left
                                          · rintro w' ⟨s0, s1, s2, s3, s4, s5, s6, s7, s8⟩
                                            go_simp
                                            with_reducible rfl
                                          rotate_left
                                          · exact pz
                                          refine pureZ (i := 45) (N := some 116) (bs 52 140737488355327) HT_ ?_
                                          refine take_ (i := 47) (N := some 118) (v := ?_) (a' := ?_) (bs 52 281474976710655) rfl rfl (take_ofW HT_.out HW_.out (by kernel_rfl)) (fun _ _ _ h => h) (Or.inl ⟨by rfl, ?_⟩) hHeld ?_ ?_
                                          rotate_left
                                          · rintro w' ⟨s0, s1, s2, s3, s4, s5, s6, s7, s8⟩
                                            go_simp
                                            with_reducible rfl
                                          rotate_left
                                          · exact pz
                                          refine pureZ (i := 48) (N := some 119) (bs 52 562949953421311) HT_ ?_
                                          refine pureZ (i := 49) (N := some 120) (bs 52 1125899906842623) HT_ ?_
                                          refine pureZ (i := 50) (N := some 121) (bs 52 2251799813685247) HT_ ?_
                                          refine pureZ (i := 51) (N := some 122) (bs 52 4503599627370495) HT_ ?_
                                          refine done_ (done_of HT_.out (by kernel_rfl)) ?_
                                          try go_wp2
                                          go_roundg k3
                                          case measure => have := HJ5.out; have := HJ22.out; have := HK3.out; omega
                                          case rel => exact ⟨(wrap64 (x11_3 + 1)), (by first | rfl | (simp; done) | (simp [*]; done)), H', ⟨by have := HJ5.out; have := HJ22.out; have := HK3.out; omega⟩, ⟨by (with_reducible repeat (first | apply Kd.R_alloc | apply Kd.R_drewN | apply Kd.R_drew)); exact HO_7.out⟩, ⟨by (with_reducible repeat (first | refine blk_drewN ?_ _ | refine blk_drew ?_ | refine blk_alloc ?_ _)); exact BK686.out⟩, ⟨by repeat (first | (with_reducible first | exact HB.out | apply below_alloc | apply pw_below_drewN | apply below_drew1 | refine below_set ?_ GE686.out) | exact HB.out)⟩⟩
                                    · rw [if_neg c47] at H
                                      exact absurd H (by simp)
                                  · rw [if_neg c46] at H
                                    exact absurd H (by simp)
                                · rw [if_neg c44] at H
                                  have c44b0 := decide_eq_false c44
                                  clear c44
                                  have H' := Aside0.mk H
                                  clear H
                                  obtain ⟨Ao52, co52, eo52⟩ := Kd.R_slice HO_7.out
                                  subst eo52
                                  try go_wp2
                                  replace HO_7 := Aside0.mk (Kd.R_drew HO_7.out); replace BK686 := Aside0.mk (blk_drew BK686.out); replace HB := Aside0.mk (below_drew1 HB.out)
                                  have p704 : 0 ≤ (x11_3 : Int) := of_decide_eq_true (by first | (with_reducible assumption) | assumption)
                                  have q704 : x11_3 < (t694.length : Int) := of_decide_eq_true (by first | (with_reducible assumption) | assumption)
                                  obtain ⟨ad704, e704, hx704_0⟩ := Kd.at_int (Kd.R_reads' HO_7.out).2.2 x11_3 p704 q704
                                  cases e704
                                  replace p704 := eq_true p704
                                  replace q704 := eq_true q704
                                  have p706 : 0 ≤ (x11_3 : Int) := of_decide_eq_true (by first | (with_reducible assumption) | assumption)
                                  have q706 : x11_3 < (t694.length : Int) := of_decide_eq_true (by first | (with_reducible assumption) | assumption)
                                  obtain ⟨ad706, e706, hx706_0⟩ := Kd.at_int (Kd.R_reads' HO_7.out).2.2 x11_3 p706 q706
                                  obtain rfl : ad704 = ad706 := (by injection e706)
                                  replace p706 := eq_true p706
                                  replace q706 := eq_true q706
                                  have p707 : 0 ≤ ((rd t694 x11_3) : Int) := of_decide_eq_true (by first | (with_reducible assumption) | assumption)
                                  have q707 : (rd t694 x11_3) < (l0.length : Int) := of_decide_eq_true (by first | (with_reducible assumption) | assumption)
                                  obtain ⟨ad707, e707, hx707_0⟩ := Kd.at_int HR0.out (rd t694 x11_3) p707 q707
                                  have hw707_0 := hx707_0
                                  cases e707
                                  replace hx707_0 := (HB.out.cell (World.block_lt_of_cell? w _ hx707_0)).trans hx707_0
                                  replace p707 := eq_true p707
                                  replace q707 := eq_true q707
                                  refine start_ (n := 52) (S := fun w' => w'.cell? ⟨gb686, 0, none⟩ = some (.int .i64 a1_0) ∧ w'.cell? ⟨gb686, 1, none⟩ = some (.int .i64 a1_1) ∧ w'.cell? (ad704.add (x11_3).toNat) = some (.int .i64 (rd t694 x11_3)) ∧ w'.cell? (ad704.add (x11_3).toNat) = some (.int .i64 (rd t694 x11_3)) ∧ w'.cell? (ad707.add ((rd t694 x11_3)).toNat) = some (.int .i64 (rd l0 (rd t694 x11_3)))) (ds := []) #[false, false, false, false, false, false, false, false, false, false, false, false, false, false, false, false, false, false, false, false, false, false, false, false, false, false, false, false, false, false, false, false, false, false, false, false, false, false, false, false, false, false, false, false, false, false, false, false, false, false, false, false] (by kernel_rfl) rfl rfl ⟨(blk_cell BK686.out 0).trans rfl, (blk_cell BK686.out 1).trans rfl, hx704_0, hx706_0, ((HB.out.cell (World.block_lt_of_cell? w _ hw707_0)).trans hw707_0)⟩ (fun hHeld => ?_); refine with_tabW glidepathlaw02_LineApart.tab12 glidepathlaw02_LineApart.bits12 (fun HT_ HW_ => ?_)
                                  generalize wr.drew = w53 at HO_7 BK686 HB hx704_0 hx706_0 hx707_0 hHeld ⊢
                                  refine pureZ (i := 0) (N := some 71) (bs 52 1) HT_ ?_
                                  refine pureZ (i := 1) (N := some 72) (bs 52 3) HT_ ?_
                                  refine pureZ (i := 2) (N := some 73) (bs 52 7) HT_ ?_
                                  refine pureZ (i := 4) (N := some 75) (bs 52 23) HT_ ?_
                                  refine pureZ (i := 5) (N := some 76) (bs 52 55) HT_ ?_
                                  refine pureZ (i := 6) (N := some 77) (bs 52 119) HT_ ?_
                                  refine take_ (i := 3) (N := some 74) (v := ?_) (a' := ?_) (bs 52 127) rfl rfl (take_ofW HT_.out HW_.out (by kernel_rfl)) (fun _ _ _ h => h) (Or.inl ⟨by rfl, ?_⟩) hHeld ?_ ?_
                                  rotate_left
                                  · rintro w' ⟨s0, s1, s2, s3, s4⟩
                                    go_simp
                                    with_reducible rfl
                                  rotate_left
                                  · exact pz
                                  refine one_ (i := 7) (N := some 78) (bs 52 255) rfl rfl (one_of HT_.out (by kernel_rfl)) (by decide) (fun K hK => ?_)
                                  refine goes_ Tryd.func31 (by kernel_rfl) rfl #[.int .i64 (rd t694 x11_3), .int .i64 0, .int .i64 (wrap64 ((l0.length : Int) - 1))] (by rfl) rfl rfl mz ?_
                                  with_reducible refine (glidepathbase_Within.calls (rd t694 x11_3) 0 (wrap64 ((l0.length : Int) - 1)) true _ A39.out).mono ?_
                                  rintro e w' ⟨rfl, ⟨nd, rfl⟩⟩
                                  refine ⟨_, rfl, ?_⟩
                                  refine hK.out _ _ ⟨(blk_cell BK686.out 0).trans rfl, (blk_cell BK686.out 1).trans rfl, hHeld.2.2.1, hHeld.2.2.2.1, ((HB.out.cell (World.block_lt_of_cell? w _ hw707_0)).trans hw707_0)⟩ (fun hHeld => ?_)
                                  clear hK K
                                  refine norm_ (a' := ?_) ?_ ?_
                                  rotate_left
                                  · show Act.put _ (some 78) _ = _
                                    exact pz
                                  refine pureZ (i := 8) (N := some 79) (bs 52 511) HT_ ?_
                                  refine pureZ (i := 9) (N := some 80) (bs 52 1023) HT_ ?_
                                  refine pureZ (i := 10) (N := some 81) (bs 52 2047) HT_ ?_
                                  refine pureZ (i := 11) (N := some 82) (bs 52 4095) HT_ ?_
                                  refine pureZ (i := 12) (N := some 83) (bs 52 8191) HT_ ?_
                                  refine pureZ (i := 13) (N := some 84) (bs 52 16383) HT_ ?_
                                  refine pureZ (i := 17) (N := some 88) (bs 52 147455) HT_ ?_
                                  refine take_ (i := 14) (N := some 85) (v := ?_) (a' := ?_) (bs 52 163839) rfl rfl (take_ofW HT_.out HW_.out (by kernel_rfl)) (fun _ _ _ h => h) (Or.inl ⟨by rfl, ?_⟩) hHeld ?_ ?_
                                  rotate_left
                                  · rintro w' ⟨s0, s1, s2, s3, s4⟩
                                    go_simp
                                    with_reducible rfl
                                  rotate_left
                                  · exact pz
                                  refine pureZ (i := 15) (N := some 86) (bs 52 196607) HT_ ?_
                                  refine take_ (i := 16) (N := some 87) (v := ?_) (a' := ?_) (bs 52 262143) rfl rfl (take_ofW HT_.out HW_.out (by kernel_rfl)) (fun _ _ _ h => h) (Or.inl ⟨by rfl, ?_⟩) hHeld ?_ ?_
                                  rotate_left
                                  · rintro w' ⟨s0, s1, s2, s3, s4⟩
                                    go_simp
                                    with_reducible rfl
                                  rotate_left
                                  · exact pz
                                  refine take_ (i := 18) (N := some 89) (v := ?_) (a' := ?_) (bs 52 524287) rfl rfl (take_ofW HT_.out HW_.out (by kernel_rfl)) (fun _ _ _ h => h) (Or.inl ⟨by rfl, ?_⟩) hHeld ?_ ?_
                                  rotate_left
                                  · rintro w' ⟨s0, s1, s2, s3, s4⟩
                                    go_simp
                                    with_reducible rfl
                                  rotate_left
                                  · exact pz
                                  refine pureZ (i := 19) (N := some 90) (bs 52 1048575) HT_ ?_
                                  refine pureZ (i := 20) (N := some 91) (bs 52 2097151) HT_ ?_
                                  refine pureZ (i := 21) (N := some 92) (bs 52 4194303) HT_ ?_
                                  refine pureZ (i := 22) (N := some 93) (bs 52 8388607) HT_ ?_
                                  refine pureZ (i := 23) (N := some 94) (bs 52 16777215) HT_ ?_
                                  refine pureZ (i := 24) (N := some 95) (bs 52 33554431) HT_ ?_
                                  refine pure_ (i := 25) (N := some 96) (v := undef) (a' := ?_) (bs 52 67108863) rfl rfl (any_of HT_.out (by kernel_rfl)) (fun _ _ _ h => h) (Or.inr ⟨by rfl, rfl⟩) ?_ ?_
                                  rotate_left
                                  · exact pz
                                  refine pure_ (i := 26) (N := some 97) (v := undef) (a' := ?_) (bs 52 134217727) rfl rfl (any_of HT_.out (by kernel_rfl)) (fun _ _ _ h => h) (Or.inr ⟨by rfl, rfl⟩) ?_ ?_
                                  rotate_left
                                  · exact pz
                                  refine pure_ (i := 27) (N := some 98) (v := undef) (a' := ?_) (bs 52 268435455) rfl rfl (any_of HT_.out (by kernel_rfl)) (fun _ _ _ h => h) (Or.inr ⟨by rfl, rfl⟩) ?_ ?_
                                  rotate_left
                                  · exact pz
                                  refine pure_ (i := 28) (N := some 99) (v := undef) (a' := ?_) (bs 52 536870911) rfl rfl (any_of HT_.out (by kernel_rfl)) (fun _ _ _ h => h) (Or.inr ⟨by rfl, rfl⟩) ?_ ?_
                                  rotate_left
                                  · exact pz
                                  refine pure_ (i := 29) (N := some 100) (v := undef) (a' := ?_) (bs 52 1073741823) rfl rfl (any_of HT_.out (by kernel_rfl)) (fun _ _ _ h => h) (Or.inr ⟨by rfl, rfl⟩) ?_ ?_
                                  rotate_left
                                  · exact pz
                                  refine pure_ (i := 30) (N := some 101) (v := undef) (a' := ?_) (bs 52 2147483647) rfl rfl (any_of HT_.out (by kernel_rfl)) (fun _ _ _ h => h) (Or.inr ⟨by rfl, rfl⟩) ?_ ?_
                                  rotate_left
                                  · exact pz
                                  refine pure_ (i := 31) (N := some 102) (v := undef) (a' := ?_) (bs 52 4294967295) rfl rfl (any_of HT_.out (by kernel_rfl)) (fun _ _ _ h => h) (Or.inr ⟨by rfl, rfl⟩) ?_ ?_
                                  rotate_left
                                  · exact pz
                                  refine pure_ (i := 32) (N := some 103) (v := undef) (a' := ?_) (bs 52 8589934591) rfl rfl (any_of HT_.out (by kernel_rfl)) (fun _ _ _ h => h) (Or.inr ⟨by rfl, rfl⟩) ?_ ?_
                                  rotate_left
                                  · exact pz
                                  refine pure_ (i := 33) (N := some 104) (v := undef) (a' := ?_) (bs 52 17179869183) rfl rfl (any_of HT_.out (by kernel_rfl)) (fun _ _ _ h => h) (Or.inr ⟨by rfl, rfl⟩) ?_ ?_
                                  rotate_left
                                  · exact pz
                                  refine pure_ (i := 34) (N := some 105) (v := undef) (a' := ?_) (bs 52 34359738367) rfl rfl (any_of HT_.out (by kernel_rfl)) (fun _ _ _ h => h) (Or.inr ⟨by rfl, rfl⟩) ?_ ?_
                                  rotate_left
                                  · exact pz
                                  refine pure_ (i := 35) (N := some 106) (v := undef) (a' := ?_) (bs 52 68719476735) rfl rfl (any_of HT_.out (by kernel_rfl)) (fun _ _ _ h => h) (Or.inr ⟨by rfl, rfl⟩) ?_ ?_
                                  rotate_left
                                  · exact pz
                                  refine pure_ (i := 36) (N := some 107) (v := undef) (a' := ?_) (bs 52 137438953471) rfl rfl (any_of HT_.out (by kernel_rfl)) (fun _ _ _ h => h) (Or.inr ⟨by rfl, rfl⟩) ?_ ?_
                                  rotate_left
                                  · exact pz
                                  refine pure_ (i := 37) (N := some 108) (v := undef) (a' := ?_) (bs 52 274877906943) rfl rfl (any_of HT_.out (by kernel_rfl)) (fun _ _ _ h => h) (Or.inr ⟨by rfl, rfl⟩) ?_ ?_
                                  rotate_left
                                  · exact pz
                                  refine pure_ (i := 38) (N := some 109) (v := undef) (a' := ?_) (bs 52 549755813887) rfl rfl (any_of HT_.out (by kernel_rfl)) (fun _ _ _ h => h) (Or.inr ⟨by rfl, rfl⟩) ?_ ?_
                                  rotate_left
                                  · exact pz
                                  refine pure_ (i := 39) (N := some 110) (v := undef) (a' := ?_) (bs 52 1099511627775) rfl rfl (any_of HT_.out (by kernel_rfl)) (fun _ _ _ h => h) (Or.inr ⟨by rfl, rfl⟩) ?_ ?_
                                  rotate_left
                                  · exact pz
                                  refine pure_ (i := 40) (N := some 111) (v := undef) (a' := ?_) (bs 52 2199023255551) rfl rfl (any_of HT_.out (by kernel_rfl)) (fun _ _ _ h => h) (Or.inr ⟨by rfl, rfl⟩) ?_ ?_
                                  rotate_left
                                  · exact pz
                                  refine pure_ (i := 41) (N := some 112) (v := undef) (a' := ?_) (bs 52 4398046511103) rfl rfl (any_of HT_.out (by kernel_rfl)) (fun _ _ _ h => h) (Or.inr ⟨by rfl, rfl⟩) ?_ ?_
                                  rotate_left
                                  · exact pz
                                  refine pure_ (i := 42) (N := some 113) (v := undef) (a' := ?_) (bs 52 8796093022207) rfl rfl (any_of HT_.out (by kernel_rfl)) (fun _ _ _ h => h) (Or.inr ⟨by rfl, rfl⟩) ?_ ?_
                                  rotate_left
                                  · exact pz
                                  refine pure_ (i := 43) (N := some 114) (v := undef) (a' := ?_) (bs 52 17592186044415) rfl rfl (any_of HT_.out (by kernel_rfl)) (fun _ _ _ h => h) (Or.inr ⟨by rfl, rfl⟩) ?_ ?_
                                  rotate_left
                                  · exact pz
                                  refine pure_ (i := 44) (N := some 115) (v := undef) (a' := ?_) (bs 52 35184372088831) rfl rfl (any_of HT_.out (by kernel_rfl)) (fun _ _ _ h => h) (Or.inr ⟨by rfl, rfl⟩) ?_ ?_
                                  rotate_left
                                  · exact pz
                                  refine pure_ (i := 45) (N := some 116) (v := undef) (a' := ?_) (bs 52 70368744177663) rfl rfl (any_of HT_.out (by kernel_rfl)) (fun _ _ _ h => h) (Or.inr ⟨by rfl, rfl⟩) ?_ ?_
                                  rotate_left
                                  · exact pz
                                  refine pure_ (i := 46) (N := some 117) (v := undef) (a' := ?_) (bs 52 140737488355327) rfl rfl (any_of HT_.out (by kernel_rfl)) (fun _ _ _ h => h) (Or.inr ⟨by rfl, rfl⟩) ?_ ?_
                                  rotate_left
                                  · exact pz
                                  refine pure_ (i := 47) (N := some 118) (v := undef) (a' := ?_) (bs 52 281474976710655) rfl rfl (any_of HT_.out (by kernel_rfl)) (fun _ _ _ h => h) (Or.inr ⟨by rfl, rfl⟩) ?_ ?_
                                  rotate_left
                                  · exact pz
                                  refine pure_ (i := 48) (N := some 119) (v := undef) (a' := ?_) (bs 52 562949953421311) rfl rfl (any_of HT_.out (by kernel_rfl)) (fun _ _ _ h => h) (Or.inr ⟨by rfl, rfl⟩) ?_ ?_
                                  rotate_left
                                  · exact pz
                                  refine pure_ (i := 49) (N := some 120) (v := undef) (a' := ?_) (bs 52 1125899906842623) rfl rfl (any_of HT_.out (by kernel_rfl)) (fun _ _ _ h => h) (Or.inr ⟨by rfl, rfl⟩) ?_ ?_
                                  rotate_left
                                  · exact pz
                                  refine pureZ (i := 50) (N := some 121) (bs 52 2251799813685247) HT_ ?_
                                  refine pureZ (i := 51) (N := some 122) (bs 52 4503599627370495) HT_ ?_
                                  refine done_ (done_of HT_.out (by kernel_rfl)) ?_
                                  try go_wp2
                                  go_roundg k3
                                  case measure => have := HJ5.out; have := HJ22.out; have := HK3.out; omega
                                  case rel => exact ⟨(wrap64 (x11_3 + 1)), (by first | rfl | (simp; done) | (simp [*]; done)), H', ⟨by have := HJ5.out; have := HJ22.out; have := HK3.out; omega⟩, ⟨by (with_reducible repeat (first | apply Kd.R_alloc | apply Kd.R_drewN | apply Kd.R_drew)); exact HO_7.out⟩, ⟨by (with_reducible repeat (first | refine blk_drewN ?_ _ | refine blk_drew ?_ | refine blk_alloc ?_ _)); exact BK686.out⟩, ⟨by repeat (first | (with_reducible first | exact HB.out | apply below_alloc | apply pw_below_drewN | apply below_drew1 | refine below_set ?_ GE686.out) | exact HB.out)⟩⟩
                            · rw [if_neg c42] at H
                              exact absurd H (by simp)
                          · rw [if_neg c41] at H
                            exact absurd H (by simp)
                        · replace c40 := Bool.eq_false_iff.mpr c40
                          subst c40
                          rw [if_neg (show ¬ (false = true) by decide)] at H
                          exact absurd H (by simp)
                      · rw [if_neg c38] at H
                        exact absurd H (by simp)
                    · rw [if_neg c37] at H
                      have c37b0 := decide_eq_false c37
                      clear c37
                      replace H := Option.bind_eq_some_iff.mp H
                      obtain ⟨t712, A540, H⟩ := H
                      (try dsimp only at H)
                      have A54 := Aside0.mk A540
                      clear A540
                      by_cases c55 : 0 ≤ t701
                      · rw [if_pos c55] at H
                        have c55b0 := decide_eq_true c55
                        clear c55
                        by_cases c56 : t701 < (l0.length : Int)
                        · rw [if_pos c56] at H
                          have c56b0 := decide_eq_true c56
                          clear c56
                          by_cases c57 : (t712 != (decide ((rd l0 t701) ≥ a1_0))) = true
                          · rw [if_pos c57] at H
                            exact absurd H (by simp)
                          · rw [if_neg c57] at H
                            have c57b0 : (t712 != (decide ((rd l0 t701) ≥ a1_0))) = false := by simpa using c57
                            (try (have c57b1 : decide (t712 = (decide ((rd l0 t701) ≥ a1_0))) = true := by simpa using c57))
                            (try (have c57b2 : (t712 == (decide ((rd l0 t701) ≥ a1_0))) = true := by simpa using c57))
                            clear c57
                            replace H := Option.bind_eq_some_iff.mp H
                            obtain ⟨t715, A580, H⟩ := H
                            (try dsimp only at H)
                            have A58 := Aside0.mk A580
                            clear A580
                            by_cases c59 : t715 = 0
                            · rw [if_pos c59] at H
                              have c59b0 := beq_iff_eq.mpr c59
                              have c59b1 := bne_eq_false_iff_eq.mpr c59
                              clear c59
                              replace H := Option.bind_eq_some_iff.mp H
                              obtain ⟨t716, A600, H⟩ := H
                              (try dsimp only at H)
                              have A60 := Aside0.mk A600
                              clear A600
                              replace H := Option.bind_eq_some_iff.mp H
                              obtain ⟨⟨t719, t722⟩, A610, H⟩ := H
                              (try dsimp only at H)
                              have A61 := Aside0.mk A610
                              clear A610
                              by_cases c62 : t722 = 0
                              · rw [if_pos c62] at H
                                have c62b0 := beq_iff_eq.mpr c62
                                have c62b1 := bne_eq_false_iff_eq.mpr c62
                                clear c62
                                have H' := Aside0.mk H
                                clear H
                                obtain ⟨Ao63, co63, eo63⟩ := Kd.R_slice HO_7.out
                                subst eo63
                                try go_wp2
                                replace HO_7 := Aside0.mk (Kd.R_drew HO_7.out); replace BK686 := Aside0.mk (blk_drew BK686.out); replace HB := Aside0.mk (below_drew1 HB.out)
                                have p713 : 0 ≤ (t701 : Int) := of_decide_eq_true (by first | (with_reducible assumption) | assumption)
                                have q713 : t701 < (l0.length : Int) := of_decide_eq_true (by first | (with_reducible assumption) | assumption)
                                obtain ⟨ad713, e713, hx713_0⟩ := Kd.at_int HR0.out t701 p713 q713
                                have hw713_0 := hx713_0
                                cases e713
                                replace hx713_0 := (HB.out.cell (World.block_lt_of_cell? w _ hx713_0)).trans hx713_0
                                replace p713 := eq_true p713
                                replace q713 := eq_true q713
                                refine start_ (n := 11) (S := fun w' => w'.cell? ⟨gb686, 0, none⟩ = some (.int .i64 a1_0) ∧ w'.cell? ⟨gb686, 1, none⟩ = some (.int .i64 a1_1) ∧ w'.cell? (ad713.add (t701).toNat) = some (.int .i64 (rd l0 t701))) (ds := []) #[false, false, false, false, false, false, false, false, false, false, false] (by kernel_rfl) rfl rfl ⟨(blk_cell BK686.out 0).trans rfl, (blk_cell BK686.out 1).trans rfl, ((HB.out.cell (World.block_lt_of_cell? w _ hw713_0)).trans hw713_0)⟩ (fun hHeld => ?_); refine with_tabW glidepathlaw02_LineApart.tab14 glidepathlaw02_LineApart.bits14 (fun HT_ HW_ => ?_)
                                generalize wr.drew = w64 at HO_7 BK686 HB hx713_0 hHeld ⊢
                                refine pureZ (i := 0) (N := some 123) #[true, false, false, false, false, false, false, false, false, false, false] HT_ ?_
                                refine pureZ (i := 1) (N := some 124) #[true, true, false, false, false, false, false, false, false, false, false] HT_ ?_
                                refine pureZ (i := 3) (N := some 126) #[true, true, false, true, false, false, false, false, false, false, false] HT_ ?_
                                refine pureZ (i := 4) (N := some 127) #[true, true, false, true, true, false, false, false, false, false, false] HT_ ?_
                                refine pureZ (i := 5) (N := some 128) #[true, true, false, true, true, true, false, false, false, false, false] HT_ ?_
                                refine pureZ (i := 7) (N := some 130) #[true, true, false, true, true, true, false, true, false, false, false] HT_ ?_
                                refine take_ (i := 6) (N := some 129) (v := ?_) (a' := ?_) #[true, true, false, true, true, true, true, true, false, false, false] rfl rfl (take_ofW HT_.out HW_.out (by kernel_rfl)) (fun _ _ _ h => h) (Or.inl ⟨by rfl, ?_⟩) hHeld ?_ ?_
                                rotate_left
                                · rintro w' ⟨s0, s1, s2⟩
                                  go_simp
                                  with_reducible rfl
                                rotate_left
                                · exact pz
                                refine take_ (i := 8) (N := some 131) (v := ?_) (a' := ?_) #[true, true, false, true, true, true, true, true, true, false, false] rfl rfl (take_ofW HT_.out HW_.out (by kernel_rfl)) (fun _ _ _ h => h) (Or.inl ⟨by rfl, ?_⟩) hHeld ?_ ?_
                                rotate_left
                                · rintro w' ⟨s0, s1, s2⟩
                                  go_simp
                                  with_reducible rfl
                                rotate_left
                                · exact pz
                                refine pureZ (i := 9) (N := some 132) #[true, true, false, true, true, true, true, true, true, true, false] HT_ ?_
                                refine one_ (i := 2) (N := some 125) #[true, true, true, true, true, true, true, true, true, true, false] rfl rfl (one_of HT_.out (by kernel_rfl)) (by decide) (fun K hK => ?_)
                                refine goes_ Tryd.func44 (by kernel_rfl) rfl #[.slice Ao63 t694.length co63, .int .i64 t701] (by rfl) rfl rfl mz ?_
                                with_reducible refine (glidepathbase_Has.calls k3 _ _ t694 t701 t712 _ ?side1 ?side2 A54.out).mono ?_
                                (case side1 => exact bc (Kd.R_reads' HO_7.out).2.2)
                                (case side2 => exact (Kd.R_reads' HO_7.out).2.1)
                                rintro e w' ⟨rfl, ⟨nd, rfl⟩⟩
                                refine ⟨_, rfl, ?_⟩
                                refine hK.out _ _ ⟨(blk_cell BK686.out 0).trans rfl, (blk_cell BK686.out 1).trans rfl, ((HB.out.cell (World.block_lt_of_cell? w _ hw713_0)).trans hw713_0)⟩ (fun hHeld => ?_)
                                clear hK K
                                refine norm_ (a' := ?_) ?_ ?_
                                rotate_left
                                · show Act.put _ (some 125) _ = _
                                  exact pz
                                refine pureZ (i := 10) (N := some 133) #[true, true, true, true, true, true, true, true, true, true, true] HT_ ?_
                                refine done_ (done_of HT_.out (by kernel_rfl)) ?_
                                obtain ⟨hcz65_0, hcz65_1, hfz65_0, hfz65_1⟩ := b2 BK686
                                try go_wp2_with (first | ((with_reducible refine gate_dst (N := 12) rfl ?_); (try (refine gate_guard (by rfl) ?_; dsimp only)); refine be 12 57 #[.int .i64 0, .int .i64 0] ?_; intro gb714 hg w66 hbox hb; replace HO_7 := rb HO_7 hb; have BK714 := Aside0.mk hbox; have GW714 := Aside0.mk (bg (n := w.heap.size) hg); have GE714 := Aside0.mk (bg (n := w.heap.size) hg); replace HB := sb HB hb; have NB686_714 := nl BK686 hg; have NB714_686 := ng (nl BK686 hg); replace BK686 := bb BK686 hb; clear hb hbox hg; have hnb67 := NB714_686.out; have hnc67 := NB686_714.out; obtain ⟨hcz68_0, hcz68_1, hfz68_0, hfz68_1⟩ := b2 BK714) | ((with_reducible refine gate_callee (f := 42) rfl ?_); refine gl (some 142) Tryd.func42 #[.agg #[.int .i64 (wrap64 (a1_0 + a2)), .int .i64 a1_1]] ?_; (with_reducible refine (glidepathref02_RuleErr.calls (wrap64 (a1_0 + a2)) a1_1 t715 _ A58.out).mono ?_); rintro e w69 ⟨rfl, hb⟩; refine ⟨_, rfl, ?_⟩; replace HO_7 := Aside0.mk (Kd.R_below (by (with_reducible repeat (first | apply Kd.R_alloc | apply Kd.R_drewN | apply Kd.R_drew)); exact (Kd.R_mono (Kd.R_far (p := ⟨gb714, 1, none⟩) (Kd.R_far (p := ⟨gb714, 0, none⟩) (Kd.R_types HO_7.out BK714.out (by decide)) (fun _ hk => hk.2) (.int .i64 (wrap64 (a1_0 + a2)))) (fun _ hk => hk.2) (.int .i64 a1_1)) (fun _ h_ => h_.1))) hb); replace BK686 := Aside0.mk (blk_below (g := gb686) (o := .cells #[.int .i64 a1_0, .int .i64 a1_1] 57 (0, 0)) (by (with_reducible repeat (first | refine blk_drewN ?_ _ | refine blk_drew ?_ | refine blk_alloc ?_ _)); refine blk_far ?_ NB686_714.out _; (with_reducible repeat (first | refine blk_drewN ?_ _ | refine blk_drew ?_ | refine blk_alloc ?_ _)); refine blk_far ?_ NB686_714.out _; (with_reducible repeat (first | refine blk_drewN ?_ _ | refine blk_drew ?_ | refine blk_alloc ?_ _)); exact BK686.out) hb); replace BK714 := Aside0.mk (blk_below (g := gb714) (o := .cells #[.int .i64 (wrap64 (a1_0 + a2)), .int .i64 a1_1] 57 (0, 0)) (by (with_reducible repeat (first | refine blk_drewN ?_ _ | refine blk_drew ?_ | refine blk_alloc ?_ _)); refine blk_put (cs := #[.int .i64 (wrap64 (a1_0 + a2)), .int .i64 0]) ?_ 1 _ rfl; (with_reducible repeat (first | refine blk_drewN ?_ _ | refine blk_drew ?_ | refine blk_alloc ?_ _)); refine blk_put (cs := #[.int .i64 0, .int .i64 0]) ?_ 0 _ rfl; (with_reducible repeat (first | refine blk_drewN ?_ _ | refine blk_drew ?_ | refine blk_alloc ?_ _)); exact BK714.out) hb); replace HB := sb HB hb; (try clear hb)))
                                replace HO_7 := Aside0.mk (Kd.R_drew HO_7.out); replace BK686 := Aside0.mk (blk_drew BK686.out); replace BK714 := Aside0.mk (blk_drew BK714.out); replace HB := Aside0.mk (below_drew1 HB.out)
                                refine start_ (n := 9) (S := fun w' => w'.cell? ⟨gb714, 0, none⟩ = some (.int .i64 (wrap64 (a1_0 + a2))) ∧ w'.cell? ⟨gb714, 1, none⟩ = some (.int .i64 a1_1)) (ds := []) #[false, false, false, false, false, false, false, false, false] (by kernel_rfl) rfl rfl ⟨(blk_cell BK714.out 0).trans rfl, (blk_cell BK714.out 1).trans rfl⟩ (fun hHeld => ?_); refine with_tabW glidepathlaw02_LineApart.tab19 glidepathlaw02_LineApart.bits19 (fun HT_ HW_ => ?_)
                                generalize w69.drew = w70 at HO_7 BK686 BK714 HB hHeld ⊢
                                refine pureZ (i := 0) (N := some 145) #[true, false, false, false, false, false, false, false, false] HT_ ?_
                                refine take_ (i := 2) (N := some 147) (v := ?_) (a' := ?_) #[true, false, true, false, false, false, false, false, false] rfl rfl (take_ofW HT_.out HW_.out (by kernel_rfl)) (fun _ _ _ h => h) (Or.inl ⟨by rfl, ?_⟩) hHeld ?_ ?_
                                rotate_left
                                · rintro w' ⟨s0, s1⟩
                                  go_simp
                                  with_reducible rfl
                                rotate_left
                                · exact pz
                                refine one_ (i := 1) (N := some 146) #[true, true, true, false, false, false, false, false, false] rfl rfl (one_of HT_.out (by kernel_rfl)) (by decide) (fun K hK => ?_)
                                refine goes_ Tryd.func33 (by kernel_rfl) rfl #[.slice (some ad713) l0.length c0] (by rfl) rfl rfl mz ?_
                                with_reducible refine (glidepathbase_CopyInts.calls _ _ l0 t716 _ ?side1 ?side2 A60.out).mono ?_
                                (case side1 => exact bc (Kd.C_below HR0.out HB.out))
                                (case side2 => exact HC0.out)
                                rintro e w71 ⟨v717, rfl, ho0, hb⟩
                                refine ⟨_, rfl, ?_⟩
                                have HO718 := Aside0.mk (Kd.R_lower (Kd.R_new' ho0 (Kd.R_lt (br HO_7.out))) (below_size bz)); replace HO_7 := Aside0.mk (Kd.R_elder' (br HO_7.out) (Kd.R_base ho0) hb); replace BK686 := bb BK686 hb; replace BK714 := bb BK714 hb; replace HB := sb HB hb
                                (try clear hb)
                                (try clear hb2)
                                (try clear hk)
                                (try clear hi)
                                (try clear ho0)
                                obtain ⟨Ao72, co72, eo72⟩ := Kd.R_slice HO718.out
                                (first | subst eo72 | (injection eo72 with f1_ f2_ f3_; have f4_ := f1_.symm; have f5_ := f3_.symm; clear f1_ f2_ f3_; subst f4_; subst f5_))
                                refine hK.out _ _ ⟨(blk_cell BK714.out 0).trans rfl, (blk_cell BK714.out 1).trans rfl⟩ (fun hHeld => ?_)
                                clear hK K
                                refine norm_ (a' := ?_) ?_ ?_
                                rotate_left
                                · show Act.put _ (some 146) _ = _
                                  exact pz
                                refine one_ (i := 3) (N := some 148) #[true, true, true, true, false, false, false, false, false] rfl rfl (one_of HT_.out (by kernel_rfl)) (by decide) (fun K hK => ?_)
                                refine goes_ Tryd.func43 (by kernel_rfl) rfl #[.slice Ao72 t716.length co72, .agg #[.int .i64 (wrap64 (a1_0 + a2)), .int .i64 a1_1]] (by rfl) rfl rfl mz ?_
                                with_reducible refine (line_DetectionsIn.calls k3 _ _ t716 (wrap64 (a1_0 + a2)) a1_1 t719 t722 _ ?side1 ?side2 A61.out).mono ?_
                                (case side1 => exact bc (Kd.R_reads' HO718.out).2.2)
                                (case side2 => exact (Kd.R_reads' HO718.out).2.1)
                                rintro e w73 ⟨v720, rfl, ho0, hb⟩
                                refine ⟨_, rfl, ?_⟩
                                have HO721 := Aside0.mk (Kd.R_lower (Kd.R_new' (Kd.R_new' ho0 (Kd.R_lt (br HO_7.out))) (Kd.R_lt (br HO718.out))) (below_size bz)); replace HO_7 := Aside0.mk (Kd.R_elder' (br HO_7.out) (Kd.R_base ho0) hb); replace HO718 := Aside0.mk (Kd.R_elder' (br HO718.out) (Kd.R_base ho0) hb); replace BK686 := bb BK686 hb; replace BK714 := bb BK714 hb; replace HB := sb HB hb
                                (try clear hb)
                                (try clear hb2)
                                (try clear hk)
                                (try clear hi)
                                (try clear ho0)
                                refine hK.out _ _ ⟨(blk_cell BK714.out 0).trans rfl, (blk_cell BK714.out 1).trans rfl⟩ (fun hHeld => ?_)
                                clear hK K
                                refine norm_ (a' := ?_) ?_ ?_
                                rotate_left
                                · show Act.put _ (some 148) _ = _
                                  exact pz
                                refine pureZ (i := 4) (N := some 144) #[true, true, true, true, true, false, false, false, false] HT_ ?_
                                refine pureZ (i := 5) (N := some 149) #[true, true, true, true, true, true, false, false, false] HT_ ?_
                                refine pureZ (i := 6) (N := some 150) #[true, true, true, true, true, true, true, false, false] HT_ ?_
                                refine pureZ (i := 7) (N := some 13) #[true, true, true, true, true, true, true, true, false] HT_ ?_
                                refine pureZ (i := 8) (N := some 14) #[true, true, true, true, true, true, true, true, true] HT_ ?_
                                refine done_ (done_of HT_.out (by kernel_rfl)) ?_
                                try go_wp2
                                go_loopg [15] k3 (fun kq v15 w' => ∃ (x15_4 : Int), v15 = .int .i64 x15_4 ∧ Aside0 (glidepathlaw02_LineApart.l1 kq l0 t694 t719 x15_4 (wrap64 (a1_0 + a2)) a1_1 = some r) ∧ Aside0 (kq ≤ k3) ∧ Aside0 (Kd.R (Kd.int .i64) 3 w' w.heap.size (fun k_ => some k_ ≠ (v720 : Value).ownBlock) (.slice Ao63 t694.length co63) t694) ∧ Aside0 (Kd.R (Kd.int .i64) 3 w' w.heap.size (fun k_ => some k_ ≠ ((.slice Ao63 t694.length co63) : Value).ownBlock) v720 t719) ∧ Aside0 (w'.heap[gb686]? = some (.cells #[.int .i64 a1_0, .int .i64 a1_1] 57 (0, 0))) ∧ Aside0 (w'.heap[gb714]? = some (.cells #[.int .i64 (wrap64 (a1_0 + a2)), .int .i64 a1_1] 57 (0, 0))) ∧ Aside0 (Below w.heap.size w w'))
                                case atStart => exact ⟨(0), (by first | rfl | (simp; done) | (simp [*]; done)), H', ⟨Nat.le_refl _⟩, ⟨by (with_reducible repeat (first | apply Kd.R_alloc | apply Kd.R_drewN | apply Kd.R_drew)); exact Kd.R_mono HO_7.out (fun _ hk => hk.2)⟩, ⟨by (with_reducible repeat (first | apply Kd.R_alloc | apply Kd.R_drewN | apply Kd.R_drew)); exact Kd.R_mono HO721.out (fun _ hk => hk.1.2)⟩, ⟨by (with_reducible repeat (first | refine blk_drewN ?_ _ | refine blk_drew ?_ | refine blk_alloc ?_ _)); exact BK686.out⟩, ⟨by (with_reducible repeat (first | refine blk_drewN ?_ _ | refine blk_drew ?_ | refine blk_alloc ?_ _)); exact BK714.out⟩, ⟨by repeat (first | (with_reducible first | exact HB.out | apply below_alloc | apply pw_below_drewN | apply below_drew1 | refine below_set ?_ GE686.out | refine below_set ?_ GE714.out) | exact HB.out)⟩⟩
                                case round =>
                                  clear H'
                                  try clear p2
                                  try clear c3
                                  try clear c4
                                  try clear c5
                                  try clear c6
                                  try clear p6
                                  try clear p7
                                  try clear q7
                                  try clear hx7
                                  try clear c33
                                  try clear c37
                                  try clear c37b0
                                  try clear c38
                                  try clear c40
                                  try clear c41
                                  try clear c42
                                  try clear c43
                                  try clear c44
                                  try clear c55
                                  try clear c55b0
                                  try clear c56
                                  try clear c56b0
                                  try clear c57
                                  try clear c57b0
                                  try clear c57b1
                                  try clear c57b2
                                  try clear c59
                                  try clear c59b0
                                  try clear c59b1
                                  try clear c62
                                  try clear c62b0
                                  try clear c62b1
                                  try clear p64
                                  try clear c67
                                  try clear p71
                                  try clear q71
                                  try clear hx71
                                  try clear hcz65_0
                                  try clear hcz65_1
                                  try clear hcz68_0
                                  try clear hcz68_1
                                  try clear hfz65_0
                                  try clear hfz65_1
                                  try clear hfz68_0
                                  try clear hfz68_1
                                  try clear hx713_0
                                  try clear p713
                                  try clear q713
                                  obtain ⟨x15_4, rfl, HA, HK4, HO_7, HO_13, BK686, BK714, HB⟩ := hrel
                                  cases gk with
                                  | zero => exact absurd HA.out (by simp [glidepathlaw02_LineApart.l1])
                                  | succ k4 =>
                                    have H := HA.out
                                    clear HA
                                    simp only [glidepathlaw02_LineApart.l1] at H
                                    by_cases c74 : x15_4 < (l0.length : Int)
                                    · rw [if_pos c74] at H
                                      have c74b0 := decide_eq_true c74
                                      clear c74
                                      replace H := Option.bind_eq_some_iff.mp H
                                      obtain ⟨t723, A750, H⟩ := H
                                      (try dsimp only at H)
                                      have A75 := Aside0.mk A750
                                      clear A750
                                      replace H := Option.bind_eq_some_iff.mp H
                                      obtain ⟨t724, A760, H⟩ := H
                                      (try dsimp only at H)
                                      have A76 := Aside0.mk A760
                                      clear A760
                                      by_cases c77 : t724 = true
                                      · subst c77
                                        rw [if_pos rfl] at H
                                        by_cases c78 : 0 ≤ x15_4
                                        · rw [if_pos c78] at H
                                          have c78b0 := decide_eq_true c78
                                          clear c78
                                          by_cases c79 : (t723 != (decide ((rd l0 x15_4) ≥ (wrap64 (a1_0 + a2))))) = true
                                          · rw [if_pos c79] at H
                                            exact absurd H (by simp)
                                          · rw [if_neg c79] at H
                                            have c79b0 : (t723 != (decide ((rd l0 x15_4) ≥ (wrap64 (a1_0 + a2))))) = false := by simpa using c79
                                            (try (have c79b1 : decide (t723 = (decide ((rd l0 x15_4) ≥ (wrap64 (a1_0 + a2))))) = true := by simpa using c79))
                                            (try (have c79b2 : (t723 == (decide ((rd l0 x15_4) ≥ (wrap64 (a1_0 + a2))))) = true := by simpa using c79))
                                            clear c79
                                            have H' := Aside0.mk H
                                            clear H
                                            try go_wp2
                                            replace HO_7 := Aside0.mk (Kd.R_drew HO_7.out); replace HO_13 := Aside0.mk (Kd.R_drew HO_13.out); replace BK686 := Aside0.mk (blk_drew BK686.out); replace BK714 := Aside0.mk (blk_drew BK714.out); replace HB := Aside0.mk (below_drew1 HB.out)
                                            obtain ⟨Ao81, co81, eo81⟩ := Kd.R_slice HO_13.out
                                            (first | subst eo81 | (injection eo81 with f1_ f2_ f3_; have f4_ := f1_.symm; have f5_ := f3_.symm; clear f1_ f2_ f3_; subst f4_; subst f5_))
                                            have p725 : 0 ≤ (x15_4 : Int) := of_decide_eq_true (by first | (with_reducible assumption) | assumption)
                                            have q725 : x15_4 < (l0.length : Int) := of_decide_eq_true (by first | (with_reducible assumption) | assumption)
                                            obtain ⟨ad725, e725, hx725_0⟩ := Kd.at_int HR0.out x15_4 p725 q725
                                            have hw725_0 := hx725_0
                                            obtain rfl : ad713 = ad725 := (by injection e725)
                                            replace hx725_0 := (HB.out.cell (World.block_lt_of_cell? w _ hx725_0)).trans hx725_0
                                            replace p725 := eq_true p725
                                            replace q725 := eq_true q725
                                            refine start_ (n := 16) (S := fun w' => w'.cell? ⟨gb714, 0, none⟩ = some (.int .i64 (wrap64 (a1_0 + a2))) ∧ w'.cell? ⟨gb714, 1, none⟩ = some (.int .i64 a1_1) ∧ w'.cell? (ad713.add (x15_4).toNat) = some (.int .i64 (rd l0 x15_4))) (ds := []) #[false, false, false, false, false, false, false, false, false, false, false, false, false, false, false, false] (by kernel_rfl) rfl rfl ⟨(blk_cell BK714.out 0).trans rfl, (blk_cell BK714.out 1).trans rfl, ((HB.out.cell (World.block_lt_of_cell? w _ hw725_0)).trans hw725_0)⟩ (fun hHeld => ?_); refine with_tabW glidepathlaw02_LineApart.tab25 glidepathlaw02_LineApart.bits25 (fun HT_ HW_ => ?_)
                                            generalize wr.drew = w80 at HO_7 HO_13 BK686 BK714 HB hx725_0 hHeld ⊢
                                            refine pureZ (i := 0) (N := some 159) (bs 16 1) HT_ ?_
                                            refine pureZ (i := 1) (N := some 160) (bs 16 3) HT_ ?_
                                            refine pureZ (i := 3) (N := some 162) (bs 16 11) HT_ ?_
                                            refine pureZ (i := 4) (N := some 163) (bs 16 27) HT_ ?_
                                            refine one_ (i := 2) (N := some 161) (bs 16 31) rfl rfl (one_of HT_.out (by kernel_rfl)) (by decide) (fun K hK => ?_)
                                            refine goes_ Tryd.func44 (by kernel_rfl) rfl #[.slice Ao81 t719.length co81, .int .i64 x15_4] (by rfl) rfl rfl mz ?_
                                            with_reducible refine (glidepathbase_Has.calls k4 _ _ t719 x15_4 t723 _ ?side1 ?side2 A75.out).mono ?_
                                            (case side1 => exact bc (Kd.R_reads' HO_13.out).2.2)
                                            (case side2 => exact (Kd.R_reads' HO_13.out).2.1)
                                            rintro e w' ⟨rfl, ⟨nd, rfl⟩⟩
                                            refine ⟨_, rfl, ?_⟩
                                            refine hK.out _ _ ⟨(blk_cell BK714.out 0).trans rfl, (blk_cell BK714.out 1).trans rfl, ((HB.out.cell (World.block_lt_of_cell? w _ hw725_0)).trans hw725_0)⟩ (fun hHeld => ?_)
                                            clear hK K
                                            refine norm_ (a' := ?_) ?_ ?_
                                            rotate_left
                                            · show Act.put _ (some 161) _ = _
                                              exact pz
                                            refine one_ (i := 5) (N := some 164) (bs 16 63) rfl rfl (one_of HT_.out (by kernel_rfl)) (by decide) (fun K hK => ?_)
                                            refine goes_ Tryd.func44 (by kernel_rfl) rfl #[.slice Ao63 t694.length co63, .int .i64 x15_4] (by rfl) rfl rfl mz ?_
                                            with_reducible refine (glidepathbase_Has.calls k4 _ _ t694 x15_4 true _ ?side1 ?side2 A76.out).mono ?_
                                            (case side1 => exact bc (Kd.R_reads' HO_7.out).2.2)
                                            (case side2 => exact (Kd.R_reads' HO_7.out).2.1)
                                            rintro e w' ⟨rfl, ⟨nd, rfl⟩⟩
                                            refine ⟨_, rfl, ?_⟩
                                            refine hK.out _ _ ⟨(blk_cell BK714.out 0).trans rfl, (blk_cell BK714.out 1).trans rfl, ((HB.out.cell (World.block_lt_of_cell? w _ hw725_0)).trans hw725_0)⟩ (fun hHeld => ?_)
                                            clear hK K
                                            refine norm_ (a' := ?_) ?_ ?_
                                            rotate_left
                                            · show Act.put _ (some 164) _ = _
                                              exact pz
                                            refine pureZ (i := 6) (N := some 165) (bs 16 127) HT_ ?_
                                            refine pureZ (i := 7) (N := some 166) (bs 16 255) HT_ ?_
                                            refine pureZ (i := 8) (N := some 167) (bs 16 511) HT_ ?_
                                            refine pureZ (i := 9) (N := some 168) (bs 16 1023) HT_ ?_
                                            refine pureZ (i := 11) (N := some 170) (bs 16 3071) HT_ ?_
                                            refine take_ (i := 10) (N := some 169) (v := ?_) (a' := ?_) (bs 16 4095) rfl rfl (take_ofW HT_.out HW_.out (by kernel_rfl)) (fun _ _ _ h => h) (Or.inl ⟨by rfl, ?_⟩) hHeld ?_ ?_
                                            rotate_left
                                            · rintro w' ⟨s0, s1, s2⟩
                                              go_simp
                                              with_reducible rfl
                                            rotate_left
                                            · exact pz
                                            refine take_ (i := 12) (N := some 171) (v := ?_) (a' := ?_) (bs 16 8191) rfl rfl (take_ofW HT_.out HW_.out (by kernel_rfl)) (fun _ _ _ h => h) (Or.inl ⟨by rfl, ?_⟩) hHeld ?_ ?_
                                            rotate_left
                                            · rintro w' ⟨s0, s1, s2⟩
                                              go_simp
                                              with_reducible rfl
                                            rotate_left
                                            · exact pz
                                            refine pureZ (i := 13) (N := some 172) (bs 16 16383) HT_ ?_
                                            refine pureZ (i := 14) (N := some 173) (bs 16 32767) HT_ ?_
                                            refine pureZ (i := 15) (N := some 174) (bs 16 65535) HT_ ?_
                                            refine done_ (done_of HT_.out (by kernel_rfl)) ?_
                                            try go_wp2
                                            go_roundg k4
                                            case measure => have := HJ5.out; have := HJ22.out; have := HK3.out; have := HK4.out; omega
                                            case rel => exact ⟨(wrap64 (x15_4 + 1)), (by first | rfl | (simp; done) | (simp [*]; done)), H', ⟨by have := HJ5.out; have := HJ22.out; have := HK3.out; have := HK4.out; omega⟩, ⟨by (with_reducible repeat (first | apply Kd.R_alloc | apply Kd.R_drewN | apply Kd.R_drew)); exact HO_7.out⟩, ⟨by (with_reducible repeat (first | apply Kd.R_alloc | apply Kd.R_drewN | apply Kd.R_drew)); exact HO_13.out⟩, ⟨by (with_reducible repeat (first | refine blk_drewN ?_ _ | refine blk_drew ?_ | refine blk_alloc ?_ _)); exact BK686.out⟩, ⟨by (with_reducible repeat (first | refine blk_drewN ?_ _ | refine blk_drew ?_ | refine blk_alloc ?_ _)); exact BK714.out⟩, ⟨by repeat (first | (with_reducible first | exact HB.out | apply below_alloc | apply pw_below_drewN | apply below_drew1 | refine below_set ?_ GE686.out | refine below_set ?_ GE714.out) | exact HB.out)⟩⟩
                                        · rw [if_neg c78] at H
                                          exact absurd H (by simp)
                                      · replace c77 := Bool.eq_false_iff.mpr c77
                                        subst c77
                                        rw [if_neg (show ¬ (false = true) by decide)] at H
                                        by_cases c82 : (t723 != false) = true
                                        · rw [if_pos c82] at H
                                          exact absurd H (by simp)
                                        · rw [if_neg c82] at H
                                          have c82b0 : (t723 != false) = false := by simpa using c82
                                          (try (have c82b1 : decide (t723 = false) = true := by simpa using c82))
                                          (try (have c82b2 : (t723 == false) = true := by simpa using c82))
                                          clear c82
                                          have H' := Aside0.mk H
                                          clear H
                                          try go_wp2
                                          replace HO_7 := Aside0.mk (Kd.R_drew HO_7.out); replace HO_13 := Aside0.mk (Kd.R_drew HO_13.out); replace BK686 := Aside0.mk (blk_drew BK686.out); replace BK714 := Aside0.mk (blk_drew BK714.out); replace HB := Aside0.mk (below_drew1 HB.out)
                                          obtain ⟨Ao84, co84, eo84⟩ := Kd.R_slice HO_13.out
                                          (first | subst eo84 | (injection eo84 with f1_ f2_ f3_; have f4_ := f1_.symm; have f5_ := f3_.symm; clear f1_ f2_ f3_; subst f4_; subst f5_))
                                          refine start_ (n := 16) (S := fun w' => True) (ds := []) #[false, false, false, false, false, false, false, false, false, false, false, false, false, false, false, false] (by kernel_rfl) rfl rfl trivial (fun hHeld => ?_); refine with_tabW glidepathlaw02_LineApart.tab25 glidepathlaw02_LineApart.bits25 (fun HT_ HW_ => ?_)
                                          generalize wr.drew = w83 at HO_7 HO_13 BK686 BK714 HB hHeld ⊢
                                          refine pureZ (i := 0) (N := some 159) (bs 16 1) HT_ ?_
                                          refine pureZ (i := 1) (N := some 160) (bs 16 3) HT_ ?_
                                          refine pureZ (i := 3) (N := some 162) (bs 16 11) HT_ ?_
                                          refine pureZ (i := 4) (N := some 163) (bs 16 27) HT_ ?_
                                          refine one_ (i := 2) (N := some 161) (bs 16 31) rfl rfl (one_of HT_.out (by kernel_rfl)) (by decide) (fun K hK => ?_)
                                          refine goes_ Tryd.func44 (by kernel_rfl) rfl #[.slice Ao84 t719.length co84, .int .i64 x15_4] (by rfl) rfl rfl mz ?_
                                          with_reducible refine (glidepathbase_Has.calls k4 _ _ t719 x15_4 t723 _ ?side1 ?side2 A75.out).mono ?_
                                          (case side1 => exact bc (Kd.R_reads' HO_13.out).2.2)
                                          (case side2 => exact (Kd.R_reads' HO_13.out).2.1)
                                          rintro e w' ⟨rfl, ⟨nd, rfl⟩⟩
                                          refine ⟨_, rfl, ?_⟩
                                          refine hK.out _ _ trivial (fun hHeld => ?_)
                                          clear hK K
                                          refine norm_ (a' := ?_) ?_ ?_
                                          rotate_left
                                          · show Act.put _ (some 161) _ = _
                                            exact pz
                                          refine one_ (i := 5) (N := some 164) (bs 16 63) rfl rfl (one_of HT_.out (by kernel_rfl)) (by decide) (fun K hK => ?_)
                                          refine goes_ Tryd.func44 (by kernel_rfl) rfl #[.slice Ao63 t694.length co63, .int .i64 x15_4] (by rfl) rfl rfl mz ?_
                                          with_reducible refine (glidepathbase_Has.calls k4 _ _ t694 x15_4 false _ ?side1 ?side2 A76.out).mono ?_
                                          (case side1 => exact bc (Kd.R_reads' HO_7.out).2.2)
                                          (case side2 => exact (Kd.R_reads' HO_7.out).2.1)
                                          rintro e w' ⟨rfl, ⟨nd, rfl⟩⟩
                                          refine ⟨_, rfl, ?_⟩
                                          refine hK.out _ _ trivial (fun hHeld => ?_)
                                          clear hK K
                                          refine norm_ (a' := ?_) ?_ ?_
                                          rotate_left
                                          · show Act.put _ (some 164) _ = _
                                            exact pz
                                          refine pureZ (i := 6) (N := some 165) (bs 16 127) HT_ ?_
                                          refine pure_ (i := 7) (N := some 166) (v := undef) (a' := ?_) (bs 16 255) rfl rfl (any_of HT_.out (by kernel_rfl)) (fun _ _ _ h => h) (Or.inr ⟨by rfl, rfl⟩) ?_ ?_
                                          rotate_left
                                          · exact pz
                                          refine pure_ (i := 8) (N := some 167) (v := undef) (a' := ?_) (bs 16 511) rfl rfl (any_of HT_.out (by kernel_rfl)) (fun _ _ _ h => h) (Or.inr ⟨by rfl, rfl⟩) ?_ ?_
                                          rotate_left
                                          · exact pz
                                          refine pure_ (i := 9) (N := some 168) (v := undef) (a' := ?_) (bs 16 1023) rfl rfl (any_of HT_.out (by kernel_rfl)) (fun _ _ _ h => h) (Or.inr ⟨by rfl, rfl⟩) ?_ ?_
                                          rotate_left
                                          · exact pz
                                          refine pure_ (i := 10) (N := some 169) (v := undef) (a' := ?_) (bs 16 2047) rfl rfl (any_of HT_.out (by kernel_rfl)) (fun _ _ _ h => h) (Or.inr ⟨by rfl, rfl⟩) ?_ ?_
                                          rotate_left
                                          · exact pz
                                          refine pure_ (i := 11) (N := some 170) (v := undef) (a' := ?_) (bs 16 4095) rfl rfl (any_of HT_.out (by kernel_rfl)) (fun _ _ _ h => h) (Or.inr ⟨by rfl, rfl⟩) ?_ ?_
                                          rotate_left
                                          · exact pz
                                          refine pure_ (i := 12) (N := some 171) (v := undef) (a' := ?_) (bs 16 8191) rfl rfl (any_of HT_.out (by kernel_rfl)) (fun _ _ _ h => h) (Or.inr ⟨by rfl, rfl⟩) ?_ ?_
                                          rotate_left
                                          · exact pz
                                          refine pure_ (i := 13) (N := some 172) (v := undef) (a' := ?_) (bs 16 16383) rfl rfl (any_of HT_.out (by kernel_rfl)) (fun _ _ _ h => h) (Or.inr ⟨by rfl, rfl⟩) ?_ ?_
                                          rotate_left
                                          · exact pz
                                          refine pureZ (i := 14) (N := some 173) (bs 16 32767) HT_ ?_
                                          refine pureZ (i := 15) (N := some 174) (bs 16 65535) HT_ ?_
                                          refine done_ (done_of HT_.out (by kernel_rfl)) ?_
                                          try go_wp2
                                          go_roundg k4
                                          case measure => have := HJ5.out; have := HJ22.out; have := HK3.out; have := HK4.out; omega
                                          case rel => exact ⟨(wrap64 (x15_4 + 1)), (by first | rfl | (simp; done) | (simp [*]; done)), H', ⟨by have := HJ5.out; have := HJ22.out; have := HK3.out; have := HK4.out; omega⟩, ⟨by (with_reducible repeat (first | apply Kd.R_alloc | apply Kd.R_drewN | apply Kd.R_drew)); exact HO_7.out⟩, ⟨by (with_reducible repeat (first | apply Kd.R_alloc | apply Kd.R_drewN | apply Kd.R_drew)); exact HO_13.out⟩, ⟨by (with_reducible repeat (first | refine blk_drewN ?_ _ | refine blk_drew ?_ | refine blk_alloc ?_ _)); exact BK686.out⟩, ⟨by (with_reducible repeat (first | refine blk_drewN ?_ _ | refine blk_drew ?_ | refine blk_alloc ?_ _)); exact BK714.out⟩, ⟨by repeat (first | (with_reducible first | exact HB.out | apply below_alloc | apply pw_below_drewN | apply below_drew1 | refine below_set ?_ GE686.out | refine below_set ?_ GE714.out) | exact HB.out)⟩⟩
                                    · rw [if_neg c74] at H
                                      have c74b0 := decide_eq_false c74
                                      clear c74
                                      obtain rfl := Option.some.inj H
                                      go_wp2
                                      go_ret
                                      exact ez
                              · rw [if_neg c62] at H
                                exact absurd H (by simp)
                            · rw [if_neg c59] at H
                              have c59b0 := beq_eq_false_iff_ne.mpr c59
                              have c59b1 := bne_iff_ne.mpr c59
                              obtain rfl := Option.some.inj H
                              obtain ⟨Ao85, co85, eo85⟩ := Kd.R_slice HO_7.out
                              subst eo85
                              try go_wp2
                              replace HO_7 := Aside0.mk (Kd.R_drew HO_7.out); replace BK686 := Aside0.mk (blk_drew BK686.out); replace HB := Aside0.mk (below_drew1 HB.out)
                              have p713 : 0 ≤ (t701 : Int) := of_decide_eq_true (by first | (with_reducible assumption) | assumption)
                              have q713 : t701 < (l0.length : Int) := of_decide_eq_true (by first | (with_reducible assumption) | assumption)
                              obtain ⟨ad713, e713, hx713_0⟩ := Kd.at_int HR0.out t701 p713 q713
                              have hw713_0 := hx713_0
                              cases e713
                              replace hx713_0 := (HB.out.cell (World.block_lt_of_cell? w _ hx713_0)).trans hx713_0
                              replace p713 := eq_true p713
                              replace q713 := eq_true q713
                              refine start_ (n := 11) (S := fun w' => w'.cell? ⟨gb686, 0, none⟩ = some (.int .i64 a1_0) ∧ w'.cell? ⟨gb686, 1, none⟩ = some (.int .i64 a1_1) ∧ w'.cell? (ad713.add (t701).toNat) = some (.int .i64 (rd l0 t701))) (ds := []) #[false, false, false, false, false, false, false, false, false, false, false] (by kernel_rfl) rfl rfl ⟨(blk_cell BK686.out 0).trans rfl, (blk_cell BK686.out 1).trans rfl, ((HB.out.cell (World.block_lt_of_cell? w _ hw713_0)).trans hw713_0)⟩ (fun hHeld => ?_); refine with_tabW glidepathlaw02_LineApart.tab14 glidepathlaw02_LineApart.bits14 (fun HT_ HW_ => ?_)
                              generalize wr.drew = w86 at HO_7 BK686 HB hx713_0 hHeld ⊢
                              refine pureZ (i := 0) (N := some 123) #[true, false, false, false, false, false, false, false, false, false, false] HT_ ?_
                              refine pureZ (i := 1) (N := some 124) #[true, true, false, false, false, false, false, false, false, false, false] HT_ ?_
                              refine pureZ (i := 3) (N := some 126) #[true, true, false, true, false, false, false, false, false, false, false] HT_ ?_
                              refine pureZ (i := 4) (N := some 127) #[true, true, false, true, true, false, false, false, false, false, false] HT_ ?_
                              refine pureZ (i := 5) (N := some 128) #[true, true, false, true, true, true, false, false, false, false, false] HT_ ?_
                              refine pureZ (i := 7) (N := some 130) #[true, true, false, true, true, true, false, true, false, false, false] HT_ ?_
                              refine take_ (i := 6) (N := some 129) (v := ?_) (a' := ?_) #[true, true, false, true, true, true, true, true, false, false, false] rfl rfl (take_ofW HT_.out HW_.out (by kernel_rfl)) (fun _ _ _ h => h) (Or.inl ⟨by rfl, ?_⟩) hHeld ?_ ?_
                              rotate_left
                              · rintro w' ⟨s0, s1, s2⟩
                                go_simp
                                with_reducible rfl
                              rotate_left
                              · exact pz
                              refine take_ (i := 8) (N := some 131) (v := ?_) (a' := ?_) #[true, true, false, true, true, true, true, true, true, false, false] rfl rfl (take_ofW HT_.out HW_.out (by kernel_rfl)) (fun _ _ _ h => h) (Or.inl ⟨by rfl, ?_⟩) hHeld ?_ ?_
                              rotate_left
                              · rintro w' ⟨s0, s1, s2⟩
                                go_simp
                                with_reducible rfl
                              rotate_left
                              · exact pz
                              refine pureZ (i := 9) (N := some 132) #[true, true, false, true, true, true, true, true, true, true, false] HT_ ?_
                              refine one_ (i := 2) (N := some 125) #[true, true, true, true, true, true, true, true, true, true, false] rfl rfl (one_of HT_.out (by kernel_rfl)) (by decide) (fun K hK => ?_)
                              refine goes_ Tryd.func44 (by kernel_rfl) rfl #[.slice Ao85 t694.length co85, .int .i64 t701] (by rfl) rfl rfl mz ?_
                              with_reducible refine (glidepathbase_Has.calls k3 _ _ t694 t701 t712 _ ?side1 ?side2 A54.out).mono ?_
                              (case side1 => exact bc (Kd.R_reads' HO_7.out).2.2)
                              (case side2 => exact (Kd.R_reads' HO_7.out).2.1)
                              rintro e w' ⟨rfl, ⟨nd, rfl⟩⟩
                              refine ⟨_, rfl, ?_⟩
                              refine hK.out _ _ ⟨(blk_cell BK686.out 0).trans rfl, (blk_cell BK686.out 1).trans rfl, ((HB.out.cell (World.block_lt_of_cell? w _ hw713_0)).trans hw713_0)⟩ (fun hHeld => ?_)
                              clear hK K
                              refine norm_ (a' := ?_) ?_ ?_
                              rotate_left
                              · show Act.put _ (some 125) _ = _
                                exact pz
                              refine pureZ (i := 10) (N := some 133) #[true, true, true, true, true, true, true, true, true, true, true] HT_ ?_
                              refine done_ (done_of HT_.out (by kernel_rfl)) ?_
                              obtain ⟨_, _, _, _⟩ := b2 BK686
                              try go_wp2_with (first | ((with_reducible refine gate_dst (N := 12) rfl ?_); (try (refine gate_guard (by rfl) ?_; dsimp only)); refine be 12 57 #[.int .i64 0, .int .i64 0] ?_; intro gb714 hg w88 hbox hb; replace HO_7 := rb HO_7 hb; have BK714 := Aside0.mk hbox; have GW714 := Aside0.mk (bg (n := w.heap.size) hg); have GE714 := Aside0.mk (bg (n := w.heap.size) hg); replace HB := sb HB hb; have NB686_714 := nl BK686 hg; have NB714_686 := ng (nl BK686 hg); replace BK686 := bb BK686 hb; clear hb hbox hg; have hnb89 := NB714_686.out; have hnc89 := NB686_714.out; obtain ⟨_, _, _, _⟩ := b2 BK714) | ((with_reducible refine gate_callee (f := 42) rfl ?_); refine gl (some 142) Tryd.func42 #[.agg #[.int .i64 (wrap64 (a1_0 + a2)), .int .i64 a1_1]] ?_; (with_reducible refine (glidepathref02_RuleErr.calls (wrap64 (a1_0 + a2)) a1_1 t715 _ A58.out).mono ?_); rintro e w91 ⟨rfl, hb⟩; refine ⟨_, rfl, ?_⟩; replace HO_7 := Aside0.mk (Kd.R_below (by (with_reducible repeat (first | apply Kd.R_alloc | apply Kd.R_drewN | apply Kd.R_drew)); exact (Kd.R_mono (Kd.R_far (p := ⟨gb714, 1, none⟩) (Kd.R_far (p := ⟨gb714, 0, none⟩) (Kd.R_types HO_7.out BK714.out (by decide)) (fun _ hk => hk.2) (.int .i64 (wrap64 (a1_0 + a2)))) (fun _ hk => hk.2) (.int .i64 a1_1)) (fun _ h_ => h_.1))) hb); replace BK686 := Aside0.mk (blk_below (g := gb686) (o := .cells #[.int .i64 a1_0, .int .i64 a1_1] 57 (0, 0)) (by (with_reducible repeat (first | refine blk_drewN ?_ _ | refine blk_drew ?_ | refine blk_alloc ?_ _)); refine blk_far ?_ NB686_714.out _; (with_reducible repeat (first | refine blk_drewN ?_ _ | refine blk_drew ?_ | refine blk_alloc ?_ _)); refine blk_far ?_ NB686_714.out _; (with_reducible repeat (first | refine blk_drewN ?_ _ | refine blk_drew ?_ | refine blk_alloc ?_ _)); exact BK686.out) hb); replace BK714 := Aside0.mk (blk_below (g := gb714) (o := .cells #[.int .i64 (wrap64 (a1_0 + a2)), .int .i64 a1_1] 57 (0, 0)) (by (with_reducible repeat (first | refine blk_drewN ?_ _ | refine blk_drew ?_ | refine blk_alloc ?_ _)); refine blk_put (cs := #[.int .i64 (wrap64 (a1_0 + a2)), .int .i64 0]) ?_ 1 _ rfl; (with_reducible repeat (first | refine blk_drewN ?_ _ | refine blk_drew ?_ | refine blk_alloc ?_ _)); refine blk_put (cs := #[.int .i64 0, .int .i64 0]) ?_ 0 _ rfl; (with_reducible repeat (first | refine blk_drewN ?_ _ | refine blk_drew ?_ | refine blk_alloc ?_ _)); exact BK714.out) hb); replace HB := sb HB hb; (try clear hb)))
                              go_ret
                              exact ez
                        · rw [if_neg c56] at H
                          exact absurd H (by simp)
                      · rw [if_neg c55] at H
                        exact absurd H (by simp)
  · replace c5 := Bool.eq_false_iff.mpr c5
    subst c5
    rw [if_neg (show ¬ (false = true) by decide)] at H
    exact absurd H (by simp)
end Go.Proofs.YtjnkphmcndaijaaDoor.A
