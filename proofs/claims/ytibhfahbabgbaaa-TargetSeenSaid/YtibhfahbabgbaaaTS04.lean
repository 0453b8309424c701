/- Walks of the program's functions (printed, made shorter), each with what it computes. -/
import Derived.Test.YtibhfahbabgbaaaB05
import Derived.Test.YtibhfahbabgbaaaB12
import Derived.Test.YtibhfahbabgbaaaB15
import Derived.Test.YtibhfahbabgbaaaB16
import Derived.Test.YtibhfahbabgbaaaTS01
import Derived.Test.YtibhfahbabgbaaaTS03
import Derived.Test.YtibhfahbabgbaaaB04
namespace Go.Proofs.Ytibhfahbabgbaaa.A
set_option maxHeartbeats 8000000
set_option maxRecDepth 100000
open Go.RowKit Go.Proofs.YtibhfahbabgbaaaW.PrintWords Go.Proofs.YtibhfahbabgbaaaW.PrintLast Go.Proofs.YtibhfahbabgbaaaW.PrintMore
attribute [local go_sem] max2_int min2_int max_two min_two max_three min_three max_four min_four
set_option linter.unusedVariables false
set_option linter.unusedSimpArgs false
section
attribute [local go_sem high] eqA44
mutual
def Lw_TargetSeen.j0 : Nat → List (S44) → Int → Bool → Option (Bool)
  | 0, _, _, _ => none
  | k + 1, x0, x1, x32 => if x32 = true then (some true) else (Lw_TargetSeen.l0 k x0 x1 ([] : List (S126)) 0 0)
def Lw_TargetSeen.l0 : Nat → List (S44) → Int → List (S126) → Int → Int → Option (Bool)
  | 0, _, _, _, _, _ => none
  | k + 1, x0, x1, x5, x6, x7 => if x7 < (x0.length : Int) then (if 0 ≤ x7 then ((Rf_TurnedErr.f k x1 ((rd_T44 x0 x7).f0) ((rd_T44 x0 x7).f1) ((rd_T44 x0 x7).f2)).bind fun t1655 => (if t1655 = 0 then (Lw_TargetSeen.j2 k x0 x1 x5 x6 x7 (((rd_T44 x0 x7).f0) == 0 && (((rd_T44 x0 x7).f1) == 0 && (((rd_T44 x0 x7).f2) == 0)))) else (Lw_TargetSeen.j2 k x0 x1 x5 x6 x7 true))) else (none)) else ((Rf_SightsErr.f k x5).bind fun t1673 => (if t1673 = 0 then ((Rf_CopySights.f x5).bind fun t1674 => ((L_ScoresOf.f k t1674).bind fun bt1677 => ((Rf_CopySights.f x5).bind fun t1681 => ((L_PointingOf.f k t1681).bind fun bt1684 => ((Rf_CopySights.f x5).bind fun t1687 => ((L_IsSure.f k t1687 1).bind fun bt1690 => (if bt1677.2 = 0 then (if bt1684.2.2 = 0 then (if bt1690.2 = 0 then (if (bt1677.1.length : Int) = 24 then (if 0 ≤ x1 then (if x1 < (bt1677.1.length : Int) then (if (rd bt1677.1 x1) = x6 then (if bt1684.2.1 = x6 then (if bt1684.1 > x1 then (none) else (if bt1690.1 = true then (Lw_TargetSeen.j3 k x6 bt1677.1 (bt1684.1 != x1)) else (Lw_TargetSeen.j3 k x6 bt1677.1 false))) else (none)) else (none)) else (none)) else (none)) else (none)) else (none)) else (none)) else (none)))))))) else (none)))
def Lw_TargetSeen.j2 : Nat → List (S44) → Int → List (S126) → Int → Int → Bool → Option (Bool)
  | 0, _, _, _, _, _, _ => none
  | k + 1, x0, x1, x5, x6, x7, x53 => if x53 = true then (some true) else (if 0 ≤ x7 then (if x7 < (x0.length : Int) then ((L_TurnedBy.f k x1 ((rd_T44 x0 x7).f0) ((rd_T44 x0 x7).f1) ((rd_T44 x0 x7).f2)).bind fun bt1658 => (if bt1658.2.2.2 = 0 then (if x5.length < 2932031007402 then (Lw_TargetSeen.l0 k x0 x1 (x5 ++ [(⟨(⟨(rd_T44 x0 x7).f0, (rd_T44 x0 x7).f1, (rd_T44 x0 x7).f2⟩ : S44), (⟨bt1658.1, bt1658.2.1, bt1658.2.2.1⟩ : S44)⟩ : S126)]) (wrap64 ((wrap64 ((wrap64 (x6 + (wrap64 (((rd_T44 x0 x7).f0) * ((rd_T44 x0 x7).f0))))) + (wrap64 (((rd_T44 x0 x7).f1) * ((rd_T44 x0 x7).f1))))) + (wrap64 (((rd_T44 x0 x7).f2) * ((rd_T44 x0 x7).f2))))) (wrap64 (x7 + 1))) else (none)) else (none))) else (none)) else (none))
def Lw_TargetSeen.j3 : Nat → Int → List Int → Bool → Option (Bool)
  | 0, _, _, _ => none
  | k + 1, x6, x10, x173 => if x173 = true then (none) else (Lw_TargetSeen.l1 k x6 x10 0)
def Lw_TargetSeen.l1 : Nat → Int → List Int → Int → Option (Bool)
  | 0, _, _, _ => none
  | k + 1, x6, x10, x17 => if x17 < (x10.length : Int) then (if 0 ≤ x17 then (if (rd x10 x17) > x6 then (none) else (Lw_TargetSeen.l1 k x6 x10 (wrap64 (x17 + 1)))) else (none)) else (some true)
end
def Lw_TargetSeen.f (k : Nat) (l0 : List (S44)) (a1 : Int) : Option (Bool) := (Lw_awake.f k).bind fun t1652 => (if t1652 = true then (if (l0.length : Int) = 0 then (Lw_TargetSeen.j0 k l0 a1 true) else (if (l0.length : Int) > 8 then (Lw_TargetSeen.j0 k l0 a1 true) else ((Bs_Within.f a1 0 23).bind fun t1653 => (Lw_TargetSeen.j0 k l0 a1 (!t1653))))) else (none))
theorem Lw_TargetSeen.mono_l : ∀ k, (∀ y0 y1 y2, LeO (Lw_TargetSeen.j0 k y0 y1 y2) (Lw_TargetSeen.j0 (k + 1) y0 y1 y2)) ∧ (∀ y0 y1 y2 y3 y4, LeO (Lw_TargetSeen.l0 k y0 y1 y2 y3 y4) (Lw_TargetSeen.l0 (k + 1) y0 y1 y2 y3 y4)) ∧ (∀ y0 y1 y2 y3 y4 y5, LeO (Lw_TargetSeen.j2 k y0 y1 y2 y3 y4 y5) (Lw_TargetSeen.j2 (k + 1) y0 y1 y2 y3 y4 y5)) ∧ (∀ y0 y1 y2, LeO (Lw_TargetSeen.j3 k y0 y1 y2) (Lw_TargetSeen.j3 (k + 1) y0 y1 y2)) ∧ (∀ y0 y1 y2, LeO (Lw_TargetSeen.l1 k y0 y1 y2) (Lw_TargetSeen.l1 (k + 1) y0 y1 y2))
  | 0 => ⟨fun _ _ _ r h => by simp [Lw_TargetSeen.j0] at h, fun _ _ _ _ _ r h => by simp [Lw_TargetSeen.l0] at h, fun _ _ _ _ _ _ r h => by simp [Lw_TargetSeen.j2] at h, fun _ _ _ r h => by simp [Lw_TargetSeen.j3] at h, fun _ _ _ r h => by simp [Lw_TargetSeen.l1] at h⟩
  | k + 1 => by
    obtain ⟨ih0, ih1, ih2, ih3, ih4⟩ := Lw_TargetSeen.mono_l k
    refine ⟨?_, ?_, ?_, ?_, ?_⟩
    · intro y0 y1 y2
      unfold Lw_TargetSeen.j0
      repeat' with_reducible first
        | exact ih0 ..
        | exact ih1 ..
        | exact ih2 ..
        | exact ih3 ..
        | exact ih4 ..
        | exact Lw_awake.mono ..
        | exact Rf_SightsErr.mono ..
        | exact Rf_TurnedErr.mono ..
        | exact L_IsSure.mono ..
        | exact L_PointingOf.mono ..
        | exact L_ScoresOf.mono ..
        | exact L_TurnedBy.mono ..
        | exact LeO.refl ..
        | exact LeO.none ..
        | refine LeO.ite ?_ ?_
        | refine LeO.bind ?_ (fun _ => ?_)
    · intro y0 y1 y2 y3 y4
      unfold Lw_TargetSeen.l0
      repeat' with_reducible first
        | exact ih0 ..
        | exact ih1 ..
        | exact ih2 ..
        | exact ih3 ..
        | exact ih4 ..
        | exact Lw_awake.mono ..
        | exact Rf_SightsErr.mono ..
        | exact Rf_TurnedErr.mono ..
        | exact L_IsSure.mono ..
        | exact L_PointingOf.mono ..
        | exact L_ScoresOf.mono ..
        | exact L_TurnedBy.mono ..
        | exact LeO.refl ..
        | exact LeO.none ..
        | refine LeO.ite ?_ ?_
        | refine LeO.bind ?_ (fun _ => ?_)
    · intro y0 y1 y2 y3 y4 y5
      unfold Lw_TargetSeen.j2
      repeat' with_reducible first
        | exact ih0 ..
        | exact ih1 ..
        | exact ih2 ..
        | exact ih3 ..
        | exact ih4 ..
        | exact Lw_awake.mono ..
        | exact Rf_SightsErr.mono ..
        | exact Rf_TurnedErr.mono ..
        | exact L_IsSure.mono ..
        | exact L_PointingOf.mono ..
        | exact L_ScoresOf.mono ..
        | exact L_TurnedBy.mono ..
        | exact LeO.refl ..
        | exact LeO.none ..
        | refine LeO.ite ?_ ?_
        | refine LeO.bind ?_ (fun _ => ?_)
    · intro y0 y1 y2
      unfold Lw_TargetSeen.j3
      repeat' with_reducible first
        | exact ih0 ..
        | exact ih1 ..
        | exact ih2 ..
        | exact ih3 ..
        | exact ih4 ..
        | exact Lw_awake.mono ..
        | exact Rf_SightsErr.mono ..
        | exact Rf_TurnedErr.mono ..
        | exact L_IsSure.mono ..
        | exact L_PointingOf.mono ..
        | exact L_ScoresOf.mono ..
        | exact L_TurnedBy.mono ..
        | exact LeO.refl ..
        | exact LeO.none ..
        | refine LeO.ite ?_ ?_
        | refine LeO.bind ?_ (fun _ => ?_)
    · intro y0 y1 y2
      unfold Lw_TargetSeen.l1
      repeat' with_reducible first
        | exact ih0 ..
        | exact ih1 ..
        | exact ih2 ..
        | exact ih3 ..
        | exact ih4 ..
        | exact Lw_awake.mono ..
        | exact Rf_SightsErr.mono ..
        | exact Rf_TurnedErr.mono ..
        | exact L_IsSure.mono ..
        | exact L_PointingOf.mono ..
        | exact L_ScoresOf.mono ..
        | exact L_TurnedBy.mono ..
        | exact LeO.refl ..
        | exact LeO.none ..
        | refine LeO.ite ?_ ?_
        | refine LeO.bind ?_ (fun _ => ?_)
theorem Lw_TargetSeen.mono : ∀ a0 a1 k, LeO (Lw_TargetSeen.f k a0 a1) (Lw_TargetSeen.f (k + 1) a0 a1) := by
  intro a0 a1 k
  obtain ⟨ih0, ih1, ih2, ih3, ih4⟩ := Lw_TargetSeen.mono_l k
  unfold Lw_TargetSeen.f
  repeat' with_reducible first
    | exact ih0 ..
    | exact ih1 ..
    | exact ih2 ..
    | exact ih3 ..
    | exact ih4 ..
    | exact Lw_awake.mono ..
    | exact Rf_SightsErr.mono ..
    | exact Rf_TurnedErr.mono ..
    | exact L_IsSure.mono ..
    | exact L_PointingOf.mono ..
    | exact L_ScoresOf.mono ..
    | exact L_TurnedBy.mono ..
    | exact LeO.refl ..
    | exact LeO.none ..
    | refine LeO.ite ?_ ?_
    | refine LeO.bind ?_ (fun _ => ?_)
def Lw_TargetSeen.T15 : Bool × List (List Nat × List Nat) := (true, [([], []), ([], []), ([], []), ([1, 2], [1, 2]), ([3], [3]), ([], []), ([4, 5], [4, 5]), ([6], [6]), ([0, 7], [0, 7]), ([8, 8, 0, 1, 2, 3, 4, 5, 6, 7, 8], [0, 8])])
def Lw_TargetSeen.B15 : List Nat := [0, 0, 0, 6, 14, 0, 62, 126, 255, 511]
theorem Lw_TargetSeen.tab15 : rtab .any (opsOf Try.f13 15) = Lw_TargetSeen.T15 := by kernel_rfl
theorem Lw_TargetSeen.bits15 : waitsOk Lw_TargetSeen.T15.2 Lw_TargetSeen.B15 = true := by kernel_rfl
def Lw_TargetSeen.T16 : Bool × List (List Nat × List Nat) := (true, [([], []), ([], []), ([], []), ([1, 2], [1, 2]), ([3], [3]), ([4], [4]), ([], []), ([], []), ([6, 7], [6, 7]), ([8], [8]), ([9], [9]), ([5, 10], [5, 10]), ([0, 11], [0, 11]), ([], []), ([], []), ([13, 14], [13, 14]), ([15], [15]), ([16], [16]), ([], []), ([], []), ([18, 19], [18, 19]), ([20], [20]), ([21], [21]), ([17, 22], [17, 22]), ([12, 23], [12, 23]), ([], []), ([], []), ([25, 26], [25, 26]), ([27], [27]), ([28], [28]), ([], []), ([], []), ([30, 31], [30, 31]), ([32], [32]), ([33], [33]), ([29, 34], [29, 34]), ([24, 35], [24, 35]), ([36, 0, 1, 2, 3, 4, 5, 6, 7, 8, 9, 10, 11, 12, 13, 14, 15, 16, 17, 18, 19, 20, 21, 22, 23, 24, 25, 26, 27, 28, 29, 30, 31, 32, 33, 34, 35, 36], [0, 36])])
def Lw_TargetSeen.B16 : List Nat := [0, 0, 0, 6, 14, 30, 0, 0, 192, 448, 960, 2046, 4095, 0, 0, 24576, 57344, 122880, 0, 0, 786432, 1835008, 3932160, 8380416, 16777215, 0, 0, 100663296, 234881024, 503316480, 0, 0, 3221225472, 7516192768, 16106127360, 34326183936, 68719476735, 137438953471]
theorem Lw_TargetSeen.tab16 : rtab .any (opsOf Try.f13 16) = Lw_TargetSeen.T16 := by kernel_rfl
theorem Lw_TargetSeen.bits16 : waitsOk Lw_TargetSeen.T16.2 Lw_TargetSeen.B16 = true := by kernel_rfl
theorem Lw_TargetSeen.calls (k : Nat) (A0 : Option Addr) (c0 : Nat) (l0 : List (S44)) (a1 : Int) (r : Bool) (w : World) (hr0 : Kd.C k44 w A0 l0.length l0) (hc0 : l0.length ≤ c0) (h : Lw_TargetSeen.f k l0 a1 = some r) :
    Calls Try.prog 13 #[.slice A0 l0.length c0, .int .i64 a1] w fun e w' => e = .returned (.bool r) ∧ Below w.heap.size w w' := by
  have hu44 := Try.underlying44
  have hu126 := Try.underlying126
  have hix44_0 : ∀ (g_ : Nat) (W_ : World), (Instr.indexAt 44 (.pointer (some ⟨g_, 0, none⟩)) (.int .i64 0)).run Try.prog W_ = .ok (.pointer (some ⟨g_, 0, none⟩)) W_ := fun _ _ => by kernel_rfl
  have hix44_1 : ∀ (g_ : Nat) (W_ : World), (Instr.indexAt 44 (.pointer (some ⟨g_, 0, none⟩)) (.int .i64 1)).run Try.prog W_ = .ok (.pointer (some ⟨g_, 1, none⟩)) W_ := fun _ _ => by kernel_rfl
  have hix44_2 : ∀ (g_ : Nat) (W_ : World), (Instr.indexAt 44 (.pointer (some ⟨g_, 0, none⟩)) (.int .i64 2)).run Try.prog W_ = .ok (.pointer (some ⟨g_, 2, none⟩)) W_ := fun _ _ => by kernel_rfl
  have HR0 := m0 hr0
  have HC0 := m0 hc0
  clear hr0 hc0
  have HB := m0 (Below.refl w.heap.size w)
  have H : ((Lw_awake.f k).bind fun t1652 => (if t1652 = true then (if (l0.length : Int) = 0 then (Lw_TargetSeen.j0 k l0 a1 true) else (if (l0.length : Int) > 8 then (Lw_TargetSeen.j0 k l0 a1 true) else ((Bs_Within.f a1 0 23).bind fun t1653 => (Lw_TargetSeen.j0 k l0 a1 (!t1653))))) else (none))) = some r := h
  clear h
  replace H := ob H
  obtain ⟨t1652, A3, H⟩ := H
  (try dsimp only at H)
  replace A3 := m0 A3
  by_cases c4 : t1652 = true
  · subst c4
    rw [if_pos rfl] at H
    have HC5 := m0 H
    clear H
    go_enter Try.func13, Try.ntmps13
    go_upto_region 3 with (first | ((with_reducible refine gate_callee (f := 14) rfl ?_); refine gl (some 18) Try.func14 #[] ?_; (with_reducible refine (Lw_awake.calls k  true _ A3.out).mono ?_); rintro e w6 ⟨rfl, hb⟩; refine ⟨_, rfl, ?_⟩; replace HB := sb HB hb; (try clear hb)))
    (try simp only [Act.put, List.setIfInBounds_toArray, List.set_cons_zero, List.set_cons_succ])
    go_cut [32] (fun v32 wc => ∃ (kq : Nat) (x32_4 : Bool), v32 = .bool x32_4 ∧ Aside0 (Lw_TargetSeen.j0 kq l0 a1 x32_4 = some r) ∧ Aside0 (kq ≤ k) ∧ Aside0 (Below w.heap.size w wc))
    case first =>
      have H := HC5.out
      clear HC5
      by_cases c7 : (l0.length : Int) = 0
      · rw [if_pos c7] at H
        have c7b0 := beq_iff_eq.mpr c7
        have c7b1 := bne_eq_false_iff_eq.mpr c7
        clear c7
        (first | rw [c7b0] | (simp only [i64_w, i32_w]; rw [c7b0]) | skip)
        have H' := m0 H
        clear H
        go_wp2
        go_meet
        case rel => exact ⟨_, (true), (by first | rfl | (simp; done) | (simp [*]; done)), H', ⟨by first | omega | exact Nat.le_refl _⟩, ⟨bz⟩⟩
      · rw [if_neg c7] at H
        have c7b0 := beq_eq_false_iff_ne.mpr c7
        have c7b1 := bne_iff_ne.mpr c7
        have c7b2 : ¬ (l0 = []) := fun h_ => c7 (by rw [h_]; rfl)
        (first | rw [c7b0] | (simp only [i64_w, i32_w]; rw [c7b0]) | skip)
        by_cases c8 : (l0.length : Int) > 8
        · rw [if_pos c8] at H
          have c8b0 := decide_eq_true c8
          have c8b1 : decide (8 < l0.length) = true := decide_eq_true (by omega)
          clear c8
          have H' := m0 H
          clear H
          go_wp2
          go_meet
          case rel => exact ⟨_, (true), (by first | rfl | (simp; done) | (simp [*]; done)), H', ⟨by first | omega | exact Nat.le_refl _⟩, ⟨bz⟩⟩
        · rw [if_neg c8] at H
          have c8b0 := decide_eq_false c8
          have c8b1 : decide (8 < l0.length) = false := decide_eq_false (by omega)
          clear c8
          replace H := ob H
          obtain ⟨t1653, A9, H⟩ := H
          (try dsimp only at H)
          replace A9 := m0 A9
          have H' := m0 H
          clear H
          go_wp2_with (first | (go_at_call 24; (with_reducible refine (Bs_Within.calls a1 0 23 t1653 _ A9.out).mono ?_); rintro e w' ⟨rfl, ⟨nd, rfl⟩⟩))
          go_meet
          case rel => exact ⟨_, (!t1653), (by first | rfl | (simp; done) | (simp [*]; done)), H', ⟨by first | omega | exact Nat.le_refl _⟩, ⟨bz⟩⟩
    case rest =>
      clear HC5
      obtain ⟨kq, x32_4, rfl, HA, HJ4, HB⟩ := hcut
      cases kq with
      | zero => exact absurd HA.out (by simp [Lw_TargetSeen.j0])
      | succ kj4 =>
        have H := HA.out
        clear HA
        simp only [Lw_TargetSeen.j0] at H
        by_cases c10 : x32_4 = true
        · subst c10
          rw [if_pos rfl] at H
          obtain rfl := Option.some.inj H
          go_wp2
          go_ret
          exact ez
        · replace c10 := Bool.eq_false_iff.mpr c10
          subst c10
          rw [if_neg (show ¬ (false = true) by decide)] at H
          have H' := m0 H
          clear H
          go_wp2
          go_loopg [5, 6, 7] kj4 (fun kq v5 v6 v7 w' => ∃ (x5_2 : List (S126)) (x6_2 : Int) (x7_2 : Int), v6 = .int .i64 x6_2 ∧ v7 = .int .i64 x7_2 ∧ Aside0 (Lw_TargetSeen.l0 kq l0 a1 x5_2 x6_2 x7_2 = some r) ∧ Aside0 (kq ≤ kj4) ∧ Aside0 (Kd.R k126 126 w' w.heap.size (fun _ => True) v5 x5_2) ∧ Aside0 (Below w.heap.size w w'))
          case atStart => exact ⟨(([] : List (S126))), (0), (0), (by first | rfl | (simp; done) | (simp [*]; done)), (by first | rfl | (simp; done) | (simp [*]; done)), H', ⟨Nat.le_refl _⟩, ⟨by first | exact Kd.R_nil _ _ _ _ _ | exact Kd.N_nil _ _ _ _ _ | exact Kd.V_nil _ _ _ _ _ | exact Kd.Q_nil _ _ _ _ _ | exact Kd.S_nil _ _ _ _ _⟩, ⟨bz⟩⟩
          case round =>
            clear H'
            obtain ⟨x5_2, x6_2, x7_2, rfl, rfl, HA, HK2, HO_5, HB⟩ := hrel
            cases gk with
            | zero => exact absurd HA.out (by simp [Lw_TargetSeen.l0])
            | succ k2 =>
              have H := HA.out
              clear HA
              simp only [Lw_TargetSeen.l0] at H
              by_cases c11 : x7_2 < (l0.length : Int)
              · rw [if_pos c11] at H
                have c11b0 := decide_eq_true c11
                clear c11
                have HC12 := m0 H
                clear H
                go_upto_region 10 with (fail)
                go_cut [53] (fun v53 wc => ∃ (kq : Nat) (x53_11 : Bool), v53 = .bool x53_11 ∧ Aside0 (Lw_TargetSeen.j2 kq l0 a1 x5_2 x6_2 x7_2 x53_11 = some r) ∧ Aside0 (kq ≤ k2) ∧ Aside0 (Kd.R k126 126 wc w.heap.size (fun _ => True) u5 x5_2) ∧ Aside0 (Below w.heap.size w wc))
                case first =>
                  have H := HC12.out
                  clear HC12
                  by_cases c13 : 0 ≤ x7_2
                  · rw [if_pos c13] at H
                    have c13b0 := decide_eq_true c13
                    clear c13
                    (first | rw [c13b0] | (simp only [i64_w, i32_w]; rw [c13b0]) | skip)
                    replace H := ob H
                    obtain ⟨t1655, A14, H⟩ := H
                    (try dsimp only at H)
                    replace A14 := m0 A14
                    by_cases c15 : t1655 = 0
                    · rw [if_pos c15] at H
                      have c15b0 := beq_iff_eq.mpr c15
                      have c15b1 := bne_eq_false_iff_eq.mpr c15
                      clear c15
                      have H' := m0 H
                      clear H
                      have p1654 : 0 ≤ (x7_2 : Int) := od
                      have q1654 : x7_2 < (l0.length : Int) := od
                      obtain ⟨ad1654, e1654, hx1654_0, hx1654_1, hx1654_2⟩ := at_T44 HR0.out x7_2 p1654 q1654
                      cases e1654
                      replace hx1654_0 := (HB.out.cell (World.block_lt_of_cell? w _ hx1654_0)).trans hx1654_0
                      replace hx1654_1 := (HB.out.cell (World.block_lt_of_cell? w _ hx1654_1)).trans hx1654_1
                      replace hx1654_2 := (HB.out.cell (World.block_lt_of_cell? w _ hx1654_2)).trans hx1654_2
                      replace p1654 := eq_true p1654
                      replace q1654 := eq_true q1654
                      go_wp2_with (first | ((with_reducible refine gate_callee (f := 28) rfl ?_); refine gl (some 44) Try.func28 #[.int .i64 a1, .agg #[.int .i64 ((rd_T44 l0 x7_2).f0), .int .i64 ((rd_T44 l0 x7_2).f1), .int .i64 ((rd_T44 l0 x7_2).f2)]] ?_; (with_reducible refine (Rf_TurnedErr.calls k2 a1 ((rd_T44 l0 x7_2).f0) ((rd_T44 l0 x7_2).f1) ((rd_T44 l0 x7_2).f2) t1655 _ A14.out).mono ?_); rintro e w16 ⟨rfl, hb⟩; refine ⟨_, rfl, ?_⟩; replace HO_5 := rb HO_5 hb; replace HB := sb HB hb; (try clear hb); have p1656 : 0 ≤ (x7_2 : Int) := od; have q1656 : x7_2 < (l0.length : Int) := od; obtain ⟨ad1656, e1656, hx1656_0, hx1656_1, hx1656_2⟩ := at_T44 HR0.out x7_2 p1656 q1656; obtain rfl : ad1654 = ad1656 := (by injection e1656); replace hx1656_0 := (HB.out.cell (World.block_lt_of_cell? w _ hx1656_0)).trans hx1656_0; replace hx1656_1 := (HB.out.cell (World.block_lt_of_cell? w _ hx1656_1)).trans hx1656_1; replace hx1656_2 := (HB.out.cell (World.block_lt_of_cell? w _ hx1656_2)).trans hx1656_2; replace p1656 := eq_true p1656; replace q1656 := eq_true q1656))
                      go_meet
                      case rel => exact ⟨_, ((((rd_T44 l0 x7_2).f0) == 0 && (((rd_T44 l0 x7_2).f1) == 0 && (((rd_T44 l0 x7_2).f2) == 0)))), (by first | rfl | (simp; done) | (simp [*]; done)), H', ⟨by have := HJ4.out; have := HK2.out; first | omega | exact Nat.le_refl _⟩, ⟨br HO_5.out⟩, ⟨bz⟩⟩
                    · rw [if_neg c15] at H
                      have c15b0 := beq_eq_false_iff_ne.mpr c15
                      have c15b1 := bne_iff_ne.mpr c15
                      have H' := m0 H
                      clear H
                      have p1654 : 0 ≤ (x7_2 : Int) := od
                      have q1654 : x7_2 < (l0.length : Int) := od
                      obtain ⟨ad1654, e1654, hx1654_0, hx1654_1, hx1654_2⟩ := at_T44 HR0.out x7_2 p1654 q1654
                      cases e1654
                      replace hx1654_0 := (HB.out.cell (World.block_lt_of_cell? w _ hx1654_0)).trans hx1654_0
                      replace hx1654_1 := (HB.out.cell (World.block_lt_of_cell? w _ hx1654_1)).trans hx1654_1
                      replace hx1654_2 := (HB.out.cell (World.block_lt_of_cell? w _ hx1654_2)).trans hx1654_2
                      replace p1654 := eq_true p1654
                      replace q1654 := eq_true q1654
                      go_wp2_with (first | ((with_reducible refine gate_callee (f := 28) rfl ?_); refine gl (some 44) Try.func28 #[.int .i64 a1, .agg #[.int .i64 ((rd_T44 l0 x7_2).f0), .int .i64 ((rd_T44 l0 x7_2).f1), .int .i64 ((rd_T44 l0 x7_2).f2)]] ?_; (with_reducible refine (Rf_TurnedErr.calls k2 a1 ((rd_T44 l0 x7_2).f0) ((rd_T44 l0 x7_2).f1) ((rd_T44 l0 x7_2).f2) t1655 _ A14.out).mono ?_); rintro e w17 ⟨rfl, hb⟩; refine ⟨_, rfl, ?_⟩; replace HO_5 := rb HO_5 hb; replace HB := sb HB hb; (try clear hb)))
                      go_meet
                      case rel => exact ⟨_, (true), (by first | rfl | (simp; done) | (simp [*]; done)), H', ⟨by have := HJ4.out; have := HK2.out; first | omega | exact Nat.le_refl _⟩, ⟨br HO_5.out⟩, ⟨bz⟩⟩
                  · rw [if_neg c13] at H
                    exact absurd H (by simp)
                case rest =>
                  clear HC12
                  try clear hx1
                  try clear hx16
                  try clear hx1654_0
                  try clear hx1654_1
                  try clear hx1654_2
                  try clear hx1656_0
                  try clear hx1656_1
                  try clear hx1656_2
                  obtain ⟨kq, x53_11, rfl, HA, HJ11, HO_5, HB⟩ := hcut
                  cases kq with
                  | zero => exact absurd HA.out (by simp [Lw_TargetSeen.j2])
                  | succ kj11 =>
                    have H := HA.out
                    clear HA
                    simp only [Lw_TargetSeen.j2] at H
                    by_cases c18 : x53_11 = true
                    · subst c18
                      rw [if_pos rfl] at H
                      obtain rfl := Option.some.inj H
                      go_wp2
                      go_ret
                      exact ez
                    · replace c18 := Bool.eq_false_iff.mpr c18
                      subst c18
                      rw [if_neg (show ¬ (false = true) by decide)] at H
                      by_cases c19 : 0 ≤ x7_2
                      · rw [if_pos c19] at H
                        have c19b0 := decide_eq_true c19
                        clear c19
                        by_cases c20 : x7_2 < (l0.length : Int)
                        · rw [if_pos c20] at H
                          have c20b0 := decide_eq_true c20
                          clear c20
                          replace H := ob H
                          obtain ⟨⟨t1658, t1659, t1660, t1661⟩, A21, H⟩ := H
                          (try dsimp only at H)
                          replace A21 := m0 A21
                          by_cases c22 : t1661 = 0
                          · rw [if_pos c22] at H
                            have c22b0 := beq_iff_eq.mpr c22
                            have c22b1 := bne_eq_false_iff_eq.mpr c22
                            clear c22
                            by_cases c23 : x5_2.length < 2932031007402
                            · rw [if_pos c23] at H
                              have LMc23 := m0 c23
                              clear c23
                              obtain ⟨y1664, hy1664⟩ : ∃ y_ : List (S126), y_ = (x5_2 ++ [(⟨(⟨(rd_T44 l0 x7_2).f0, (rd_T44 l0 x7_2).f1, (rd_T44 l0 x7_2).f2⟩ : S44), (⟨t1658, t1659, t1660⟩ : S44)⟩ : S126)]) := ⟨_, rfl⟩
                              replace H : (Lw_TargetSeen.l0 kj11 l0 a1 y1664 (wrap64 ((wrap64 ((wrap64 (x6_2 + (wrap64 (((rd_T44 l0 x7_2).f0) * ((rd_T44 l0 x7_2).f0))))) + (wrap64 (((rd_T44 l0 x7_2).f1) * ((rd_T44 l0 x7_2).f1))))) + (wrap64 (((rd_T44 l0 x7_2).f2) * ((rd_T44 l0 x7_2).f2))))) (wrap64 (x7_2 + 1))) = some r := by first | (rw [hy1664]; with_reducible exact H) | (have H2_ := (Option.bind_some _ _).symm.trans H; rw [hy1664]; with_reducible exact H2_) | (have H2_ := (Option.bind_some _ _).symm.trans H; with_reducible exact H2_) | with_reducible exact H | (rw [hy1664]; exact H) | exact H
                              have Ny1664 := m0 hy1664
                              clear hy1664
                              have H' := m0 H
                              clear H
                              have p1657 : 0 ≤ (x7_2 : Int) := od
                              have q1657 : x7_2 < (l0.length : Int) := od
                              obtain ⟨ad1657, e1657, hx1657_0, hx1657_1, hx1657_2⟩ := at_T44 HR0.out x7_2 p1657 q1657
                              cases e1657
                              replace hx1657_0 := (HB.out.cell (World.block_lt_of_cell? w _ hx1657_0)).trans hx1657_0
                              replace hx1657_1 := (HB.out.cell (World.block_lt_of_cell? w _ hx1657_1)).trans hx1657_1
                              replace hx1657_2 := (HB.out.cell (World.block_lt_of_cell? w _ hx1657_2)).trans hx1657_2
                              replace p1657 := eq_true p1657
                              replace q1657 := eq_true q1657
                              try go_wp2_with (first | ((with_reducible refine gate_callee (f := 26) rfl ?_); refine gl (some 60) Try.func26 #[.int .i64 a1, .agg #[.int .i64 ((rd_T44 l0 x7_2).f0), .int .i64 ((rd_T44 l0 x7_2).f1), .int .i64 ((rd_T44 l0 x7_2).f2)]] ?_; (with_reducible refine (L_TurnedBy.calls kj11 a1 ((rd_T44 l0 x7_2).f0) ((rd_T44 l0 x7_2).f1) ((rd_T44 l0 x7_2).f2) t1658 t1659 t1660 t1661 _ A21.out).mono ?_); rintro e w24 ⟨rfl, hb⟩; refine ⟨_, rfl, ?_⟩; replace HO_5 := rb HO_5 hb; replace HB := sb HB hb; (try clear hb)) | ((with_reducible refine gate_dst (N := 8) rfl ?_); (try (refine gate_guard (by rfl) ?_; dsimp only)); refine be 8 44 #[.int .i64 0, .int .i64 0, .int .i64 0] ?_; intro gb1662 hg w25 hbox hb; replace HO_5 := rb HO_5 hb; have BK1662 := m0 hbox; have GE1662 := gw w hg; replace HB := sb HB hb; clear hb hbox hg; obtain ⟨_, _, _, _, _, _⟩ := b3 BK1662))
                              replace HO_5 : Aside0 (Kd.R k126 126 (((w25.setCell ⟨gb1662, 0, none⟩ (.int .i64 t1658)).setCell ⟨gb1662, 1, none⟩ (.int .i64 t1659)).setCell ⟨gb1662, 2, none⟩ (.int .i64 t1660)) w.heap.size (fun _ => True) u5 x5_2) := ⟨by (with_reducible repeat (first | apply Kd.R_alloc | apply Kd.R_drewN | apply Kd.R_drew)); exact Kd.R_mono (Kd.R_far (p := ⟨gb1662, 2, none⟩) (Kd.R_far (p := ⟨gb1662, 1, none⟩) (Kd.R_far (p := ⟨gb1662, 0, none⟩) (Kd.R_types HO_5.out BK1662.out (by decide)) (fun _ hk => hk.2) (.int .i64 t1658)) (fun _ hk => hk.2) (.int .i64 t1659)) (fun _ hk => hk.2) (.int .i64 t1660)) (fun _ hk => trivial)⟩
                              replace BK1662 : Aside0 ((((w25.setCell ⟨gb1662, 0, none⟩ (.int .i64 t1658)).setCell ⟨gb1662, 1, none⟩ (.int .i64 t1659)).setCell ⟨gb1662, 2, none⟩ (.int .i64 t1660)).heap[gb1662]? = some (.cells #[.int .i64 t1658, .int .i64 t1659, .int .i64 t1660] 44 (0, 0))) := ⟨bq BK1662.out⟩
                              replace HB : Aside0 (Below w.heap.size w (((w25.setCell ⟨gb1662, 0, none⟩ (.int .i64 t1658)).setCell ⟨gb1662, 1, none⟩ (.int .i64 t1659)).setCell ⟨gb1662, 2, none⟩ (.int .i64 t1660))) := ⟨bz⟩
                              generalize (((w25.setCell ⟨gb1662, 0, none⟩ (.int .i64 t1658)).setCell ⟨gb1662, 1, none⟩ (.int .i64 t1659)).setCell ⟨gb1662, 2, none⟩ (.int .i64 t1660)) = w27 at HO_5 BK1662 HB ⊢
                              replace HO_5 := m0 (Kd.R_drew HO_5.out); replace BK1662 := bd BK1662; replace HB := sd HB
                              have p1663 : 0 ≤ (x7_2 : Int) := od
                              have q1663 : x7_2 < (l0.length : Int) := od
                              obtain ⟨ad1663, e1663, hx1663_0, hx1663_1, hx1663_2⟩ := at_T44 HR0.out x7_2 p1663 q1663
                              have hw1663_2 := hx1663_2
                              have hw1663_1 := hx1663_1
                              have hw1663_0 := hx1663_0
                              obtain rfl : ad1657 = ad1663 := (by injection e1663)
                              replace hx1663_0 := (HB.out.cell (World.block_lt_of_cell? w _ hx1663_0)).trans hx1663_0
                              replace hx1663_1 := (HB.out.cell (World.block_lt_of_cell? w _ hx1663_1)).trans hx1663_1
                              replace hx1663_2 := (HB.out.cell (World.block_lt_of_cell? w _ hx1663_2)).trans hx1663_2
                              replace p1663 := eq_true p1663
                              replace q1663 := eq_true q1663
                              refine start_ (n := 10) (S := fun w' => w'.cell? ⟨gb1662, 0, none⟩ = some (.int .i64 t1658) ∧ w'.cell? ⟨gb1662, 1, none⟩ = some (.int .i64 t1659) ∧ w'.cell? ⟨gb1662, 2, none⟩ = some (.int .i64 t1660) ∧ w'.cell? (ad1657.add ((x7_2).toNat * 3)) = some (.int .i64 ((rd_T44 l0 x7_2).f0)) ∧ w'.cell? ⟨(ad1657.add ((x7_2).toNat * 3)).block, (ad1657.add ((x7_2).toNat * 3)).off + 1, none⟩ = some (.int .i64 ((rd_T44 l0 x7_2).f1)) ∧ w'.cell? ⟨(ad1657.add ((x7_2).toNat * 3)).block, (ad1657.add ((x7_2).toNat * 3)).off + 2, none⟩ = some (.int .i64 ((rd_T44 l0 x7_2).f2))) (ds := []) #[false, false, false, false, false, false, false, false, false, false] (by kernel_rfl) rfl rfl ⟨(blk_cell BK1662.out 0).trans rfl, (blk_cell BK1662.out 1).trans rfl, (blk_cell BK1662.out 2).trans rfl, ((HB.out.cell (World.block_lt_of_cell? w _ hw1663_0)).trans hw1663_0), ((HB.out.cell (World.block_lt_of_cell? w _ hw1663_1)).trans hw1663_1), ((HB.out.cell (World.block_lt_of_cell? w _ hw1663_2)).trans hw1663_2)⟩ (fun hH => ?_); refine with_tabW Lw_TargetSeen.tab15 Lw_TargetSeen.bits15 (fun HT_ HW_ => ?_)
                              generalize w27.drew = w28 at HO_5 BK1662 HB hx1663_0 hx1663_1 hx1663_2 hH ⊢
                              refine pZ 0 (some 65) #[true, false, false, false, false, false, false, false, false, false] HT_ ?_
                              refine pZ 1 (some 66) #[true, true, false, false, false, false, false, false, false, false] HT_ ?_
                              refine pZ 2 (some 67) #[true, true, true, false, false, false, false, false, false, false] HT_ ?_
                              refine pZ 3 (some 68) #[true, true, true, true, false, false, false, false, false, false] HT_ ?_
                              refine takeZ 4 (some 69) #[true, true, true, true, true, false, false, false, false, false] (take_ofW HT_.out HW_.out (by kernel_rfl)) hH ?_
                              refine takeZ 5 (some 70) #[true, true, true, true, true, true, false, false, false, false] (take_ofW HT_.out HW_.out (by kernel_rfl)) hH ?_
                              refine pZ 6 (some 71) #[true, true, true, true, true, true, true, false, false, false] HT_ ?_
                              refine oneZ 7 (some 72) #[true, true, true, true, true, true, true, true, false, false] (one_of HT_.out (by kernel_rfl)) fun K hK => ?_
                              refine value_ (w1 := ?_) (v := ?_) (by rfl) rfl ?_ ?_
                              rotate_left 2
                              · go_simp
                                constructor
                                · rfl
                                · rfl
                              refine hK.out _ _ ⟨(blk_cell (blk_alloc BK1662.out _) 0).trans rfl, (blk_cell (blk_alloc BK1662.out _) 1).trans rfl, (blk_cell (blk_alloc BK1662.out _) 2).trans rfl, (World.cell?_alloc_lt _ _ _ (World.block_lt_of_cell? _ _ (((HB.out.cell (World.block_lt_of_cell? w _ hw1663_0)).trans hw1663_0)))).trans (((HB.out.cell (World.block_lt_of_cell? w _ hw1663_0)).trans hw1663_0)), (World.cell?_alloc_lt _ _ _ (World.block_lt_of_cell? _ _ (((HB.out.cell (World.block_lt_of_cell? w _ hw1663_1)).trans hw1663_1)))).trans (((HB.out.cell (World.block_lt_of_cell? w _ hw1663_1)).trans hw1663_1)), (World.cell?_alloc_lt _ _ _ (World.block_lt_of_cell? _ _ (((HB.out.cell (World.block_lt_of_cell? w _ hw1663_2)).trans hw1663_2)))).trans (((HB.out.cell (World.block_lt_of_cell? w _ hw1663_2)).trans hw1663_2))⟩ (fun hH => ?_)
                              clear hK K
                              refine norm_ (a' := ?_) ?_ ?_
                              rotate_left
                              · show Act.put _ (some 72) _ = _
                                exact pz
                              refine oneZ 8 (some 73) #[true, true, true, true, true, true, true, true, true, false] (one_of HT_.out (by kernel_rfl)) fun K hK => ?_
                              refine Kd.R_append_step k126 (w0 := w) w.heap.size (by rfl) (.tmp 65) (.tmp 72) 113 126 (.agg #[(.int .i64 0), (.int .i64 0), (.int .i64 0), (.int .i64 0), (.int .i64 0), (.int .i64 0)]) 48 rfl Try.underlying113 info126 rfl (by decide) (by omega) u5 x5_2 (⟨(⟨(rd_T44 l0 x7_2).f0, (rd_T44 l0 x7_2).f1, (rd_T44 l0 x7_2).f2⟩ : S44), (⟨t1658, t1659, t1660⟩ : S44)⟩ : S126) [.int .i64 ((rd_T44 l0 x7_2).f0), .int .i64 ((rd_T44 l0 x7_2).f1), .int .i64 ((rd_T44 l0 x7_2).f2), .int .i64 t1658, .int .i64 t1659, .int .i64 t1660] (fun _ => True) (fun _ => False) rfl rfl ?aP (fun _ hk => hk.elim) ?aF ?aO ?aB ?aS ?aL ?_
                              (case aP => exact k126_mkM _ _ _ (⟨(⟨(rd_T44 l0 x7_2).f0, (rd_T44 l0 x7_2).f1, (rd_T44 l0 x7_2).f2⟩ : S44), (⟨t1658, t1659, t1660⟩ : S44)⟩ : S126))
                              (case aB => exact bz)
                              (case aF => exact (fun _ _ => trivial))
                              (case aO => exact (br HO_5.out))
                              (case aS => exact (below_size bz))
                              (case aL => have := LMc23.out; omega)
                              intro v1665 w29 ho hb hg hat
                              rw [← Ny1664.out] at ho
                              have n0_ := m0 (blk_grown (g := gb1662) (o := .cells #[.int .i64 t1658, .int .i64 t1659, .int .i64 t1660] 44 (0, 0)) (bk BK1662.out) hg (Kd.R_ne HO_5.out BK1662.out (by decide))); have n1_ := m0 (hb); have n2_ := m0 (ho); clear BK1662; clear HB; clear HO_5; have BK1662 := n0_; have HB := n1_; have HO1666 := n2_; clear n0_ n1_ n2_
                              clear ho hb hg hat
                              refine hK.out _ _ ⟨(blk_cell BK1662.out 0).trans rfl, (blk_cell BK1662.out 1).trans rfl, (blk_cell BK1662.out 2).trans rfl, ((HB.out.cell (World.block_lt_of_cell? w _ hw1663_0)).trans hw1663_0), ((HB.out.cell (World.block_lt_of_cell? w _ hw1663_1)).trans hw1663_1), ((HB.out.cell (World.block_lt_of_cell? w _ hw1663_2)).trans hw1663_2)⟩ (fun hH => ?_)
                              clear hK K
                              refine norm_ (a' := ?_) ?_ ?_
                              rotate_left
                              · show Act.put _ (some 73) _ = _
                                exact pz
                              refine pZ 9 (some 5) #[true, true, true, true, true, true, true, true, true, true] HT_ ?_
                              refine done_ (done_of HT_.out (by kernel_rfl)) ?_
                              try go_wp2
                              replace HO1666 := m0 (Kd.R_drew HO1666.out); replace BK1662 := bd BK1662; replace HB := sd HB
                              have p1667 : 0 ≤ (x7_2 : Int) := od
                              have q1667 : x7_2 < (l0.length : Int) := od
                              obtain ⟨ad1667, e1667, hx1667_0, hx1667_1, hx1667_2⟩ := at_T44 HR0.out x7_2 p1667 q1667
                              have hw1667_2 := hx1667_2
                              have hw1667_1 := hx1667_1
                              have hw1667_0 := hx1667_0
                              obtain rfl : ad1657 = ad1667 := (by injection e1667)
                              replace hx1667_0 := (HB.out.cell (World.block_lt_of_cell? w _ hx1667_0)).trans hx1667_0
                              replace hx1667_1 := (HB.out.cell (World.block_lt_of_cell? w _ hx1667_1)).trans hx1667_1
                              replace hx1667_2 := (HB.out.cell (World.block_lt_of_cell? w _ hx1667_2)).trans hx1667_2
                              replace p1667 := eq_true p1667
                              replace q1667 := eq_true q1667
                              have p1668 : 0 ≤ (x7_2 : Int) := od
                              have q1668 : x7_2 < (l0.length : Int) := od
                              obtain ⟨ad1668, e1668, hx1668_0, hx1668_1, hx1668_2⟩ := at_T44 HR0.out x7_2 p1668 q1668
                              have hw1668_2 := hx1668_2
                              have hw1668_1 := hx1668_1
                              have hw1668_0 := hx1668_0
                              obtain rfl : ad1657 = ad1668 := (by injection e1668)
                              replace hx1668_0 := (HB.out.cell (World.block_lt_of_cell? w _ hx1668_0)).trans hx1668_0
                              replace hx1668_1 := (HB.out.cell (World.block_lt_of_cell? w _ hx1668_1)).trans hx1668_1
                              replace hx1668_2 := (HB.out.cell (World.block_lt_of_cell? w _ hx1668_2)).trans hx1668_2
                              replace p1668 := eq_true p1668
                              replace q1668 := eq_true q1668
                              have p1669 : 0 ≤ (x7_2 : Int) := od
                              have q1669 : x7_2 < (l0.length : Int) := od
                              obtain ⟨ad1669, e1669, hx1669_0, hx1669_1, hx1669_2⟩ := at_T44 HR0.out x7_2 p1669 q1669
                              have hw1669_2 := hx1669_2
                              have hw1669_1 := hx1669_1
                              have hw1669_0 := hx1669_0
                              obtain rfl : ad1657 = ad1669 := (by injection e1669)
                              replace hx1669_0 := (HB.out.cell (World.block_lt_of_cell? w _ hx1669_0)).trans hx1669_0
                              replace hx1669_1 := (HB.out.cell (World.block_lt_of_cell? w _ hx1669_1)).trans hx1669_1
                              replace hx1669_2 := (HB.out.cell (World.block_lt_of_cell? w _ hx1669_2)).trans hx1669_2
                              replace p1669 := eq_true p1669
                              replace q1669 := eq_true q1669
                              have p1670 : 0 ≤ (x7_2 : Int) := od
                              have q1670 : x7_2 < (l0.length : Int) := od
                              obtain ⟨ad1670, e1670, hx1670_0, hx1670_1, hx1670_2⟩ := at_T44 HR0.out x7_2 p1670 q1670
                              have hw1670_2 := hx1670_2
                              have hw1670_1 := hx1670_1
                              have hw1670_0 := hx1670_0
                              obtain rfl : ad1657 = ad1670 := (by injection e1670)
                              replace hx1670_0 := (HB.out.cell (World.block_lt_of_cell? w _ hx1670_0)).trans hx1670_0
                              replace hx1670_1 := (HB.out.cell (World.block_lt_of_cell? w _ hx1670_1)).trans hx1670_1
                              replace hx1670_2 := (HB.out.cell (World.block_lt_of_cell? w _ hx1670_2)).trans hx1670_2
                              replace p1670 := eq_true p1670
                              replace q1670 := eq_true q1670
                              have p1671 : 0 ≤ (x7_2 : Int) := od
                              have q1671 : x7_2 < (l0.length : Int) := od
                              obtain ⟨ad1671, e1671, hx1671_0, hx1671_1, hx1671_2⟩ := at_T44 HR0.out x7_2 p1671 q1671
                              have hw1671_2 := hx1671_2
                              have hw1671_1 := hx1671_1
                              have hw1671_0 := hx1671_0
                              obtain rfl : ad1657 = ad1671 := (by injection e1671)
                              replace hx1671_0 := (HB.out.cell (World.block_lt_of_cell? w _ hx1671_0)).trans hx1671_0
                              replace hx1671_1 := (HB.out.cell (World.block_lt_of_cell? w _ hx1671_1)).trans hx1671_1
                              replace hx1671_2 := (HB.out.cell (World.block_lt_of_cell? w _ hx1671_2)).trans hx1671_2
                              replace p1671 := eq_true p1671
                              replace q1671 := eq_true q1671
                              have p1672 : 0 ≤ (x7_2 : Int) := od
                              have q1672 : x7_2 < (l0.length : Int) := od
                              obtain ⟨ad1672, e1672, hx1672_0, hx1672_1, hx1672_2⟩ := at_T44 HR0.out x7_2 p1672 q1672
                              have hw1672_2 := hx1672_2
                              have hw1672_1 := hx1672_1
                              have hw1672_0 := hx1672_0
                              obtain rfl : ad1657 = ad1672 := (by injection e1672)
                              replace hx1672_0 := (HB.out.cell (World.block_lt_of_cell? w _ hx1672_0)).trans hx1672_0
                              replace hx1672_1 := (HB.out.cell (World.block_lt_of_cell? w _ hx1672_1)).trans hx1672_1
                              replace hx1672_2 := (HB.out.cell (World.block_lt_of_cell? w _ hx1672_2)).trans hx1672_2
                              replace p1672 := eq_true p1672
                              replace q1672 := eq_true q1672
                              refine start_ (n := 38) (S := fun w' => w'.cell? (ad1657.add ((x7_2).toNat * 3)) = some (.int .i64 ((rd_T44 l0 x7_2).f0)) ∧ w'.cell? ⟨(ad1657.add ((x7_2).toNat * 3)).block, (ad1657.add ((x7_2).toNat * 3)).off + 1, none⟩ = some (.int .i64 ((rd_T44 l0 x7_2).f1)) ∧ w'.cell? ⟨(ad1657.add ((x7_2).toNat * 3)).block, (ad1657.add ((x7_2).toNat * 3)).off + 2, none⟩ = some (.int .i64 ((rd_T44 l0 x7_2).f2)) ∧ w'.cell? (ad1657.add ((x7_2).toNat * 3)) = some (.int .i64 ((rd_T44 l0 x7_2).f0)) ∧ w'.cell? ⟨(ad1657.add ((x7_2).toNat * 3)).block, (ad1657.add ((x7_2).toNat * 3)).off + 1, none⟩ = some (.int .i64 ((rd_T44 l0 x7_2).f1)) ∧ w'.cell? ⟨(ad1657.add ((x7_2).toNat * 3)).block, (ad1657.add ((x7_2).toNat * 3)).off + 2, none⟩ = some (.int .i64 ((rd_T44 l0 x7_2).f2)) ∧ w'.cell? (ad1657.add ((x7_2).toNat * 3)) = some (.int .i64 ((rd_T44 l0 x7_2).f0)) ∧ w'.cell? ⟨(ad1657.add ((x7_2).toNat * 3)).block, (ad1657.add ((x7_2).toNat * 3)).off + 1, none⟩ = some (.int .i64 ((rd_T44 l0 x7_2).f1)) ∧ w'.cell? ⟨(ad1657.add ((x7_2).toNat * 3)).block, (ad1657.add ((x7_2).toNat * 3)).off + 2, none⟩ = some (.int .i64 ((rd_T44 l0 x7_2).f2)) ∧ w'.cell? (ad1657.add ((x7_2).toNat * 3)) = some (.int .i64 ((rd_T44 l0 x7_2).f0)) ∧ w'.cell? ⟨(ad1657.add ((x7_2).toNat * 3)).block, (ad1657.add ((x7_2).toNat * 3)).off + 1, none⟩ = some (.int .i64 ((rd_T44 l0 x7_2).f1)) ∧ w'.cell? ⟨(ad1657.add ((x7_2).toNat * 3)).block, (ad1657.add ((x7_2).toNat * 3)).off + 2, none⟩ = some (.int .i64 ((rd_T44 l0 x7_2).f2)) ∧ w'.cell? (ad1657.add ((x7_2).toNat * 3)) = some (.int .i64 ((rd_T44 l0 x7_2).f0)) ∧ w'.cell? ⟨(ad1657.add ((x7_2).toNat * 3)).block, (ad1657.add ((x7_2).toNat * 3)).off + 1, none⟩ = some (.int .i64 ((rd_T44 l0 x7_2).f1)) ∧ w'.cell? ⟨(ad1657.add ((x7_2).toNat * 3)).block, (ad1657.add ((x7_2).toNat * 3)).off + 2, none⟩ = some (.int .i64 ((rd_T44 l0 x7_2).f2)) ∧ w'.cell? (ad1657.add ((x7_2).toNat * 3)) = some (.int .i64 ((rd_T44 l0 x7_2).f0)) ∧ w'.cell? ⟨(ad1657.add ((x7_2).toNat * 3)).block, (ad1657.add ((x7_2).toNat * 3)).off + 1, none⟩ = some (.int .i64 ((rd_T44 l0 x7_2).f1)) ∧ w'.cell? ⟨(ad1657.add ((x7_2).toNat * 3)).block, (ad1657.add ((x7_2).toNat * 3)).off + 2, none⟩ = some (.int .i64 ((rd_T44 l0 x7_2).f2))) (ds := []) #[false, false, false, false, false, false, false, false, false, false, false, false, false, false, false, false, false, false, false, false, false, false, false, false, false, false, false, false, false, false, false, false, false, false, false, false, false, false] (by kernel_rfl) rfl rfl ⟨((HB.out.cell (World.block_lt_of_cell? w _ hw1667_0)).trans hw1667_0), ((HB.out.cell (World.block_lt_of_cell? w _ hw1667_1)).trans hw1667_1), ((HB.out.cell (World.block_lt_of_cell? w _ hw1667_2)).trans hw1667_2), ((HB.out.cell (World.block_lt_of_cell? w _ hw1668_0)).trans hw1668_0), ((HB.out.cell (World.block_lt_of_cell? w _ hw1668_1)).trans hw1668_1), ((HB.out.cell (World.block_lt_of_cell? w _ hw1668_2)).trans hw1668_2), ((HB.out.cell (World.block_lt_of_cell? w _ hw1669_0)).trans hw1669_0), ((HB.out.cell (World.block_lt_of_cell? w _ hw1669_1)).trans hw1669_1), ((HB.out.cell (World.block_lt_of_cell? w _ hw1669_2)).trans hw1669_2), ((HB.out.cell (World.block_lt_of_cell? w _ hw1670_0)).trans hw1670_0), ((HB.out.cell (World.block_lt_of_cell? w _ hw1670_1)).trans hw1670_1), ((HB.out.cell (World.block_lt_of_cell? w _ hw1670_2)).trans hw1670_2), ((HB.out.cell (World.block_lt_of_cell? w _ hw1671_0)).trans hw1671_0), ((HB.out.cell (World.block_lt_of_cell? w _ hw1671_1)).trans hw1671_1), ((HB.out.cell (World.block_lt_of_cell? w _ hw1671_2)).trans hw1671_2), ((HB.out.cell (World.block_lt_of_cell? w _ hw1672_0)).trans hw1672_0), ((HB.out.cell (World.block_lt_of_cell? w _ hw1672_1)).trans hw1672_1), ((HB.out.cell (World.block_lt_of_cell? w _ hw1672_2)).trans hw1672_2)⟩ (fun hH => ?_); refine with_tabW Lw_TargetSeen.tab16 Lw_TargetSeen.bits16 (fun HT_ HW_ => ?_)
                              generalize w29.drew = w30 at HO1666 BK1662 HB hx1667_0 hx1667_1 hx1667_2 hx1668_0 hx1668_1 hx1668_2 hx1669_0 hx1669_1 hx1669_2 hx1670_0 hx1670_1 hx1670_2 hx1671_0 hx1671_1 hx1671_2 hx1672_0 hx1672_1 hx1672_2 hH ⊢
                              refine pZ 0 (some 74) (bs 38 1) HT_ ?_
                              refine pZ 1 (some 75) (bs 38 3) HT_ ?_
                              refine pZ 2 (some 76) (bs 38 7) HT_ ?_
                              refine pZ 3 (some 77) (bs 38 15) HT_ ?_
                              refine pZ 4 (some 78) (bs 38 31) HT_ ?_
                              refine pZ 6 (some 80) (bs 38 95) HT_ ?_
                              refine pZ 7 (some 81) (bs 38 223) HT_ ?_
                              refine pZ 8 (some 82) (bs 38 479) HT_ ?_
                              refine pZ 9 (some 83) (bs 38 991) HT_ ?_
                              refine pZ 13 (some 87) (bs 38 9183) HT_ ?_
                              refine pZ 14 (some 88) (bs 38 25567) HT_ ?_
                              refine pZ 15 (some 89) (bs 38 58335) HT_ ?_
                              refine pZ 16 (some 90) (bs 38 123871) HT_ ?_
                              refine pZ 18 (some 92) (bs 38 386015) HT_ ?_
                              refine pZ 19 (some 93) (bs 38 910303) HT_ ?_
                              refine pZ 20 (some 94) (bs 38 1958879) HT_ ?_
                              refine pZ 21 (some 95) (bs 38 4056031) HT_ ?_
                              refine pZ 25 (some 99) (bs 38 37610463) HT_ ?_
                              refine pZ 26 (some 100) (bs 38 104719327) HT_ ?_
                              refine pZ 27 (some 101) (bs 38 238937055) HT_ ?_
                              refine pZ 28 (some 102) (bs 38 507372511) HT_ ?_
                              refine pZ 30 (some 104) (bs 38 1581114335) HT_ ?_
                              refine pZ 31 (some 105) (bs 38 3728597983) HT_ ?_
                              refine pZ 32 (some 106) (bs 38 8023565279) HT_ ?_
                              refine pZ 33 (some 107) (bs 38 16613499871) HT_ ?_
                              refine takeZ 5 (some 79) (bs 38 16613499903) (take_ofW HT_.out HW_.out (by kernel_rfl)) hH ?_
                              refine takeZ 10 (some 84) (bs 38 16613500927) (take_ofW HT_.out HW_.out (by kernel_rfl)) hH ?_
                              refine pZ 11 (some 85) (bs 38 16613502975) HT_ ?_
                              refine pZ 12 (some 86) (bs 38 16613507071) HT_ ?_
                              refine takeZ 17 (some 91) (bs 38 16613638143) (take_ofW HT_.out HW_.out (by kernel_rfl)) hH ?_
                              refine takeZ 22 (some 96) (bs 38 16617832447) (take_ofW HT_.out HW_.out (by kernel_rfl)) hH ?_
                              refine pZ 23 (some 97) (bs 38 16626221055) HT_ ?_
                              refine pZ 24 (some 98) (bs 38 16642998271) HT_ ?_
                              refine takeZ 29 (some 103) (bs 38 17179869183) (take_ofW HT_.out HW_.out (by kernel_rfl)) hH ?_
                              refine takeZ 34 (some 108) (bs 38 34359738367) (take_ofW HT_.out HW_.out (by kernel_rfl)) hH ?_
                              refine pZ 35 (some 109) (bs 38 68719476735) HT_ ?_
                              refine pZ 36 (some 110) (bs 38 137438953471) HT_ ?_
                              refine pZ 37 (some 6) (bs 38 274877906943) HT_ ?_
                              refine done_ (done_of HT_.out (by kernel_rfl)) ?_
                              try go_wp2
                              go_roundg kj11
                              case measure => have := HJ4.out; have := HK2.out; have := HJ11.out; omega
                              case rel => exact ⟨(y1664), (wrap64 ((wrap64 ((wrap64 (x6_2 + (wrap64 (((rd_T44 l0 x7_2).f0) * ((rd_T44 l0 x7_2).f0))))) + (wrap64 (((rd_T44 l0 x7_2).f1) * ((rd_T44 l0 x7_2).f1))))) + (wrap64 (((rd_T44 l0 x7_2).f2) * ((rd_T44 l0 x7_2).f2))))), (wrap64 (x7_2 + 1)), (by first | rfl | (simp; done) | (simp [*]; done)), (by first | rfl | (simp; done) | (simp [*]; done)), H', ⟨by have := HJ4.out; have := HK2.out; have := HJ11.out; omega⟩, ⟨br HO1666.out⟩, ⟨bz⟩⟩
                            · rw [if_neg c23] at H
                              exact absurd H (by simp)
                          · rw [if_neg c22] at H
                            exact absurd H (by simp)
                        · rw [if_neg c20] at H
                          exact absurd H (by simp)
                      · rw [if_neg c19] at H
                        exact absurd H (by simp)
              · rw [if_neg c11] at H
                have c11b0 := decide_eq_false c11
                clear c11
                replace H := ob H
                obtain ⟨t1673, A31, H⟩ := H
                (try dsimp only at H)
                replace A31 := m0 A31
                by_cases c32 : t1673 = 0
                · rw [if_pos c32] at H
                  have c32b0 := beq_iff_eq.mpr c32
                  have c32b1 := bne_eq_false_iff_eq.mpr c32
                  clear c32
                  replace H := ob H
                  obtain ⟨t1674, A33, H⟩ := H
                  (try dsimp only at H)
                  replace A33 := m0 A33
                  replace H := ob H
                  obtain ⟨⟨t1677, t1678⟩, A34, H⟩ := H
                  (try dsimp only at H)
                  replace A34 := m0 A34
                  replace H := ob H
                  obtain ⟨t1681, A35, H⟩ := H
                  (try dsimp only at H)
                  replace A35 := m0 A35
                  replace H := ob H
                  obtain ⟨⟨t1684, t1685, t1686⟩, A36, H⟩ := H
                  (try dsimp only at H)
                  replace A36 := m0 A36
                  replace H := ob H
                  obtain ⟨t1687, A37, H⟩ := H
                  (try dsimp only at H)
                  replace A37 := m0 A37
                  replace H := ob H
                  obtain ⟨⟨t1690, t1691⟩, A38, H⟩ := H
                  (try dsimp only at H)
                  replace A38 := m0 A38
                  have HC39 := m0 H
                  clear H
                  obtain ⟨Ao40, co40, eo40⟩ := Kd.R_slice HO_5.out
                  subst eo40
                  go_upto_region 22 with (first | ((with_reducible refine gate_callee (f := 67) rfl ?_); refine gl (some 112) Try.func67 #[.slice Ao40 x5_2.length co40] ?_; (with_reducible refine (Rf_SightsErr.calls k2 _ _ x5_2 t1673 _ ?side1 ?side2 A31.out).mono ?_); (case side1 => exact bc (Kd.R_reads' HO_5.out).2.2); (case side2 => exact (Kd.R_reads' HO_5.out).2.1); rintro e w41 ⟨rfl, hb⟩; refine ⟨_, rfl, ?_⟩; replace HO_5 := rb HO_5 hb; replace HB := sb HB hb; (try clear hb)) | ((with_reducible refine gate_callee (f := 64) rfl ?_); refine gl (some 116) Try.func64 #[.slice Ao40 x5_2.length co40] ?_; (with_reducible refine (Rf_CopySights.calls _ _ x5_2 t1674 _ ?side1 ?side2 A33.out).mono ?_); (case side1 => exact bc (Kd.R_reads' HO_5.out).2.2); (case side2 => exact (Kd.R_reads' HO_5.out).2.1); rintro e w42 ⟨v1675, rfl, ho0, hb⟩; refine ⟨_, rfl, ?_⟩; have HO1676 := m0 (Kd.R_lower (Kd.R_new' ho0 (Kd.R_lt (br HO_5.out))) (below_size bz)); replace HO_5 := m0 (Kd.R_elder' (br HO_5.out) (Kd.R_base ho0) hb); replace HB := sb HB hb; (try clear hb); (try clear ho0); obtain ⟨Ao43, co43, eo43⟩ := Kd.R_slice HO1676.out; subst eo43) | ((with_reducible refine gate_callee (f := 63) rfl ?_); refine gl (some 117) Try.func63 #[.slice Ao43 t1674.length co43] ?_; (with_reducible refine (L_ScoresOf.calls k2 _ _ t1674 t1677 t1678 _ ?side1 ?side2 A34.out).mono ?_); (case side1 => exact bc (Kd.R_reads' HO1676.out).2.2); (case side2 => exact (Kd.R_reads' HO1676.out).2.1); rintro e w44 ⟨v1679, rfl, ho0, hb⟩; refine ⟨_, rfl, ?_⟩; replace HO_5 := rb HO_5 hb; replace HO1676 := rb HO1676 hb; have HO1680 := m0 (Kd.R_lower ho0 (below_size bz)); replace HB := sb HB hb; (try clear hb); (try clear ho0)) | ((with_reducible refine gate_callee (f := 64) rfl ?_); refine gl (some 122) Try.func64 #[.slice Ao40 x5_2.length co40] ?_; (with_reducible refine (Rf_CopySights.calls _ _ x5_2 t1681 _ ?side1 ?side2 A35.out).mono ?_); (case side1 => exact bc (Kd.R_reads' HO_5.out).2.2); (case side2 => exact (Kd.R_reads' HO_5.out).2.1); rintro e w45 ⟨v1682, rfl, ho0, hb⟩; refine ⟨_, rfl, ?_⟩; replace HO1680 := rb HO1680 hb; have HO1683 := m0 (Kd.R_lower (Kd.R_new' (Kd.R_new' ho0 (Kd.R_lt (br HO_5.out))) (Kd.R_lt (br HO1676.out))) (below_size bz)); replace HO_5 := m0 (Kd.R_elder' (br HO_5.out) (Kd.R_base ho0) hb); replace HO1676 := m0 (Kd.R_elder' (br HO1676.out) (Kd.R_base ho0) hb); replace HB := sb HB hb; (try clear hb); (try clear ho0); obtain ⟨Ao46, co46, eo46⟩ := Kd.R_slice HO1683.out; subst eo46) | ((with_reducible refine gate_callee (f := 65) rfl ?_); refine gl (some 123) Try.func65 #[.slice Ao46 t1681.length co46] ?_; (with_reducible refine (L_PointingOf.calls k2 _ _ t1681 t1684 t1685 t1686 _ ?side1 ?side2 A36.out).mono ?_); (case side1 => exact bc (Kd.R_reads' HO1683.out).2.2); (case side2 => exact (Kd.R_reads' HO1683.out).2.1); rintro e w47 ⟨rfl, hb⟩; refine ⟨_, rfl, ?_⟩; replace HO_5 := rb HO_5 hb; replace HO1676 := rb HO1676 hb; replace HO1680 := rb HO1680 hb; replace HO1683 := rb HO1683 hb; replace HB := sb HB hb; (try clear hb)) | ((with_reducible refine gate_callee (f := 64) rfl ?_); refine gl (some 129) Try.func64 #[.slice Ao40 x5_2.length co40] ?_; (with_reducible refine (Rf_CopySights.calls _ _ x5_2 t1687 _ ?side1 ?side2 A37.out).mono ?_); (case side1 => exact bc (Kd.R_reads' HO_5.out).2.2); (case side2 => exact (Kd.R_reads' HO_5.out).2.1); rintro e w48 ⟨v1688, rfl, ho0, hb⟩; refine ⟨_, rfl, ?_⟩; replace HO1680 := rb HO1680 hb; have HO1689 := m0 (Kd.R_lower (Kd.R_new' (Kd.R_new' (Kd.R_new' ho0 (Kd.R_lt (br HO_5.out))) (Kd.R_lt (br HO1676.out))) (Kd.R_lt (br HO1683.out))) (below_size bz)); replace HO_5 := m0 (Kd.R_elder' (br HO_5.out) (Kd.R_base ho0) hb); replace HO1676 := m0 (Kd.R_elder' (br HO1676.out) (Kd.R_base ho0) hb); replace HO1683 := m0 (Kd.R_elder' (br HO1683.out) (Kd.R_base ho0) hb); replace HB := sb HB hb; (try clear hb); (try clear ho0); obtain ⟨Ao49, co49, eo49⟩ := Kd.R_slice HO1689.out; subst eo49) | ((with_reducible refine gate_callee (f := 66) rfl ?_); refine gl (some 130) Try.func66 #[.slice Ao49 t1687.length co49, .int .i64 1] ?_; (with_reducible refine (L_IsSure.calls k2 _ _ t1687 1 t1690 t1691 _ ?side1 ?side2 A38.out).mono ?_); (case side1 => exact bc (Kd.R_reads' HO1689.out).2.2); (case side2 => exact (Kd.R_reads' HO1689.out).2.1); rintro e w50 ⟨rfl, hb⟩; refine ⟨_, rfl, ?_⟩; replace HO_5 := rb HO_5 hb; replace HO1676 := rb HO1676 hb; replace HO1680 := rb HO1680 hb; replace HO1683 := rb HO1683 hb; replace HO1689 := rb HO1689 hb; replace HB := sb HB hb; (try clear hb)))
                  (try simp only [Act.put, List.setIfInBounds_toArray, List.set_cons_zero, List.set_cons_succ])
                  go_cut [173] (fun v173 wc => ∃ (kq : Nat) (x173_38 : Bool), v173 = .bool x173_38 ∧ Aside0 (Lw_TargetSeen.j3 kq x6_2 t1677 x173_38 = some r) ∧ Aside0 (kq ≤ k2) ∧ Aside0 (Kd.R (Kd.int .i64) 3 wc w.heap.size (fun _ => True) v1679 t1677) ∧ Aside0 (Below w.heap.size w wc))
                  case first =>
                    have H := HC39.out
                    clear HC39
                    by_cases c51 : t1678 = 0
                    · rw [if_pos c51] at H
                      have c51b0 := beq_iff_eq.mpr c51
                      have c51b1 := bne_eq_false_iff_eq.mpr c51
                      clear c51
                      (first | rw [c51b0] | (simp only [i64_w, i32_w]; rw [c51b0]) | skip)
                      by_cases c52 : t1686 = 0
                      · rw [if_pos c52] at H
                        have c52b0 := beq_iff_eq.mpr c52
                        have c52b1 := bne_eq_false_iff_eq.mpr c52
                        clear c52
                        by_cases c53 : t1691 = 0
                        · rw [if_pos c53] at H
                          have c53b0 := beq_iff_eq.mpr c53
                          have c53b1 := bne_eq_false_iff_eq.mpr c53
                          clear c53
                          by_cases c54 : (t1677.length : Int) = 24
                          · rw [if_pos c54] at H
                            have c54b0 := beq_iff_eq.mpr c54
                            have c54b1 := bne_eq_false_iff_eq.mpr c54
                            clear c54
                            by_cases c55 : 0 ≤ a1
                            · rw [if_pos c55] at H
                              have c55b0 := decide_eq_true c55
                              clear c55
                              by_cases c56 : a1 < (t1677.length : Int)
                              · rw [if_pos c56] at H
                                have c56b0 := decide_eq_true c56
                                clear c56
                                by_cases c57 : (rd t1677 a1) = x6_2
                                · rw [if_pos c57] at H
                                  have c57b0 := beq_iff_eq.mpr c57
                                  have c57b1 := bne_eq_false_iff_eq.mpr c57
                                  clear c57
                                  by_cases c58 : t1685 = x6_2
                                  · rw [if_pos c58] at H
                                    have c58b0 := beq_iff_eq.mpr c58
                                    have c58b1 := bne_eq_false_iff_eq.mpr c58
                                    clear c58
                                    by_cases c59 : t1684 > a1
                                    · rw [if_pos c59] at H
                                      exact absurd H (by simp)
                                    · rw [if_neg c59] at H
                                      have c59b0 := decide_eq_false c59
                                      clear c59
                                      by_cases c60 : t1690 = true
                                      · subst c60
                                        rw [if_pos rfl] at H
                                        have H' := m0 H
                                        clear H
                                        obtain ⟨Ao61, co61, eo61⟩ := Kd.R_slice HO1680.out
                                        subst eo61
                                        have p1692 : 0 ≤ (a1 : Int) := od
                                        have q1692 : a1 < (t1677.length : Int) := od
                                        obtain ⟨ad1692, e1692, hx1692_0⟩ := Kd.at_int (Kd.R_reads' HO1680.out).2.2 a1 p1692 q1692
                                        cases e1692
                                        replace p1692 := eq_true p1692
                                        replace q1692 := eq_true q1692
                                        go_wp2
                                        go_meet
                                        case rel => exact ⟨_, ((t1684 != a1)), (by first | rfl | (simp; done) | (simp [*]; done)), H', ⟨by have := HJ4.out; have := HK2.out; first | omega | exact Nat.le_refl _⟩, ⟨br HO1680.out⟩, ⟨bz⟩⟩
                                      · replace c60 := Bool.eq_false_iff.mpr c60
                                        subst c60
                                        rw [if_neg (show ¬ (false = true) by decide)] at H
                                        have H' := m0 H
                                        clear H
                                        obtain ⟨Ao62, co62, eo62⟩ := Kd.R_slice HO1680.out
                                        subst eo62
                                        have p1692 : 0 ≤ (a1 : Int) := od
                                        have q1692 : a1 < (t1677.length : Int) := od
                                        obtain ⟨ad1692, e1692, hx1692_0⟩ := Kd.at_int (Kd.R_reads' HO1680.out).2.2 a1 p1692 q1692
                                        cases e1692
                                        replace p1692 := eq_true p1692
                                        replace q1692 := eq_true q1692
                                        go_wp2
                                        go_meet
                                        case rel => exact ⟨_, (false), (by first | rfl | (simp; done) | (simp [*]; done)), H', ⟨by have := HJ4.out; have := HK2.out; first | omega | exact Nat.le_refl _⟩, ⟨br HO1680.out⟩, ⟨bz⟩⟩
                                  · rw [if_neg c58] at H
                                    exact absurd H (by simp)
                                · rw [if_neg c57] at H
                                  exact absurd H (by simp)
                              · rw [if_neg c56] at H
                                exact absurd H (by simp)
                            · rw [if_neg c55] at H
                              exact absurd H (by simp)
                          · rw [if_neg c54] at H
                            exact absurd H (by simp)
                        · rw [if_neg c53] at H
                          exact absurd H (by simp)
                      · rw [if_neg c52] at H
                        exact absurd H (by simp)
                    · rw [if_neg c51] at H
                      exact absurd H (by simp)
                  case rest =>
                    clear HC39
                    try clear hx1
                    try clear hx16
                    try clear hx1667_0
                    try clear hx1667_1
                    try clear hx1667_2
                    try clear hx1668_0
                    try clear hx1668_1
                    try clear hx1668_2
                    try clear hx1669_0
                    try clear hx1669_1
                    try clear hx1669_2
                    try clear hx1670_0
                    try clear hx1670_1
                    try clear hx1670_2
                    try clear hx1671_0
                    try clear hx1671_1
                    try clear hx1671_2
                    try clear hx1672_0
                    try clear hx1672_1
                    try clear hx1672_2
                    try clear hx1692_0
                    obtain ⟨kq, x173_38, rfl, HA, HJ38, HO_10, HB⟩ := hcut
                    cases kq with
                    | zero => exact absurd HA.out (by simp [Lw_TargetSeen.j3])
                    | succ kj38 =>
                      have H := HA.out
                      clear HA
                      simp only [Lw_TargetSeen.j3] at H
                      by_cases c63 : x173_38 = true
                      · subst c63
                        rw [if_pos rfl] at H
                        exact absurd H (by simp)
                      · replace c63 := Bool.eq_false_iff.mpr c63
                        subst c63
                        rw [if_neg (show ¬ (false = true) by decide)] at H
                        have H' := m0 H
                        clear H
                        go_wp2
                        go_loopg [17] kj38 (fun kq v17 w' => ∃ (x17_4 : Int), v17 = .int .i64 x17_4 ∧ Aside0 (Lw_TargetSeen.l1 kq x6_2 t1677 x17_4 = some r) ∧ Aside0 (kq ≤ kj38) ∧ Aside0 (Kd.R (Kd.int .i64) 3 w' w.heap.size (fun _ => True) v1679 t1677) ∧ Aside0 (Below w.heap.size w w'))
                        case atStart => exact ⟨(0), (by first | rfl | (simp; done) | (simp [*]; done)), H', ⟨Nat.le_refl _⟩, ⟨br HO_10.out⟩, ⟨bz⟩⟩
                        case round =>
                          clear H'
                          try clear hx1
                          try clear hx16
                          try clear hx1667_0
                          try clear hx1667_1
                          try clear hx1667_2
                          try clear hx1668_0
                          try clear hx1668_1
                          try clear hx1668_2
                          try clear hx1669_0
                          try clear hx1669_1
                          try clear hx1669_2
                          try clear hx1670_0
                          try clear hx1670_1
                          try clear hx1670_2
                          try clear hx1671_0
                          try clear hx1671_1
                          try clear hx1671_2
                          try clear hx1672_0
                          try clear hx1672_1
                          try clear hx1672_2
                          try clear hx1692_0
                          obtain ⟨x17_4, rfl, HA, HK4, HO_10, HB⟩ := hrel
                          cases gk with
                          | zero => exact absurd HA.out (by simp [Lw_TargetSeen.l1])
                          | succ k4 =>
                            have H := HA.out
                            clear HA
                            simp only [Lw_TargetSeen.l1] at H
                            by_cases c64 : x17_4 < (t1677.length : Int)
                            · rw [if_pos c64] at H
                              have c64b0 := decide_eq_true c64
                              clear c64
                              by_cases c65 : 0 ≤ x17_4
                              · rw [if_pos c65] at H
                                have c65b0 := decide_eq_true c65
                                clear c65
                                by_cases c66 : (rd t1677 x17_4) > x6_2
                                · rw [if_pos c66] at H
                                  exact absurd H (by simp)
                                · rw [if_neg c66] at H
                                  have c66b0 := decide_eq_false c66
                                  clear c66
                                  have H' := m0 H
                                  clear H
                                  obtain ⟨Ao67, co67, eo67⟩ := Kd.R_slice HO_10.out
                                  subst eo67
                                  have p1693 : 0 ≤ (x17_4 : Int) := od
                                  have q1693 : x17_4 < (t1677.length : Int) := od
                                  obtain ⟨ad1693, e1693, hx1693_0⟩ := Kd.at_int (Kd.R_reads' HO_10.out).2.2 x17_4 p1693 q1693
                                  cases e1693
                                  replace p1693 := eq_true p1693
                                  replace q1693 := eq_true q1693
                                  go_wp2
                                  go_roundg k4
                                  case measure => have := HJ4.out; have := HK2.out; have := HJ38.out; have := HK4.out; omega
                                  case rel => exact ⟨(wrap64 (x17_4 + 1)), (by first | rfl | (simp; done) | (simp [*]; done)), H', ⟨by have := HJ4.out; have := HK2.out; have := HJ38.out; have := HK4.out; omega⟩, ⟨br HO_10.out⟩, ⟨bz⟩⟩
                              · rw [if_neg c65] at H
                                exact absurd H (by simp)
                            · rw [if_neg c64] at H
                              have c64b0 := decide_eq_false c64
                              clear c64
                              obtain rfl := Option.some.inj H
                              obtain ⟨Ao68, co68, eo68⟩ := Kd.R_slice HO_10.out
                              subst eo68
                              go_wp2
                              go_ret
                              exact ez
                · rw [if_neg c32] at H
                  exact absurd H (by simp)
  · replace c4 := Bool.eq_false_iff.mpr c4
    subst c4
    rw [if_neg (show ¬ (false = true) by decide)] at H
    exact absurd H (by simp)
end
section
def Rf_Pointing.l0 : Nat → List Int → Int → Int → Option (Int)
 | 0, _, _, _ => none
 | k + 1, x0, x3, x4 => if x4 < (x0.length : Int) then (if 0 ≤ x4 then (if 0 ≤ x3 then (if x3 < (x0.length : Int) then (if (rd x0 x4) > (rd x0 x3) then (Rf_Pointing.l0 k x0 x4 (wrap64 (x4 + 1))) else (Rf_Pointing.l0 k x0 x3 (wrap64 (x4 + 1)))) else (none)) else (none)) else (none)) else (some x3)
def Rf_Pointing.f (k : Nat) (l0 : List Int) : Option (Int) := Rf_Pointing.l0 k l0 0 0
theorem Rf_Pointing.mono_l : ∀ k, (∀ y0 y1 y2, LeO (Rf_Pointing.l0 k y0 y1 y2) (Rf_Pointing.l0 (k + 1) y0 y1 y2))
 | 0 => fun _ _ _ r h => by simp [Rf_Pointing.l0] at h
 | k + 1 => by
  have ih0 := Rf_Pointing.mono_l k
  ·intro y0 y1 y2
   unfold Rf_Pointing.l0
   repeat' with_reducible first
    | exact ih0 ..
    | exact LeO.refl ..
    | exact LeO.none ..
    | refine LeO.ite ?_ ?_
    | refine LeO.bind ?_ (fun _ => ?_)
theorem Rf_Pointing.mono : ∀ a0 k, LeO (Rf_Pointing.f k a0) (Rf_Pointing.f (k + 1) a0) := by
 intro a0 k
 have ih0 := Rf_Pointing.mono_l k
 unfold Rf_Pointing.f
 repeat' with_reducible first
  | exact ih0 ..
  | exact LeO.refl ..
  | exact LeO.none ..
  | refine LeO.ite ?_ ?_
  | refine LeO.bind ?_ (fun _ => ?_)
theorem Rf_Pointing.calls (k : Nat) (A0 : Option Addr) (c0 : Nat) (l0 : List Int) (r : Int) (w : World) (hr0 : Kd.C (Kd.int .i64) w A0 l0.length l0) (hc0 : l0.length ≤ c0) (h : Rf_Pointing.f k l0 = some r) :
  Calls Try.prog 69 #[.slice A0 l0.length c0] w fun e w' => e = .returned (.int .i64 r) ∧ Drawn0 w w' := by
 have HR0 := m0 hr0
 have HC0 := m0 hc0
 clear hr0 hc0
 have H : (Rf_Pointing.l0 k l0 0 0) = some r := h
 clear h
 have H' := m0 H
 clear H
 go_enter Try.func69, Try.ntmps69
 go_wp2
 repeat (go_quiet (fail); try go_wp2)
 go_loopg [3, 4] k (fun kq v3 v4 w' => ∃ (x3_1 : Int) (x4_1 : Int), v3 = .int .i64 x3_1 ∧ v4 = .int .i64 x4_1 ∧ Aside0 (Rf_Pointing.l0 kq l0 x3_1 x4_1 = some r) ∧ Aside0 (kq ≤ k) ∧ Drawn0 w w')
 case atStart => exact ⟨(0), (0), (by first | rfl | (simp; done) | (simp [*]; done)), (by first | rfl | (simp; done) | (simp [*]; done)), H', ⟨Nat.le_refl _⟩, by repeat (first | exact Drawn0.refl _ | apply Drawn0.step)⟩
 case round =>
  clear H'
  obtain ⟨x3_1, x4_1, rfl, rfl, HA, HK1, ⟨m1, rfl⟩⟩ := hrel
  cases gk with
  | zero => exact absurd HA.out (by simp [Rf_Pointing.l0])
  | succ k1 =>
   have H := HA.out
   clear HA
   simp only [Rf_Pointing.l0] at H
   by_cases c2 : x4_1 < (l0.length : Int)
   ·rw [if_pos c2] at H
    have c2b0 := decide_eq_true c2
    clear c2
    by_cases c3 : 0 ≤ x4_1
    ·rw [if_pos c3] at H
     have c3b0 := decide_eq_true c3
     clear c3
     by_cases c4 : 0 ≤ x3_1
     ·rw [if_pos c4] at H
      have c4b0 := decide_eq_true c4
      clear c4
      by_cases c5 : x3_1 < (l0.length : Int)
      ·rw [if_pos c5] at H
       have c5b0 := decide_eq_true c5
       clear c5
       by_cases c6 : (rd l0 x4_1) > (rd l0 x3_1)
       ·rw [if_pos c6] at H
        have c6b0 := decide_eq_true c6
        clear c6
        have H' := m0 H
        clear H
        have p1618 : 0 ≤ (x4_1 : Int) := od
        have q1618 : x4_1 < (l0.length : Int) := od
        obtain ⟨ad1618, e1618, hx1618_0⟩ := Kd.at_int HR0.out x4_1 p1618 q1618
        cases e1618
        replace p1618 := eq_true p1618
        replace q1618 := eq_true q1618
        have p1619 : 0 ≤ (x3_1 : Int) := od
        have q1619 : x3_1 < (l0.length : Int) := od
        obtain ⟨ad1619, e1619, hx1619_0⟩ := Kd.at_int HR0.out x3_1 p1619 q1619
        obtain rfl : ad1618 = ad1619 := (by injection e1619)
        replace p1619 := eq_true p1619
        replace q1619 := eq_true q1619
        go_wp2
        repeat (go_quiet (fail); try go_wp2)
        go_roundg k1
        case measure => have := HK1.out; omega
        case rel => exact ⟨(x4_1), (wrap64 (x4_1 + 1)), (by first | rfl | (simp; done) | (simp [*]; done)), (by first | rfl | (simp; done) | (simp [*]; done)), H', ⟨by have := HK1.out; omega⟩, by repeat (first | exact Drawn0.refl _ | apply Drawn0.step)⟩
       ·rw [if_neg c6] at H
        have c6b0 := decide_eq_false c6
        clear c6
        have H' := m0 H
        clear H
        have p1618 : 0 ≤ (x4_1 : Int) := od
        have q1618 : x4_1 < (l0.length : Int) := od
        obtain ⟨ad1618, e1618, hx1618_0⟩ := Kd.at_int HR0.out x4_1 p1618 q1618
        cases e1618
        replace p1618 := eq_true p1618
        replace q1618 := eq_true q1618
        have p1619 : 0 ≤ (x3_1 : Int) := od
        have q1619 : x3_1 < (l0.length : Int) := od
        obtain ⟨ad1619, e1619, hx1619_0⟩ := Kd.at_int HR0.out x3_1 p1619 q1619
        obtain rfl : ad1618 = ad1619 := (by injection e1619)
        replace p1619 := eq_true p1619
        replace q1619 := eq_true q1619
        go_wp2
        repeat (go_quiet (fail); try go_wp2)
        go_roundg k1
        case measure => have := HK1.out; omega
        case rel => exact ⟨(x3_1), (wrap64 (x4_1 + 1)), (by first | rfl | (simp; done) | (simp [*]; done)), (by first | rfl | (simp; done) | (simp [*]; done)), H', ⟨by have := HK1.out; omega⟩, by repeat (first | exact Drawn0.refl _ | apply Drawn0.step)⟩
      ·rw [if_neg c5] at H
       exact absurd H (by simp)
     ·rw [if_neg c4] at H
      exact absurd H (by simp)
    ·rw [if_neg c3] at H
     exact absurd H (by simp)
   ·rw [if_neg c2] at H
    have c2b0 := decide_eq_false c2
    clear c2
    obtain rfl := Option.some.inj H
    go_wp2
    repeat (go_quiet (fail); try go_wp2)
    go_ret
    exact ⟨by first | rfl | (simp; done) | (simp [*]; done), by repeat (first | exact Drawn0.refl _ | apply Drawn0.step)⟩
end
end Go.Proofs.Ytibhfahbabgbaaa.A
