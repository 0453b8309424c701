/- Walks of the program's functions (printed, made shorter), each with what it computes. -/
import Derived.Test.YteiafijbgjgiaaaD01
import Derived.Test.YteiafijbgjgiaaaB14
import Derived.Test.YteiafijbgjgiaaaB15
namespace Go.Proofs.Yteiafijbgjgiaaa.A
set_option maxHeartbeats 8000000
set_option maxRecDepth 100000
open Go.RowKit Go.Proofs.YteiafijbgjgiaaaW.PrintWords Go.Proofs.YteiafijbgjgiaaaW.PrintLast Go.Proofs.YteiafijbgjgiaaaW.PrintMore
attribute [local go_sem] max2_int min2_int max_two min_two max_three min_three max_four min_four
set_option linter.unusedVariables false
set_option linter.unusedSimpArgs false
section
mutual
def Lw_divided.j0 : Nat → List Int → Int → List Int → Bool → Option (Int × Bool)
  | 0, _, _, _, _ => none
  | k + 1, x0, x1, x2, x21 => if x21 = true then (some (0, false)) else (Lw_divided.l0 k x0 x1 x2 0 0)
def Lw_divided.l0 : Nat → List Int → Int → List Int → Int → Int → Option (Int × Bool)
  | 0, _, _, _, _, _ => none
  | k + 1, x0, x1, x2, x8, x9 => if x9 < (x2.length : Int) then (if (wrap64 (x9 + 1)) < (x2.length : Int) then (if 0 ≤ (wrap64 (x9 + 1)) then (if 0 ≤ x9 then ((Bs_Within.f (rd x2 (wrap64 (x9 + 1))) (wrap64 ((rd x2 x9) + 1)) (wrap64 ((x0.length : Int) - 1))).bind fun t852 => (if t852 = true then (Lw_divided.j2 k x0 x1 x2 x8 x9 (wrap64 ((rd x2 (wrap64 (x9 + 1))) - 1))) else (some (0, false)))) else (none)) else (none)) else (Lw_divided.j2 k x0 x1 x2 x8 x9 (wrap64 ((x0.length : Int) - 1)))) else (some (x8, true))
def Lw_divided.j2 : Nat → List Int → Int → List Int → Int → Int → Int → Option (Int × Bool)
  | 0, _, _, _, _, _, _ => none
  | k + 1, x0, x1, x2, x8, x9, x10 => (Bs_CopyInts.f x0).bind fun t854 => (if 0 ≤ x9 then (if x9 < (x2.length : Int) then ((L_SegmentCost.f k t854 (rd x2 x9) x10).bind fun bt858 => (if bt858.2 = 0 then ((Bs_Within.f bt858.1 0 1099511627776).bind fun t860 => (if t860 = true then (Lw_divided.l0 k x0 x1 x2 (wrap64 ((wrap64 (x8 + bt858.1)) + x1)) (wrap64 (x9 + 1))) else (some (0, false)))) else (some (0, false)))) else (none)) else (none))
end
def Lw_divided.f (k : Nat) (l0 : List Int) (a1 : Int) (l2 : List Int) : Option (Int × Bool) := if (l2.length : Int) = 0 then (Lw_divided.j0 k l0 a1 l2 true) else (if 0 < (l2.length : Int) then (Lw_divided.j0 k l0 a1 l2 ((rd l2 0) != 0)) else (none))
theorem Lw_divided.mono_l : ∀ k, (∀ y0 y1 y2 y3, LeO (Lw_divided.j0 k y0 y1 y2 y3) (Lw_divided.j0 (k + 1) y0 y1 y2 y3)) ∧ (∀ y0 y1 y2 y3 y4, LeO (Lw_divided.l0 k y0 y1 y2 y3 y4) (Lw_divided.l0 (k + 1) y0 y1 y2 y3 y4)) ∧ (∀ y0 y1 y2 y3 y4 y5, LeO (Lw_divided.j2 k y0 y1 y2 y3 y4 y5) (Lw_divided.j2 (k + 1) y0 y1 y2 y3 y4 y5))
  | 0 => ⟨fun _ _ _ _ r h => by simp [Lw_divided.j0] at h, fun _ _ _ _ _ r h => by simp [Lw_divided.l0] at h, fun _ _ _ _ _ _ r h => by simp [Lw_divided.j2] at h⟩
  | k + 1 => by
    obtain ⟨ih0, ih1, ih2⟩ := Lw_divided.mono_l k; refine ⟨?_, ?_, ?_⟩
    · intro y0 y1 y2 y3; unfold Lw_divided.j0
      repeat' with_reducible first
        | exact ih0 ..
        | exact ih1 ..
        | exact ih2 ..
        | exact L_SegmentCost.mono ..
        | exact LeO.refl ..
        | exact LeO.none ..
        | refine LeO.ite ?_ ?_
        | refine LeO.bind ?_ (fun _ => ?_)
    · intro y0 y1 y2 y3 y4; unfold Lw_divided.l0
      repeat' with_reducible first
        | exact ih0 ..
        | exact ih1 ..
        | exact ih2 ..
        | exact L_SegmentCost.mono ..
        | exact LeO.refl ..
        | exact LeO.none ..
        | refine LeO.ite ?_ ?_
        | refine LeO.bind ?_ (fun _ => ?_)
    · intro y0 y1 y2 y3 y4 y5; unfold Lw_divided.j2
      repeat' with_reducible first
        | exact ih0 ..
        | exact ih1 ..
        | exact ih2 ..
        | exact L_SegmentCost.mono ..
        | exact LeO.refl ..
        | exact LeO.none ..
        | refine LeO.ite ?_ ?_
        | refine LeO.bind ?_ (fun _ => ?_)
theorem Lw_divided.mono : ∀ a0 a1 a2 k, LeO (Lw_divided.f k a0 a1 a2) (Lw_divided.f (k + 1) a0 a1 a2) := by
  intro a0 a1 a2 k; obtain ⟨ih0, ih1, ih2⟩ := Lw_divided.mono_l k; unfold Lw_divided.f
  repeat' with_reducible first
    | exact ih0 ..
    | exact ih1 ..
    | exact ih2 ..
    | exact L_SegmentCost.mono ..
    | exact LeO.refl ..
    | exact LeO.none ..
    | refine LeO.ite ?_ ?_
    | refine LeO.bind ?_ (fun _ => ?_)
def Lw_divided.T9 : Bool × List (List Nat × List Nat) := (true, [([], []), ([], []), ([1], [1]), ([0, 2], [0, 2]), ([3], [3]), ([], []), ([], []), ([5, 6], [5, 6]), ([7], [7]), ([8], [8]), ([], []), ([10], [10]), ([11], [11]), ([4, 9, 12], [4, 9, 12]), ([13], [13])])
def Lw_divided.B9 : List Nat := [0, 0, 2, 7, 15, 0, 0, 96, 224, 480, 0, 1024, 3072, 8191, 16383]
theorem Lw_divided.tab9 : rtab .any (opsOf Try.f54 9) = Lw_divided.T9 := by kernel_rfl
theorem Lw_divided.bits9 : waitsOk Lw_divided.T9.2 Lw_divided.B9 = true := by kernel_rfl
def Lw_divided.T12 : Bool × List (List Nat × List Nat) := (true, [([], []), ([0], [0]), ([], []), ([], []), ([2, 3], [2, 3]), ([4], [4]), ([], []), ([5, 6], [5, 6]), ([1, 7, 1], [1, 7]), ([8], [8]), ([9], [9]), ([9], [9]), ([10, 8, 0, 1, 2, 3, 4, 5, 6, 7, 8, 9, 10], [10]), ([11, 12, 0, 1, 2, 3, 4, 5, 6, 7, 8, 9, 10, 11, 12], [11])])
def Lw_divided.B12 : List Nat := [0, 1, 0, 0, 12, 28, 0, 124, 255, 511, 1023, 1023, 2047, 8191]
theorem Lw_divided.tab12 : rtab .any (opsOf Try.f54 12) = Lw_divided.T12 := by kernel_rfl
theorem Lw_divided.bits12 : waitsOk Lw_divided.T12.2 Lw_divided.B12 = true := by kernel_rfl
theorem Lw_divided.calls (k : Nat) (A0 : Option Addr) (c0 : Nat) (l0 : List Int) (a1 : Int) (A2 : Option Addr) (c2 : Nat) (l2 : List Int) (r1 : Int) (r2 : Bool) (w : World) (hr0 : Kd.C (Kd.int .i64) w A0 l0.length l0) (hc0 : l0.length ≤ c0) (hr2 : Kd.C (Kd.int .i64) w A2 l2.length l2) (hc2 : l2.length ≤ c2) (H : Lw_divided.f k l0 a1 l2 = some (r1, r2)) :
    Calls Try.prog 54 #[.slice A0 l0.length c0, .int .i64 a1, .slice A2 l2.length c2] w fun e w' => e = .returned (.tuple #[.int .i64 r1, .bool r2]) ∧ Below w.heap.size w w' := by
  have hu54 := Try.underlying54; have HR0 := m0 hr0; have HC0 := m0 hc0; clear hr0 hc0; have HR2 := m0 hr2; have HC2 := m0 hc2; clear hr2 hc2; have HB := m0 (Below.refl w.heap.size w); unfold Lw_divided.f at H; have HC4 := m0 H; clear H; go_enter Try.func54, Try.ntmps54
  go_upto_region 1 with (fail)
  go_cut [21] (fun v21 wc => ∃ (kq : Nat) (x21_3 : Bool), v21 = .bool x21_3 ∧ Aside0 (Lw_divided.j0 kq l0 a1 l2 x21_3 = some (r1, r2)) ∧ Aside0 (kq ≤ k) ∧ Aside0 (Below w.heap.size w wc))
  case first =>
    have H := HC4.out; clear HC4
    by_cases c5 : (l2.length : Int) = 0
    · rw [if_pos c5] at H; have c5b0 := beq_iff_eq.mpr c5; have c5b1 := bne_eq_false_iff_eq.mpr c5; clear c5
      (first | rw [c5b0] | (simp only [i64_w, i32_w]; rw [c5b0]) | skip)
      have H' := m0 H; clear H
      go_wp2
      go_meet
      case rel => exact ⟨_, (true), rz, H', ⟨by first | omega | exact Nat.le_refl _⟩, ⟨bz⟩⟩
    · rw [if_neg c5] at H; have c5b0 := beq_eq_false_iff_ne.mpr c5; have c5b1 := bne_iff_ne.mpr c5; have c5b2 : ¬ (l2 = []) := fun h_ => c5 (by rw [h_]; rfl)
      (first | rw [c5b0] | (simp only [i64_w, i32_w]; rw [c5b0]) | skip)
      by_cases c6 : 0 < (l2.length : Int)
      · rw [if_pos c6] at H; have c6b0 := decide_eq_true c6; have c6b1 : decide (0 < l2.length) = true := decide_eq_true (by omega); clear c6; have H' := m0 H; clear H; have p849 : 0 ≤ (0 : Int) := (by omega); have q849 : 0 < (l2.length : Int) := od; obtain ⟨ad849, e849, hx849_0⟩ := Kd.at_int HR2.out 0 p849 q849
        cases e849
        have qi849 : (0 < l2.length) = True := eq_true (by omega); (try rw [show ((0 : Int)).toNat = 0 from rfl] at hx849_0); (try rw [Addr.add_zero'] at hx849_0); replace hx849_0 := hc HB hx849_0; replace p849 := eq_true p849; replace q849 := eq_true q849
        go_wp2
        go_meet
        case rel => exact ⟨_, (((rd l2 0) != 0)), rz, H', ⟨by first | omega | exact Nat.le_refl _⟩, ⟨bz⟩⟩
      · rw [if_neg c6] at H; exact absurd H (by simp)
  case rest =>
    clear HC4
    try clear hx849_0
    obtain ⟨kq, x21_3, rfl, HA, HJ3, HB⟩ := hcut
    cases kq with
    | zero => exact absurd HA.out (by simp [Lw_divided.j0])
    | succ kj3 =>
      have H := HA.out; clear HA; simp only [Lw_divided.j0] at H
      by_cases c7 : x21_3 = true
      · subst c7; rw [if_pos rfl] at H; simp only [Option.some.injEq, Prod.mk.injEq] at H; obtain ⟨rfl, rfl⟩ := H
        go_wp2
        go_ret2
        exact ez
      · replace c7 := Bool.eq_false_iff.mpr c7; subst c7; rw [if_neg (show ¬ (false = true) by decide)] at H; have H' := m0 H; clear H
        go_wp2
        go_loopg [8, 9] kj3 (fun kq v8 v9 w' => ∃ (x8_2 : Int) (x9_2 : Int), v8 = .int .i64 x8_2 ∧ v9 = .int .i64 x9_2 ∧ Aside0 (Lw_divided.l0 kq l0 a1 l2 x8_2 x9_2 = some (r1, r2)) ∧ Aside0 (kq ≤ kj3) ∧ Aside0 (Below w.heap.size w w'))
        case atStart => exact ⟨(0), (0), rz, rz, H', ⟨Nat.le_refl _⟩, ⟨bz⟩⟩
        case round =>
          clear H'
          try clear hx849_0
          obtain ⟨x8_2, x9_2, rfl, rfl, HA, HK2, HB⟩ := hrel
          cases gk with
          | zero => exact absurd HA.out (by simp [Lw_divided.l0])
          | succ k2 =>
            have H := HA.out; clear HA; simp only [Lw_divided.l0] at H
            by_cases c8 : x9_2 < (l2.length : Int)
            · rw [if_pos c8] at H; have c8b0 := decide_eq_true c8; clear c8; have HC9 := m0 H; clear H
              go_upto_if 35 with (fail)
              go_cut [10] (fun v10 wc => ∃ (kq : Nat) (x10_8 : Int), v10 = .int .i64 x10_8 ∧ Aside0 (Lw_divided.j2 kq l0 a1 l2 x8_2 x9_2 x10_8 = some (r1, r2)) ∧ Aside0 (kq ≤ k2) ∧ Aside0 (Below w.heap.size w wc))
              case first =>
                have H := HC9.out; clear HC9
                by_cases c10 : (wrap64 (x9_2 + 1)) < (l2.length : Int)
                · rw [if_pos c10] at H; have c10b0 := decide_eq_true c10; clear c10
                  (first | rw [c10b0] | (simp only [i64_w, i32_w]; rw [c10b0]) | skip)
                  obtain ⟨ji11, hji11⟩ : ∃ j_ : Int, (wrap64 (x9_2 + 1)) = j_ := ⟨_, rfl⟩; replace H : (if 0 ≤ (ji11) then (if 0 ≤ x9_2 then ((Bs_Within.f (rd l2 (ji11)) (wrap64 ((rd l2 x9_2) + 1)) (wrap64 ((l0.length : Int) - 1))).bind fun t852 => (if t852 = true then (Lw_divided.j2 k2 l0 a1 l2 x8_2 x9_2 (wrap64 ((rd l2 (ji11)) - 1))) else (some (0, false)))) else (none)) else (none)) = some (r1, r2) := by first | (rw [hji11] at H; exact H) | (simp only [hji11] at H ⊢; exact H)
                  (try rw [hji11] at c10b0); have hji11w : (IntKind.i64.wrap (x9_2 + 1)) = ji11 := (i64_w _).trans hji11
                  by_cases c12 : 0 ≤ (ji11)
                  · rw [if_pos c12] at H; have c12b0 := decide_eq_true c12; clear c12
                    by_cases c13 : 0 ≤ x9_2
                    · rw [if_pos c13] at H; have c13b0 := decide_eq_true c13; clear c13; replace H := oa H; obtain ⟨t852, A14, H⟩ := H; (try dsimp only at H)
                      by_cases c15 : t852 = true
                      · subst c15; rw [if_pos rfl] at H; have H' := m0 H; clear H
                        try go_wp2
                        replace HB := sd HB; have p850 : 0 ≤ ((ji11) : Int) := od; have q850 : (ji11) < (l2.length : Int) := od; obtain ⟨ad850, e850, hx850_0⟩ := Kd.at_int HR2.out (ji11) p850 q850; have hw850_0 := hx850_0
                        cases e850
                        replace hx850_0 := hc HB hx850_0; replace p850 := eq_true p850; replace q850 := eq_true q850; have p851 : 0 ≤ (x9_2 : Int) := od; have q851 : x9_2 < (l2.length : Int) := od; obtain ⟨ad851, e851, hx851_0⟩ := Kd.at_int HR2.out x9_2 p851 q851; have hw851_0 := hx851_0; obtain rfl : ad850 = ad851 := (by injection e851); replace hx851_0 := hc HB hx851_0; replace p851 := eq_true p851; replace q851 := eq_true q851; refine start_ (n := 15) (S := fun w' => w'.cell? (ad850.add ((ji11)).toNat) = some (.int .i64 (rd l2 (ji11))) ∧ w'.cell? (ad850.add (x9_2).toNat) = some (.int .i64 (rd l2 x9_2))) (ds := []) _ (by kernel_rfl) rfl rfl ⟨((HB.out.cell (World.block_lt_of_cell? w _ hw850_0)).trans hw850_0), ((HB.out.cell (World.block_lt_of_cell? w _ hw851_0)).trans hw851_0)⟩ (fun hH => ?_); refine with_tabW Lw_divided.tab9 Lw_divided.bits9 (fun HT_ HW_ => ?_); generalize wr.drew = w16 at HB hx850_0 hx851_0 hH ⊢; refine pZ 0 (some 36) (bs 15 1) HT_ ?_; refine pZ 1 (some 37) (bs 15 3) HT_ ?_; refine pZ 2 (some 38) (bs 15 7) HT_ ?_; refine pZ 3 (some 39) (bs 15 15) HT_ ?_; refine pZ 5 (some 41) (bs 15 47) HT_ ?_; refine pZ 6 (some 42) (bs 15 111) HT_ ?_; refine pZ 7 (some 43) (bs 15 239) HT_ ?_; refine pZ 10 (some 46) (bs 15 1263) HT_ ?_; refine pZ 11 (some 47) (bs 15 3311) HT_ ?_; refine pZ 12 (some 48) (bs 15 7407) HT_ ?_; refine takeZ 4 (some 40) (bs 15 7423) (tw HT_ HW_) hH ?_; refine takeZ 8 (some 44) (bs 15 7679) (tw HT_ HW_) hH ?_; refine pZ 9 (some 45) (bs 15 8191) HT_ ?_; refine oneZ 13 (some 49) (bs 15 16383) (o1 HT_) fun K hK => ?_; refine goes_ Try.func19 (by kernel_rfl) rfl #[.int .i64 (rd l2 (ji11)), .int .i64 (wrap64 ((rd l2 x9_2) + 1)), .int .i64 (wrap64 ((l0.length : Int) - 1))] (by rfl) rfl rfl (by (try simp only [List.map_toArray, List.map_cons, List.map_nil]); first | done | (simp only [hji11]; rfl) | rfl | (simp only [List.length_drop, List.length_take]; rfl)) ?_
                        with_reducible refine (Bs_Within.calls (rd l2 (ji11)) (wrap64 ((rd l2 x9_2) + 1)) (wrap64 ((l0.length : Int) - 1)) true _ A14.out).mono ?_
                        rintro e w' ⟨rfl, ⟨nd, rfl⟩⟩; refine ⟨_, rfl, ?_⟩; refine hK.out _ _ ⟨((HB.out.cell (World.block_lt_of_cell? w _ hw850_0)).trans hw850_0), ((HB.out.cell (World.block_lt_of_cell? w _ hw851_0)).trans hw851_0)⟩ (fun hH => ?_); clear hK K; refine nz 49 ?_; refine pZ 14 (some 50) (bs 15 32767) HT_ ?_; refine done_ (done_of HT_.out (by kernel_rfl)) ?_; have p853 : 0 ≤ ((ji11) : Int) := od; have q853 : (ji11) < (l2.length : Int) := od; obtain ⟨ad853, e853, hx853_0⟩ := Kd.at_int HR2.out (ji11) p853 q853; obtain rfl : ad850 = ad853 := (by injection e853); replace hx853_0 := hc HB hx853_0; replace p853 := eq_true p853; replace q853 := eq_true q853
                        try go_wp2
                        go_meet
                        case rel => exact ⟨_, (wrap64 ((rd l2 (ji11)) - 1)), (by first | rfl | (simp; done) | (simp only [← hji11] <;> (first | rfl | simp)) | (simp [*]; done)), H', ⟨by have := HJ3.out; have := HK2.out; first | omega | exact Nat.le_refl _⟩, ⟨bz⟩⟩
                      · replace c15 := Bool.eq_false_iff.mpr c15; subst c15; rw [if_neg (show ¬ (false = true) by decide)] at H; simp only [Option.some.injEq, Prod.mk.injEq] at H; obtain ⟨rfl, rfl⟩ := H
                        try go_wp2
                        replace HB := sd HB; have p850 : 0 ≤ ((ji11) : Int) := od; have q850 : (ji11) < (l2.length : Int) := od; obtain ⟨ad850, e850, hx850_0⟩ := Kd.at_int HR2.out (ji11) p850 q850; have hw850_0 := hx850_0
                        cases e850
                        replace hx850_0 := hc HB hx850_0; replace p850 := eq_true p850; replace q850 := eq_true q850; have p851 : 0 ≤ (x9_2 : Int) := od; have q851 : x9_2 < (l2.length : Int) := od; obtain ⟨ad851, e851, hx851_0⟩ := Kd.at_int HR2.out x9_2 p851 q851; have hw851_0 := hx851_0; obtain rfl : ad850 = ad851 := (by injection e851); replace hx851_0 := hc HB hx851_0; replace p851 := eq_true p851; replace q851 := eq_true q851; refine start_ (n := 15) (S := fun w' => w'.cell? (ad850.add ((ji11)).toNat) = some (.int .i64 (rd l2 (ji11))) ∧ w'.cell? (ad850.add (x9_2).toNat) = some (.int .i64 (rd l2 x9_2))) (ds := []) _ (by kernel_rfl) rfl rfl ⟨((HB.out.cell (World.block_lt_of_cell? w _ hw850_0)).trans hw850_0), ((HB.out.cell (World.block_lt_of_cell? w _ hw851_0)).trans hw851_0)⟩ (fun hH => ?_); refine with_tabW Lw_divided.tab9 Lw_divided.bits9 (fun HT_ HW_ => ?_); generalize wr.drew = w17 at HB hx850_0 hx851_0 hH ⊢; refine pZ 0 (some 36) (bs 15 1) HT_ ?_; refine pZ 1 (some 37) (bs 15 3) HT_ ?_; refine pZ 2 (some 38) (bs 15 7) HT_ ?_; refine pZ 3 (some 39) (bs 15 15) HT_ ?_; refine pZ 5 (some 41) (bs 15 47) HT_ ?_; refine pZ 6 (some 42) (bs 15 111) HT_ ?_; refine pZ 7 (some 43) (bs 15 239) HT_ ?_; refine pZ 10 (some 46) (bs 15 1263) HT_ ?_; refine pZ 11 (some 47) (bs 15 3311) HT_ ?_; refine pZ 12 (some 48) (bs 15 7407) HT_ ?_; refine takeZ 4 (some 40) (bs 15 7423) (tw HT_ HW_) hH ?_; refine takeZ 8 (some 44) (bs 15 7679) (tw HT_ HW_) hH ?_; refine pZ 9 (some 45) (bs 15 8191) HT_ ?_; refine oneZ 13 (some 49) (bs 15 16383) (o1 HT_) fun K hK => ?_; refine goes_ Try.func19 (by kernel_rfl) rfl #[.int .i64 (rd l2 (ji11)), .int .i64 (wrap64 ((rd l2 x9_2) + 1)), .int .i64 (wrap64 ((l0.length : Int) - 1))] (by rfl) rfl rfl (by (try simp only [List.map_toArray, List.map_cons, List.map_nil]); first | done | (simp only [hji11]; rfl) | rfl | (simp only [List.length_drop, List.length_take]; rfl)) ?_
                        with_reducible refine (Bs_Within.calls (rd l2 (ji11)) (wrap64 ((rd l2 x9_2) + 1)) (wrap64 ((l0.length : Int) - 1)) false _ A14.out).mono ?_
                        rintro e w' ⟨rfl, ⟨nd, rfl⟩⟩; refine ⟨_, rfl, ?_⟩; refine hK.out _ _ ⟨((HB.out.cell (World.block_lt_of_cell? w _ hw850_0)).trans hw850_0), ((HB.out.cell (World.block_lt_of_cell? w _ hw851_0)).trans hw851_0)⟩ (fun hH => ?_); clear hK K; refine nz 49 ?_; refine pZ 14 (some 50) (bs 15 32767) HT_ ?_; refine done_ (done_of HT_.out (by kernel_rfl)) ?_
                        try go_wp2
                        go_ret2
                        exact ⟨by first | rfl | (simp [errW_none, errW_some] <;> rfl) | (simp only [← hji11]; first | rfl | (simp [errW_none, errW_some] <;> rfl)) | (simp [*, errW_none, errW_some] <;> rfl), by repeat (first | (with_reducible first | exact HB.out | apply below_alloc | apply pw_below_drewN | apply below_drew1) | exact HB.out)⟩
                    · rw [if_neg c13] at H; exact absurd H (by simp)
                  · rw [if_neg c12] at H; exact absurd H (by simp)
                · rw [if_neg c10] at H; have c10b0 := decide_eq_false c10; clear c10
                  (first | rw [c10b0] | (simp only [i64_w, i32_w]; rw [c10b0]) | skip)
                  have H' := m0 H; clear H
                  go_wp2
                  go_meet
                  case rel => exact ⟨_, (wrap64 ((l0.length : Int) - 1)), rz, H', ⟨by have := HJ3.out; have := HK2.out; first | omega | exact Nat.le_refl _⟩, ⟨bz⟩⟩
              case rest =>
                clear HC9
                try clear hx8
                try clear qi8
                try clear hx849_0
                try clear hx850_0
                try clear hx851_0
                try clear hx853_0
                obtain ⟨kq, x10_8, rfl, HA, HJ8, HB⟩ := hcut
                cases kq with
                | zero => exact absurd HA.out (by simp [Lw_divided.j2])
                | succ kj8 =>
                  have H := HA.out; clear HA; simp only [Lw_divided.j2] at H; replace H := oa H; obtain ⟨t854, A18, H⟩ := H; (try dsimp only at H)
                  by_cases c19 : 0 ≤ x9_2
                  · rw [if_pos c19] at H; have c19b0 := decide_eq_true c19; clear c19
                    by_cases c20 : x9_2 < (l2.length : Int)
                    · rw [if_pos c20] at H; have c20b0 := decide_eq_true c20; clear c20; replace H := oa H; obtain ⟨⟨t858, t859⟩, A21, H⟩ := H; (try dsimp only at H)
                      by_cases c22 : t859 = 0
                      · rw [if_pos c22] at H; have c22b0 := beq_iff_eq.mpr c22; have c22b1 := bne_eq_false_iff_eq.mpr c22; clear c22; replace H := oa H; obtain ⟨t860, A23, H⟩ := H; (try dsimp only at H)
                        by_cases c24 : t860 = true
                        · subst c24; rw [if_pos rfl] at H; have H' := m0 H; clear H
                          try go_wp2
                          replace HB := sd HB; have p857 : 0 ≤ (x9_2 : Int) := od; have q857 : x9_2 < (l2.length : Int) := od; obtain ⟨ad857, e857, hx857_0⟩ := Kd.at_int HR2.out x9_2 p857 q857; have hw857_0 := hx857_0
                          cases e857
                          replace hx857_0 := hc HB hx857_0; replace p857 := eq_true p857; replace q857 := eq_true q857; refine start_ (n := 14) (S := fun w' => w'.cell? (ad857.add (x9_2).toNat) = some (.int .i64 (rd l2 x9_2))) (ds := []) _ (by kernel_rfl) rfl rfl (((HB.out.cell (World.block_lt_of_cell? w _ hw857_0)).trans hw857_0)) (fun hH => ?_); refine with_tabW Lw_divided.tab12 Lw_divided.bits12 (fun HT_ HW_ => ?_); generalize wc.drew = w25 at HB hx857_0 hH ⊢; refine pZ 0 (some 58) (bs 14 1) HT_ ?_; refine pZ 2 (some 60) (bs 14 5) HT_ ?_; refine pZ 3 (some 61) (bs 14 13) HT_ ?_; refine pZ 4 (some 62) (bs 14 29) HT_ ?_; refine pZ 6 (some 64) (bs 14 93) HT_ ?_; refine take_ (i := 5) (N := some 63) (v := ?_) (a' := ?_) (bs 14 125) rfl rfl (tw HT_ HW_) (fun _ _ _ h => h) (Or.inl ⟨by rfl, ?_⟩) hH ?_ ?_; rotate_left
                          · intro w' s0
                            go_simp
                            with_reducible rfl
                          rotate_left
                          · exact pz
                          refine pZ 7 (some 65) (bs 14 253) HT_ ?_; refine oneZ 1 (some 59) (bs 14 255) (o1 HT_) fun K hK => ?_; refine gz Try.func26 #[.slice A0 l0.length c0] ?_
                          with_reducible refine (Bs_CopyInts.calls _ _ l0 t854 _ ?side1 ?side2 A18.out).mono ?_
                          (case side1 => exact cb HR0 HB)
                          (case side2 => exact HC0.out)
                          rintro e w26 ⟨v855, rfl, ho0, hb⟩; refine ⟨_, rfl, ?_⟩; have HO856 := m0 (Kd.R_lower ho0 (below_size bz)); replace HB := sb HB hb; (try clear hb); (try clear ho0); obtain ⟨Ao27, co27, eo27⟩ := Kd.R_slice HO856.out; subst eo27; refine hK.out _ _ (((HB.out.cell (World.block_lt_of_cell? w _ hw857_0)).trans hw857_0)) (fun hH => ?_); clear hK K; refine nz 59 ?_; refine oneZ 8 (some 66) (bs 14 511) (o1 HT_) fun K hK => ?_; refine gz Try.func32 #[.slice Ao27 t854.length co27, .agg #[.int .i64 (rd l2 x9_2), .int .i64 x10_8]] ?_
                          with_reducible refine (L_SegmentCost.calls kj8 _ _ t854 (rd l2 x9_2) x10_8 t858 t859 _ ?side1 ?side2 A21.out).mono ?_
                          (case side1 => exact bc (Kd.R_reads' HO856.out).2.2)
                          (case side2 => exact (Kd.R_reads' HO856.out).2.1)
                          rintro e w28 ⟨rfl, hb⟩; refine ⟨_, rfl, ?_⟩; replace HO856 := rb HO856 hb; replace HB := sb HB hb; (try clear hb); refine hK.out _ _ (((HB.out.cell (World.block_lt_of_cell? w _ hw857_0)).trans hw857_0)) (fun hH => ?_); clear hK K; refine nz 66 ?_; refine pZ 9 (some 57) (bs 14 1023) HT_ ?_; refine pZ 10 (some 67) (bs 14 2047) HT_ ?_; refine pZ 11 (some 68) (bs 14 4095) HT_ ?_; refine pZ 12 (some 11) (bs 14 8191) HT_ ?_; refine pZ 13 (some 12) (bs 14 16383) HT_ ?_; refine done_ (done_of HT_.out (by kernel_rfl)) ?_
                          try go_wp2_with (first | (go_at_call 19; (with_reducible refine (Bs_Within.calls t858 0 1099511627776 true _ A23.out).mono ?_); rintro e w' ⟨rfl, ⟨nd, rfl⟩⟩))
                          go_roundg kj8
                          case measure => have := HJ3.out; have := HK2.out; have := HJ8.out; omega
                          case rel => exact ⟨(wrap64 ((wrap64 (x8_2 + t858)) + a1)), (wrap64 (x9_2 + 1)), rz, rz, H', ⟨by have := HJ3.out; have := HK2.out; have := HJ8.out; omega⟩, ⟨bz⟩⟩
                        · replace c24 := Bool.eq_false_iff.mpr c24; subst c24; rw [if_neg (show ¬ (false = true) by decide)] at H; simp only [Option.some.injEq, Prod.mk.injEq] at H; obtain ⟨rfl, rfl⟩ := H
                          try go_wp2
                          replace HB := sd HB; have p857 : 0 ≤ (x9_2 : Int) := od; have q857 : x9_2 < (l2.length : Int) := od; obtain ⟨ad857, e857, hx857_0⟩ := Kd.at_int HR2.out x9_2 p857 q857; have hw857_0 := hx857_0
                          cases e857
                          replace hx857_0 := hc HB hx857_0; replace p857 := eq_true p857; replace q857 := eq_true q857; refine start_ (n := 14) (S := fun w' => w'.cell? (ad857.add (x9_2).toNat) = some (.int .i64 (rd l2 x9_2))) (ds := []) _ (by kernel_rfl) rfl rfl (((HB.out.cell (World.block_lt_of_cell? w _ hw857_0)).trans hw857_0)) (fun hH => ?_); refine with_tabW Lw_divided.tab12 Lw_divided.bits12 (fun HT_ HW_ => ?_); generalize wc.drew = w29 at HB hx857_0 hH ⊢; refine pZ 0 (some 58) (bs 14 1) HT_ ?_; refine pZ 2 (some 60) (bs 14 5) HT_ ?_; refine pZ 3 (some 61) (bs 14 13) HT_ ?_; refine pZ 4 (some 62) (bs 14 29) HT_ ?_; refine pZ 6 (some 64) (bs 14 93) HT_ ?_; refine take_ (i := 5) (N := some 63) (v := ?_) (a' := ?_) (bs 14 125) rfl rfl (tw HT_ HW_) (fun _ _ _ h => h) (Or.inl ⟨by rfl, ?_⟩) hH ?_ ?_; rotate_left
                          · intro w' s0
                            go_simp
                            with_reducible rfl
                          rotate_left
                          · exact pz
                          refine pZ 7 (some 65) (bs 14 253) HT_ ?_; refine oneZ 1 (some 59) (bs 14 255) (o1 HT_) fun K hK => ?_; refine gz Try.func26 #[.slice A0 l0.length c0] ?_
                          with_reducible refine (Bs_CopyInts.calls _ _ l0 t854 _ ?side1 ?side2 A18.out).mono ?_
                          (case side1 => exact cb HR0 HB)
                          (case side2 => exact HC0.out)
                          rintro e w30 ⟨v855, rfl, ho0, hb⟩; refine ⟨_, rfl, ?_⟩; have HO856 := m0 (Kd.R_lower ho0 (below_size bz)); replace HB := sb HB hb; (try clear hb); (try clear ho0); obtain ⟨Ao31, co31, eo31⟩ := Kd.R_slice HO856.out; subst eo31; refine hK.out _ _ (((HB.out.cell (World.block_lt_of_cell? w _ hw857_0)).trans hw857_0)) (fun hH => ?_); clear hK K; refine nz 59 ?_; refine oneZ 8 (some 66) (bs 14 511) (o1 HT_) fun K hK => ?_; refine gz Try.func32 #[.slice Ao31 t854.length co31, .agg #[.int .i64 (rd l2 x9_2), .int .i64 x10_8]] ?_
                          with_reducible refine (L_SegmentCost.calls kj8 _ _ t854 (rd l2 x9_2) x10_8 t858 t859 _ ?side1 ?side2 A21.out).mono ?_
                          (case side1 => exact bc (Kd.R_reads' HO856.out).2.2)
                          (case side2 => exact (Kd.R_reads' HO856.out).2.1)
                          rintro e w32 ⟨rfl, hb⟩; refine ⟨_, rfl, ?_⟩; replace HO856 := rb HO856 hb; replace HB := sb HB hb; (try clear hb); refine hK.out _ _ (((HB.out.cell (World.block_lt_of_cell? w _ hw857_0)).trans hw857_0)) (fun hH => ?_); clear hK K; refine nz 66 ?_; refine pZ 9 (some 57) (bs 14 1023) HT_ ?_; refine pZ 10 (some 67) (bs 14 2047) HT_ ?_; refine pZ 11 (some 68) (bs 14 4095) HT_ ?_; refine pZ 12 (some 11) (bs 14 8191) HT_ ?_; refine pZ 13 (some 12) (bs 14 16383) HT_ ?_; refine done_ (done_of HT_.out (by kernel_rfl)) ?_
                          try go_wp2_with (first | (go_at_call 19; (with_reducible refine (Bs_Within.calls t858 0 1099511627776 false _ A23.out).mono ?_); rintro e w' ⟨rfl, ⟨nd, rfl⟩⟩))
                          go_ret2
                          exact ez
                      · rw [if_neg c22] at H; have c22b0 := beq_eq_false_iff_ne.mpr c22; have c22b1 := bne_iff_ne.mpr c22; simp only [Option.some.injEq, Prod.mk.injEq] at H; obtain ⟨rfl, rfl⟩ := H
                        try go_wp2
                        replace HB := sd HB; have p857 : 0 ≤ (x9_2 : Int) := od; have q857 : x9_2 < (l2.length : Int) := od; obtain ⟨ad857, e857, hx857_0⟩ := Kd.at_int HR2.out x9_2 p857 q857; have hw857_0 := hx857_0
                        cases e857
                        replace hx857_0 := hc HB hx857_0; replace p857 := eq_true p857; replace q857 := eq_true q857; refine start_ (n := 14) (S := fun w' => w'.cell? (ad857.add (x9_2).toNat) = some (.int .i64 (rd l2 x9_2))) (ds := []) _ (by kernel_rfl) rfl rfl (((HB.out.cell (World.block_lt_of_cell? w _ hw857_0)).trans hw857_0)) (fun hH => ?_); refine with_tabW Lw_divided.tab12 Lw_divided.bits12 (fun HT_ HW_ => ?_); generalize wc.drew = w33 at HB hx857_0 hH ⊢; refine pZ 0 (some 58) (bs 14 1) HT_ ?_; refine pZ 2 (some 60) (bs 14 5) HT_ ?_; refine pZ 3 (some 61) (bs 14 13) HT_ ?_; refine pZ 4 (some 62) (bs 14 29) HT_ ?_; refine pZ 6 (some 64) (bs 14 93) HT_ ?_; refine take_ (i := 5) (N := some 63) (v := ?_) (a' := ?_) (bs 14 125) rfl rfl (tw HT_ HW_) (fun _ _ _ h => h) (Or.inl ⟨by rfl, ?_⟩) hH ?_ ?_; rotate_left
                        · intro w' s0
                          go_simp
                          with_reducible rfl
                        rotate_left
                        · exact pz
                        refine pZ 7 (some 65) (bs 14 253) HT_ ?_; refine oneZ 1 (some 59) (bs 14 255) (o1 HT_) fun K hK => ?_; refine gz Try.func26 #[.slice A0 l0.length c0] ?_
                        with_reducible refine (Bs_CopyInts.calls _ _ l0 t854 _ ?side1 ?side2 A18.out).mono ?_
                        (case side1 => exact cb HR0 HB)
                        (case side2 => exact HC0.out)
                        rintro e w34 ⟨v855, rfl, ho0, hb⟩; refine ⟨_, rfl, ?_⟩; have HO856 := m0 (Kd.R_lower ho0 (below_size bz)); replace HB := sb HB hb; (try clear hb); (try clear ho0); obtain ⟨Ao35, co35, eo35⟩ := Kd.R_slice HO856.out; subst eo35; refine hK.out _ _ (((HB.out.cell (World.block_lt_of_cell? w _ hw857_0)).trans hw857_0)) (fun hH => ?_); clear hK K; refine nz 59 ?_; refine oneZ 8 (some 66) (bs 14 511) (o1 HT_) fun K hK => ?_; refine gz Try.func32 #[.slice Ao35 t854.length co35, .agg #[.int .i64 (rd l2 x9_2), .int .i64 x10_8]] ?_
                        with_reducible refine (L_SegmentCost.calls kj8 _ _ t854 (rd l2 x9_2) x10_8 t858 t859 _ ?side1 ?side2 A21.out).mono ?_
                        (case side1 => exact bc (Kd.R_reads' HO856.out).2.2)
                        (case side2 => exact (Kd.R_reads' HO856.out).2.1)
                        rintro e w36 ⟨rfl, hb⟩; refine ⟨_, rfl, ?_⟩; replace HO856 := rb HO856 hb; replace HB := sb HB hb; (try clear hb); refine hK.out _ _ (((HB.out.cell (World.block_lt_of_cell? w _ hw857_0)).trans hw857_0)) (fun hH => ?_); clear hK K; refine nz 66 ?_; refine pZ 9 (some 57) (bs 14 1023) HT_ ?_; refine pZ 10 (some 67) (bs 14 2047) HT_ ?_; refine pZ 11 (some 68) (bs 14 4095) HT_ ?_; refine pZ 12 (some 11) (bs 14 8191) HT_ ?_; refine pZ 13 (some 12) (bs 14 16383) HT_ ?_; refine done_ (done_of HT_.out (by kernel_rfl)) ?_
                        try go_wp2
                        go_ret2
                        exact ez
                    · rw [if_neg c20] at H; exact absurd H (by simp)
                  · rw [if_neg c19] at H; exact absurd H (by simp)
            · rw [if_neg c8] at H; have c8b0 := decide_eq_false c8; clear c8; simp only [Option.some.injEq, Prod.mk.injEq] at H; obtain ⟨rfl, rfl⟩ := H
              go_wp2
              go_ret2
              exact ez
end
section
mutual
def Lw_CloudDivided.j0 : Nat → List Int → Int → List Int → Bool → Option (Bool)
  | 0, _, _, _, _ => none
  | k + 1, x0, x1, x2, x40 => if x40 = true then (some true) else ((Bs_CopyInts.f x0).bind fun t865 => ((L_SegmentsOf.f k t865 x1).bind fun bt868 => ((Bs_CopyInts.f x0).bind fun t873 => ((L_PotentialsOf.f k t873 x1).bind fun bt876 => (if bt868.2.2 = 0 then (if bt876.2 = 0 then (if (bt876.1.length : Int) = (wrap64 ((x0.length : Int) + 1)) then (if 0 ≤ (x0.length : Int) then (if (x0.length : Int) < (bt876.1.length : Int) then (Lw_CloudDivided.j1 k x0 x1 x2 bt868.1 bt868.2.1 bt876.1 ((rd bt876.1 (x0.length : Int)) != bt868.2.1)) else (none)) else (none)) else (Lw_CloudDivided.j1 k x0 x1 x2 bt868.1 bt868.2.1 bt876.1 true)) else (Lw_CloudDivided.j1 k x0 x1 x2 bt868.1 bt868.2.1 bt876.1 true)) else (Lw_CloudDivided.j1 k x0 x1 x2 bt868.1 bt868.2.1 bt876.1 true))))))
def Lw_CloudDivided.j1 : Nat → List Int → Int → List Int → List Int → Int → List Int → Bool → Option (Bool)
  | 0, _, _, _, _, _, _, _ => none
  | k + 1, x0, x1, x2, x7, x8, x10, x78 => if x78 = true then (some false) else ((Bs_CopyInts.f x0).bind fun t881 => ((Bs_CopyInts.f x10).bind fun t884 => ((L_CheckPotentials.f k t881 x1 t884).bind fun bt887 => (if bt887.2 = 0 then (Lw_CloudDivided.j2 k x0 x1 x2 x7 x8 (bt887.1 != x8)) else (Lw_CloudDivided.j2 k x0 x1 x2 x7 x8 true)))))
def Lw_CloudDivided.j2 : Nat → List Int → Int → List Int → List Int → Int → Bool → Option (Bool)
  | 0, _, _, _, _, _, _ => none
  | k + 1, x0, x1, x2, x7, x8, x94 => if x94 = true then (some false) else ((Lw_divided.f k x0 x1 x7).bind fun bt889 => (if bt889.2 = true then (Lw_CloudDivided.j3 k x0 x1 x2 x7 x8 (bt889.1 != x8)) else (Lw_CloudDivided.j3 k x0 x1 x2 x7 x8 true)))
def Lw_CloudDivided.j3 : Nat → List Int → Int → List Int → List Int → Int → Bool → Option (Bool)
  | 0, _, _, _, _, _, _ => none
  | k + 1, x0, x1, x2, x7, x8, x108 => if x108 = true then (some false) else ((Lw_divided.f k x0 x1 x2).bind fun bt891 => (if bt891.2 = true then (if bt891.1 < x8 then (Lw_CloudDivided.j4 k x0 x1 x7 true) else (if bt891.1 = x8 then (Lw_CloudDivided.j4 k x0 x1 x7 (decide ((x2.length : Int) < (x7.length : Int)))) else (Lw_CloudDivided.j4 k x0 x1 x7 false))) else (Lw_CloudDivided.j4 k x0 x1 x7 false)))
def Lw_CloudDivided.j4 : Nat → List Int → Int → List Int → Bool → Option (Bool)
  | 0, _, _, _, _ => none
  | k + 1, x0, x1, x7, x133 => if x133 = true then (some false) else (if (wrap64 (x1 + 7)) > 1000000 then (some true) else ((Bs_CopyInts.f x0).bind fun t893 => ((L_SegmentsOf.f k t893 (wrap64 (x1 + 7))).bind fun bt896 => (if bt896.2.2 = 0 then (some (decide ((bt896.1.length : Int) ≤ (x7.length : Int)))) else (some false)))))
end
def Lw_CloudDivided.f (k : Nat) (l0 : List Int) (a1 : Int) (l2 : List Int) : Option (Bool) := (Lw_awake.f k).bind fun t861 => (if t861 = true then ((Lw_few.f l0).bind fun t862 => (if t862 = true then ((Rf_ProfileErr.f k l0).bind fun t863 => (if t863 = 0 then ((Rf_PenaltyErr.f a1).bind fun t864 => (if t864 = 0 then (Lw_CloudDivided.j0 k l0 a1 l2 (decide ((l2.length : Int) > 30))) else (Lw_CloudDivided.j0 k l0 a1 l2 true))) else (Lw_CloudDivided.j0 k l0 a1 l2 true))) else (Lw_CloudDivided.j0 k l0 a1 l2 true))) else (some false))
theorem Lw_CloudDivided.mono_l : ∀ k, (∀ y0 y1 y2 y3, LeO (Lw_CloudDivided.j0 k y0 y1 y2 y3) (Lw_CloudDivided.j0 (k + 1) y0 y1 y2 y3)) ∧ (∀ y0 y1 y2 y3 y4 y5 y6, LeO (Lw_CloudDivided.j1 k y0 y1 y2 y3 y4 y5 y6) (Lw_CloudDivided.j1 (k + 1) y0 y1 y2 y3 y4 y5 y6)) ∧ (∀ y0 y1 y2 y3 y4 y5, LeO (Lw_CloudDivided.j2 k y0 y1 y2 y3 y4 y5) (Lw_CloudDivided.j2 (k + 1) y0 y1 y2 y3 y4 y5)) ∧ (∀ y0 y1 y2 y3 y4 y5, LeO (Lw_CloudDivided.j3 k y0 y1 y2 y3 y4 y5) (Lw_CloudDivided.j3 (k + 1) y0 y1 y2 y3 y4 y5)) ∧ (∀ y0 y1 y2 y3, LeO (Lw_CloudDivided.j4 k y0 y1 y2 y3) (Lw_CloudDivided.j4 (k + 1) y0 y1 y2 y3))
  | 0 => ⟨fun _ _ _ _ r h => by simp [Lw_CloudDivided.j0] at h, fun _ _ _ _ _ _ _ r h => by simp [Lw_CloudDivided.j1] at h, fun _ _ _ _ _ _ r h => by simp [Lw_CloudDivided.j2] at h, fun _ _ _ _ _ _ r h => by simp [Lw_CloudDivided.j3] at h, fun _ _ _ _ r h => by simp [Lw_CloudDivided.j4] at h⟩
  | k + 1 => by
    obtain ⟨ih0, ih1, ih2, ih3, ih4⟩ := Lw_CloudDivided.mono_l k; refine ⟨?_, ?_, ?_, ?_, ?_⟩
    · intro y0 y1 y2 y3; unfold Lw_CloudDivided.j0
      repeat' with_reducible first
        | exact ih0 ..
        | exact ih1 ..
        | exact ih2 ..
        | exact ih3 ..
        | exact ih4 ..
        | exact L_CheckPotentials.mono ..
        | exact L_PotentialsOf.mono ..
        | exact L_SegmentsOf.mono ..
        | exact Lw_awake.mono ..
        | exact Lw_divided.mono ..
        | exact Rf_ProfileErr.mono ..
        | exact LeO.refl ..
        | exact LeO.none ..
        | refine LeO.ite ?_ ?_
        | refine LeO.bind ?_ (fun _ => ?_)
    · intro y0 y1 y2 y3 y4 y5 y6; unfold Lw_CloudDivided.j1
      repeat' with_reducible first
        | exact ih0 ..
        | exact ih1 ..
        | exact ih2 ..
        | exact ih3 ..
        | exact ih4 ..
        | exact L_CheckPotentials.mono ..
        | exact L_PotentialsOf.mono ..
        | exact L_SegmentsOf.mono ..
        | exact Lw_awake.mono ..
        | exact Lw_divided.mono ..
        | exact Rf_ProfileErr.mono ..
        | exact LeO.refl ..
        | exact LeO.none ..
        | refine LeO.ite ?_ ?_
        | refine LeO.bind ?_ (fun _ => ?_)
    · intro y0 y1 y2 y3 y4 y5; unfold Lw_CloudDivided.j2
      repeat' with_reducible first
        | exact ih0 ..
        | exact ih1 ..
        | exact ih2 ..
        | exact ih3 ..
        | exact ih4 ..
        | exact L_CheckPotentials.mono ..
        | exact L_PotentialsOf.mono ..
        | exact L_SegmentsOf.mono ..
        | exact Lw_awake.mono ..
        | exact Lw_divided.mono ..
        | exact Rf_ProfileErr.mono ..
        | exact LeO.refl ..
        | exact LeO.none ..
        | refine LeO.ite ?_ ?_
        | refine LeO.bind ?_ (fun _ => ?_)
    · intro y0 y1 y2 y3 y4 y5; unfold Lw_CloudDivided.j3
      repeat' with_reducible first
        | exact ih0 ..
        | exact ih1 ..
        | exact ih2 ..
        | exact ih3 ..
        | exact ih4 ..
        | exact L_CheckPotentials.mono ..
        | exact L_PotentialsOf.mono ..
        | exact L_SegmentsOf.mono ..
        | exact Lw_awake.mono ..
        | exact Lw_divided.mono ..
        | exact Rf_ProfileErr.mono ..
        | exact LeO.refl ..
        | exact LeO.none ..
        | refine LeO.ite ?_ ?_
        | refine LeO.bind ?_ (fun _ => ?_)
    · intro y0 y1 y2 y3; unfold Lw_CloudDivided.j4
      repeat' with_reducible first
        | exact ih0 ..
        | exact ih1 ..
        | exact ih2 ..
        | exact ih3 ..
        | exact ih4 ..
        | exact L_CheckPotentials.mono ..
        | exact L_PotentialsOf.mono ..
        | exact L_SegmentsOf.mono ..
        | exact Lw_awake.mono ..
        | exact Lw_divided.mono ..
        | exact Rf_ProfileErr.mono ..
        | exact LeO.refl ..
        | exact LeO.none ..
        | refine LeO.ite ?_ ?_
        | refine LeO.bind ?_ (fun _ => ?_)
theorem Lw_CloudDivided.mono : ∀ a0 a1 a2 k, LeO (Lw_CloudDivided.f k a0 a1 a2) (Lw_CloudDivided.f (k + 1) a0 a1 a2) := by
  intro a0 a1 a2 k; obtain ⟨ih0, ih1, ih2, ih3, ih4⟩ := Lw_CloudDivided.mono_l k; unfold Lw_CloudDivided.f
  repeat' with_reducible first
    | exact ih0 ..
    | exact ih1 ..
    | exact ih2 ..
    | exact ih3 ..
    | exact ih4 ..
    | exact L_CheckPotentials.mono ..
    | exact L_PotentialsOf.mono ..
    | exact L_SegmentsOf.mono ..
    | exact Lw_awake.mono ..
    | exact Lw_divided.mono ..
    | exact Rf_ProfileErr.mono ..
    | exact LeO.refl ..
    | exact LeO.none ..
    | refine LeO.ite ?_ ?_
    | refine LeO.bind ?_ (fun _ => ?_)
theorem Lw_CloudDivided.calls (k : Nat) (A0 : Option Addr) (c0 : Nat) (l0 : List Int) (a1 : Int) (A2 : Option Addr) (c2 : Nat) (l2 : List Int) (r : Bool) (w : World) (hr0 : Kd.C (Kd.int .i64) w A0 l0.length l0) (hc0 : l0.length ≤ c0) (hr2 : Kd.C (Kd.int .i64) w A2 l2.length l2) (hc2 : l2.length ≤ c2) (H : Lw_CloudDivided.f k l0 a1 l2 = some r) :
    Calls Try.prog 9 #[.slice A0 l0.length c0, .int .i64 a1, .slice A2 l2.length c2] w fun e w' => e = .returned (.bool r) ∧ Below w.heap.size w w' := by
  have HR0 := m0 hr0; have HC0 := m0 hc0; clear hr0 hc0; have HR2 := m0 hr2; have HC2 := m0 hc2; clear hr2 hc2; have HB := m0 (Below.refl w.heap.size w); unfold Lw_CloudDivided.f at H; replace H := oa H; obtain ⟨t861, A4, H⟩ := H; (try dsimp only at H)
  by_cases c5 : t861 = true
  · subst c5; rw [if_pos rfl] at H; have HC6 := m0 H; clear H; go_enter Try.func9, Try.ntmps9
    go_upto_region 3 with (first | ((with_reducible refine gc 11 rfl ?_); refine gl (some 21) Try.func11 #[] ?_; (with_reducible refine (Lw_awake.calls k  true _ A4.out).mono ?_); rintro e w7 ⟨rfl, hb⟩; refine ⟨_, rfl, ?_⟩; replace HB := sb HB hb; (try clear hb)))
    (try simp only [Act.put, List.setIfInBounds_toArray, List.set_cons_zero, List.set_cons_succ])
    go_cut [40] (fun v40 wc => ∃ (kq : Nat) (x40_5 : Bool), v40 = .bool x40_5 ∧ Aside0 (Lw_CloudDivided.j0 kq l0 a1 l2 x40_5 = some r) ∧ Aside0 (kq ≤ k) ∧ Aside0 (Below w.heap.size w wc))
    case first =>
      have H := HC6.out; clear HC6; replace H := oa H; obtain ⟨t862, A8, H⟩ := H; (try dsimp only at H)
      by_cases c9 : t862 = true
      · subst c9; rw [if_pos rfl] at H; replace H := oa H; obtain ⟨t863, A10, H⟩ := H; (try dsimp only at H)
        by_cases c11 : t863 = 0
        · rw [if_pos c11] at H; have c11b0 := beq_iff_eq.mpr c11; have c11b1 := bne_eq_false_iff_eq.mpr c11; clear c11
          (first | rw [c11b0] | (simp only [i64_w, i32_w]; rw [c11b0]) | skip)
          replace H := oa H; obtain ⟨t864, A12, H⟩ := H; (try dsimp only at H)
          by_cases c13 : t864 = 0
          · rw [if_pos c13] at H; have c13b0 := beq_iff_eq.mpr c13; have c13b1 := bne_eq_false_iff_eq.mpr c13; clear c13; have H' := m0 H; clear H
            go_wp2_with (first | ((with_reducible refine gc 31 rfl ?_); refine gl (some 24) Try.func31 #[.slice A0 l0.length c0] ?_; (with_reducible refine (Lw_few.calls _ _ l0 true _ ?side1 ?side2 A8.out).mono ?_); (case side1 => exact cb HR0 HB); (case side2 => exact HC0.out); rintro e w' ⟨rfl, ⟨nd, rfl⟩⟩; refine ⟨_, rfl, ?_⟩) | (go_at_call 35; (with_reducible refine (Rf_ProfileErr.calls k _ _ l0 t863 _ ?side1 ?side2 A10.out).mono ?_); (case side1 => repeat (first | exact (Kd.C_below HR0.out bz) | (with_reducible refine Kd.C_alloc ?_ _) | (with_reducible refine Kd.C_drewN ?_ _) | (with_reducible refine Kd.C_drew ?_))); (case side2 => exact HC0.out); rintro e w' ⟨rfl, ⟨nd, rfl⟩⟩) | (go_at_call 38; (with_reducible refine (Rf_PenaltyErr.calls a1 t864 _ A12.out).mono ?_); rintro e w' ⟨rfl, ⟨nd, rfl⟩⟩))
            go_meet
            case rel => exact ⟨_, (decide ((l2.length : Int) > 30)), rz, H', ⟨by first | omega | exact Nat.le_refl _⟩, ⟨bz⟩⟩
          · rw [if_neg c13] at H; have c13b0 := beq_eq_false_iff_ne.mpr c13; have c13b1 := bne_iff_ne.mpr c13; have H' := m0 H; clear H
            go_wp2_with (first | ((with_reducible refine gc 31 rfl ?_); refine gl (some 24) Try.func31 #[.slice A0 l0.length c0] ?_; (with_reducible refine (Lw_few.calls _ _ l0 true _ ?side1 ?side2 A8.out).mono ?_); (case side1 => exact cb HR0 HB); (case side2 => exact HC0.out); rintro e w' ⟨rfl, ⟨nd, rfl⟩⟩; refine ⟨_, rfl, ?_⟩) | (go_at_call 35; (with_reducible refine (Rf_ProfileErr.calls k _ _ l0 t863 _ ?side1 ?side2 A10.out).mono ?_); (case side1 => repeat (first | exact (Kd.C_below HR0.out bz) | (with_reducible refine Kd.C_alloc ?_ _) | (with_reducible refine Kd.C_drewN ?_ _) | (with_reducible refine Kd.C_drew ?_))); (case side2 => exact HC0.out); rintro e w' ⟨rfl, ⟨nd, rfl⟩⟩) | (go_at_call 38; (with_reducible refine (Rf_PenaltyErr.calls a1 t864 _ A12.out).mono ?_); rintro e w' ⟨rfl, ⟨nd, rfl⟩⟩))
            go_meet
            case rel => exact ⟨_, (true), rz, H', ⟨by first | omega | exact Nat.le_refl _⟩, ⟨bz⟩⟩
        · rw [if_neg c11] at H; have c11b0 := beq_eq_false_iff_ne.mpr c11; have c11b1 := bne_iff_ne.mpr c11
          (first | rw [c11b0] | (simp only [i64_w, i32_w]; rw [c11b0]) | skip)
          have H' := m0 H; clear H
          go_wp2_with (first | ((with_reducible refine gc 31 rfl ?_); refine gl (some 24) Try.func31 #[.slice A0 l0.length c0] ?_; (with_reducible refine (Lw_few.calls _ _ l0 true _ ?side1 ?side2 A8.out).mono ?_); (case side1 => exact cb HR0 HB); (case side2 => exact HC0.out); rintro e w' ⟨rfl, ⟨nd, rfl⟩⟩; refine ⟨_, rfl, ?_⟩) | (go_at_call 35; (with_reducible refine (Rf_ProfileErr.calls k _ _ l0 t863 _ ?side1 ?side2 A10.out).mono ?_); (case side1 => repeat (first | exact (Kd.C_below HR0.out bz) | (with_reducible refine Kd.C_alloc ?_ _) | (with_reducible refine Kd.C_drewN ?_ _) | (with_reducible refine Kd.C_drew ?_))); (case side2 => exact HC0.out); rintro e w' ⟨rfl, ⟨nd, rfl⟩⟩))
          go_meet
          case rel => exact ⟨_, (true), rz, H', ⟨by first | omega | exact Nat.le_refl _⟩, ⟨bz⟩⟩
      · replace c9 := Bool.eq_false_iff.mpr c9; subst c9; rw [if_neg (show ¬ (false = true) by decide)] at H; have H' := m0 H; clear H
        go_wp2_with (first | ((with_reducible refine gc 31 rfl ?_); refine gl (some 24) Try.func31 #[.slice A0 l0.length c0] ?_; (with_reducible refine (Lw_few.calls _ _ l0 false _ ?side1 ?side2 A8.out).mono ?_); (case side1 => exact cb HR0 HB); (case side2 => exact HC0.out); rintro e w' ⟨rfl, ⟨nd, rfl⟩⟩; refine ⟨_, rfl, ?_⟩))
        go_meet
        case rel => exact ⟨_, (true), rz, H', ⟨by first | omega | exact Nat.le_refl _⟩, ⟨bz⟩⟩
    case rest =>
      clear HC6; obtain ⟨kq, x40_5, rfl, HA, HJ5, HB⟩ := hcut
      cases kq with
      | zero => exact absurd HA.out (by simp [Lw_CloudDivided.j0])
      | succ kj5 =>
        have H := HA.out; clear HA; simp only [Lw_CloudDivided.j0] at H
        by_cases c14 : x40_5 = true
        · subst c14; rw [if_pos rfl] at H; obtain rfl := Option.some.inj H
          go_wp2
          go_ret
          exact ez
        · replace c14 := Bool.eq_false_iff.mpr c14; subst c14; rw [if_neg (show ¬ (false = true) by decide)] at H; replace H := oa H; obtain ⟨t865, A15, H⟩ := H; (try dsimp only at H); replace H := oa H; obtain ⟨⟨t868, t871, t872⟩, A16, H⟩ := H; (try dsimp only at H); replace H := oa H; obtain ⟨t873, A17, H⟩ := H; (try dsimp only at H); replace H := oa H; obtain ⟨⟨t876, t877⟩, A18, H⟩ := H; (try dsimp only at H); have HC19 := m0 H; clear H
          go_upto_region 7 with (first | ((with_reducible refine gc 26 rfl ?_); refine gl (some 43) Try.func26 #[.slice A0 l0.length c0] ?_; (with_reducible refine (Bs_CopyInts.calls _ _ l0 t865 _ ?side1 ?side2 A15.out).mono ?_); (case side1 => exact cb HR0 HB); (case side2 => exact HC0.out); rintro e w20 ⟨v866, rfl, ho0, hb⟩; refine ⟨_, rfl, ?_⟩; have HO867 := m0 (Kd.R_lower ho0 (below_size bz)); replace HB := sb HB hb; (try clear hb); (try clear ho0); obtain ⟨Ao21, co21, eo21⟩ := Kd.R_slice HO867.out; subst eo21) | ((with_reducible refine gc 33 rfl ?_); refine gl (some 45) Try.func33 #[.slice Ao21 t865.length co21, .int .i64 a1] ?_; (with_reducible refine (L_SegmentsOf.calls kj5 (fun k_ => some k_ = (.slice Ao21 t865.length co21 : Value).ownBlock) _ _ t865 a1 t868 t871 t872 _ ?side1 A16.out).mono ?_); (case side1 => exact Kd.R_V (Kd.R_tight rfl (HO867.out))); rintro e w22 ⟨v869, rfl, ho0, hb⟩; refine ⟨_, rfl, ?_⟩; replace HO867 := rb HO867 hb; have HO870 := hv w (fun k_ => True) ho0 (fun k_ hk_ => trivial); replace HB := sb HB hb; (try clear hb); (try clear ho0)) | ((with_reducible refine gc 26 rfl ?_); refine gl (some 51) Try.func26 #[.slice A0 l0.length c0] ?_; (with_reducible refine (Bs_CopyInts.calls _ _ l0 t873 _ ?side1 ?side2 A17.out).mono ?_); (case side1 => exact cb HR0 HB); (case side2 => exact HC0.out); rintro e w23 ⟨v874, rfl, ho0, hb⟩; refine ⟨_, rfl, ?_⟩; replace HO870 := m0 (Kd.V_elder' (by (with_reducible repeat (first | apply Kd.V_alloc | apply Kd.V_drewN | apply Kd.V_drew)); exact HO870.out) (Kd.R_base ho0) hb); have HO875 := m0 (Kd.R_lower (Kd.R_new' ho0 (Kd.R_lt (br HO867.out))) (below_size bz)); replace HO867 := m0 (Kd.R_elder' (br HO867.out) (Kd.R_base ho0) hb); replace HB := sb HB hb; (try clear hb); (try clear ho0); obtain ⟨Ao24, co24, eo24⟩ := Kd.R_slice HO875.out; subst eo24) | ((with_reducible refine gc 34 rfl ?_); refine gl (some 53) Try.func34 #[.slice Ao24 t873.length co24, .int .i64 a1] ?_; (with_reducible refine (L_PotentialsOf.calls kj5 _ _ t873 a1 t876 t877 _ ?side1 ?side2 A18.out).mono ?_); (case side1 => exact bc (Kd.R_reads' HO875.out).2.2); (case side2 => exact (Kd.R_reads' HO875.out).2.1); rintro e w25 ⟨v878, rfl, ho0, hb⟩; refine ⟨_, rfl, ?_⟩; replace HO870 := m0 (Kd.V_elder' (by (with_reducible repeat (first | apply Kd.V_alloc | apply Kd.V_drewN | apply Kd.V_drew)); exact HO870.out) (Kd.R_base ho0) hb); have HO879 := m0 (Kd.R_lower (Kd.R_new' (Kd.R_new' ho0 (Kd.R_lt (br HO867.out))) (Kd.R_lt (br HO875.out))) (below_size bz)); replace HO867 := m0 (Kd.R_elder' (br HO867.out) (Kd.R_base ho0) hb); replace HO875 := m0 (Kd.R_elder' (br HO875.out) (Kd.R_base ho0) hb); replace HB := sb HB hb; (try clear hb); (try clear ho0)))
          (try simp only [Act.put, List.setIfInBounds_toArray, List.set_cons_zero, List.set_cons_succ])
          go_cut [78] (fun v78 wc => ∃ (kq : Nat) (x78_18 : Bool), v78 = .bool x78_18 ∧ Aside0 (Lw_CloudDivided.j1 kq l0 a1 l2 t868 t871 t876 x78_18 = some r) ∧ Aside0 (kq ≤ kj5) ∧ Aside0 (Kd.V (Kd.int .i64) 3 wc w.heap.size (fun k_ => some k_ ≠ (v878 : Value).ownBlock) v869 t868) ∧ Aside0 (Kd.R (Kd.int .i64) 3 wc w.heap.size (fun _ => True) v878 t876) ∧ Aside0 (Below w.heap.size w wc))
          case first =>
            have H := HC19.out; clear HC19
            by_cases c26 : t872 = 0
            · rw [if_pos c26] at H; have c26b0 := beq_iff_eq.mpr c26; have c26b1 := bne_eq_false_iff_eq.mpr c26; clear c26
              (first | rw [c26b0] | (simp only [i64_w, i32_w]; rw [c26b0]) | skip)
              by_cases c27 : t877 = 0
              · rw [if_pos c27] at H; have c27b0 := beq_iff_eq.mpr c27; have c27b1 := bne_eq_false_iff_eq.mpr c27; clear c27
                by_cases c28 : (t876.length : Int) = (wrap64 ((l0.length : Int) + 1))
                · rw [if_pos c28] at H; have c28b0 := beq_iff_eq.mpr c28; have c28b1 := bne_eq_false_iff_eq.mpr c28; clear c28
                  by_cases c29 : 0 ≤ (l0.length : Int)
                  · rw [if_pos c29] at H; have c29b0 := decide_eq_true c29; have c29b1 : decide (0 ≤ l0.length) = true := decide_eq_true (by omega); clear c29
                    by_cases c30 : (l0.length : Int) < (t876.length : Int)
                    · rw [if_pos c30] at H; have c30b0 := decide_eq_true c30; have c30b1 : decide (l0.length < t876.length) = true := decide_eq_true (Int.ofNat_lt.mp c30); clear c30; have H' := m0 H; clear H; obtain ⟨Ao31, co31, eo31⟩ := Kd.R_slice HO879.out; subst eo31; have p880 : 0 ≤ ((l0.length : Int) : Int) := od; have q880 : (l0.length : Int) < (t876.length : Int) := od; obtain ⟨ad880, e880, hx880_0⟩ := Kd.at_int (Kd.R_reads' HO879.out).2.2 (l0.length : Int) p880 q880
                      cases e880
                      (try simp only [Go.IntWalk.toNatUp] at hx880_0); replace p880 := eq_true p880; replace q880 := eq_true q880
                      go_wp2
                      go_meet
                      case rel => exact ⟨_, (((rd t876 (l0.length : Int)) != t871)), rz, H', ⟨by have := HJ5.out; first | omega | exact Nat.le_refl _⟩, ⟨by (with_reducible repeat (first | apply Kd.V_alloc | apply Kd.V_drewN | apply Kd.V_drew)); exact Kd.V_mono HO870.out (fun _ hk => hk.2)⟩, ⟨by (with_reducible repeat (first | apply Kd.R_alloc | apply Kd.R_drewN | apply Kd.R_drew)); exact Kd.R_mono HO879.out (fun _ hk => trivial)⟩, ⟨bz⟩⟩
                    · rw [if_neg c30] at H; exact absurd H (by simp)
                  · rw [if_neg c29] at H; exact absurd H (by simp)
                · rw [if_neg c28] at H; have c28b0 := beq_eq_false_iff_ne.mpr c28; have c28b1 := bne_iff_ne.mpr c28; have H' := m0 H; clear H; obtain ⟨Ao32, co32, eo32⟩ := Kd.R_slice HO879.out; subst eo32
                  go_wp2
                  go_meet
                  case rel => exact ⟨_, (true), rz, H', ⟨by have := HJ5.out; first | omega | exact Nat.le_refl _⟩, ⟨by (with_reducible repeat (first | apply Kd.V_alloc | apply Kd.V_drewN | apply Kd.V_drew)); exact Kd.V_mono HO870.out (fun _ hk => hk.2)⟩, ⟨by (with_reducible repeat (first | apply Kd.R_alloc | apply Kd.R_drewN | apply Kd.R_drew)); exact Kd.R_mono HO879.out (fun _ hk => trivial)⟩, ⟨bz⟩⟩
              · rw [if_neg c27] at H; have c27b0 := beq_eq_false_iff_ne.mpr c27; have c27b1 := bne_iff_ne.mpr c27; have H' := m0 H; clear H
                go_wp2
                go_meet
                case rel => exact ⟨_, (true), rz, H', ⟨by have := HJ5.out; first | omega | exact Nat.le_refl _⟩, ⟨by (with_reducible repeat (first | apply Kd.V_alloc | apply Kd.V_drewN | apply Kd.V_drew)); exact Kd.V_mono HO870.out (fun _ hk => hk.2)⟩, ⟨by (with_reducible repeat (first | apply Kd.R_alloc | apply Kd.R_drewN | apply Kd.R_drew)); exact Kd.R_mono HO879.out (fun _ hk => trivial)⟩, ⟨bz⟩⟩
            · rw [if_neg c26] at H; have c26b0 := beq_eq_false_iff_ne.mpr c26; have c26b1 := bne_iff_ne.mpr c26
              (first | rw [c26b0] | (simp only [i64_w, i32_w]; rw [c26b0]) | skip)
              have H' := m0 H; clear H
              go_wp2
              go_meet
              case rel => exact ⟨_, (true), rz, H', ⟨by have := HJ5.out; first | omega | exact Nat.le_refl _⟩, ⟨by (with_reducible repeat (first | apply Kd.V_alloc | apply Kd.V_drewN | apply Kd.V_drew)); exact Kd.V_mono HO870.out (fun _ hk => hk.2)⟩, ⟨by (with_reducible repeat (first | apply Kd.R_alloc | apply Kd.R_drewN | apply Kd.R_drew)); exact Kd.R_mono HO879.out (fun _ hk => trivial)⟩, ⟨bz⟩⟩
          case rest =>
            clear HC19
            try clear hx8
            try clear hx880_0
            obtain ⟨kq, x78_18, rfl, HA, HJ18, HO_7, HO_10, HB⟩ := hcut
            cases kq with
            | zero => exact absurd HA.out (by simp [Lw_CloudDivided.j1])
            | succ kj18 =>
              have H := HA.out; clear HA; simp only [Lw_CloudDivided.j1] at H
              by_cases c33 : x78_18 = true
              · subst c33; rw [if_pos rfl] at H; obtain rfl := Option.some.inj H
                go_wp2
                go_ret
                exact ez
              · replace c33 := Bool.eq_false_iff.mpr c33; subst c33; rw [if_neg (show ¬ (false = true) by decide)] at H; replace H := oa H; obtain ⟨t881, A34, H⟩ := H; (try dsimp only at H); replace H := oa H; obtain ⟨t884, A35, H⟩ := H; (try dsimp only at H); replace H := oa H; obtain ⟨⟨t887, t888⟩, A36, H⟩ := H; (try dsimp only at H); have HC37 := m0 H; clear H
                go_upto_region 10 with (first | ((with_reducible refine gc 26 rfl ?_); refine gl (some 81) Try.func26 #[.slice A0 l0.length c0] ?_; (with_reducible refine (Bs_CopyInts.calls _ _ l0 t881 _ ?side1 ?side2 A34.out).mono ?_); (case side1 => exact cb HR0 HB); (case side2 => exact HC0.out); rintro e w38 ⟨v882, rfl, ho0, hb⟩; refine ⟨_, rfl, ?_⟩; replace HO_7 := m0 (Kd.V_elder' (by (with_reducible repeat (first | apply Kd.V_alloc | apply Kd.V_drewN | apply Kd.V_drew)); exact HO_7.out) (Kd.R_base ho0) hb); have HO883 := m0 (Kd.R_lower (Kd.R_new' ho0 (Kd.R_lt (br HO_10.out))) (below_size bz)); replace HO_10 := m0 (Kd.R_elder' (br HO_10.out) (Kd.R_base ho0) hb); replace HB := sb HB hb; (try clear hb); (try clear ho0); obtain ⟨Ao39, co39, eo39⟩ := Kd.R_slice HO_10.out; subst eo39) | ((with_reducible refine gc 26 rfl ?_); refine gl (some 84) Try.func26 #[.slice Ao39 t876.length co39] ?_; (with_reducible refine (Bs_CopyInts.calls _ _ t876 t884 _ ?side1 ?side2 A35.out).mono ?_); (case side1 => exact bc (Kd.R_reads' HO_10.out).2.2); (case side2 => exact (Kd.R_reads' HO_10.out).2.1); rintro e w40 ⟨v885, rfl, ho0, hb⟩; refine ⟨_, rfl, ?_⟩; replace HO_7 := m0 (Kd.V_elder' (by (with_reducible repeat (first | apply Kd.V_alloc | apply Kd.V_drewN | apply Kd.V_drew)); exact HO_7.out) (Kd.R_base ho0) hb); have HO886 := m0 (Kd.R_lower (Kd.R_new' (Kd.R_new' ho0 (Kd.R_lt (br HO_10.out))) (Kd.R_lt (br HO883.out))) (below_size bz)); replace HO_10 := m0 (Kd.R_elder' (br HO_10.out) (Kd.R_base ho0) hb); replace HO883 := m0 (Kd.R_elder' (br HO883.out) (Kd.R_base ho0) hb); replace HB := sb HB hb; (try clear hb); (try clear ho0); obtain ⟨Ao41, co41, eo41⟩ := Kd.R_slice HO883.out; subst eo41; obtain ⟨Ao42, co42, eo42⟩ := Kd.R_slice HO886.out; subst eo42) | ((with_reducible refine gc 53 rfl ?_); refine gl (some 85) Try.func53 #[.slice Ao41 t881.length co41, .int .i64 a1, .slice Ao42 t884.length co42] ?_; (with_reducible refine (L_CheckPotentials.calls kj18 _ _ t881 a1 _ _ t884 t887 t888 _ ?side1 ?side2 ?side3 ?side4 A36.out).mono ?_); (case side1 => exact bc (Kd.R_reads' HO883.out).2.2); (case side2 => exact (Kd.R_reads' HO883.out).2.1); (case side3 => exact bc (Kd.R_reads' HO886.out).2.2); (case side4 => exact (Kd.R_reads' HO886.out).2.1); rintro e w43 ⟨rfl, hb⟩; refine ⟨_, rfl, ?_⟩; replace HO_7 := vb HO_7 hb; replace HO_10 := rb HO_10 hb; replace HO883 := rb HO883 hb; replace HO886 := rb HO886 hb; replace HB := sb HB hb; (try clear hb)))
                (try simp only [Act.put, List.setIfInBounds_toArray, List.set_cons_zero, List.set_cons_succ])
                go_cut [94] (fun v94 wc => ∃ (kq : Nat) (x94_36 : Bool), v94 = .bool x94_36 ∧ Aside0 (Lw_CloudDivided.j2 kq l0 a1 l2 t868 t871 x94_36 = some r) ∧ Aside0 (kq ≤ kj18) ∧ Aside0 (Kd.V (Kd.int .i64) 3 wc w.heap.size (fun _ => True) v869 t868) ∧ Aside0 (Below w.heap.size w wc))
                case first =>
                  have H := HC37.out; clear HC37
                  by_cases c44 : t888 = 0
                  · rw [if_pos c44] at H; have c44b0 := beq_iff_eq.mpr c44; have c44b1 := bne_eq_false_iff_eq.mpr c44; clear c44
                    (first | rw [c44b0] | (simp only [i64_w, i32_w]; rw [c44b0]) | skip)
                    have H' := m0 H; clear H
                    go_wp2
                    go_meet
                    case rel => exact ⟨_, ((t887 != t871)), rz, H', ⟨by have := HJ5.out; have := HJ18.out; first | omega | exact Nat.le_refl _⟩, ⟨by (with_reducible repeat (first | apply Kd.V_alloc | apply Kd.V_drewN | apply Kd.V_drew)); exact Kd.V_mono HO_7.out (fun _ hk => trivial)⟩, ⟨bz⟩⟩
                  · rw [if_neg c44] at H; have c44b0 := beq_eq_false_iff_ne.mpr c44; have c44b1 := bne_iff_ne.mpr c44
                    (first | rw [c44b0] | (simp only [i64_w, i32_w]; rw [c44b0]) | skip)
                    have H' := m0 H; clear H
                    go_wp2
                    go_meet
                    case rel => exact ⟨_, (true), rz, H', ⟨by have := HJ5.out; have := HJ18.out; first | omega | exact Nat.le_refl _⟩, ⟨by (with_reducible repeat (first | apply Kd.V_alloc | apply Kd.V_drewN | apply Kd.V_drew)); exact Kd.V_mono HO_7.out (fun _ hk => trivial)⟩, ⟨bz⟩⟩
                case rest =>
                  clear HC37
                  try clear hx8
                  try clear hx880_0
                  obtain ⟨kq, x94_36, rfl, HA, HJ36, HO_7, HB⟩ := hcut
                  cases kq with
                  | zero => exact absurd HA.out (by simp [Lw_CloudDivided.j2])
                  | succ kj36 =>
                    have H := HA.out; clear HA; simp only [Lw_CloudDivided.j2] at H
                    by_cases c45 : x94_36 = true
                    · subst c45; rw [if_pos rfl] at H; obtain rfl := Option.some.inj H
                      go_wp2
                      go_ret
                      exact ez
                    · replace c45 := Bool.eq_false_iff.mpr c45; subst c45; rw [if_neg (show ¬ (false = true) by decide)] at H; replace H := oa H; obtain ⟨⟨t889, t890⟩, A46, H⟩ := H; (try dsimp only at H); have HC47 := m0 H; clear H; obtain ⟨Ao48, co48, eo48⟩ := Kd.V_slice HO_7.out; subst eo48
                      go_upto_region 13 with (first | ((with_reducible refine gc 54 rfl ?_); refine gl (some 99) Try.func54 #[.slice A0 l0.length c0, .int .i64 a1, .slice Ao48 t868.length co48] ?_; (with_reducible refine (Lw_divided.calls kj36 _ _ l0 a1 _ _ t868 t889 t890 _ ?side1 ?side2 ?side3 ?side4 A46.out).mono ?_); (case side1 => exact cb HR0 HB); (case side2 => exact HC0.out); (case side3 => exact bc (Kd.V_reads' HO_7.out).2.2); (case side4 => exact (Kd.V_reads' HO_7.out).2.1); rintro e w49 ⟨rfl, hb⟩; refine ⟨_, rfl, ?_⟩; replace HO_7 := vb HO_7 hb; replace HB := sb HB hb; (try clear hb)))
                      (try simp only [Act.put, List.setIfInBounds_toArray, List.set_cons_zero, List.set_cons_succ])
                      go_cut [108] (fun v108 wc => ∃ (kq : Nat) (x108_46 : Bool), v108 = .bool x108_46 ∧ Aside0 (Lw_CloudDivided.j3 kq l0 a1 l2 t868 t871 x108_46 = some r) ∧ Aside0 (kq ≤ kj36) ∧ Aside0 (Kd.V (Kd.int .i64) 3 wc w.heap.size (fun _ => True) (.slice Ao48 t868.length co48) t868) ∧ Aside0 (Below w.heap.size w wc))
                      case first =>
                        have H := HC47.out; clear HC47
                        by_cases c50 : t890 = true
                        · subst c50; rw [if_pos rfl] at H; have H' := m0 H; clear H
                          go_wp2
                          go_meet
                          case rel => exact ⟨_, ((t889 != t871)), rz, H', ⟨by have := HJ5.out; have := HJ18.out; have := HJ36.out; first | omega | exact Nat.le_refl _⟩, ⟨by (with_reducible repeat (first | apply Kd.V_alloc | apply Kd.V_drewN | apply Kd.V_drew)); exact HO_7.out⟩, ⟨bz⟩⟩
                        · replace c50 := Bool.eq_false_iff.mpr c50; subst c50; rw [if_neg (show ¬ (false = true) by decide)] at H; have H' := m0 H; clear H
                          go_wp2
                          go_meet
                          case rel => exact ⟨_, (true), rz, H', ⟨by have := HJ5.out; have := HJ18.out; have := HJ36.out; first | omega | exact Nat.le_refl _⟩, ⟨by (with_reducible repeat (first | apply Kd.V_alloc | apply Kd.V_drewN | apply Kd.V_drew)); exact HO_7.out⟩, ⟨bz⟩⟩
                      case rest =>
                        clear HC47
                        try clear hx8
                        try clear hx880_0
                        obtain ⟨kq, x108_46, rfl, HA, HJ46, HO_7, HB⟩ := hcut
                        cases kq with
                        | zero => exact absurd HA.out (by simp [Lw_CloudDivided.j3])
                        | succ kj46 =>
                          have H := HA.out; clear HA; simp only [Lw_CloudDivided.j3] at H
                          by_cases c51 : x108_46 = true
                          · subst c51; rw [if_pos rfl] at H; obtain rfl := Option.some.inj H
                            go_wp2
                            go_ret
                            exact ez
                          · replace c51 := Bool.eq_false_iff.mpr c51; subst c51; rw [if_neg (show ¬ (false = true) by decide)] at H; replace H := oa H; obtain ⟨⟨t891, t892⟩, A52, H⟩ := H; (try dsimp only at H); have HC53 := m0 H; clear H
                            go_upto_region 16 with (first | ((with_reducible refine gc 54 rfl ?_); refine gl (some 113) Try.func54 #[.slice A0 l0.length c0, .int .i64 a1, .slice A2 l2.length c2] ?_; (with_reducible refine (Lw_divided.calls kj46 _ _ l0 a1 _ _ l2 t891 t892 _ ?side1 ?side2 ?side3 ?side4 A52.out).mono ?_); (case side1 => exact cb HR0 HB); (case side2 => exact HC0.out); (case side3 => exact cb HR2 HB); (case side4 => exact HC2.out); rintro e w54 ⟨rfl, hb⟩; refine ⟨_, rfl, ?_⟩; replace HO_7 := vb HO_7 hb; replace HB := sb HB hb; (try clear hb)))
                            (try simp only [Act.put, List.setIfInBounds_toArray, List.set_cons_zero, List.set_cons_succ])
                            go_cut [133] (fun v133 wc => ∃ (kq : Nat) (x133_52 : Bool), v133 = .bool x133_52 ∧ Aside0 (Lw_CloudDivided.j4 kq l0 a1 t868 x133_52 = some r) ∧ Aside0 (kq ≤ kj46) ∧ Aside0 (Kd.V (Kd.int .i64) 3 wc w.heap.size (fun _ => True) (.slice Ao48 t868.length co48) t868) ∧ Aside0 (Below w.heap.size w wc))
                            case first =>
                              have H := HC53.out; clear HC53
                              by_cases c55 : t892 = true
                              · subst c55; rw [if_pos rfl] at H
                                by_cases c56 : t891 < t871
                                · rw [if_pos c56] at H; have c56b0 := decide_eq_true c56; clear c56
                                  (first | rw [c56b0] | (simp only [i64_w, i32_w]; rw [c56b0]) | skip)
                                  have H' := m0 H; clear H
                                  go_wp2
                                  go_meet
                                  case rel => exact ⟨_, (true), rz, H', ⟨by have := HJ5.out; have := HJ18.out; have := HJ36.out; have := HJ46.out; first | omega | exact Nat.le_refl _⟩, ⟨by (with_reducible repeat (first | apply Kd.V_alloc | apply Kd.V_drewN | apply Kd.V_drew)); exact HO_7.out⟩, ⟨bz⟩⟩
                                · rw [if_neg c56] at H; have c56b0 := decide_eq_false c56; clear c56
                                  (first | rw [c56b0] | (simp only [i64_w, i32_w]; rw [c56b0]) | skip)
                                  by_cases c57 : t891 = t871
                                  · rw [if_pos c57] at H; have c57b0 := beq_iff_eq.mpr c57; have c57b1 := bne_eq_false_iff_eq.mpr c57; clear c57; have H' := m0 H; clear H
                                    go_wp2
                                    go_meet
                                    case rel => exact ⟨_, (decide ((l2.length : Int) < (t868.length : Int))), rz, H', ⟨by have := HJ5.out; have := HJ18.out; have := HJ36.out; have := HJ46.out; first | omega | exact Nat.le_refl _⟩, ⟨by (with_reducible repeat (first | apply Kd.V_alloc | apply Kd.V_drewN | apply Kd.V_drew)); exact HO_7.out⟩, ⟨bz⟩⟩
                                  · rw [if_neg c57] at H; have c57b0 := beq_eq_false_iff_ne.mpr c57; have c57b1 := bne_iff_ne.mpr c57; have H' := m0 H; clear H
                                    go_wp2
                                    go_meet
                                    case rel => exact ⟨_, (false), rz, H', ⟨by have := HJ5.out; have := HJ18.out; have := HJ36.out; have := HJ46.out; first | omega | exact Nat.le_refl _⟩, ⟨by (with_reducible repeat (first | apply Kd.V_alloc | apply Kd.V_drewN | apply Kd.V_drew)); exact HO_7.out⟩, ⟨bz⟩⟩
                              · replace c55 := Bool.eq_false_iff.mpr c55; subst c55; rw [if_neg (show ¬ (false = true) by decide)] at H; have H' := m0 H; clear H
                                go_wp2
                                go_meet
                                case rel => exact ⟨_, (false), rz, H', ⟨by have := HJ5.out; have := HJ18.out; have := HJ36.out; have := HJ46.out; first | omega | exact Nat.le_refl _⟩, ⟨by (with_reducible repeat (first | apply Kd.V_alloc | apply Kd.V_drewN | apply Kd.V_drew)); exact HO_7.out⟩, ⟨bz⟩⟩
                            case rest =>
                              clear HC53
                              try clear hx8
                              try clear hx880_0
                              obtain ⟨kq, x133_52, rfl, HA, HJ52, HO_7, HB⟩ := hcut
                              cases kq with
                              | zero => exact absurd HA.out (by simp [Lw_CloudDivided.j4])
                              | succ kj52 =>
                                have H := HA.out; clear HA; simp only [Lw_CloudDivided.j4] at H
                                by_cases c58 : x133_52 = true
                                · subst c58; rw [if_pos rfl] at H; obtain rfl := Option.some.inj H
                                  go_wp2
                                  go_ret
                                  exact ez
                                · replace c58 := Bool.eq_false_iff.mpr c58; subst c58; rw [if_neg (show ¬ (false = true) by decide)] at H
                                  by_cases c59 : (wrap64 (a1 + 7)) > 1000000
                                  · rw [if_pos c59] at H; have c59b0 := decide_eq_true c59; clear c59; obtain rfl := Option.some.inj H
                                    go_wp2
                                    go_ret
                                    exact ez
                                  · rw [if_neg c59] at H; have c59b0 := decide_eq_false c59; clear c59; replace H := oa H; obtain ⟨t893, A60, H⟩ := H; (try dsimp only at H); replace H := oa H; obtain ⟨⟨t896, t899, t900⟩, A61, H⟩ := H; (try dsimp only at H)
                                    by_cases c62 : t900 = 0
                                    · rw [if_pos c62] at H; have c62b0 := beq_iff_eq.mpr c62; have c62b1 := bne_eq_false_iff_eq.mpr c62; clear c62; obtain rfl := Option.some.inj H
                                      go_wp2_with (first | ((with_reducible refine gc 26 rfl ?_); refine gl (some 139) Try.func26 #[.slice A0 l0.length c0] ?_; (with_reducible refine (Bs_CopyInts.calls _ _ l0 t893 _ ?side1 ?side2 A60.out).mono ?_); (case side1 => exact cb HR0 HB); (case side2 => exact HC0.out); rintro e w63 ⟨v894, rfl, ho0, hb⟩; refine ⟨_, rfl, ?_⟩; replace HO_7 := m0 (Kd.V_elder' (by (with_reducible repeat (first | apply Kd.V_alloc | apply Kd.V_drewN | apply Kd.V_drew)); exact HO_7.out) (Kd.R_base ho0) hb); have HO895 := m0 (Kd.R_lower ho0 (below_size bz)); replace HB := sb HB hb; (try clear hb); (try clear ho0); obtain ⟨Ao64, co64, eo64⟩ := Kd.R_slice HO895.out; subst eo64) | ((with_reducible refine gc 33 rfl ?_); refine gl (some 142) Try.func33 #[.slice Ao64 t893.length co64, .int .i64 (wrap64 (a1 + 7))] ?_; (with_reducible refine (L_SegmentsOf.calls kj52 (fun k_ => some k_ = (.slice Ao64 t893.length co64 : Value).ownBlock) _ _ t893 (wrap64 (a1 + 7)) t896 t899 t900 _ ?side1 A61.out).mono ?_); (case side1 => exact Kd.R_V (Kd.R_tight rfl (HO895.out))); rintro e w65 ⟨v897, rfl, ho0, hb⟩; refine ⟨_, rfl, ?_⟩; replace HO_7 := vb HO_7 hb; replace HO895 := rb HO895 hb; have HO898 := hv w (fun k_ => True) ho0 (fun k_ hk_ => trivial); replace HB := sb HB hb; (try clear hb); (try clear ho0); obtain ⟨Ao66, co66, eo66⟩ := Kd.V_slice HO898.out; subst eo66))
                                      go_ret
                                      exact ez
                                    · rw [if_neg c62] at H; have c62b0 := beq_eq_false_iff_ne.mpr c62; have c62b1 := bne_iff_ne.mpr c62; obtain rfl := Option.some.inj H
                                      go_wp2_with (first | ((with_reducible refine gc 26 rfl ?_); refine gl (some 139) Try.func26 #[.slice A0 l0.length c0] ?_; (with_reducible refine (Bs_CopyInts.calls _ _ l0 t893 _ ?side1 ?side2 A60.out).mono ?_); (case side1 => exact cb HR0 HB); (case side2 => exact HC0.out); rintro e w67 ⟨v894, rfl, ho0, hb⟩; refine ⟨_, rfl, ?_⟩; replace HO_7 := m0 (Kd.V_elder' (by (with_reducible repeat (first | apply Kd.V_alloc | apply Kd.V_drewN | apply Kd.V_drew)); exact HO_7.out) (Kd.R_base ho0) hb); have HO895 := m0 (Kd.R_lower ho0 (below_size bz)); replace HB := sb HB hb; (try clear hb); (try clear ho0); obtain ⟨Ao68, co68, eo68⟩ := Kd.R_slice HO895.out; subst eo68) | ((with_reducible refine gc 33 rfl ?_); refine gl (some 142) Try.func33 #[.slice Ao68 t893.length co68, .int .i64 (wrap64 (a1 + 7))] ?_; (with_reducible refine (L_SegmentsOf.calls kj52 (fun k_ => some k_ = (.slice Ao68 t893.length co68 : Value).ownBlock) _ _ t893 (wrap64 (a1 + 7)) t896 t899 t900 _ ?side1 A61.out).mono ?_); (case side1 => exact Kd.R_V (Kd.R_tight rfl (HO895.out))); rintro e w69 ⟨v897, rfl, ho0, hb⟩; refine ⟨_, rfl, ?_⟩; replace HO_7 := vb HO_7 hb; replace HO895 := rb HO895 hb; have HO898 := hv w (fun k_ => True) ho0 (fun k_ hk_ => trivial); replace HB := sb HB hb; (try clear hb); (try clear ho0)))
                                      go_ret
                                      exact ez
  · replace c5 := Bool.eq_false_iff.mpr c5; subst c5; rw [if_neg (show ¬ (false = true) by decide)] at H; obtain rfl := Option.some.inj H; go_enter Try.func9, Try.ntmps9
    go_wp2_with (first | ((with_reducible refine gc 11 rfl ?_); refine gl (some 21) Try.func11 #[] ?_; (with_reducible refine (Lw_awake.calls k  false _ A4.out).mono ?_); rintro e w70 ⟨rfl, hb⟩; refine ⟨_, rfl, ?_⟩; replace HB := sb HB hb; (try clear hb)))
    go_ret
    exact ez
def Lw_CloudDivided.Pure : Prop := ∀ (l0 : List Int) (a1 : Int) (l2 : List Int), l0.length ≤ maxLen → l0.length * 8 ≤ 140737488351232 → (∀ x ∈ l0, (Lit.int .i64 x).wf = true) → (Lit.int .i64 a1).wf = true → l2.length ≤ maxLen → l2.length * 8 ≤ 140737488351232 → (∀ x ∈ l2, (Lit.int .i64 x).wf = true) → ∃ k, Lw_CloudDivided.f k l0 a1 l2 = some true
theorem Lw_CloudDivided.walk (P : Lw_CloudDivided.Pure) (a0 : Option Addr) (len0 cap0 : Nat) (z0 : List Int) (a1 : Int) (a2 : Option Addr) (len2 cap2 : Nat) (z2 : List Int) (w : World) (w0 : (a0 = none ∧ len0 = 0 ∧ cap0 = 0 ∧ z0 = []) ∨ ∃ x, a0 = some x ∧ len0 ≤ cap0 ∧ cap0 ≤ maxLen ∧ z0.length = cap0 ∧ (∀ i, i < z0.length → w.cell? (x.add i) = some (.int .i64 (z0.getD i 0))) ∧ ∀ n ∈ z0, (Lit.int .i64 n).wf = true) (y0 : len0 * 8 ≤ 140737488351232) (w1 : (Lit.int .i64 a1).wf = true) (w2 : (a2 = none ∧ len2 = 0 ∧ cap2 = 0 ∧ z2 = []) ∨ ∃ x, a2 = some x ∧ len2 ≤ cap2 ∧ cap2 ≤ maxLen ∧ z2.length = cap2 ∧ (∀ i, i < z2.length → w.cell? (x.add i) = some (.int .i64 (z2.getD i 0))) ∧ ∀ n ∈ z2, (Lit.int .i64 n).wf = true) (y2 : len2 * 8 ≤ 140737488351232) :
    Calls Try.prog 9 #[.slice a0 len0 cap0, .int .i64 a1, .slice a2 len2 cap2] w fun e w' => e = .returned (.bool true) ∧ Below w.heap.size w w' := by
  obtain ⟨l0, rfl, hr0, hm0, hw0, hc0⟩ := ReadsInt.ofRowC w0; obtain ⟨l2, rfl, hr2, hm2, hw2, hc2⟩ := ReadsInt.ofRowC w2; obtain ⟨k, h⟩ := P l0 a1 l2 hm0 y0 hw0 w1 hm2 y2 hw2; refine (Lw_CloudDivided.calls k _ _ l0 a1 _ _ l2 true w (Kd.C_of_reads (d := (0 : Int)) (h1 := fun _ => rfl) hr0) hc0 (Kd.C_of_reads (d := (0 : Int)) (h1 := fun _ => rfl) hr2) hc2 h).mono ?_; rintro e w' ⟨rfl, hd⟩; exact ⟨rfl, hd⟩
end
end Go.Proofs.Yteiafijbgjgiaaa.A
