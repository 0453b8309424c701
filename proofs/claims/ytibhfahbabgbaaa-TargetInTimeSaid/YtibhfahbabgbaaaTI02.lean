/- Walks of the program's functions (printed, made shorter), each with what it computes. -/
import Derived.Test.YtibhfahbabgbaaaB05
import Derived.Test.YtibhfahbabgbaaaB07
import Derived.Test.YtibhfahbabgbaaaB08
import Derived.Test.YtibhfahbabgbaaaB16
import Derived.Test.YtibhfahbabgbaaaTI01
import Derived.Test.YtibhfahbabgbaaaB04
namespace Go.Proofs.Ytibhfahbabgbaaa.A
set_option maxHeartbeats 8000000
set_option maxRecDepth 100000
open Go.RowKit Go.Proofs.YtibhfahbabgbaaaW.PrintWords Go.Proofs.YtibhfahbabgbaaaW.PrintLast Go.Proofs.YtibhfahbabgbaaaW.PrintMore
attribute [local go_sem] max2_int min2_int max_two min_two max_three min_three max_four min_four
set_option linter.unusedVariables false
set_option linter.unusedSimpArgs false
mutual
def Lw_TargetInTime.j0 : Nat → List (S42) → Int → Bool → Option (Bool)
  | 0, _, _, _ => none
  | k + 1, x0, x1, x25 => if x25 = true then (some true) else ((Rf_CopyTasks.f x0).bind fun t396 => ((L_DaysOf.f k t396 x1).bind fun bt399 => ((Rf_CopyTasks.f x0).bind fun t403 => ((L_DaysOf.f k t403 (mn 24 (wrap64 (x1 + 1)))).bind fun bt406 => ((Rf_CopyTasks.f x0).bind fun t410 => ((L_LackOf.f k t410 x1).bind fun bt413 => (if bt399.2 = 0 then (if bt406.2 = 0 then (if (bt399.1.length : Int) = (x0.length : Int) then (if (bt406.1.length : Int) = (x0.length : Int) then (if bt413.2.2 = 0 then (Lw_TargetInTime.j1 k x0 x1 bt399.1 bt406.1 bt413.1 bt413.2.1 bt413.2.2 false) else (Lw_TargetInTime.j1 k x0 x1 bt399.1 bt406.1 bt413.1 bt413.2.1 bt413.2.2 (bt413.2.2 != 12))) else (none)) else (none)) else (none)) else (none))))))))
def Lw_TargetInTime.j1 : Nat → List (S42) → Int → List Int → List Int → Int → Int → Int → Bool → Option (Bool)
  | 0, _, _, _, _, _, _, _, _ => none
  | k + 1, x0, x1, x5, x7, x9, x10, x11, x77 => if x77 = true then (none) else (Lw_TargetInTime.l0 k x0 x1 x5 x7 x9 x10 x11 true 0 0)
def Lw_TargetInTime.l0 : Nat → List (S42) → Int → List Int → List Int → Int → Int → Int → Bool → Int → Int → Option (Bool)
  | 0, _, _, _, _, _, _, _, _, _, _ => none
  | k + 1, x0, x1, x5, x7, x9, x10, x11, x12, x13, x14 => if x14 < (x0.length : Int) then (if x12 = true then (if 0 ≤ x14 then (if x14 < (x5.length : Int) then (Lw_TargetInTime.j3 k x0 x1 x5 x7 x9 x10 x11 (decide ((rd x5 x14) ≤ ((rd_T42 x0 x14).f1))) x13 x14) else (none)) else (none)) else (Lw_TargetInTime.j3 k x0 x1 x5 x7 x9 x10 x11 false x13 x14)) else (if (x12 != (x11 == 12)) = true then (none) else (if x12 = true then (some true) else ((Bs_Within.f x9 0 1000).bind fun t416 => (if t416 = true then (if x10 > 0 then (some (x10 == (wrap64 (x13 - (wrap64 (x9 * x1)))))) else (none)) else (none)))))
def Lw_TargetInTime.j3 : Nat → List (S42) → Int → List Int → List Int → Int → Int → Int → Bool → Int → Int → Option (Bool)
  | 0, _, _, _, _, _, _, _, _, _, _ => none
  | k + 1, x0, x1, x5, x7, x9, x10, x11, x12, x13, x14 => if 0 ≤ x14 then (if x14 < (x7.length : Int) then (if x14 < (x5.length : Int) then (if (rd x7 x14) > (rd x5 x14) then (none) else (Lw_TargetInTime.j4 k x0 x1 x5 x7 x9 x10 x11 x12 x13 x14 (decide ((rd x5 x14) < 0)))) else (none)) else (none)) else (none)
def Lw_TargetInTime.j4 : Nat → List (S42) → Int → List Int → List Int → Int → Int → Int → Bool → Int → Int → Bool → Option (Bool)
  | 0, _, _, _, _, _, _, _, _, _, _, _ => none
  | k + 1, x0, x1, x5, x7, x9, x10, x11, x12, x13, x14, x112 => if x112 = true then (none) else (if 0 ≤ x14 then (if x14 < (x0.length : Int) then (if ((rd_T42 x0 x14).f1) ≤ x9 then (Lw_TargetInTime.l0 k x0 x1 x5 x7 x9 x10 x11 x12 (wrap64 (x13 + ((rd_T42 x0 x14).f2))) (wrap64 (x14 + 1))) else (Lw_TargetInTime.l0 k x0 x1 x5 x7 x9 x10 x11 x12 x13 (wrap64 (x14 + 1)))) else (none)) else (none))
end
def Lw_TargetInTime.f (k : Nat) (l0 : List (S42)) (a1 : Int) : Option (Bool) := (Lw_awake.f k).bind fun t394 => (if t394 = true then (if (l0.length : Int) > 10 then (Lw_TargetInTime.j0 k l0 a1 true) else ((Rf_TasksErr.f k l0 a1).bind fun t395 => (Lw_TargetInTime.j0 k l0 a1 (t395 != 0)))) else (none))
theorem Lw_TargetInTime.mono_l : ∀ k, (∀ y0 y1 y2, LeO (Lw_TargetInTime.j0 k y0 y1 y2) (Lw_TargetInTime.j0 (k + 1) y0 y1 y2)) ∧ (∀ y0 y1 y2 y3 y4 y5 y6 y7, LeO (Lw_TargetInTime.j1 k y0 y1 y2 y3 y4 y5 y6 y7) (Lw_TargetInTime.j1 (k + 1) y0 y1 y2 y3 y4 y5 y6 y7)) ∧ (∀ y0 y1 y2 y3 y4 y5 y6 y7 y8 y9, LeO (Lw_TargetInTime.l0 k y0 y1 y2 y3 y4 y5 y6 y7 y8 y9) (Lw_TargetInTime.l0 (k + 1) y0 y1 y2 y3 y4 y5 y6 y7 y8 y9)) ∧ (∀ y0 y1 y2 y3 y4 y5 y6 y7 y8 y9, LeO (Lw_TargetInTime.j3 k y0 y1 y2 y3 y4 y5 y6 y7 y8 y9) (Lw_TargetInTime.j3 (k + 1) y0 y1 y2 y3 y4 y5 y6 y7 y8 y9)) ∧ (∀ y0 y1 y2 y3 y4 y5 y6 y7 y8 y9 y10, LeO (Lw_TargetInTime.j4 k y0 y1 y2 y3 y4 y5 y6 y7 y8 y9 y10) (Lw_TargetInTime.j4 (k + 1) y0 y1 y2 y3 y4 y5 y6 y7 y8 y9 y10))
  | 0 => ⟨fun _ _ _ r h => by simp [Lw_TargetInTime.j0] at h, fun _ _ _ _ _ _ _ _ r h => by simp [Lw_TargetInTime.j1] at h, fun _ _ _ _ _ _ _ _ _ _ r h => by simp [Lw_TargetInTime.l0] at h, fun _ _ _ _ _ _ _ _ _ _ r h => by simp [Lw_TargetInTime.j3] at h, fun _ _ _ _ _ _ _ _ _ _ _ r h => by simp [Lw_TargetInTime.j4] at h⟩
  | k + 1 => by
    obtain ⟨ih0, ih1, ih2, ih3, ih4⟩ := Lw_TargetInTime.mono_l k
    refine ⟨?_, ?_, ?_, ?_, ?_⟩
    · intro y0 y1 y2
      unfold Lw_TargetInTime.j0
      repeat' with_reducible first
        | exact ih0 ..
        | exact ih1 ..
        | exact ih2 ..
        | exact ih3 ..
        | exact ih4 ..
        | exact Lw_awake.mono ..
        | exact Rf_TasksErr.mono ..
        | exact L_DaysOf.mono ..
        | exact L_LackOf.mono ..
        | exact LeO.refl ..
        | exact LeO.none ..
        | refine LeO.ite ?_ ?_
        | refine LeO.bind ?_ (fun _ => ?_)
    · intro y0 y1 y2 y3 y4 y5 y6 y7
      unfold Lw_TargetInTime.j1
      repeat' with_reducible first
        | exact ih0 ..
        | exact ih1 ..
        | exact ih2 ..
        | exact ih3 ..
        | exact ih4 ..
        | exact Lw_awake.mono ..
        | exact Rf_TasksErr.mono ..
        | exact L_DaysOf.mono ..
        | exact L_LackOf.mono ..
        | exact LeO.refl ..
        | exact LeO.none ..
        | refine LeO.ite ?_ ?_
        | refine LeO.bind ?_ (fun _ => ?_)
    · intro y0 y1 y2 y3 y4 y5 y6 y7 y8 y9
      unfold Lw_TargetInTime.l0
      repeat' with_reducible first
        | exact ih0 ..
        | exact ih1 ..
        | exact ih2 ..
        | exact ih3 ..
        | exact ih4 ..
        | exact Lw_awake.mono ..
        | exact Rf_TasksErr.mono ..
        | exact L_DaysOf.mono ..
        | exact L_LackOf.mono ..
        | exact LeO.refl ..
        | exact LeO.none ..
        | refine LeO.ite ?_ ?_
        | refine LeO.bind ?_ (fun _ => ?_)
    · intro y0 y1 y2 y3 y4 y5 y6 y7 y8 y9
      unfold Lw_TargetInTime.j3
      repeat' with_reducible first
        | exact ih0 ..
        | exact ih1 ..
        | exact ih2 ..
        | exact ih3 ..
        | exact ih4 ..
        | exact Lw_awake.mono ..
        | exact Rf_TasksErr.mono ..
        | exact L_DaysOf.mono ..
        | exact L_LackOf.mono ..
        | exact LeO.refl ..
        | exact LeO.none ..
        | refine LeO.ite ?_ ?_
        | refine LeO.bind ?_ (fun _ => ?_)
    · intro y0 y1 y2 y3 y4 y5 y6 y7 y8 y9 y10
      unfold Lw_TargetInTime.j4
      repeat' with_reducible first
        | exact ih0 ..
        | exact ih1 ..
        | exact ih2 ..
        | exact ih3 ..
        | exact ih4 ..
        | exact Lw_awake.mono ..
        | exact Rf_TasksErr.mono ..
        | exact L_DaysOf.mono ..
        | exact L_LackOf.mono ..
        | exact LeO.refl ..
        | exact LeO.none ..
        | refine LeO.ite ?_ ?_
        | refine LeO.bind ?_ (fun _ => ?_)
theorem Lw_TargetInTime.mono : ∀ a0 a1 k, LeO (Lw_TargetInTime.f k a0 a1) (Lw_TargetInTime.f (k + 1) a0 a1) := by
  intro a0 a1 k
  obtain ⟨ih0, ih1, ih2, ih3, ih4⟩ := Lw_TargetInTime.mono_l k
  unfold Lw_TargetInTime.f
  repeat' with_reducible first
    | exact ih0 ..
    | exact ih1 ..
    | exact ih2 ..
    | exact ih3 ..
    | exact ih4 ..
    | exact Lw_awake.mono ..
    | exact Rf_TasksErr.mono ..
    | exact L_DaysOf.mono ..
    | exact L_LackOf.mono ..
    | exact LeO.refl ..
    | exact LeO.none ..
    | refine LeO.ite ?_ ?_
    | refine LeO.bind ?_ (fun _ => ?_)
theorem Lw_TargetInTime.calls (k : Nat) (A0 : Option Addr) (c0 : Nat) (l0 : List (S42)) (a1 : Int) (r : Bool) (w : World) (hr0 : Kd.C k42 w A0 l0.length l0) (hc0 : l0.length ≤ c0) (h : Lw_TargetInTime.f k l0 a1 = some r) :
    Calls Try.prog 4 #[.slice A0 l0.length c0, .int .i64 a1] w fun e w' => e = .returned (.bool r) ∧ Below w.heap.size w w' := by
  have HR0 := m0 hr0
  have HC0 := m0 hc0
  clear hr0 hc0
  have HB := m0 (Below.refl w.heap.size w)
  have H : ((Lw_awake.f k).bind fun t394 => (if t394 = true then (if (l0.length : Int) > 10 then (Lw_TargetInTime.j0 k l0 a1 true) else ((Rf_TasksErr.f k l0 a1).bind fun t395 => (Lw_TargetInTime.j0 k l0 a1 (t395 != 0)))) else (none))) = some r := h
  clear h
  replace H := ob H
  obtain ⟨t394, A3, H⟩ := H
  (try dsimp only at H)
  replace A3 := m0 A3
  by_cases c4 : t394 = true
  · subst c4
    rw [if_pos rfl] at H
    have HC5 := m0 H
    clear H
    go_enter Try.func4, Try.ntmps4
    go_upto_region 3 with (first | (go_at_call 14; (with_reducible refine (Lw_awake.calls k  true _ A3.out).mono ?_); rintro e w6 ⟨rfl, hb⟩; replace HB := sb HB hb; (try clear hb)))
    repeat (go_quiet (first | (go_at_call 14; (with_reducible refine (Lw_awake.calls k  true _ A3.out).mono ?_); rintro e w6 ⟨rfl, hb⟩; replace HB := sb HB hb; (try clear hb))); go_upto_region 3 with (first | (go_at_call 14; (with_reducible refine (Lw_awake.calls k  true _ A3.out).mono ?_); rintro e w6 ⟨rfl, hb⟩; replace HB := sb HB hb; (try clear hb))))
    (try simp only [Act.put, List.setIfInBounds_toArray, List.set_cons_zero, List.set_cons_succ])
    go_cut [25] (fun v25 wc => ∃ (kq : Nat) (x25_4 : Bool), v25 = .bool x25_4 ∧ Aside0 (Lw_TargetInTime.j0 kq l0 a1 x25_4 = some r) ∧ Aside0 (kq ≤ k) ∧ Aside0 (Below w.heap.size w wc))
    case first =>
      have H := HC5.out
      clear HC5
      by_cases c7 : (l0.length : Int) > 10
      · rw [if_pos c7] at H
        have c7b0 := decide_eq_true c7
        have c7b1 : decide (10 < l0.length) = true := decide_eq_true (by omega)
        clear c7
        (first | rw [c7b0] | (simp only [i64_w, i32_w]; rw [c7b0]) | skip)
        have H' := m0 H
        clear H
        go_wp2
        repeat (go_quiet (fail); try go_wp2)
        go_meet
        case rel => exact ⟨_, (true), (by first | rfl | (simp; done) | (simp [*]; done)), H', ⟨by first | omega | exact Nat.le_refl _⟩, ⟨bz⟩⟩
      · rw [if_neg c7] at H
        have c7b0 := decide_eq_false c7
        have c7b1 : decide (10 < l0.length) = false := decide_eq_false (by omega)
        clear c7
        (first | rw [c7b0] | (simp only [i64_w, i32_w]; rw [c7b0]) | skip)
        replace H := ob H
        obtain ⟨t395, A8, H⟩ := H
        (try dsimp only at H)
        replace A8 := m0 A8
        have H' := m0 H
        clear H
        go_wp2_with (first | (go_at_call 20; (with_reducible refine (Rf_TasksErr.calls k _ _ l0 a1 t395 _ ?side1 ?side2 A8.out).mono ?_); (case side1 => exact cb HR0 HB); (case side2 => exact HC0.out); rintro e w' ⟨rfl, ⟨nd, rfl⟩⟩; (try first | exact ⟨rfl, _, World.drewN_drewN _ _ _⟩ | exact ⟨rfl, _, Eq.trans (World.drewN_drewN _ _ _) (congrArg (World.drewN _) (Nat.add_assoc _ _ _))⟩)))
        repeat (go_quiet (first | (go_at_call 20; (with_reducible refine (Rf_TasksErr.calls k _ _ l0 a1 t395 _ ?side1 ?side2 A8.out).mono ?_); (case side1 => exact cb HR0 HB); (case side2 => exact HC0.out); rintro e w' ⟨rfl, ⟨nd, rfl⟩⟩; (try first | exact ⟨rfl, _, World.drewN_drewN _ _ _⟩ | exact ⟨rfl, _, Eq.trans (World.drewN_drewN _ _ _) (congrArg (World.drewN _) (Nat.add_assoc _ _ _))⟩))); try go_wp2_with (first | (go_at_call 20; (with_reducible refine (Rf_TasksErr.calls k _ _ l0 a1 t395 _ ?side1 ?side2 A8.out).mono ?_); (case side1 => exact cb HR0 HB); (case side2 => exact HC0.out); rintro e w' ⟨rfl, ⟨nd, rfl⟩⟩; (try first | exact ⟨rfl, _, World.drewN_drewN _ _ _⟩ | exact ⟨rfl, _, Eq.trans (World.drewN_drewN _ _ _) (congrArg (World.drewN _) (Nat.add_assoc _ _ _))⟩))))
        go_meet
        case rel => exact ⟨_, ((t395 != 0)), (by first | rfl | (simp; done) | (simp [*]; done)), H', ⟨by first | omega | exact Nat.le_refl _⟩, ⟨bz⟩⟩
    case rest =>
      clear HC5
      obtain ⟨kq, x25_4, rfl, HA, HJ4, HB⟩ := hcut
      cases kq with
      | zero => exact absurd HA.out (by simp [Lw_TargetInTime.j0])
      | succ kj4 =>
        have H := HA.out
        clear HA
        simp only [Lw_TargetInTime.j0] at H
        by_cases c9 : x25_4 = true
        · subst c9
          rw [if_pos rfl] at H
          obtain rfl := Option.some.inj H
          go_wp2
          repeat (go_quiet (fail); try go_wp2)
          go_ret
          exact ez
        · replace c9 := Bool.eq_false_iff.mpr c9
          subst c9
          rw [if_neg (show ¬ (false = true) by decide)] at H
          replace H := ob H
          obtain ⟨t396, A10, H⟩ := H
          (try dsimp only at H)
          replace A10 := m0 A10
          replace H := ob H
          obtain ⟨⟨t399, t400⟩, A11, H⟩ := H
          (try dsimp only at H)
          replace A11 := m0 A11
          replace H := ob H
          obtain ⟨t403, A12, H⟩ := H
          (try dsimp only at H)
          replace A12 := m0 A12
          obtain ⟨ji13, hji13⟩ : ∃ j_ : Int, (mn 24 (wrap64 (a1 + 1))) = j_ := ⟨_, rfl⟩
          replace H : ((L_DaysOf.f kj4 t403 (ji13)).bind fun bt406 => ((Rf_CopyTasks.f l0).bind fun t410 => ((L_LackOf.f kj4 t410 a1).bind fun bt413 => (if t400 = 0 then (if bt406.2 = 0 then (if (t399.length : Int) = (l0.length : Int) then (if (bt406.1.length : Int) = (l0.length : Int) then (if bt413.2.2 = 0 then (Lw_TargetInTime.j1 kj4 l0 a1 t399 bt406.1 bt413.1 bt413.2.1 bt413.2.2 false) else (Lw_TargetInTime.j1 kj4 l0 a1 t399 bt406.1 bt413.1 bt413.2.1 bt413.2.2 (bt413.2.2 != 12))) else (none)) else (none)) else (none)) else (none))))) = some r := by first | (rw [hji13] at H; exact H) | (simp only [hji13] at H ⊢; exact H)
          (try rw [hji13] at A10)
          (try rw [hji13] at A11)
          (try rw [hji13] at A12)
          have hji13_ : (if (wrap64 (a1 + 1)) < 24 then (wrap64 (a1 + 1)) else 24) = ji13 := hji13
          replace H := ob H
          obtain ⟨⟨t406, t407⟩, A14, H⟩ := H
          (try dsimp only at H)
          replace A14 := m0 A14
          replace H := ob H
          obtain ⟨t410, A15, H⟩ := H
          (try dsimp only at H)
          replace A15 := m0 A15
          replace H := ob H
          obtain ⟨⟨t413, t414, t415⟩, A16, H⟩ := H
          (try dsimp only at H)
          replace A16 := m0 A16
          have HC17 := m0 H
          clear H
          go_upto_region 8 with (first | (go_at_call 16; (fail_if_success (have x_ := HO398)); (with_reducible refine (Rf_CopyTasks.calls _ _ l0 t396 _ ?side1 ?side2 A10.out).mono ?_); (case side1 => exact cb HR0 HB); (case side2 => exact HC0.out); rintro e w18 ⟨v397, rfl, ho0, hb⟩; have HO398 := m0 (Kd.R_lower ho0 (below_size bz)); replace HB := sb HB hb; (try clear hb); (try clear ho0); obtain ⟨Ao19, co19, eo19⟩ := Kd.R_slice HO398.out; subst eo19) | (go_at_call 17; (with_reducible refine (L_DaysOf.calls kj4 _ _ t396 a1 t399 t400 _ ?side1 ?side2 A11.out).mono ?_); (case side1 => exact bc (Kd.R_reads' HO398.out).2.2); (case side2 => exact (Kd.R_reads' HO398.out).2.1); rintro e w20 ⟨v401, rfl, ho0, hb⟩; replace HO398 := rb HO398 hb; have HO402 := m0 (Kd.R_lower ho0 (below_size bz)); replace HB := sb HB hb; (try clear hb); (try clear ho0)) | (go_at_call 16; (fail_if_success (have x_ := HO405)); (with_reducible refine (Rf_CopyTasks.calls _ _ l0 t403 _ ?side1 ?side2 A12.out).mono ?_); (case side1 => exact cb HR0 HB); (case side2 => exact HC0.out); rintro e w21 ⟨v404, rfl, ho0, hb⟩; replace HO402 := rb HO402 hb; have HO405 := m0 (Kd.R_lower (Kd.R_new' ho0 (Kd.R_lt (br HO398.out))) (below_size bz)); replace HO398 := m0 (Kd.R_elder' (br HO398.out) (Kd.R_base ho0) hb); replace HB := sb HB hb; (try clear hb); (try clear ho0); obtain ⟨Ao22, co22, eo22⟩ := Kd.R_slice HO405.out; subst eo22) | (go_at_call 17; (with_reducible refine (L_DaysOf.calls kj4 _ _ t403 ji13 t406 t407 _ ?side1 ?side2 A14.out).mono ?_); (case side1 => exact bc (Kd.R_reads' HO405.out).2.2); (case side2 => exact (Kd.R_reads' HO405.out).2.1); rintro e w23 ⟨v408, rfl, ho0, hb⟩; replace HO398 := rb HO398 hb; replace HO405 := rb HO405 hb; have HO409 := m0 (Kd.R_lower (Kd.R_new' ho0 (Kd.R_lt (br HO402.out))) (below_size bz)); replace HO402 := m0 (Kd.R_elder' (br HO402.out) (Kd.R_base ho0) hb); replace HB := sb HB hb; (try clear hb); (try clear ho0)) | (go_at_call 16; (fail_if_success (have x_ := HO412)); (with_reducible refine (Rf_CopyTasks.calls _ _ l0 t410 _ ?side1 ?side2 A15.out).mono ?_); (case side1 => exact cb HR0 HB); (case side2 => exact HC0.out); rintro e w24 ⟨v411, rfl, ho0, hb⟩; replace HO402 := rb HO402 hb; replace HO409 := rb HO409 hb; have HO412 := m0 (Kd.R_lower (Kd.R_new' (Kd.R_new' ho0 (Kd.R_lt (br HO398.out))) (Kd.R_lt (br HO405.out))) (below_size bz)); replace HO398 := m0 (Kd.R_elder' (br HO398.out) (Kd.R_base ho0) hb); replace HO405 := m0 (Kd.R_elder' (br HO405.out) (Kd.R_base ho0) hb); replace HB := sb HB hb; (try clear hb); (try clear ho0); obtain ⟨Ao25, co25, eo25⟩ := Kd.R_slice HO412.out; subst eo25) | (go_at_call 18; (with_reducible refine (L_LackOf.calls kj4 _ _ t410 a1 t413 t414 t415 _ ?side1 ?side2 A16.out).mono ?_); (case side1 => exact bc (Kd.R_reads' HO412.out).2.2); (case side2 => exact (Kd.R_reads' HO412.out).2.1); rintro e w26 ⟨rfl, hb⟩; replace HO398 := rb HO398 hb; replace HO402 := rb HO402 hb; replace HO405 := rb HO405 hb; replace HO409 := rb HO409 hb; replace HO412 := rb HO412 hb; replace HB := sb HB hb; (try clear hb)))
          repeat (go_quiet (first | (go_at_call 16; (fail_if_success (have x_ := HO398)); (with_reducible refine (Rf_CopyTasks.calls _ _ l0 t396 _ ?side1 ?side2 A10.out).mono ?_); (case side1 => exact cb HR0 HB); (case side2 => exact HC0.out); rintro e w18 ⟨v397, rfl, ho0, hb⟩; have HO398 := m0 (Kd.R_lower ho0 (below_size bz)); replace HB := sb HB hb; (try clear hb); (try clear ho0); obtain ⟨Ao19, co19, eo19⟩ := Kd.R_slice HO398.out; subst eo19) | (go_at_call 17; (with_reducible refine (L_DaysOf.calls kj4 _ _ t396 a1 t399 t400 _ ?side1 ?side2 A11.out).mono ?_); (case side1 => exact bc (Kd.R_reads' HO398.out).2.2); (case side2 => exact (Kd.R_reads' HO398.out).2.1); rintro e w20 ⟨v401, rfl, ho0, hb⟩; replace HO398 := rb HO398 hb; have HO402 := m0 (Kd.R_lower ho0 (below_size bz)); replace HB := sb HB hb; (try clear hb); (try clear ho0)) | (go_at_call 16; (fail_if_success (have x_ := HO405)); (with_reducible refine (Rf_CopyTasks.calls _ _ l0 t403 _ ?side1 ?side2 A12.out).mono ?_); (case side1 => exact cb HR0 HB); (case side2 => exact HC0.out); rintro e w21 ⟨v404, rfl, ho0, hb⟩; replace HO402 := rb HO402 hb; have HO405 := m0 (Kd.R_lower (Kd.R_new' ho0 (Kd.R_lt (br HO398.out))) (below_size bz)); replace HO398 := m0 (Kd.R_elder' (br HO398.out) (Kd.R_base ho0) hb); replace HB := sb HB hb; (try clear hb); (try clear ho0); obtain ⟨Ao22, co22, eo22⟩ := Kd.R_slice HO405.out; subst eo22) | (go_at_call 17; (with_reducible refine (L_DaysOf.calls kj4 _ _ t403 ji13 t406 t407 _ ?side1 ?side2 A14.out).mono ?_); (case side1 => exact bc (Kd.R_reads' HO405.out).2.2); (case side2 => exact (Kd.R_reads' HO405.out).2.1); rintro e w23 ⟨v408, rfl, ho0, hb⟩; replace HO398 := rb HO398 hb; replace HO405 := rb HO405 hb; have HO409 := m0 (Kd.R_lower (Kd.R_new' ho0 (Kd.R_lt (br HO402.out))) (below_size bz)); replace HO402 := m0 (Kd.R_elder' (br HO402.out) (Kd.R_base ho0) hb); replace HB := sb HB hb; (try clear hb); (try clear ho0)) | (go_at_call 16; (fail_if_success (have x_ := HO412)); (with_reducible refine (Rf_CopyTasks.calls _ _ l0 t410 _ ?side1 ?side2 A15.out).mono ?_); (case side1 => exact cb HR0 HB); (case side2 => exact HC0.out); rintro e w24 ⟨v411, rfl, ho0, hb⟩; replace HO402 := rb HO402 hb; replace HO409 := rb HO409 hb; have HO412 := m0 (Kd.R_lower (Kd.R_new' (Kd.R_new' ho0 (Kd.R_lt (br HO398.out))) (Kd.R_lt (br HO405.out))) (below_size bz)); replace HO398 := m0 (Kd.R_elder' (br HO398.out) (Kd.R_base ho0) hb); replace HO405 := m0 (Kd.R_elder' (br HO405.out) (Kd.R_base ho0) hb); replace HB := sb HB hb; (try clear hb); (try clear ho0); obtain ⟨Ao25, co25, eo25⟩ := Kd.R_slice HO412.out; subst eo25) | (go_at_call 18; (with_reducible refine (L_LackOf.calls kj4 _ _ t410 a1 t413 t414 t415 _ ?side1 ?side2 A16.out).mono ?_); (case side1 => exact bc (Kd.R_reads' HO412.out).2.2); (case side2 => exact (Kd.R_reads' HO412.out).2.1); rintro e w26 ⟨rfl, hb⟩; replace HO398 := rb HO398 hb; replace HO402 := rb HO402 hb; replace HO405 := rb HO405 hb; replace HO409 := rb HO409 hb; replace HO412 := rb HO412 hb; replace HB := sb HB hb; (try clear hb))); go_upto_region 8 with (first | (go_at_call 16; (fail_if_success (have x_ := HO398)); (with_reducible refine (Rf_CopyTasks.calls _ _ l0 t396 _ ?side1 ?side2 A10.out).mono ?_); (case side1 => exact cb HR0 HB); (case side2 => exact HC0.out); rintro e w18 ⟨v397, rfl, ho0, hb⟩; have HO398 := m0 (Kd.R_lower ho0 (below_size bz)); replace HB := sb HB hb; (try clear hb); (try clear ho0); obtain ⟨Ao19, co19, eo19⟩ := Kd.R_slice HO398.out; subst eo19) | (go_at_call 17; (with_reducible refine (L_DaysOf.calls kj4 _ _ t396 a1 t399 t400 _ ?side1 ?side2 A11.out).mono ?_); (case side1 => exact bc (Kd.R_reads' HO398.out).2.2); (case side2 => exact (Kd.R_reads' HO398.out).2.1); rintro e w20 ⟨v401, rfl, ho0, hb⟩; replace HO398 := rb HO398 hb; have HO402 := m0 (Kd.R_lower ho0 (below_size bz)); replace HB := sb HB hb; (try clear hb); (try clear ho0)) | (go_at_call 16; (fail_if_success (have x_ := HO405)); (with_reducible refine (Rf_CopyTasks.calls _ _ l0 t403 _ ?side1 ?side2 A12.out).mono ?_); (case side1 => exact cb HR0 HB); (case side2 => exact HC0.out); rintro e w21 ⟨v404, rfl, ho0, hb⟩; replace HO402 := rb HO402 hb; have HO405 := m0 (Kd.R_lower (Kd.R_new' ho0 (Kd.R_lt (br HO398.out))) (below_size bz)); replace HO398 := m0 (Kd.R_elder' (br HO398.out) (Kd.R_base ho0) hb); replace HB := sb HB hb; (try clear hb); (try clear ho0); obtain ⟨Ao22, co22, eo22⟩ := Kd.R_slice HO405.out; subst eo22) | (go_at_call 17; (with_reducible refine (L_DaysOf.calls kj4 _ _ t403 ji13 t406 t407 _ ?side1 ?side2 A14.out).mono ?_); (case side1 => exact bc (Kd.R_reads' HO405.out).2.2); (case side2 => exact (Kd.R_reads' HO405.out).2.1); rintro e w23 ⟨v408, rfl, ho0, hb⟩; replace HO398 := rb HO398 hb; replace HO405 := rb HO405 hb; have HO409 := m0 (Kd.R_lower (Kd.R_new' ho0 (Kd.R_lt (br HO402.out))) (below_size bz)); replace HO402 := m0 (Kd.R_elder' (br HO402.out) (Kd.R_base ho0) hb); replace HB := sb HB hb; (try clear hb); (try clear ho0)) | (go_at_call 16; (fail_if_success (have x_ := HO412)); (with_reducible refine (Rf_CopyTasks.calls _ _ l0 t410 _ ?side1 ?side2 A15.out).mono ?_); (case side1 => exact cb HR0 HB); (case side2 => exact HC0.out); rintro e w24 ⟨v411, rfl, ho0, hb⟩; replace HO402 := rb HO402 hb; replace HO409 := rb HO409 hb; have HO412 := m0 (Kd.R_lower (Kd.R_new' (Kd.R_new' ho0 (Kd.R_lt (br HO398.out))) (Kd.R_lt (br HO405.out))) (below_size bz)); replace HO398 := m0 (Kd.R_elder' (br HO398.out) (Kd.R_base ho0) hb); replace HO405 := m0 (Kd.R_elder' (br HO405.out) (Kd.R_base ho0) hb); replace HB := sb HB hb; (try clear hb); (try clear ho0); obtain ⟨Ao25, co25, eo25⟩ := Kd.R_slice HO412.out; subst eo25) | (go_at_call 18; (with_reducible refine (L_LackOf.calls kj4 _ _ t410 a1 t413 t414 t415 _ ?side1 ?side2 A16.out).mono ?_); (case side1 => exact bc (Kd.R_reads' HO412.out).2.2); (case side2 => exact (Kd.R_reads' HO412.out).2.1); rintro e w26 ⟨rfl, hb⟩; replace HO398 := rb HO398 hb; replace HO402 := rb HO402 hb; replace HO405 := rb HO405 hb; replace HO409 := rb HO409 hb; replace HO412 := rb HO412 hb; replace HB := sb HB hb; (try clear hb))))
          (try simp only [Act.put, List.setIfInBounds_toArray, List.set_cons_zero, List.set_cons_succ])
          go_cut [77] (fun v77 wc => ∃ (kq : Nat) (x77_16 : Bool), v77 = .bool x77_16 ∧ Aside0 (Lw_TargetInTime.j1 kq l0 a1 t399 t406 t413 t414 t415 x77_16 = some r) ∧ Aside0 (kq ≤ kj4) ∧ Aside0 (Kd.R (Kd.int .i64) 3 wc w.heap.size (fun k_ => some k_ ≠ (v408 : Value).ownBlock) v401 t399) ∧ Aside0 (Kd.R (Kd.int .i64) 3 wc w.heap.size (fun k_ => some k_ ≠ (v401 : Value).ownBlock) v408 t406) ∧ Aside0 (Below w.heap.size w wc))
          case first =>
            have H := HC17.out
            clear HC17
            by_cases c27 : t400 = 0
            · rw [if_pos c27] at H
              have c27b0 := beq_iff_eq.mpr c27
              have c27b1 := bne_eq_false_iff_eq.mpr c27
              clear c27
              (first | rw [c27b0] | (simp only [i64_w, i32_w]; rw [c27b0]) | skip)
              by_cases c28 : t407 = 0
              · rw [if_pos c28] at H
                have c28b0 := beq_iff_eq.mpr c28
                have c28b1 := bne_eq_false_iff_eq.mpr c28
                clear c28
                by_cases c29 : (t399.length : Int) = (l0.length : Int)
                · rw [if_pos c29] at H
                  have c29b0 := beq_iff_eq.mpr c29
                  have c29b1 := bne_eq_false_iff_eq.mpr c29
                  have c29b2 : (t399.length == l0.length) = true := by first | simpa using c29 | (simp at c29 ⊢; omega)
                  clear c29
                  by_cases c30 : (t406.length : Int) = (l0.length : Int)
                  · rw [if_pos c30] at H
                    have c30b0 := beq_iff_eq.mpr c30
                    have c30b1 := bne_eq_false_iff_eq.mpr c30
                    have c30b2 : (t406.length == l0.length) = true := by first | simpa using c30 | (simp at c30 ⊢; omega)
                    clear c30
                    by_cases c31 : t415 = 0
                    · rw [if_pos c31] at H
                      have c31b0 := beq_iff_eq.mpr c31
                      have c31b1 := bne_eq_false_iff_eq.mpr c31
                      clear c31
                      have H' := m0 H
                      clear H
                      obtain ⟨Ao32, co32, eo32⟩ := Kd.R_slice HO402.out
                      subst eo32
                      obtain ⟨Ao33, co33, eo33⟩ := Kd.R_slice HO409.out
                      subst eo33
                      go_wp2
                      repeat (go_quiet (fail); try go_wp2)
                      go_meet
                      case rel => exact ⟨_, (false), (by first | rfl | (simp; done) | (simp [*]; done)), H', ⟨by have := HJ4.out; first | omega | exact Nat.le_refl _⟩, ⟨by (with_reducible repeat (first | apply Kd.R_alloc | apply Kd.R_drewN | apply Kd.R_drew)); exact Kd.R_mono HO402.out (fun _ hk => hk.2)⟩, ⟨by (with_reducible repeat (first | apply Kd.R_alloc | apply Kd.R_drewN | apply Kd.R_drew)); exact Kd.R_mono HO409.out (fun _ hk => hk.2)⟩, ⟨bz⟩⟩
                    · rw [if_neg c31] at H
                      have c31b0 := beq_eq_false_iff_ne.mpr c31
                      have c31b1 := bne_iff_ne.mpr c31
                      have H' := m0 H
                      clear H
                      obtain ⟨Ao34, co34, eo34⟩ := Kd.R_slice HO402.out
                      subst eo34
                      obtain ⟨Ao35, co35, eo35⟩ := Kd.R_slice HO409.out
                      subst eo35
                      go_wp2
                      repeat (go_quiet (fail); try go_wp2)
                      go_meet
                      case rel => exact ⟨_, ((t415 != 12)), (by first | rfl | (simp; done) | (simp [*]; done)), H', ⟨by have := HJ4.out; first | omega | exact Nat.le_refl _⟩, ⟨by (with_reducible repeat (first | apply Kd.R_alloc | apply Kd.R_drewN | apply Kd.R_drew)); exact Kd.R_mono HO402.out (fun _ hk => hk.2)⟩, ⟨by (with_reducible repeat (first | apply Kd.R_alloc | apply Kd.R_drewN | apply Kd.R_drew)); exact Kd.R_mono HO409.out (fun _ hk => hk.2)⟩, ⟨bz⟩⟩
                  · rw [if_neg c30] at H
                    exact absurd H (by simp)
                · rw [if_neg c29] at H
                  exact absurd H (by simp)
              · rw [if_neg c28] at H
                exact absurd H (by simp)
            · rw [if_neg c27] at H
              exact absurd H (by simp)
          case rest =>
            clear HC17
            obtain ⟨kq, x77_16, rfl, HA, HJ16, HO_5, HO_7, HB⟩ := hcut
            cases kq with
            | zero => exact absurd HA.out (by simp [Lw_TargetInTime.j1])
            | succ kj16 =>
              have H := HA.out
              clear HA
              simp only [Lw_TargetInTime.j1] at H
              by_cases c36 : x77_16 = true
              · subst c36
                rw [if_pos rfl] at H
                exact absurd H (by simp)
              · replace c36 := Bool.eq_false_iff.mpr c36
                subst c36
                rw [if_neg (show ¬ (false = true) by decide)] at H
                have H' := m0 H
                clear H
                go_wp2
                repeat (go_quiet (fail); try go_wp2)
                go_loopg [12, 13, 14] kj16 (fun kq v12 v13 v14 w' => ∃ (x12_3 : Bool) (x13_3 : Int) (x14_3 : Int), v12 = .bool x12_3 ∧ v13 = .int .i64 x13_3 ∧ v14 = .int .i64 x14_3 ∧ Aside0 (Lw_TargetInTime.l0 kq l0 a1 t399 t406 t413 t414 t415 x12_3 x13_3 x14_3 = some r) ∧ Aside0 (kq ≤ kj16) ∧ Aside0 (Kd.R (Kd.int .i64) 3 w' w.heap.size (fun k_ => some k_ ≠ (v408 : Value).ownBlock) v401 t399) ∧ Aside0 (Kd.R (Kd.int .i64) 3 w' w.heap.size (fun k_ => some k_ ≠ (v401 : Value).ownBlock) v408 t406) ∧ Aside0 (Below w.heap.size w w'))
                case atStart => exact ⟨(true), (0), (0), (by first | rfl | (simp; done) | (simp [*]; done)), (by first | rfl | (simp; done) | (simp [*]; done)), (by first | rfl | (simp; done) | (simp [*]; done)), H', ⟨Nat.le_refl _⟩, ⟨br HO_5.out⟩, ⟨br HO_7.out⟩, ⟨bz⟩⟩
                case round =>
                  clear H'
                  obtain ⟨x12_3, x13_3, x14_3, rfl, rfl, rfl, HA, HK3, HO_5, HO_7, HB⟩ := hrel
                  cases gk with
                  | zero => exact absurd HA.out (by simp [Lw_TargetInTime.l0])
                  | succ k3 =>
                    have H := HA.out
                    clear HA
                    simp only [Lw_TargetInTime.l0] at H
                    by_cases c37 : x14_3 < (l0.length : Int)
                    · rw [if_pos c37] at H
                      have c37b0 := decide_eq_true c37
                      clear c37
                      have HC38 := m0 H
                      clear H
                      go_upto_region 15 with (fail)
                      repeat (go_quiet (fail); go_upto_region 15 with (fail))
                      go_cut [12] (fun v12 wc => ∃ (kq : Nat) (x12_37 : Bool), v12 = .bool x12_37 ∧ Aside0 (Lw_TargetInTime.j3 kq l0 a1 t399 t406 t413 t414 t415 x12_37 x13_3 x14_3 = some r) ∧ Aside0 (kq ≤ k3) ∧ Aside0 (Kd.R (Kd.int .i64) 3 wc w.heap.size (fun k_ => some k_ ≠ (v408 : Value).ownBlock) v401 t399) ∧ Aside0 (Kd.R (Kd.int .i64) 3 wc w.heap.size (fun k_ => some k_ ≠ (v401 : Value).ownBlock) v408 t406) ∧ Aside0 (Below w.heap.size w wc))
                      case first =>
                        have H := HC38.out
                        clear HC38
                        by_cases c39 : x12_3 = true
                        · subst c39
                          rw [if_pos rfl] at H
                          by_cases c40 : 0 ≤ x14_3
                          · rw [if_pos c40] at H
                            have c40b0 := decide_eq_true c40
                            clear c40
                            (first | rw [c40b0] | (simp only [i64_w, i32_w]; rw [c40b0]) | skip)
                            by_cases c41 : x14_3 < (t399.length : Int)
                            · rw [if_pos c41] at H
                              have c41b0 := decide_eq_true c41
                              clear c41
                              have H' := m0 H
                              clear H
                              obtain ⟨Ao42, co42, eo42⟩ := Kd.R_slice HO_5.out
                              subst eo42
                              have p417 : 0 ≤ (x14_3 : Int) := od
                              have q417 : x14_3 < (t399.length : Int) := od
                              obtain ⟨ad417, e417, hx417_0⟩ := Kd.at_int (Kd.R_reads' HO_5.out).2.2 x14_3 p417 q417
                              cases e417
                              replace p417 := eq_true p417
                              replace q417 := eq_true q417
                              have p418 : 0 ≤ (x14_3 : Int) := od
                              have q418 : x14_3 < (l0.length : Int) := od
                              obtain ⟨ad418, e418, hx418_0, hx418_1, hx418_2⟩ := at_T42 HR0.out x14_3 p418 q418
                              cases e418
                              replace hx418_0 := (HB.out.cell (World.block_lt_of_cell? w _ hx418_0)).trans hx418_0
                              replace hx418_1 := (HB.out.cell (World.block_lt_of_cell? w _ hx418_1)).trans hx418_1
                              replace hx418_2 := (HB.out.cell (World.block_lt_of_cell? w _ hx418_2)).trans hx418_2
                              replace p418 := eq_true p418
                              replace q418 := eq_true q418
                              go_wp2
                              repeat (go_quiet (fail); try go_wp2)
                              go_meet
                              case rel => exact ⟨_, (decide ((rd t399 x14_3) ≤ ((rd_T42 l0 x14_3).f1))), (by first | rfl | (simp; done) | (simp [*]; done)), H', ⟨by have := HJ4.out; have := HJ16.out; have := HK3.out; first | omega | exact Nat.le_refl _⟩, ⟨br HO_5.out⟩, ⟨br HO_7.out⟩, ⟨bz⟩⟩
                            · rw [if_neg c41] at H
                              exact absurd H (by simp)
                          · rw [if_neg c40] at H
                            exact absurd H (by simp)
                        · replace c39 := Bool.eq_false_iff.mpr c39
                          subst c39
                          rw [if_neg (show ¬ (false = true) by decide)] at H
                          have H' := m0 H
                          clear H
                          go_wp2
                          repeat (go_quiet (fail); try go_wp2)
                          go_meet
                          case rel => exact ⟨_, (false), (by first | rfl | (simp; done) | (simp [*]; done)), H', ⟨by have := HJ4.out; have := HJ16.out; have := HK3.out; first | omega | exact Nat.le_refl _⟩, ⟨br HO_5.out⟩, ⟨br HO_7.out⟩, ⟨bz⟩⟩
                      case rest =>
                        clear HC38
                        try clear hx4
                        try clear hx41
                        try clear hx417_0
                        try clear hx418_0
                        try clear hx418_1
                        try clear hx418_2
                        obtain ⟨kq, x12_37, rfl, HA, HJ37, HO_5, HO_7, HB⟩ := hcut
                        cases kq with
                        | zero => exact absurd HA.out (by simp [Lw_TargetInTime.j3])
                        | succ kj37 =>
                          have H := HA.out
                          clear HA
                          simp only [Lw_TargetInTime.j3] at H
                          have HC43 := m0 H
                          clear H
                          go_upto_region 16 with (fail)
                          repeat (go_quiet (fail); go_upto_region 16 with (fail))
                          go_cut [112] (fun v112 wc => ∃ (kq : Nat) (x112_42 : Bool), v112 = .bool x112_42 ∧ Aside0 (Lw_TargetInTime.j4 kq l0 a1 t399 t406 t413 t414 t415 x12_37 x13_3 x14_3 x112_42 = some r) ∧ Aside0 (kq ≤ kj37) ∧ Aside0 (Kd.R (Kd.int .i64) 3 wc w.heap.size (fun k_ => some k_ ≠ (v408 : Value).ownBlock) v401 t399) ∧ Aside0 (Kd.R (Kd.int .i64) 3 wc w.heap.size (fun k_ => some k_ ≠ (v401 : Value).ownBlock) v408 t406) ∧ Aside0 (Below w.heap.size w wc))
                          case first =>
                            have H := HC43.out
                            clear HC43
                            by_cases c44 : 0 ≤ x14_3
                            · rw [if_pos c44] at H
                              have c44b0 := decide_eq_true c44
                              clear c44
                              (first | rw [c44b0] | (simp only [i64_w, i32_w]; rw [c44b0]) | skip)
                              by_cases c45 : x14_3 < (t406.length : Int)
                              · rw [if_pos c45] at H
                                have c45b0 := decide_eq_true c45
                                clear c45
                                by_cases c46 : x14_3 < (t399.length : Int)
                                · rw [if_pos c46] at H
                                  have c46b0 := decide_eq_true c46
                                  clear c46
                                  by_cases c47 : (rd t406 x14_3) > (rd t399 x14_3)
                                  · rw [if_pos c47] at H
                                    exact absurd H (by simp)
                                  · rw [if_neg c47] at H
                                    have c47b0 := decide_eq_false c47
                                    clear c47
                                    have H' := m0 H
                                    clear H
                                    obtain ⟨Ao48, co48, eo48⟩ := Kd.R_slice HO_7.out
                                    subst eo48
                                    have p419 : 0 ≤ (x14_3 : Int) := od
                                    have q419 : x14_3 < (t406.length : Int) := od
                                    obtain ⟨ad419, e419, hx419_0⟩ := Kd.at_int (Kd.R_reads' HO_7.out).2.2 x14_3 p419 q419
                                    cases e419
                                    replace p419 := eq_true p419
                                    replace q419 := eq_true q419
                                    obtain ⟨Ao49, co49, eo49⟩ := Kd.R_slice HO_5.out
                                    subst eo49
                                    have p420 : 0 ≤ (x14_3 : Int) := od
                                    have q420 : x14_3 < (t399.length : Int) := od
                                    obtain ⟨ad420, e420, hx420_0⟩ := Kd.at_int (Kd.R_reads' HO_5.out).2.2 x14_3 p420 q420
                                    cases e420
                                    replace p420 := eq_true p420
                                    replace q420 := eq_true q420
                                    have p421 : 0 ≤ (x14_3 : Int) := od
                                    have q421 : x14_3 < (t399.length : Int) := od
                                    obtain ⟨ad421, e421, hx421_0⟩ := Kd.at_int (Kd.R_reads' HO_5.out).2.2 x14_3 p421 q421
                                    obtain rfl : ad420 = ad421 := (by injection e421)
                                    replace p421 := eq_true p421
                                    replace q421 := eq_true q421
                                    go_wp2
                                    repeat (go_quiet (fail); try go_wp2)
                                    go_meet
                                    case rel => exact ⟨_, (decide ((rd t399 x14_3) < 0)), (by first | rfl | (simp; done) | (simp [*]; done)), H', ⟨by have := HJ4.out; have := HJ16.out; have := HK3.out; have := HJ37.out; first | omega | exact Nat.le_refl _⟩, ⟨br HO_5.out⟩, ⟨br HO_7.out⟩, ⟨bz⟩⟩
                                · rw [if_neg c46] at H
                                  exact absurd H (by simp)
                              · rw [if_neg c45] at H
                                exact absurd H (by simp)
                            · rw [if_neg c44] at H
                              exact absurd H (by simp)
                          case rest =>
                            clear HC43
                            try clear hx4
                            try clear hx41
                            try clear hx42
                            try clear hx417_0
                            try clear hx418_0
                            try clear hx418_1
                            try clear hx418_2
                            try clear hx419_0
                            try clear hx420_0
                            try clear hx421_0
                            obtain ⟨kq, x112_42, rfl, HA, HJ42, HO_5, HO_7, HB⟩ := hcut
                            cases kq with
                            | zero => exact absurd HA.out (by simp [Lw_TargetInTime.j4])
                            | succ kj42 =>
                              have H := HA.out
                              clear HA
                              simp only [Lw_TargetInTime.j4] at H
                              by_cases c50 : x112_42 = true
                              · subst c50
                                rw [if_pos rfl] at H
                                exact absurd H (by simp)
                              · replace c50 := Bool.eq_false_iff.mpr c50
                                subst c50
                                rw [if_neg (show ¬ (false = true) by decide)] at H
                                by_cases c51 : 0 ≤ x14_3
                                · rw [if_pos c51] at H
                                  have c51b0 := decide_eq_true c51
                                  clear c51
                                  by_cases c52 : x14_3 < (l0.length : Int)
                                  · rw [if_pos c52] at H
                                    have c52b0 := decide_eq_true c52
                                    clear c52
                                    by_cases c53 : ((rd_T42 l0 x14_3).f1) ≤ t413
                                    · rw [if_pos c53] at H
                                      have c53b0 := decide_eq_true c53
                                      clear c53
                                      have H' := m0 H
                                      clear H
                                      have p422 : 0 ≤ (x14_3 : Int) := od
                                      have q422 : x14_3 < (l0.length : Int) := od
                                      obtain ⟨ad422, e422, hx422_0, hx422_1, hx422_2⟩ := at_T42 HR0.out x14_3 p422 q422
                                      cases e422
                                      replace hx422_0 := (HB.out.cell (World.block_lt_of_cell? w _ hx422_0)).trans hx422_0
                                      replace hx422_1 := (HB.out.cell (World.block_lt_of_cell? w _ hx422_1)).trans hx422_1
                                      replace hx422_2 := (HB.out.cell (World.block_lt_of_cell? w _ hx422_2)).trans hx422_2
                                      replace p422 := eq_true p422
                                      replace q422 := eq_true q422
                                      have p423 : 0 ≤ (x14_3 : Int) := od
                                      have q423 : x14_3 < (l0.length : Int) := od
                                      obtain ⟨ad423, e423, hx423_0, hx423_1, hx423_2⟩ := at_T42 HR0.out x14_3 p423 q423
                                      obtain rfl : ad422 = ad423 := (by injection e423)
                                      replace hx423_0 := (HB.out.cell (World.block_lt_of_cell? w _ hx423_0)).trans hx423_0
                                      replace hx423_1 := (HB.out.cell (World.block_lt_of_cell? w _ hx423_1)).trans hx423_1
                                      replace hx423_2 := (HB.out.cell (World.block_lt_of_cell? w _ hx423_2)).trans hx423_2
                                      replace p423 := eq_true p423
                                      replace q423 := eq_true q423
                                      go_wp2
                                      repeat (go_quiet (fail); try go_wp2)
                                      go_roundg kj42
                                      case measure => have := HJ4.out; have := HJ16.out; have := HK3.out; have := HJ37.out; have := HJ42.out; omega
                                      case rel => exact ⟨(x12_37), (wrap64 (x13_3 + ((rd_T42 l0 x14_3).f2))), (wrap64 (x14_3 + 1)), (by first | rfl | (simp; done) | (simp [*]; done)), (by first | rfl | (simp; done) | (simp [*]; done)), (by first | rfl | (simp; done) | (simp [*]; done)), H', ⟨by have := HJ4.out; have := HJ16.out; have := HK3.out; have := HJ37.out; have := HJ42.out; omega⟩, ⟨br HO_5.out⟩, ⟨br HO_7.out⟩, ⟨bz⟩⟩
                                    · rw [if_neg c53] at H
                                      have c53b0 := decide_eq_false c53
                                      clear c53
                                      have H' := m0 H
                                      clear H
                                      have p422 : 0 ≤ (x14_3 : Int) := od
                                      have q422 : x14_3 < (l0.length : Int) := od
                                      obtain ⟨ad422, e422, hx422_0, hx422_1, hx422_2⟩ := at_T42 HR0.out x14_3 p422 q422
                                      cases e422
                                      replace hx422_0 := (HB.out.cell (World.block_lt_of_cell? w _ hx422_0)).trans hx422_0
                                      replace hx422_1 := (HB.out.cell (World.block_lt_of_cell? w _ hx422_1)).trans hx422_1
                                      replace hx422_2 := (HB.out.cell (World.block_lt_of_cell? w _ hx422_2)).trans hx422_2
                                      replace p422 := eq_true p422
                                      replace q422 := eq_true q422
                                      go_wp2
                                      repeat (go_quiet (fail); try go_wp2)
                                      go_roundg kj42
                                      case measure => have := HJ4.out; have := HJ16.out; have := HK3.out; have := HJ37.out; have := HJ42.out; omega
                                      case rel => exact ⟨(x12_37), (x13_3), (wrap64 (x14_3 + 1)), (by first | rfl | (simp; done) | (simp [*]; done)), (by first | rfl | (simp; done) | (simp [*]; done)), (by first | rfl | (simp; done) | (simp [*]; done)), H', ⟨by have := HJ4.out; have := HJ16.out; have := HK3.out; have := HJ37.out; have := HJ42.out; omega⟩, ⟨br HO_5.out⟩, ⟨br HO_7.out⟩, ⟨bz⟩⟩
                                  · rw [if_neg c52] at H
                                    exact absurd H (by simp)
                                · rw [if_neg c51] at H
                                  exact absurd H (by simp)
                    · rw [if_neg c37] at H
                      have c37b0 := decide_eq_false c37
                      clear c37
                      by_cases c54 : (x12_3 != (t415 == 12)) = true
                      · rw [if_pos c54] at H
                        exact absurd H (by simp)
                      · rw [if_neg c54] at H
                        have c54b0 : (x12_3 != (t415 == 12)) = false := by simpa using c54
                        (try (have c54b1 : decide (x12_3 = (t415 == 12)) = true := by simpa using c54))
                        (try (have c54b2 : (x12_3 == (t415 == 12)) = true := by simpa using c54))
                        clear c54
                        by_cases c55 : x12_3 = true
                        · subst c55
                          rw [if_pos rfl] at H
                          obtain rfl := Option.some.inj H
                          go_wp2
                          repeat (go_quiet (fail); try go_wp2)
                          go_ret
                          exact ⟨by first | rfl | (simp [errW_none, errW_some] <;> rfl) | (simp only [← hji13]; first | rfl | (simp [errW_none, errW_some] <;> rfl)) | (simp [*, errW_none, errW_some] <;> rfl), by repeat (first | (with_reducible first | exact HB.out | apply below_alloc | apply pw_below_drewN | apply below_drew1) | exact HB.out)⟩
                        · replace c55 := Bool.eq_false_iff.mpr c55
                          subst c55
                          rw [if_neg (show ¬ (false = true) by decide)] at H
                          replace H := ob H
                          obtain ⟨t416, A56, H⟩ := H
                          (try dsimp only at H)
                          replace A56 := m0 A56
                          by_cases c57 : t416 = true
                          · subst c57
                            rw [if_pos rfl] at H
                            by_cases c58 : t414 > 0
                            · rw [if_pos c58] at H
                              have c58b0 := decide_eq_true c58
                              clear c58
                              obtain rfl := Option.some.inj H
                              go_wp2_with (first | (go_at_call 24; (with_reducible refine (Bs_Within.calls t413 0 1000 true _ A56.out).mono ?_); rintro e w' ⟨rfl, ⟨nd, rfl⟩⟩; (try first | exact ⟨rfl, _, World.drewN_drewN _ _ _⟩ | exact ⟨rfl, _, Eq.trans (World.drewN_drewN _ _ _) (congrArg (World.drewN _) (Nat.add_assoc _ _ _))⟩)))
                              repeat (go_quiet (first | (go_at_call 24; (with_reducible refine (Bs_Within.calls t413 0 1000 true _ A56.out).mono ?_); rintro e w' ⟨rfl, ⟨nd, rfl⟩⟩; (try first | exact ⟨rfl, _, World.drewN_drewN _ _ _⟩ | exact ⟨rfl, _, Eq.trans (World.drewN_drewN _ _ _) (congrArg (World.drewN _) (Nat.add_assoc _ _ _))⟩))); try go_wp2_with (first | (go_at_call 24; (with_reducible refine (Bs_Within.calls t413 0 1000 true _ A56.out).mono ?_); rintro e w' ⟨rfl, ⟨nd, rfl⟩⟩; (try first | exact ⟨rfl, _, World.drewN_drewN _ _ _⟩ | exact ⟨rfl, _, Eq.trans (World.drewN_drewN _ _ _) (congrArg (World.drewN _) (Nat.add_assoc _ _ _))⟩))))
                              go_ret
                              exact ⟨by first | rfl | (simp [errW_none, errW_some] <;> rfl) | (simp only [← hji13]; first | rfl | (simp [errW_none, errW_some] <;> rfl)) | (simp [*, errW_none, errW_some] <;> rfl), by repeat (first | (with_reducible first | exact HB.out | apply below_alloc | apply pw_below_drewN | apply below_drew1) | exact HB.out)⟩
                            · rw [if_neg c58] at H
                              exact absurd H (by simp)
                          · replace c57 := Bool.eq_false_iff.mpr c57
                            subst c57
                            rw [if_neg (show ¬ (false = true) by decide)] at H
                            exact absurd H (by simp)
  · replace c4 := Bool.eq_false_iff.mpr c4
    subst c4
    rw [if_neg (show ¬ (false = true) by decide)] at H
    exact absurd H (by simp)
end Go.Proofs.Ytibhfahbabgbaaa.A
