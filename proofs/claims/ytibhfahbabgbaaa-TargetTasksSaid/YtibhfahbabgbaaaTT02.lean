/- Walks of the program's functions (printed, made shorter), each with what it computes. -/
import Derived.Test.YtibhfahbabgbaaaB05
import Derived.Test.YtibhfahbabgbaaaB06
import Derived.Test.YtibhfahbabgbaaaB07
import Derived.Test.YtibhfahbabgbaaaB08
import Derived.Test.YtibhfahbabgbaaaB16
import Derived.Test.YtibhfahbabgbaaaTT01
import Derived.Test.YtibhfahbabgbaaaB04
namespace Go.Proofs.Ytibhfahbabgbaaa.A
set_option maxHeartbeats 8000000
set_option maxRecDepth 100000
open Go.RowKit Go.Proofs.YtibhfahbabgbaaaW.PrintWords Go.Proofs.YtibhfahbabgbaaaW.PrintLast Go.Proofs.YtibhfahbabgbaaaW.PrintMore
attribute [local go_sem] max2_int min2_int max_two min_two max_three min_three max_four min_four
set_option linter.unusedVariables false
set_option linter.unusedSimpArgs false
def Lw_TargetTasks.j0 : Nat → List (S42) → Int → List Int → Int → Int → Int → Int → Bool → Option (Bool)
  | 0, _, _, _, _, _, _, _, _ => none
  | k + 1, x0, x1, x7, x8, x9, x10, x11, x55 => if x55 = true then (none) else ((Rf_TasksErr.f k x0 x1).bind fun t386 => (if t386 = 0 then (if x8 = 0 then ((Rf_Days.f k x0 x1).bind fun t387 => ((Bs_Ints.f k x7 t387).bind fun t390 => (if t390 = true then ((Rf_Lack.f k x0 x1).bind fun bt391 => (if bt391.2.2 = true then (if x11 = 0 then (if x9 = bt391.1 then (if x10 = bt391.2.1 then (some true) else (none)) else (none)) else (none)) else (if x11 = 12 then (if x9 = 0 then (some (x10 == 0)) else (none)) else (none)))) else (none)))) else (none)) else (if x8 = t386 then (if x11 = t386 then (if (x7.length : Int) = 0 then (if x9 = 0 then (some (x10 == 0)) else (none)) else (none)) else (none)) else (none))))
def Lw_TargetTasks.f (k : Nat) (l0 : List (S42)) (a1 : Int) : Option (Bool) := (Lw_awake.f k).bind fun t365 => (if t365 = true then (if (l0.length : Int) > 12 then (some true) else ((Rf_CopyTasks.f l0).bind fun t366 => ((L_CheckTasks.f k t366).bind fun bt369 => ((Rf_CopyTasks.f l0).bind fun t371 => ((L_DaysOf.f k t371 a1).bind fun bt374 => ((Rf_CopyTasks.f l0).bind fun t378 => ((L_LackOf.f k t378 a1).bind fun bt381 => ((Rf_CheckTasks.f k l0).bind fun bt384 => (if bt369.2 = bt384.2 then (Lw_TargetTasks.j0 k l0 a1 bt374.1 bt374.2 bt381.1 bt381.2.1 bt381.2.2 (bt369.1 != bt384.1)) else (none)))))))))) else (none))
theorem Lw_TargetTasks.mono_l : ∀ k, (∀ y0 y1 y2 y3 y4 y5 y6 y7, LeO (Lw_TargetTasks.j0 k y0 y1 y2 y3 y4 y5 y6 y7) (Lw_TargetTasks.j0 (k + 1) y0 y1 y2 y3 y4 y5 y6 y7))
  | 0 => fun _ _ _ _ _ _ _ _ r h => by simp [Lw_TargetTasks.j0] at h
  | k + 1 => by
    have ih0 := Lw_TargetTasks.mono_l k
    · intro y0 y1 y2 y3 y4 y5 y6 y7
      unfold Lw_TargetTasks.j0
      repeat' with_reducible first
        | exact ih0 ..
        | exact Bs_Ints.mono ..
        | exact Lw_awake.mono ..
        | exact Rf_CheckTasks.mono ..
        | exact Rf_Days.mono ..
        | exact Rf_Lack.mono ..
        | exact Rf_TasksErr.mono ..
        | exact L_CheckTasks.mono ..
        | exact L_DaysOf.mono ..
        | exact L_LackOf.mono ..
        | exact LeO.refl ..
        | exact LeO.none ..
        | refine LeO.ite ?_ ?_
        | refine LeO.bind ?_ (fun _ => ?_)
theorem Lw_TargetTasks.mono : ∀ a0 a1 k, LeO (Lw_TargetTasks.f k a0 a1) (Lw_TargetTasks.f (k + 1) a0 a1) := by
  intro a0 a1 k
  have ih0 := Lw_TargetTasks.mono_l k
  unfold Lw_TargetTasks.f
  repeat' with_reducible first
    | exact ih0 ..
    | exact Bs_Ints.mono ..
    | exact Lw_awake.mono ..
    | exact Rf_CheckTasks.mono ..
    | exact Rf_Days.mono ..
    | exact Rf_Lack.mono ..
    | exact Rf_TasksErr.mono ..
    | exact L_CheckTasks.mono ..
    | exact L_DaysOf.mono ..
    | exact L_LackOf.mono ..
    | exact LeO.refl ..
    | exact LeO.none ..
    | refine LeO.ite ?_ ?_
    | refine LeO.bind ?_ (fun _ => ?_)
theorem Lw_TargetTasks.calls (k : Nat) (A0 : Option Addr) (c0 : Nat) (l0 : List (S42)) (a1 : Int) (r : Bool) (w : World) (hr0 : Kd.C k42 w A0 l0.length l0) (hc0 : l0.length ≤ c0) (h : Lw_TargetTasks.f k l0 a1 = some r) :
    Calls Try.prog 3 #[.slice A0 l0.length c0, .int .i64 a1] w fun e w' => e = .returned (.bool r) ∧ Below w.heap.size w w' := by
  have HR0 := m0 hr0
  have HC0 := m0 hc0
  clear hr0 hc0
  have HB := m0 (Below.refl w.heap.size w)
  have H : ((Lw_awake.f k).bind fun t365 => (if t365 = true then (if (l0.length : Int) > 12 then (some true) else ((Rf_CopyTasks.f l0).bind fun t366 => ((L_CheckTasks.f k t366).bind fun bt369 => ((Rf_CopyTasks.f l0).bind fun t371 => ((L_DaysOf.f k t371 a1).bind fun bt374 => ((Rf_CopyTasks.f l0).bind fun t378 => ((L_LackOf.f k t378 a1).bind fun bt381 => ((Rf_CheckTasks.f k l0).bind fun bt384 => (if bt369.2 = bt384.2 then (Lw_TargetTasks.j0 k l0 a1 bt374.1 bt374.2 bt381.1 bt381.2.1 bt381.2.2 (bt369.1 != bt384.1)) else (none)))))))))) else (none))) = some r := h
  clear h
  replace H := ob H
  obtain ⟨t365, A3, H⟩ := H
  (try dsimp only at H)
  replace A3 := m0 A3
  by_cases c4 : t365 = true
  · subst c4
    rw [if_pos rfl] at H
    by_cases c5 : (l0.length : Int) > 12
    · rw [if_pos c5] at H
      have c5b0 := decide_eq_true c5
      have c5b1 : decide (12 < l0.length) = true := decide_eq_true (by omega)
      clear c5
      obtain rfl := Option.some.inj H
      go_enter Try.func3, Try.ntmps3
      go_wp2_with (first | ((with_reducible refine gate_callee (f := 14) rfl ?_); refine gl (some 17) Try.func14 #[] ?_; (with_reducible refine (Lw_awake.calls k  true _ A3.out).mono ?_); rintro e w6 ⟨rfl, hb⟩; refine ⟨_, rfl, ?_⟩; replace HB := sb HB hb; (try clear hb)))
      go_ret
      exact ez
    · rw [if_neg c5] at H
      have c5b0 := decide_eq_false c5
      have c5b1 : decide (12 < l0.length) = false := decide_eq_false (by omega)
      clear c5
      replace H := ob H
      obtain ⟨t366, A7, H⟩ := H
      (try dsimp only at H)
      replace A7 := m0 A7
      replace H := ob H
      obtain ⟨⟨t369, t370⟩, A8, H⟩ := H
      (try dsimp only at H)
      replace A8 := m0 A8
      replace H := ob H
      obtain ⟨t371, A9, H⟩ := H
      (try dsimp only at H)
      replace A9 := m0 A9
      replace H := ob H
      obtain ⟨⟨t374, t375⟩, A10, H⟩ := H
      (try dsimp only at H)
      replace A10 := m0 A10
      replace H := ob H
      obtain ⟨t378, A11, H⟩ := H
      (try dsimp only at H)
      replace A11 := m0 A11
      replace H := ob H
      obtain ⟨⟨t381, t382, t383⟩, A12, H⟩ := H
      (try dsimp only at H)
      replace A12 := m0 A12
      replace H := ob H
      obtain ⟨⟨t384, t385⟩, A13, H⟩ := H
      (try dsimp only at H)
      replace A13 := m0 A13
      have HC14 := m0 H
      clear H
      go_enter Try.func3, Try.ntmps3
      go_upto_region 9 with (first | ((with_reducible refine gate_callee (f := 14) rfl ?_); refine gl (some 17) Try.func14 #[] ?_; (with_reducible refine (Lw_awake.calls k  true _ A3.out).mono ?_); rintro e w15 ⟨rfl, hb⟩; refine ⟨_, rfl, ?_⟩; replace HB := sb HB hb; (try clear hb)) | ((with_reducible refine gate_callee (f := 16) rfl ?_); refine gl (some 24) Try.func16 #[.slice A0 l0.length c0] ?_; (with_reducible refine (Rf_CopyTasks.calls _ _ l0 t366 _ ?side1 ?side2 A7.out).mono ?_); (case side1 => exact cb HR0 HB); (case side2 => exact HC0.out); rintro e w16 ⟨v367, rfl, ho0, hb⟩; refine ⟨_, rfl, ?_⟩; have HO368 := m0 (Kd.R_lower ho0 (below_size bz)); replace HB := sb HB hb; (try clear hb); (try clear ho0); obtain ⟨Ao17, co17, eo17⟩ := Kd.R_slice HO368.out; subst eo17) | ((with_reducible refine gate_callee (f := 15) rfl ?_); refine gl (some 25) Try.func15 #[.slice Ao17 t366.length co17] ?_; (with_reducible refine (L_CheckTasks.calls k _ _ t366 t369 t370 _ ?side1 ?side2 A8.out).mono ?_); (case side1 => exact bc (Kd.R_reads' HO368.out).2.2); (case side2 => exact (Kd.R_reads' HO368.out).2.1); rintro e w18 ⟨rfl, hb⟩; refine ⟨_, rfl, ?_⟩; replace HO368 := rb HO368 hb; replace HB := sb HB hb; (try clear hb)) | ((with_reducible refine gate_callee (f := 16) rfl ?_); refine gl (some 30) Try.func16 #[.slice A0 l0.length c0] ?_; (with_reducible refine (Rf_CopyTasks.calls _ _ l0 t371 _ ?side1 ?side2 A9.out).mono ?_); (case side1 => exact cb HR0 HB); (case side2 => exact HC0.out); rintro e w19 ⟨v372, rfl, ho0, hb⟩; refine ⟨_, rfl, ?_⟩; have HO373 := m0 (Kd.R_lower (Kd.R_new' ho0 (Kd.R_lt (br HO368.out))) (below_size bz)); replace HO368 := m0 (Kd.R_elder' (br HO368.out) (Kd.R_base ho0) hb); replace HB := sb HB hb; (try clear hb); (try clear ho0); obtain ⟨Ao20, co20, eo20⟩ := Kd.R_slice HO373.out; subst eo20) | ((with_reducible refine gate_callee (f := 17) rfl ?_); refine gl (some 32) Try.func17 #[.slice Ao20 t371.length co20, .int .i64 a1] ?_; (with_reducible refine (L_DaysOf.calls k _ _ t371 a1 t374 t375 _ ?side1 ?side2 A10.out).mono ?_); (case side1 => exact bc (Kd.R_reads' HO373.out).2.2); (case side2 => exact (Kd.R_reads' HO373.out).2.1); rintro e w21 ⟨v376, rfl, ho0, hb⟩; refine ⟨_, rfl, ?_⟩; replace HO368 := rb HO368 hb; replace HO373 := rb HO373 hb; have HO377 := m0 (Kd.R_lower ho0 (below_size bz)); replace HB := sb HB hb; (try clear hb); (try clear ho0)) | ((with_reducible refine gate_callee (f := 16) rfl ?_); refine gl (some 37) Try.func16 #[.slice A0 l0.length c0] ?_; (with_reducible refine (Rf_CopyTasks.calls _ _ l0 t378 _ ?side1 ?side2 A11.out).mono ?_); (case side1 => exact cb HR0 HB); (case side2 => exact HC0.out); rintro e w22 ⟨v379, rfl, ho0, hb⟩; refine ⟨_, rfl, ?_⟩; replace HO377 := rb HO377 hb; have HO380 := m0 (Kd.R_lower (Kd.R_new' (Kd.R_new' ho0 (Kd.R_lt (br HO368.out))) (Kd.R_lt (br HO373.out))) (below_size bz)); replace HO368 := m0 (Kd.R_elder' (br HO368.out) (Kd.R_base ho0) hb); replace HO373 := m0 (Kd.R_elder' (br HO373.out) (Kd.R_base ho0) hb); replace HB := sb HB hb; (try clear hb); (try clear ho0); obtain ⟨Ao23, co23, eo23⟩ := Kd.R_slice HO380.out; subst eo23) | ((with_reducible refine gate_callee (f := 18) rfl ?_); refine gl (some 39) Try.func18 #[.slice Ao23 t378.length co23, .int .i64 a1] ?_; (with_reducible refine (L_LackOf.calls k _ _ t378 a1 t381 t382 t383 _ ?side1 ?side2 A12.out).mono ?_); (case side1 => exact bc (Kd.R_reads' HO380.out).2.2); (case side2 => exact (Kd.R_reads' HO380.out).2.1); rintro e w24 ⟨rfl, hb⟩; refine ⟨_, rfl, ?_⟩; replace HO368 := rb HO368 hb; replace HO373 := rb HO373 hb; replace HO377 := rb HO377 hb; replace HO380 := rb HO380 hb; replace HB := sb HB hb; (try clear hb)) | ((with_reducible refine gate_callee (f := 19) rfl ?_); refine gl (some 45) Try.func19 #[.slice A0 l0.length c0] ?_; (with_reducible refine (Rf_CheckTasks.calls k _ _ l0 t384 t385 _ ?side1 ?side2 A13.out).mono ?_); (case side1 => exact cb HR0 HB); (case side2 => exact HC0.out); rintro e w' ⟨rfl, ⟨nd, rfl⟩⟩; refine ⟨_, rfl, ?_⟩))
      (try simp only [Act.put, List.setIfInBounds_toArray, List.set_cons_zero, List.set_cons_succ])
      go_cut [55] (fun v55 wc => ∃ (kq : Nat) (x55_13 : Bool), v55 = .bool x55_13 ∧ Aside0 (Lw_TargetTasks.j0 kq l0 a1 t374 t375 t381 t382 t383 x55_13 = some r) ∧ Aside0 (kq ≤ k) ∧ Aside0 (Kd.R (Kd.int .i64) 3 wc w.heap.size (fun _ => True) v376 t374) ∧ Aside0 (Below w.heap.size w wc))
      case first =>
        have H := HC14.out
        clear HC14
        by_cases c25 : t370 = t385
        · rw [if_pos c25] at H
          have c25b0 := beq_iff_eq.mpr c25
          have c25b1 := bne_eq_false_iff_eq.mpr c25
          clear c25
          (first | rw [c25b0] | (simp only [i64_w, i32_w]; rw [c25b0]) | skip)
          have H' := m0 H
          clear H
          go_wp2
          go_meet
          case rel => exact ⟨_, ((t369 != t384)), (by first | rfl | (simp; done) | (simp [*]; done)), H', ⟨by first | omega | exact Nat.le_refl _⟩, ⟨br HO377.out⟩, ⟨bz⟩⟩
        · rw [if_neg c25] at H
          exact absurd H (by simp)
      case rest =>
        clear HC14
        obtain ⟨kq, x55_13, rfl, HA, HJ13, HO_7, HB⟩ := hcut
        cases kq with
        | zero => exact absurd HA.out (by simp [Lw_TargetTasks.j0])
        | succ kj13 =>
          have H := HA.out
          clear HA
          simp only [Lw_TargetTasks.j0] at H
          by_cases c26 : x55_13 = true
          · subst c26
            rw [if_pos rfl] at H
            exact absurd H (by simp)
          · replace c26 := Bool.eq_false_iff.mpr c26
            subst c26
            rw [if_neg (show ¬ (false = true) by decide)] at H
            replace H := ob H
            obtain ⟨t386, A27, H⟩ := H
            (try dsimp only at H)
            replace A27 := m0 A27
            by_cases c28 : t386 = 0
            · rw [if_pos c28] at H
              have c28b0 := beq_iff_eq.mpr c28
              have c28b1 := bne_eq_false_iff_eq.mpr c28
              clear c28
              by_cases c29 : t375 = 0
              · rw [if_pos c29] at H
                have c29b0 := beq_iff_eq.mpr c29
                have c29b1 := bne_eq_false_iff_eq.mpr c29
                clear c29
                replace H := ob H
                obtain ⟨t387, A30, H⟩ := H
                (try dsimp only at H)
                replace A30 := m0 A30
                replace H := ob H
                obtain ⟨t390, A31, H⟩ := H
                (try dsimp only at H)
                replace A31 := m0 A31
                by_cases c32 : t390 = true
                · subst c32
                  rw [if_pos rfl] at H
                  replace H := ob H
                  obtain ⟨⟨t391, t392, t393⟩, A33, H⟩ := H
                  (try dsimp only at H)
                  replace A33 := m0 A33
                  by_cases c34 : t393 = true
                  · subst c34
                    rw [if_pos rfl] at H
                    by_cases c35 : t383 = 0
                    · rw [if_pos c35] at H
                      have c35b0 := beq_iff_eq.mpr c35
                      have c35b1 := bne_eq_false_iff_eq.mpr c35
                      clear c35
                      by_cases c36 : t381 = t391
                      · rw [if_pos c36] at H
                        have c36b0 := beq_iff_eq.mpr c36
                        have c36b1 := bne_eq_false_iff_eq.mpr c36
                        clear c36
                        by_cases c37 : t382 = t392
                        · rw [if_pos c37] at H
                          have c37b0 := beq_iff_eq.mpr c37
                          have c37b1 := bne_eq_false_iff_eq.mpr c37
                          clear c37
                          obtain rfl := Option.some.inj H
                          go_wp2_with (first | ((with_reducible refine gate_callee (f := 20) rfl ?_); refine gl (some 58) Try.func20 #[.slice A0 l0.length c0, .int .i64 a1] ?_; (with_reducible refine (Rf_TasksErr.calls kj13 _ _ l0 a1 t386 _ ?side1 ?side2 A27.out).mono ?_); (case side1 => exact cb HR0 HB); (case side2 => exact HC0.out); rintro e w' ⟨rfl, ⟨nd, rfl⟩⟩; refine ⟨_, rfl, ?_⟩) | (go_at_call 22; (with_reducible refine (Rf_Days.calls kj13 _ _ l0 a1 t387 _ ?side1 ?side2 A30.out).mono ?_); (case side1 => repeat (first | exact (Kd.C_below HR0.out bz) | (with_reducible refine Kd.C_alloc ?_ _) | (with_reducible refine Kd.C_drewN ?_ _) | (with_reducible refine Kd.C_drew ?_))); (case side2 => exact HC0.out); rintro e w38 ⟨v388, rfl, ho0, hb⟩; have HO389 := m0 (Kd.R_lower (Kd.R_new' ho0 (Kd.R_lt (br HO_7.out))) (below_size bz)); replace HO_7 := m0 (Kd.R_elder' (br HO_7.out) (Kd.R_base ho0) hb); replace HB := sb HB hb; (try clear hb); (try clear ho0); obtain ⟨Ao39, co39, eo39⟩ := Kd.R_slice HO_7.out; subst eo39; obtain ⟨Ao40, co40, eo40⟩ := Kd.R_slice HO389.out; subst eo40) | (go_at_call 21; (with_reducible refine (Bs_Ints.calls kj13 _ _ t374 _ _ t387 true _ ?side1 ?side2 ?side3 ?side4 A31.out).mono ?_); (case side1 => exact bc (Kd.R_reads' HO_7.out).2.2); (case side2 => exact (Kd.R_reads' HO_7.out).2.1); (case side3 => exact bc (Kd.R_reads' HO389.out).2.2); (case side4 => exact (Kd.R_reads' HO389.out).2.1); rintro e w' ⟨rfl, ⟨nd, rfl⟩⟩) | ((with_reducible refine gate_callee (f := 23) rfl ?_); refine gl (some 95) Try.func23 #[.slice A0 l0.length c0, .int .i64 a1] ?_; (with_reducible refine (Rf_Lack.calls kj13 _ _ l0 a1 t391 t392 true _ ?side1 ?side2 A33.out).mono ?_); (case side1 => repeat (first | exact (Kd.C_below HR0.out bz) | (with_reducible refine Kd.C_alloc ?_ _) | (with_reducible refine Kd.C_drewN ?_ _) | (with_reducible refine Kd.C_drew ?_))); (case side2 => exact HC0.out); rintro e w' ⟨rfl, ⟨nd, rfl⟩⟩; refine ⟨_, rfl, ?_⟩))
                          go_ret
                          exact ez
                        · rw [if_neg c37] at H
                          exact absurd H (by simp)
                      · rw [if_neg c36] at H
                        exact absurd H (by simp)
                    · rw [if_neg c35] at H
                      exact absurd H (by simp)
                  · replace c34 := Bool.eq_false_iff.mpr c34
                    subst c34
                    rw [if_neg (show ¬ (false = true) by decide)] at H
                    by_cases c41 : t383 = 12
                    · rw [if_pos c41] at H
                      have c41b0 := beq_iff_eq.mpr c41
                      have c41b1 := bne_eq_false_iff_eq.mpr c41
                      clear c41
                      by_cases c42 : t381 = 0
                      · rw [if_pos c42] at H
                        have c42b0 := beq_iff_eq.mpr c42
                        have c42b1 := bne_eq_false_iff_eq.mpr c42
                        clear c42
                        obtain rfl := Option.some.inj H
                        go_wp2_with (first | ((with_reducible refine gate_callee (f := 20) rfl ?_); refine gl (some 58) Try.func20 #[.slice A0 l0.length c0, .int .i64 a1] ?_; (with_reducible refine (Rf_TasksErr.calls kj13 _ _ l0 a1 t386 _ ?side1 ?side2 A27.out).mono ?_); (case side1 => exact cb HR0 HB); (case side2 => exact HC0.out); rintro e w' ⟨rfl, ⟨nd, rfl⟩⟩; refine ⟨_, rfl, ?_⟩) | (go_at_call 22; (with_reducible refine (Rf_Days.calls kj13 _ _ l0 a1 t387 _ ?side1 ?side2 A30.out).mono ?_); (case side1 => repeat (first | exact (Kd.C_below HR0.out bz) | (with_reducible refine Kd.C_alloc ?_ _) | (with_reducible refine Kd.C_drewN ?_ _) | (with_reducible refine Kd.C_drew ?_))); (case side2 => exact HC0.out); rintro e w43 ⟨v388, rfl, ho0, hb⟩; have HO389 := m0 (Kd.R_lower (Kd.R_new' ho0 (Kd.R_lt (br HO_7.out))) (below_size bz)); replace HO_7 := m0 (Kd.R_elder' (br HO_7.out) (Kd.R_base ho0) hb); replace HB := sb HB hb; (try clear hb); (try clear ho0); obtain ⟨Ao44, co44, eo44⟩ := Kd.R_slice HO_7.out; subst eo44; obtain ⟨Ao45, co45, eo45⟩ := Kd.R_slice HO389.out; subst eo45) | (go_at_call 21; (with_reducible refine (Bs_Ints.calls kj13 _ _ t374 _ _ t387 true _ ?side1 ?side2 ?side3 ?side4 A31.out).mono ?_); (case side1 => exact bc (Kd.R_reads' HO_7.out).2.2); (case side2 => exact (Kd.R_reads' HO_7.out).2.1); (case side3 => exact bc (Kd.R_reads' HO389.out).2.2); (case side4 => exact (Kd.R_reads' HO389.out).2.1); rintro e w' ⟨rfl, ⟨nd, rfl⟩⟩) | ((with_reducible refine gate_callee (f := 23) rfl ?_); refine gl (some 95) Try.func23 #[.slice A0 l0.length c0, .int .i64 a1] ?_; (with_reducible refine (Rf_Lack.calls kj13 _ _ l0 a1 t391 t392 false _ ?side1 ?side2 A33.out).mono ?_); (case side1 => repeat (first | exact (Kd.C_below HR0.out bz) | (with_reducible refine Kd.C_alloc ?_ _) | (with_reducible refine Kd.C_drewN ?_ _) | (with_reducible refine Kd.C_drew ?_))); (case side2 => exact HC0.out); rintro e w' ⟨rfl, ⟨nd, rfl⟩⟩; refine ⟨_, rfl, ?_⟩))
                        go_ret
                        exact ez
                      · rw [if_neg c42] at H
                        exact absurd H (by simp)
                    · rw [if_neg c41] at H
                      exact absurd H (by simp)
                · replace c32 := Bool.eq_false_iff.mpr c32
                  subst c32
                  rw [if_neg (show ¬ (false = true) by decide)] at H
                  exact absurd H (by simp)
              · rw [if_neg c29] at H
                exact absurd H (by simp)
            · rw [if_neg c28] at H
              have c28b0 := beq_eq_false_iff_ne.mpr c28
              have c28b1 := bne_iff_ne.mpr c28
              by_cases c46 : t375 = t386
              · rw [if_pos c46] at H
                have c46b0 := beq_iff_eq.mpr c46
                have c46b1 := bne_eq_false_iff_eq.mpr c46
                clear c46
                by_cases c47 : t383 = t386
                · rw [if_pos c47] at H
                  have c47b0 := beq_iff_eq.mpr c47
                  have c47b1 := bne_eq_false_iff_eq.mpr c47
                  clear c47
                  by_cases c48 : (t374.length : Int) = 0
                  · rw [if_pos c48] at H
                    have c48b0 := beq_iff_eq.mpr c48
                    have c48b1 := bne_eq_false_iff_eq.mpr c48
                    clear c48
                    by_cases c49 : t381 = 0
                    · rw [if_pos c49] at H
                      have c49b0 := beq_iff_eq.mpr c49
                      have c49b1 := bne_eq_false_iff_eq.mpr c49
                      clear c49
                      obtain rfl := Option.some.inj H
                      go_wp2_with (first | ((with_reducible refine gate_callee (f := 20) rfl ?_); refine gl (some 58) Try.func20 #[.slice A0 l0.length c0, .int .i64 a1] ?_; (with_reducible refine (Rf_TasksErr.calls kj13 _ _ l0 a1 t386 _ ?side1 ?side2 A27.out).mono ?_); (case side1 => exact cb HR0 HB); (case side2 => exact HC0.out); rintro e w' ⟨rfl, ⟨nd, rfl⟩⟩; refine ⟨_, rfl, ?_⟩; obtain ⟨Ao50, co50, eo50⟩ := Kd.R_slice HO_7.out; subst eo50))
                      go_ret
                      exact ez
                    · rw [if_neg c49] at H
                      exact absurd H (by simp)
                  · rw [if_neg c48] at H
                    exact absurd H (by simp)
                · rw [if_neg c47] at H
                  exact absurd H (by simp)
              · rw [if_neg c46] at H
                exact absurd H (by simp)
  · replace c4 := Bool.eq_false_iff.mpr c4
    subst c4
    rw [if_neg (show ¬ (false = true) by decide)] at H
    exact absurd H (by simp)
end Go.Proofs.Ytibhfahbabgbaaa.A
