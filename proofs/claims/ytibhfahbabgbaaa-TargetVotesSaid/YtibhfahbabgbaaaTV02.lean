/- Walks of the program's functions (printed, made shorter), each with what it computes. -/
import Derived.Test.YtibhfahbabgbaaaB05
import Derived.Test.YtibhfahbabgbaaaB12
import Derived.Test.YtibhfahbabgbaaaB16
import Derived.Test.YtibhfahbabgbaaaTV01
import Derived.Test.YtibhfahbabgbaaaB04
namespace Go.Proofs.Ytibhfahbabgbaaa.A
set_option maxHeartbeats 8000000
set_option maxRecDepth 100000
open Go.RowKit Go.Proofs.YtibhfahbabgbaaaW.PrintWords Go.Proofs.YtibhfahbabgbaaaW.PrintLast Go.Proofs.YtibhfahbabgbaaaW.PrintMore
attribute [local go_sem] max2_int min2_int max_two min_two max_three min_three max_four min_four
set_option linter.unusedVariables false
set_option linter.unusedSimpArgs false
section
attribute [local go_sem high] eqA58
mutual
def Lw_TargetVotes.j0 : Nat → List (S85) → Int → Bool → Option (Bool)
  | 0, _, _, _ => none
  | k + 1, x0, x1, x30 => if x30 = true then (some true) else ((Rf_CopyReadings.f x0).bind fun t1424 => ((L_VotedIn.f k t1424).bind fun bt1427 => ((Rf_CopyReadings.f x0).bind fun t1432 => ((L_BadOf.f k t1432).bind fun bt1435 => (if bt1427.2.2.2 = 0 then (if bt1435.2 = 0 then (if bt1427.1 > bt1427.2.1 then (none) else ((Bs_Within.f bt1427.1 (-5000) 5000).bind fun t1439 => (if t1439 = true then ((Bs_Within.f bt1427.2.1 (-5000) 5000).bind fun t1440 => (if t1440 = true then (Lw_TargetVotes.j1 k x0 x1 bt1427.2.2.1 bt1435.1 ((wrap64 ((bt1435.1.length : Int) + bt1427.2.2.1)) != (x0.length : Int)) bt1427.1 bt1427.2.1) else (none))) else (none)))) else (none)) else (none))))))
def Lw_TargetVotes.j1 : Nat → List (S85) → Int → Int → List Int → Bool → Int → Int → Option (Bool)
  | 0, _, _, _, _, _, _, _ => none
  | k + 1, x0, x1, x6, x8, x77, x1432000, x1432001 => if x77 = true then (none) else (Lw_TargetVotes.l0 k x0 x1 x6 x8 0 0 0 0 x1432000 x1432001)
def Lw_TargetVotes.l0 : Nat → List (S85) → Int → Int → List Int → Int → Int → Int → Int → Int → Int → Option (Bool)
  | 0, _, _, _, _, _, _, _, _, _, _ => none
  | k + 1, x0, x1, x6, x8, x10, x11, x12, x13, x1432000, x1432001 => if x13 < (x0.length : Int) then (if 0 ≤ x13 then ((Lw_fits.f ((rd_T85 x0 x13).f0) ((rd_T85 x0 x13).f1) ((rd_T85 x0 x13).f2) x1432000).bind fun t1442 => ((Lw_fits.f ((rd_T85 x0 x13).f0) ((rd_T85 x0 x13).f1) ((rd_T85 x0 x13).f2) x1432001).bind fun t1444 => ((Lw_fits.f ((rd_T85 x0 x13).f0) ((rd_T85 x0 x13).f1) ((rd_T85 x0 x13).f2) x1).bind fun t1446 => (Lw_TargetVotes.l0 k x0 x1 x6 x8 (wrap64 (x10 + t1442)) (wrap64 (x11 + t1444)) (wrap64 (x12 + t1446)) (wrap64 (x13 + 1)) x1432000 x1432001)))) else (none)) else (if x10 = x6 then (if x11 = x6 then (if x12 > x6 then (none) else (if x12 = x6 then (Lw_TargetVotes.j3 k x0 x1 x6 x8 x12 (decide (x1 < x1432000)) x1432000 x1432001) else (Lw_TargetVotes.j3 k x0 x1 x6 x8 x12 false x1432000 x1432001))) else (none)) else (none))
def Lw_TargetVotes.j3 : Nat → List (S85) → Int → Int → List Int → Int → Bool → Int → Int → Option (Bool)
  | 0, _, _, _, _, _, _, _, _ => none
  | k + 1, x0, x1, x6, x8, x12, x133, x1432000, x1432001 => if x133 = true then (none) else ((Rf_CopyReadings.f x0).bind fun t1447 => ((L_OffsetIn.f k t1447).bind fun bt1450 => (if x12 = (x0.length : Int) then (if bt1450.2.2 = 0 then (if bt1450.1 ≤ x1 then (if x1 ≤ bt1450.2.1 then (if (bt1450.1 == x1432000 && (bt1450.2.1 == x1432001)) = true then (some ((x8.length : Int) == 0)) else (none)) else (none)) else (none)) else (none)) else (some ((bt1450.2.2 == 0) == (x6 == (x0.length : Int)))))))
end
def Lw_TargetVotes.f (k : Nat) (l0 : List (S85)) (a1 : Int) : Option (Bool) := (Lw_awake.f k).bind fun t1420 => (if t1420 = true then ((Lw_few.f l0).bind fun t1421 => (if t1421 = true then ((Rf_ReadingsErr.f k l0).bind fun t1422 => (if t1422 = 0 then ((Bs_Within.f a1 (-5000) 5000).bind fun t1423 => (Lw_TargetVotes.j0 k l0 a1 (!t1423))) else (Lw_TargetVotes.j0 k l0 a1 true))) else (Lw_TargetVotes.j0 k l0 a1 true))) else (none))
theorem Lw_TargetVotes.mono_l : ∀ k, (∀ y0 y1 y2, LeO (Lw_TargetVotes.j0 k y0 y1 y2) (Lw_TargetVotes.j0 (k + 1) y0 y1 y2)) ∧ (∀ y0 y1 y2 y3 y4 y5 y6, LeO (Lw_TargetVotes.j1 k y0 y1 y2 y3 y4 y5 y6) (Lw_TargetVotes.j1 (k + 1) y0 y1 y2 y3 y4 y5 y6)) ∧ (∀ y0 y1 y2 y3 y4 y5 y6 y7 y8 y9, LeO (Lw_TargetVotes.l0 k y0 y1 y2 y3 y4 y5 y6 y7 y8 y9) (Lw_TargetVotes.l0 (k + 1) y0 y1 y2 y3 y4 y5 y6 y7 y8 y9)) ∧ (∀ y0 y1 y2 y3 y4 y5 y6 y7, LeO (Lw_TargetVotes.j3 k y0 y1 y2 y3 y4 y5 y6 y7) (Lw_TargetVotes.j3 (k + 1) y0 y1 y2 y3 y4 y5 y6 y7))
  | 0 => ⟨fun _ _ _ r h => by simp [Lw_TargetVotes.j0] at h, fun _ _ _ _ _ _ _ r h => by simp [Lw_TargetVotes.j1] at h, fun _ _ _ _ _ _ _ _ _ _ r h => by simp [Lw_TargetVotes.l0] at h, fun _ _ _ _ _ _ _ _ r h => by simp [Lw_TargetVotes.j3] at h⟩
  | k + 1 => by
    obtain ⟨ih0, ih1, ih2, ih3⟩ := Lw_TargetVotes.mono_l k
    refine ⟨?_, ?_, ?_, ?_⟩
    · intro y0 y1 y2
      unfold Lw_TargetVotes.j0
      repeat' with_reducible first
        | exact ih0 ..
        | exact ih1 ..
        | exact ih2 ..
        | exact ih3 ..
        | exact Lw_awake.mono ..
        | exact Rf_ReadingsErr.mono ..
        | exact L_BadOf.mono ..
        | exact L_OffsetIn.mono ..
        | exact L_VotedIn.mono ..
        | exact LeO.refl ..
        | exact LeO.none ..
        | refine LeO.ite ?_ ?_
        | refine LeO.bind ?_ (fun _ => ?_)
    · intro y0 y1 y2 y3 y4 y5 y6
      unfold Lw_TargetVotes.j1
      repeat' with_reducible first
        | exact ih0 ..
        | exact ih1 ..
        | exact ih2 ..
        | exact ih3 ..
        | exact Lw_awake.mono ..
        | exact Rf_ReadingsErr.mono ..
        | exact L_BadOf.mono ..
        | exact L_OffsetIn.mono ..
        | exact L_VotedIn.mono ..
        | exact LeO.refl ..
        | exact LeO.none ..
        | refine LeO.ite ?_ ?_
        | refine LeO.bind ?_ (fun _ => ?_)
    · intro y0 y1 y2 y3 y4 y5 y6 y7 y8 y9
      unfold Lw_TargetVotes.l0
      repeat' with_reducible first
        | exact ih0 ..
        | exact ih1 ..
        | exact ih2 ..
        | exact ih3 ..
        | exact Lw_awake.mono ..
        | exact Rf_ReadingsErr.mono ..
        | exact L_BadOf.mono ..
        | exact L_OffsetIn.mono ..
        | exact L_VotedIn.mono ..
        | exact LeO.refl ..
        | exact LeO.none ..
        | refine LeO.ite ?_ ?_
        | refine LeO.bind ?_ (fun _ => ?_)
    · intro y0 y1 y2 y3 y4 y5 y6 y7
      unfold Lw_TargetVotes.j3
      repeat' with_reducible first
        | exact ih0 ..
        | exact ih1 ..
        | exact ih2 ..
        | exact ih3 ..
        | exact Lw_awake.mono ..
        | exact Rf_ReadingsErr.mono ..
        | exact L_BadOf.mono ..
        | exact L_OffsetIn.mono ..
        | exact L_VotedIn.mono ..
        | exact LeO.refl ..
        | exact LeO.none ..
        | refine LeO.ite ?_ ?_
        | refine LeO.bind ?_ (fun _ => ?_)
theorem Lw_TargetVotes.mono : ∀ a0 a1 k, LeO (Lw_TargetVotes.f k a0 a1) (Lw_TargetVotes.f (k + 1) a0 a1) := by
  intro a0 a1 k
  obtain ⟨ih0, ih1, ih2, ih3⟩ := Lw_TargetVotes.mono_l k
  unfold Lw_TargetVotes.f
  repeat' with_reducible first
    | exact ih0 ..
    | exact ih1 ..
    | exact ih2 ..
    | exact ih3 ..
    | exact Lw_awake.mono ..
    | exact Rf_ReadingsErr.mono ..
    | exact L_BadOf.mono ..
    | exact L_OffsetIn.mono ..
    | exact L_VotedIn.mono ..
    | exact LeO.refl ..
    | exact LeO.none ..
    | refine LeO.ite ?_ ?_
    | refine LeO.bind ?_ (fun _ => ?_)
def Lw_TargetVotes.T13 : Bool × List (List Nat × List Nat) := (true, [([], []), ([], []), ([], []), ([1, 2], [1, 2]), ([3], [3]), ([], []), ([5], [5]), ([4, 6], [4, 6]), ([0, 7], [0, 7]), ([], []), ([], []), ([], []), ([10, 11], [10, 11]), ([12], [12]), ([], []), ([14], [14]), ([13, 15, 7], [13, 15]), ([9, 16], [9, 16]), ([], []), ([], []), ([], []), ([19, 20], [19, 20]), ([21], [21]), ([], []), ([22, 23, 16], [22, 23]), ([18, 24], [18, 24]), ([8, 24, 0, 1, 2, 3, 4, 5, 6, 7, 8], [0, 8]), ([17, 26, 0, 1, 2, 3, 4, 5, 6, 7, 8, 9, 10, 11, 12, 13, 14, 15, 16, 17, 26], [9, 17]), ([25, 27, 0, 1, 2, 3, 4, 5, 6, 7, 8, 9, 10, 11, 12, 13, 14, 15, 16, 17, 18, 19, 20, 21, 22, 23, 24, 25, 26, 27], [18, 25])])
def Lw_TargetVotes.B13 : List Nat := [0, 0, 0, 6, 14, 0, 32, 126, 255, 0, 0, 0, 3072, 7168, 0, 16384, 64766, 130814, 0, 0, 0, 1572864, 3670016, 0, 16383230, 33422590, 33160703, 100401151, 268435455]
theorem Lw_TargetVotes.tab13 : rtab .any (opsOf Try.f11 13) = Lw_TargetVotes.T13 := by kernel_rfl
theorem Lw_TargetVotes.bits13 : waitsOk Lw_TargetVotes.T13.2 Lw_TargetVotes.B13 = true := by kernel_rfl
theorem Lw_TargetVotes.calls (k : Nat) (A0 : Option Addr) (c0 : Nat) (l0 : List (S85)) (a1 : Int) (r : Bool) (w : World) (hr0 : Kd.C k85 w A0 l0.length l0) (hc0 : l0.length ≤ c0) (h : Lw_TargetVotes.f k l0 a1 = some r) :
    Calls Try.prog 11 #[.slice A0 l0.length c0, .int .i64 a1] w fun e w' => e = .returned (.bool r) ∧ Below w.heap.size w w' := by
  have hu58 := Try.underlying58
  have hu85 := Try.underlying85
  have HR0 := m0 hr0
  have HC0 := m0 hc0
  clear hr0 hc0
  have HB := m0 (Below.refl w.heap.size w)
  have H : ((Lw_awake.f k).bind fun t1420 => (if t1420 = true then ((Lw_few.f l0).bind fun t1421 => (if t1421 = true then ((Rf_ReadingsErr.f k l0).bind fun t1422 => (if t1422 = 0 then ((Bs_Within.f a1 (-5000) 5000).bind fun t1423 => (Lw_TargetVotes.j0 k l0 a1 (!t1423))) else (Lw_TargetVotes.j0 k l0 a1 true))) else (Lw_TargetVotes.j0 k l0 a1 true))) else (none))) = some r := h
  clear h
  replace H := ob H
  obtain ⟨t1420, A3, H⟩ := H
  (try dsimp only at H)
  replace A3 := m0 A3
  by_cases c4 : t1420 = true
  · subst c4
    rw [if_pos rfl] at H
    have HC5 := m0 H
    clear H
    go_enter Try.func11, Try.ntmps11
    go_upto_region 3 with (first | ((with_reducible refine gate_callee (f := 14) rfl ?_); refine gl (some 16) Try.func14 #[] ?_; (with_reducible refine (Lw_awake.calls k  true _ A3.out).mono ?_); rintro e w6 ⟨rfl, hb⟩; refine ⟨_, rfl, ?_⟩; replace HB := sb HB hb; (try clear hb)))
    (try simp only [Act.put, List.setIfInBounds_toArray, List.set_cons_zero, List.set_cons_succ])
    go_cut [30] (fun v30 wc => ∃ (kq : Nat) (x30_4 : Bool), v30 = .bool x30_4 ∧ Aside0 (Lw_TargetVotes.j0 kq l0 a1 x30_4 = some r) ∧ Aside0 (kq ≤ k) ∧ Aside0 (Below w.heap.size w wc))
    case first =>
      have H := HC5.out
      clear HC5
      replace H := ob H
      obtain ⟨t1421, A7, H⟩ := H
      (try dsimp only at H)
      replace A7 := m0 A7
      by_cases c8 : t1421 = true
      · subst c8
        rw [if_pos rfl] at H
        replace H := ob H
        obtain ⟨t1422, A9, H⟩ := H
        (try dsimp only at H)
        replace A9 := m0 A9
        by_cases c10 : t1422 = 0
        · rw [if_pos c10] at H
          have c10b0 := beq_iff_eq.mpr c10
          have c10b1 := bne_eq_false_iff_eq.mpr c10
          clear c10
          (first | rw [c10b0] | (simp only [i64_w, i32_w]; rw [c10b0]) | skip)
          replace H := ob H
          obtain ⟨t1423, A11, H⟩ := H
          (try dsimp only at H)
          replace A11 := m0 A11
          have H' := m0 H
          clear H
          go_wp2_with (first | ((with_reducible refine gate_callee (f := 36) rfl ?_); refine gl (some 19) Try.func36 #[.slice A0 l0.length c0] ?_; (with_reducible refine (Lw_few.calls _ _ l0 true _ ?side1 ?side2 A7.out).mono ?_); (case side1 => exact cb HR0 HB); (case side2 => exact HC0.out); rintro e w' ⟨rfl, ⟨nd, rfl⟩⟩; refine ⟨_, rfl, ?_⟩) | (go_at_call 41; (with_reducible refine (Rf_ReadingsErr.calls k _ _ l0 t1422 _ ?side1 ?side2 A9.out).mono ?_); (case side1 => repeat (first | exact (Kd.C_below HR0.out bz) | (with_reducible refine Kd.C_alloc ?_ _) | (with_reducible refine Kd.C_drewN ?_ _) | (with_reducible refine Kd.C_drew ?_))); (case side2 => exact HC0.out); rintro e w' ⟨rfl, ⟨nd, rfl⟩⟩) | (go_at_call 24; (with_reducible refine (Bs_Within.calls a1 (-5000) 5000 t1423 _ A11.out).mono ?_); rintro e w' ⟨rfl, ⟨nd, rfl⟩⟩))
          go_meet
          case rel => exact ⟨_, (!t1423), (by first | rfl | (simp; done) | (simp [*]; done)), H', ⟨by first | omega | exact Nat.le_refl _⟩, ⟨bz⟩⟩
        · rw [if_neg c10] at H
          have c10b0 := beq_eq_false_iff_ne.mpr c10
          have c10b1 := bne_iff_ne.mpr c10
          (first | rw [c10b0] | (simp only [i64_w, i32_w]; rw [c10b0]) | skip)
          have H' := m0 H
          clear H
          go_wp2_with (first | ((with_reducible refine gate_callee (f := 36) rfl ?_); refine gl (some 19) Try.func36 #[.slice A0 l0.length c0] ?_; (with_reducible refine (Lw_few.calls _ _ l0 true _ ?side1 ?side2 A7.out).mono ?_); (case side1 => exact cb HR0 HB); (case side2 => exact HC0.out); rintro e w' ⟨rfl, ⟨nd, rfl⟩⟩; refine ⟨_, rfl, ?_⟩) | (go_at_call 41; (with_reducible refine (Rf_ReadingsErr.calls k _ _ l0 t1422 _ ?side1 ?side2 A9.out).mono ?_); (case side1 => repeat (first | exact (Kd.C_below HR0.out bz) | (with_reducible refine Kd.C_alloc ?_ _) | (with_reducible refine Kd.C_drewN ?_ _) | (with_reducible refine Kd.C_drew ?_))); (case side2 => exact HC0.out); rintro e w' ⟨rfl, ⟨nd, rfl⟩⟩))
          go_meet
          case rel => exact ⟨_, (true), (by first | rfl | (simp; done) | (simp [*]; done)), H', ⟨by first | omega | exact Nat.le_refl _⟩, ⟨bz⟩⟩
      · replace c8 := Bool.eq_false_iff.mpr c8
        subst c8
        rw [if_neg (show ¬ (false = true) by decide)] at H
        have H' := m0 H
        clear H
        go_wp2_with (first | ((with_reducible refine gate_callee (f := 36) rfl ?_); refine gl (some 19) Try.func36 #[.slice A0 l0.length c0] ?_; (with_reducible refine (Lw_few.calls _ _ l0 false _ ?side1 ?side2 A7.out).mono ?_); (case side1 => exact cb HR0 HB); (case side2 => exact HC0.out); rintro e w' ⟨rfl, ⟨nd, rfl⟩⟩; refine ⟨_, rfl, ?_⟩))
        go_meet
        case rel => exact ⟨_, (true), (by first | rfl | (simp; done) | (simp [*]; done)), H', ⟨by first | omega | exact Nat.le_refl _⟩, ⟨bz⟩⟩
    case rest =>
      clear HC5
      obtain ⟨kq, x30_4, rfl, HA, HJ4, HB⟩ := hcut
      cases kq with
      | zero => exact absurd HA.out (by simp [Lw_TargetVotes.j0])
      | succ kj4 =>
        have H := HA.out
        clear HA
        simp only [Lw_TargetVotes.j0] at H
        by_cases c12 : x30_4 = true
        · subst c12
          rw [if_pos rfl] at H
          obtain rfl := Option.some.inj H
          go_wp2
          go_ret
          exact ez
        · replace c12 := Bool.eq_false_iff.mpr c12
          subst c12
          rw [if_neg (show ¬ (false = true) by decide)] at H
          replace H := ob H
          obtain ⟨t1424, A13, H⟩ := H
          (try dsimp only at H)
          replace A13 := m0 A13
          replace H := ob H
          obtain ⟨⟨t1427, t1428, t1429, t1430⟩, A14, H⟩ := H
          (try dsimp only at H)
          replace A14 := m0 A14
          replace H := ob H
          obtain ⟨t1432, A15, H⟩ := H
          (try dsimp only at H)
          replace A15 := m0 A15
          replace H := ob H
          obtain ⟨⟨t1435, t1436⟩, A16, H⟩ := H
          (try dsimp only at H)
          replace A16 := m0 A16
          have HC17 := m0 H
          clear H
          go_upto_region 7 with (first | ((with_reducible refine gate_callee (f := 38) rfl ?_); refine gl (some 33) Try.func38 #[.slice A0 l0.length c0] ?_; (with_reducible refine (Rf_CopyReadings.calls _ _ l0 t1424 _ ?side1 ?side2 A13.out).mono ?_); (case side1 => exact cb HR0 HB); (case side2 => exact HC0.out); rintro e w18 ⟨v1425, rfl, ho0, hb⟩; refine ⟨_, rfl, ?_⟩; have HO1426 := m0 (Kd.R_lower ho0 (below_size bz)); replace HB := sb HB hb; (try clear hb); (try clear ho0); obtain ⟨Ao19, co19, eo19⟩ := Kd.R_slice HO1426.out; subst eo19) | ((with_reducible refine gate_callee (f := 56) rfl ?_); refine gl (some 34) Try.func56 #[.slice Ao19 t1424.length co19] ?_; (with_reducible refine (L_VotedIn.calls kj4 _ _ t1424 t1427 t1428 t1429 t1430 _ ?side1 ?side2 A14.out).mono ?_); (case side1 => exact bc (Kd.R_reads' HO1426.out).2.2); (case side2 => exact (Kd.R_reads' HO1426.out).2.1); rintro e w20 ⟨rfl, hb⟩; refine ⟨_, rfl, ?_⟩; replace HO1426 := rb HO1426 hb; replace HB := sb HB hb; (try clear hb)) | ((with_reducible refine gate_dst (N := 5) rfl ?_); (try (refine gate_guard (by rfl) ?_; dsimp only)); refine be 5 58 #[.int .i64 0, .int .i64 0] ?_; intro gb1431 hg w21 hbox hb; replace HO1426 := rb HO1426 hb; have BK1431 := m0 hbox; have GE1431 := gw w hg; replace HB := sb HB hb; clear hb hbox hg; obtain ⟨hcz22_0, hcz22_1, hfz22_0, hfz22_1⟩ := b2 BK1431) | ((with_reducible refine gate_callee (f := 38) rfl ?_); refine gl (some 40) Try.func38 #[.slice A0 l0.length c0] ?_; (with_reducible refine (Rf_CopyReadings.calls _ _ l0 t1432 _ ?side1 ?side2 A15.out).mono ?_); (case side1 => exact Kd.C_below HR0.out bz); (case side2 => exact HC0.out); rintro e w23 ⟨v1433, rfl, ho0, hb⟩; refine ⟨_, rfl, ?_⟩; have HO1434 := m0 (Kd.R_lower (Kd.R_new' ho0 (Kd.R_lt (by (with_reducible repeat (first | apply Kd.R_alloc | apply Kd.R_drewN | apply Kd.R_drew)); exact (Kd.R_mono (Kd.R_far (p := ⟨gb1431, 1, none⟩) (Kd.R_far (p := ⟨gb1431, 0, none⟩) (Kd.R_types HO1426.out BK1431.out (by decide)) (fun _ hk => hk.2) (.int .i64 t1427)) (fun _ hk => hk.2) (.int .i64 t1428)) (fun _ h_ => h_.1))))) (below_size bz)); replace HO1426 := m0 (Kd.R_elder' (by (with_reducible repeat (first | apply Kd.R_alloc | apply Kd.R_drewN | apply Kd.R_drew)); exact (Kd.R_mono (Kd.R_far (p := ⟨gb1431, 1, none⟩) (Kd.R_far (p := ⟨gb1431, 0, none⟩) (Kd.R_types HO1426.out BK1431.out (by decide)) (fun _ hk => hk.2) (.int .i64 t1427)) (fun _ hk => hk.2) (.int .i64 t1428)) (fun _ h_ => h_.1))) (Kd.R_base ho0) hb); replace BK1431 := m0 (blk_below (g := gb1431) (o := .cells #[.int .i64 t1427, .int .i64 t1428] 58 (0, 0)) (bq BK1431.out) hb); replace HB := sb HB hb; (try clear hb); (try clear ho0); obtain ⟨Ao24, co24, eo24⟩ := Kd.R_slice HO1434.out; subst eo24) | ((with_reducible refine gate_callee (f := 57) rfl ?_); refine gl (some 41) Try.func57 #[.slice Ao24 t1432.length co24] ?_; (with_reducible refine (L_BadOf.calls kj4 _ _ t1432 t1435 t1436 _ ?side1 ?side2 A16.out).mono ?_); (case side1 => exact bc (Kd.R_reads' HO1434.out).2.2); (case side2 => exact (Kd.R_reads' HO1434.out).2.1); rintro e w25 ⟨v1437, rfl, ho0, hb⟩; refine ⟨_, rfl, ?_⟩; replace HO1426 := rb HO1426 hb; replace HO1434 := rb HO1434 hb; have HO1438 := m0 (Kd.R_lower ho0 (below_size bz)); replace BK1431 := bb BK1431 hb; replace HB := sb HB hb; (try clear hb); (try clear ho0)))
          (try simp only [Act.put, List.setIfInBounds_toArray, List.set_cons_zero, List.set_cons_succ])
          go_cut [77] (fun v77 wc => ∃ (kq : Nat) (x77_16 : Bool), v77 = .bool x77_16 ∧ Aside0 (Lw_TargetVotes.j1 kq l0 a1 t1429 t1435 x77_16 t1427 t1428 = some r) ∧ Aside0 (kq ≤ kj4) ∧ Aside0 (Kd.R (Kd.int .i64) 3 wc w.heap.size (fun _ => True) v1437 t1435) ∧ Aside0 (wc.heap[gb1431]? = some (.cells #[.int .i64 t1427, .int .i64 t1428] 58 (0, 0))) ∧ Aside0 (Below w.heap.size w wc))
          case first =>
            have H := HC17.out
            clear HC17
            by_cases c26 : t1430 = 0
            · rw [if_pos c26] at H
              have c26b0 := beq_iff_eq.mpr c26
              have c26b1 := bne_eq_false_iff_eq.mpr c26
              clear c26
              (first | rw [c26b0] | (simp only [i64_w, i32_w]; rw [c26b0]) | skip)
              by_cases c27 : t1436 = 0
              · rw [if_pos c27] at H
                have c27b0 := beq_iff_eq.mpr c27
                have c27b1 := bne_eq_false_iff_eq.mpr c27
                clear c27
                by_cases c28 : t1427 > t1428
                · rw [if_pos c28] at H
                  exact absurd H (by simp)
                · rw [if_neg c28] at H
                  have c28b0 := decide_eq_false c28
                  clear c28
                  replace H := ob H
                  obtain ⟨t1439, A29, H⟩ := H
                  (try dsimp only at H)
                  replace A29 := m0 A29
                  by_cases c30 : t1439 = true
                  · subst c30
                    rw [if_pos rfl] at H
                    replace H := ob H
                    obtain ⟨t1440, A31, H⟩ := H
                    (try dsimp only at H)
                    replace A31 := m0 A31
                    by_cases c32 : t1440 = true
                    · subst c32
                      rw [if_pos rfl] at H
                      have H' := m0 H
                      clear H
                      obtain ⟨hcz33_0, hcz33_1, hfz33_0, hfz33_1⟩ := b2 BK1431
                      go_wp2_with (first | (go_at_call 24; (with_reducible refine (Bs_Within.calls t1427 (-5000) 5000 true _ A29.out).mono ?_); rintro e w' ⟨rfl, ⟨nd, rfl⟩⟩) | (go_at_call 24; (with_reducible refine (Bs_Within.calls t1428 (-5000) 5000 true _ A31.out).mono ?_); rintro e w' ⟨rfl, ⟨nd, rfl⟩⟩; obtain ⟨Ao34, co34, eo34⟩ := Kd.R_slice HO1438.out; subst eo34))
                      go_meet
                      case rel => exact ⟨_, (((wrap64 ((t1435.length : Int) + t1429)) != (l0.length : Int))), (by first | rfl | (simp; done) | (simp [*]; done)), H', ⟨by have := HJ4.out; first | omega | exact Nat.le_refl _⟩, ⟨br HO1438.out⟩, ⟨bk BK1431.out⟩, ⟨bz⟩⟩
                    · replace c32 := Bool.eq_false_iff.mpr c32
                      subst c32
                      rw [if_neg (show ¬ (false = true) by decide)] at H
                      exact absurd H (by simp)
                  · replace c30 := Bool.eq_false_iff.mpr c30
                    subst c30
                    rw [if_neg (show ¬ (false = true) by decide)] at H
                    exact absurd H (by simp)
              · rw [if_neg c27] at H
                exact absurd H (by simp)
            · rw [if_neg c26] at H
              exact absurd H (by simp)
          case rest =>
            clear HC17
            try clear hcz22_0
            try clear hcz22_1
            try clear hcz33_0
            try clear hcz33_1
            try clear hfz22_0
            try clear hfz22_1
            try clear hfz33_0
            try clear hfz33_1
            obtain ⟨kq, x77_16, rfl, HA, HJ16, HO_8, BK1431, HB⟩ := hcut
            cases kq with
            | zero => exact absurd HA.out (by simp [Lw_TargetVotes.j1])
            | succ kj16 =>
              have H := HA.out
              clear HA
              simp only [Lw_TargetVotes.j1] at H
              by_cases c35 : x77_16 = true
              · subst c35
                rw [if_pos rfl] at H
                exact absurd H (by simp)
              · replace c35 := Bool.eq_false_iff.mpr c35
                subst c35
                rw [if_neg (show ¬ (false = true) by decide)] at H
                have H' := m0 H
                clear H
                go_wp2
                go_loopg [10, 11, 12, 13] kj16 (fun kq v10 v11 v12 v13 w' => ∃ (x10_3 : Int) (x11_3 : Int) (x12_3 : Int) (x13_3 : Int), v10 = .int .i64 x10_3 ∧ v11 = .int .i64 x11_3 ∧ v12 = .int .i64 x12_3 ∧ v13 = .int .i64 x13_3 ∧ Aside0 (Lw_TargetVotes.l0 kq l0 a1 t1429 t1435 x10_3 x11_3 x12_3 x13_3 t1427 t1428 = some r) ∧ Aside0 (kq ≤ kj16) ∧ Aside0 (Kd.R (Kd.int .i64) 3 w' w.heap.size (fun _ => True) v1437 t1435) ∧ Aside0 (w'.heap[gb1431]? = some (.cells #[.int .i64 t1427, .int .i64 t1428] 58 (0, 0))) ∧ Aside0 (Below w.heap.size w w'))
                case atStart => exact ⟨(0), (0), (0), (0), (by first | rfl | (simp; done) | (simp [*]; done)), (by first | rfl | (simp; done) | (simp [*]; done)), (by first | rfl | (simp; done) | (simp [*]; done)), (by first | rfl | (simp; done) | (simp [*]; done)), H', ⟨Nat.le_refl _⟩, ⟨br HO_8.out⟩, ⟨bk BK1431.out⟩, ⟨bz⟩⟩
                case round =>
                  clear H'
                  try clear hcz22_0
                  try clear hcz22_1
                  try clear hcz33_0
                  try clear hcz33_1
                  try clear hfz22_0
                  try clear hfz22_1
                  try clear hfz33_0
                  try clear hfz33_1
                  obtain ⟨x10_3, x11_3, x12_3, x13_3, rfl, rfl, rfl, rfl, HA, HK3, HO_8, BK1431, HB⟩ := hrel
                  cases gk with
                  | zero => exact absurd HA.out (by simp [Lw_TargetVotes.l0])
                  | succ k3 =>
                    have H := HA.out
                    clear HA
                    simp only [Lw_TargetVotes.l0] at H
                    by_cases c36 : x13_3 < (l0.length : Int)
                    · rw [if_pos c36] at H
                      have c36b0 := decide_eq_true c36
                      clear c36
                      by_cases c37 : 0 ≤ x13_3
                      · rw [if_pos c37] at H
                        have c37b0 := decide_eq_true c37
                        clear c37
                        replace H := ob H
                        obtain ⟨t1442, A38, H⟩ := H
                        (try dsimp only at H)
                        replace A38 := m0 A38
                        replace H := ob H
                        obtain ⟨t1444, A39, H⟩ := H
                        (try dsimp only at H)
                        replace A39 := m0 A39
                        replace H := ob H
                        obtain ⟨t1446, A40, H⟩ := H
                        (try dsimp only at H)
                        replace A40 := m0 A40
                        have H' := m0 H
                        clear H
                        try go_wp2
                        replace HO_8 := m0 (Kd.R_drew HO_8.out); replace BK1431 := bd BK1431; replace HB := sd HB
                        have p1441 : 0 ≤ (x13_3 : Int) := od
                        have q1441 : x13_3 < (l0.length : Int) := od
                        obtain ⟨ad1441, e1441, hx1441_0, hx1441_1, hx1441_2⟩ := at_T85 HR0.out x13_3 p1441 q1441
                        have hw1441_2 := hx1441_2
                        have hw1441_1 := hx1441_1
                        have hw1441_0 := hx1441_0
                        cases e1441
                        replace hx1441_0 := (HB.out.cell (World.block_lt_of_cell? w _ hx1441_0)).trans hx1441_0
                        replace hx1441_1 := (HB.out.cell (World.block_lt_of_cell? w _ hx1441_1)).trans hx1441_1
                        replace hx1441_2 := (HB.out.cell (World.block_lt_of_cell? w _ hx1441_2)).trans hx1441_2
                        replace p1441 := eq_true p1441
                        replace q1441 := eq_true q1441
                        have p1443 : 0 ≤ (x13_3 : Int) := od
                        have q1443 : x13_3 < (l0.length : Int) := od
                        obtain ⟨ad1443, e1443, hx1443_0, hx1443_1, hx1443_2⟩ := at_T85 HR0.out x13_3 p1443 q1443
                        have hw1443_2 := hx1443_2
                        have hw1443_1 := hx1443_1
                        have hw1443_0 := hx1443_0
                        obtain rfl : ad1441 = ad1443 := (by injection e1443)
                        replace hx1443_0 := (HB.out.cell (World.block_lt_of_cell? w _ hx1443_0)).trans hx1443_0
                        replace hx1443_1 := (HB.out.cell (World.block_lt_of_cell? w _ hx1443_1)).trans hx1443_1
                        replace hx1443_2 := (HB.out.cell (World.block_lt_of_cell? w _ hx1443_2)).trans hx1443_2
                        replace p1443 := eq_true p1443
                        replace q1443 := eq_true q1443
                        have p1445 : 0 ≤ (x13_3 : Int) := od
                        have q1445 : x13_3 < (l0.length : Int) := od
                        obtain ⟨ad1445, e1445, hx1445_0, hx1445_1, hx1445_2⟩ := at_T85 HR0.out x13_3 p1445 q1445
                        have hw1445_2 := hx1445_2
                        have hw1445_1 := hx1445_1
                        have hw1445_0 := hx1445_0
                        obtain rfl : ad1441 = ad1445 := (by injection e1445)
                        replace hx1445_0 := (HB.out.cell (World.block_lt_of_cell? w _ hx1445_0)).trans hx1445_0
                        replace hx1445_1 := (HB.out.cell (World.block_lt_of_cell? w _ hx1445_1)).trans hx1445_1
                        replace hx1445_2 := (HB.out.cell (World.block_lt_of_cell? w _ hx1445_2)).trans hx1445_2
                        replace p1445 := eq_true p1445
                        replace q1445 := eq_true q1445
                        refine start_ (n := 29) (S := fun w' => w'.cell? ⟨gb1431, 0, none⟩ = some (.int .i64 t1427) ∧ w'.cell? ⟨gb1431, 1, none⟩ = some (.int .i64 t1428) ∧ w'.cell? (ad1441.add ((x13_3).toNat * 3)) = some (.int .i64 ((rd_T85 l0 x13_3).f0)) ∧ w'.cell? ⟨(ad1441.add ((x13_3).toNat * 3)).block, (ad1441.add ((x13_3).toNat * 3)).off + 1, none⟩ = some (.int .i64 ((rd_T85 l0 x13_3).f1)) ∧ w'.cell? ⟨(ad1441.add ((x13_3).toNat * 3)).block, (ad1441.add ((x13_3).toNat * 3)).off + 2, none⟩ = some (.int .i64 ((rd_T85 l0 x13_3).f2)) ∧ w'.cell? (ad1441.add ((x13_3).toNat * 3)) = some (.int .i64 ((rd_T85 l0 x13_3).f0)) ∧ w'.cell? ⟨(ad1441.add ((x13_3).toNat * 3)).block, (ad1441.add ((x13_3).toNat * 3)).off + 1, none⟩ = some (.int .i64 ((rd_T85 l0 x13_3).f1)) ∧ w'.cell? ⟨(ad1441.add ((x13_3).toNat * 3)).block, (ad1441.add ((x13_3).toNat * 3)).off + 2, none⟩ = some (.int .i64 ((rd_T85 l0 x13_3).f2)) ∧ w'.cell? (ad1441.add ((x13_3).toNat * 3)) = some (.int .i64 ((rd_T85 l0 x13_3).f0)) ∧ w'.cell? ⟨(ad1441.add ((x13_3).toNat * 3)).block, (ad1441.add ((x13_3).toNat * 3)).off + 1, none⟩ = some (.int .i64 ((rd_T85 l0 x13_3).f1)) ∧ w'.cell? ⟨(ad1441.add ((x13_3).toNat * 3)).block, (ad1441.add ((x13_3).toNat * 3)).off + 2, none⟩ = some (.int .i64 ((rd_T85 l0 x13_3).f2))) (ds := []) #[false, false, false, false, false, false, false, false, false, false, false, false, false, false, false, false, false, false, false, false, false, false, false, false, false, false, false, false, false] (by kernel_rfl) rfl rfl ⟨(blk_cell BK1431.out 0).trans rfl, (blk_cell BK1431.out 1).trans rfl, ((HB.out.cell (World.block_lt_of_cell? w _ hw1441_0)).trans hw1441_0), ((HB.out.cell (World.block_lt_of_cell? w _ hw1441_1)).trans hw1441_1), ((HB.out.cell (World.block_lt_of_cell? w _ hw1441_2)).trans hw1441_2), ((HB.out.cell (World.block_lt_of_cell? w _ hw1443_0)).trans hw1443_0), ((HB.out.cell (World.block_lt_of_cell? w _ hw1443_1)).trans hw1443_1), ((HB.out.cell (World.block_lt_of_cell? w _ hw1443_2)).trans hw1443_2), ((HB.out.cell (World.block_lt_of_cell? w _ hw1445_0)).trans hw1445_0), ((HB.out.cell (World.block_lt_of_cell? w _ hw1445_1)).trans hw1445_1), ((HB.out.cell (World.block_lt_of_cell? w _ hw1445_2)).trans hw1445_2)⟩ (fun hH => ?_); refine with_tabW Lw_TargetVotes.tab13 Lw_TargetVotes.bits13 (fun HT_ HW_ => ?_)
                        generalize wr.drew = w41 at HO_8 BK1431 HB hx1441_0 hx1441_1 hx1441_2 hx1443_0 hx1443_1 hx1443_2 hx1445_0 hx1445_1 hx1445_2 hH ⊢
                        refine pZ 0 (some 84) (bs 29 1) HT_ ?_
                        refine pZ 1 (some 85) (bs 29 3) HT_ ?_
                        refine pZ 2 (some 86) (bs 29 7) HT_ ?_
                        refine pZ 3 (some 87) (bs 29 15) HT_ ?_
                        refine pZ 5 (some 89) (bs 29 47) HT_ ?_
                        refine pZ 9 (some 93) (bs 29 559) HT_ ?_
                        refine pZ 10 (some 94) (bs 29 1583) HT_ ?_
                        refine pZ 11 (some 95) (bs 29 3631) HT_ ?_
                        refine pZ 12 (some 96) (bs 29 7727) HT_ ?_
                        refine pZ 14 (some 98) (bs 29 24111) HT_ ?_
                        refine pZ 18 (some 102) (bs 29 286255) HT_ ?_
                        refine pZ 19 (some 103) (bs 29 810543) HT_ ?_
                        refine pZ 20 (some 104) (bs 29 1859119) HT_ ?_
                        refine pZ 21 (some 105) (bs 29 3956271) HT_ ?_
                        refine pZ 23 (some 107) (bs 29 12344879) HT_ ?_
                        refine takeZ 4 (some 88) (bs 29 12344895) (take_ofW HT_.out HW_.out (by kernel_rfl)) hH ?_
                        refine takeZ 6 (some 90) (bs 29 12344959) (take_ofW HT_.out HW_.out (by kernel_rfl)) hH ?_
                        refine takeZ 13 (some 97) (bs 29 12353151) (take_ofW HT_.out HW_.out (by kernel_rfl)) hH ?_
                        refine takeZ 15 (some 99) (bs 29 12385919) (take_ofW HT_.out HW_.out (by kernel_rfl)) hH ?_
                        refine takeZ 22 (some 106) (bs 29 16580223) (take_ofW HT_.out HW_.out (by kernel_rfl)) hH ?_
                        refine oneZ 7 (some 91) (bs 29 16580351) (one_of HT_.out (by kernel_rfl)) fun K hK => ?_
                        refine gz Try.func62 #[.agg #[.int .i64 ((rd_T85 l0 x13_3).f0), .int .i64 ((rd_T85 l0 x13_3).f1), .int .i64 ((rd_T85 l0 x13_3).f2)], .int .i64 t1427] ?_
                        with_reducible refine (Lw_fits.calls ((rd_T85 l0 x13_3).f0) ((rd_T85 l0 x13_3).f1) ((rd_T85 l0 x13_3).f2) t1427 t1442 _ A38.out).mono ?_
                        rintro e w42 ⟨rfl, hb⟩
                        refine ⟨_, rfl, ?_⟩
                        replace HO_8 := rb HO_8 hb; replace BK1431 := bb BK1431 hb; replace HB := sb HB hb
                        (try clear hb)
                        refine hK.out _ _ ⟨(blk_cell BK1431.out 0).trans rfl, (blk_cell BK1431.out 1).trans rfl, ((HB.out.cell (World.block_lt_of_cell? w _ hw1441_0)).trans hw1441_0), ((HB.out.cell (World.block_lt_of_cell? w _ hw1441_1)).trans hw1441_1), ((HB.out.cell (World.block_lt_of_cell? w _ hw1441_2)).trans hw1441_2), ((HB.out.cell (World.block_lt_of_cell? w _ hw1443_0)).trans hw1443_0), ((HB.out.cell (World.block_lt_of_cell? w _ hw1443_1)).trans hw1443_1), ((HB.out.cell (World.block_lt_of_cell? w _ hw1443_2)).trans hw1443_2), ((HB.out.cell (World.block_lt_of_cell? w _ hw1445_0)).trans hw1445_0), ((HB.out.cell (World.block_lt_of_cell? w _ hw1445_1)).trans hw1445_1), ((HB.out.cell (World.block_lt_of_cell? w _ hw1445_2)).trans hw1445_2)⟩ (fun hH => ?_)
                        clear hK K
                        refine norm_ (a' := ?_) ?_ ?_
                        rotate_left
                        · show Act.put _ (some 91) _ = _
                          exact pz
                        refine pZ 8 (some 92) (bs 29 16580607) HT_ ?_
                        refine oneZ 16 (some 100) (bs 29 16646143) (one_of HT_.out (by kernel_rfl)) fun K hK => ?_
                        refine gz Try.func62 #[.agg #[.int .i64 ((rd_T85 l0 x13_3).f0), .int .i64 ((rd_T85 l0 x13_3).f1), .int .i64 ((rd_T85 l0 x13_3).f2)], .int .i64 t1428] ?_
                        with_reducible refine (Lw_fits.calls ((rd_T85 l0 x13_3).f0) ((rd_T85 l0 x13_3).f1) ((rd_T85 l0 x13_3).f2) t1428 t1444 _ A39.out).mono ?_
                        rintro e w43 ⟨rfl, hb⟩
                        refine ⟨_, rfl, ?_⟩
                        replace HO_8 := rb HO_8 hb; replace BK1431 := bb BK1431 hb; replace HB := sb HB hb
                        (try clear hb)
                        refine hK.out _ _ ⟨(blk_cell BK1431.out 0).trans rfl, (blk_cell BK1431.out 1).trans rfl, ((HB.out.cell (World.block_lt_of_cell? w _ hw1441_0)).trans hw1441_0), ((HB.out.cell (World.block_lt_of_cell? w _ hw1441_1)).trans hw1441_1), ((HB.out.cell (World.block_lt_of_cell? w _ hw1441_2)).trans hw1441_2), ((HB.out.cell (World.block_lt_of_cell? w _ hw1443_0)).trans hw1443_0), ((HB.out.cell (World.block_lt_of_cell? w _ hw1443_1)).trans hw1443_1), ((HB.out.cell (World.block_lt_of_cell? w _ hw1443_2)).trans hw1443_2), ((HB.out.cell (World.block_lt_of_cell? w _ hw1445_0)).trans hw1445_0), ((HB.out.cell (World.block_lt_of_cell? w _ hw1445_1)).trans hw1445_1), ((HB.out.cell (World.block_lt_of_cell? w _ hw1445_2)).trans hw1445_2)⟩ (fun hH => ?_)
                        clear hK K
                        refine norm_ (a' := ?_) ?_ ?_
                        rotate_left
                        · show Act.put _ (some 100) _ = _
                          exact pz
                        refine pZ 17 (some 101) (bs 29 16777215) HT_ ?_
                        refine oneZ 24 (some 108) (bs 29 33554431) (one_of HT_.out (by kernel_rfl)) fun K hK => ?_
                        refine gz Try.func62 #[.agg #[.int .i64 ((rd_T85 l0 x13_3).f0), .int .i64 ((rd_T85 l0 x13_3).f1), .int .i64 ((rd_T85 l0 x13_3).f2)], .int .i64 a1] ?_
                        with_reducible refine (Lw_fits.calls ((rd_T85 l0 x13_3).f0) ((rd_T85 l0 x13_3).f1) ((rd_T85 l0 x13_3).f2) a1 t1446 _ A40.out).mono ?_
                        rintro e w44 ⟨rfl, hb⟩
                        refine ⟨_, rfl, ?_⟩
                        replace HO_8 := rb HO_8 hb; replace BK1431 := bb BK1431 hb; replace HB := sb HB hb
                        (try clear hb)
                        refine hK.out _ _ ⟨(blk_cell BK1431.out 0).trans rfl, (blk_cell BK1431.out 1).trans rfl, ((HB.out.cell (World.block_lt_of_cell? w _ hw1441_0)).trans hw1441_0), ((HB.out.cell (World.block_lt_of_cell? w _ hw1441_1)).trans hw1441_1), ((HB.out.cell (World.block_lt_of_cell? w _ hw1441_2)).trans hw1441_2), ((HB.out.cell (World.block_lt_of_cell? w _ hw1443_0)).trans hw1443_0), ((HB.out.cell (World.block_lt_of_cell? w _ hw1443_1)).trans hw1443_1), ((HB.out.cell (World.block_lt_of_cell? w _ hw1443_2)).trans hw1443_2), ((HB.out.cell (World.block_lt_of_cell? w _ hw1445_0)).trans hw1445_0), ((HB.out.cell (World.block_lt_of_cell? w _ hw1445_1)).trans hw1445_1), ((HB.out.cell (World.block_lt_of_cell? w _ hw1445_2)).trans hw1445_2)⟩ (fun hH => ?_)
                        clear hK K
                        refine norm_ (a' := ?_) ?_ ?_
                        rotate_left
                        · show Act.put _ (some 108) _ = _
                          exact pz
                        refine pZ 25 (some 109) (bs 29 67108863) HT_ ?_
                        refine pZ 26 (some 10) (bs 29 134217727) HT_ ?_
                        refine pZ 27 (some 11) (bs 29 268435455) HT_ ?_
                        refine pZ 28 (some 12) (bs 29 536870911) HT_ ?_
                        refine done_ (done_of HT_.out (by kernel_rfl)) ?_
                        try go_wp2
                        go_roundg k3
                        case measure => have := HJ4.out; have := HJ16.out; have := HK3.out; omega
                        case rel => exact ⟨(wrap64 (x10_3 + t1442)), (wrap64 (x11_3 + t1444)), (wrap64 (x12_3 + t1446)), (wrap64 (x13_3 + 1)), (by first | rfl | (simp; done) | (simp [*]; done)), (by first | rfl | (simp; done) | (simp [*]; done)), (by first | rfl | (simp; done) | (simp [*]; done)), (by first | rfl | (simp; done) | (simp [*]; done)), H', ⟨by have := HJ4.out; have := HJ16.out; have := HK3.out; omega⟩, ⟨br HO_8.out⟩, ⟨bk BK1431.out⟩, ⟨bz⟩⟩
                      · rw [if_neg c37] at H
                        exact absurd H (by simp)
                    · rw [if_neg c36] at H
                      have c36b0 := decide_eq_false c36
                      clear c36
                      have HC45 := m0 H
                      clear H
                      go_upto_region 14 with (fail)
                      go_cut [133] (fun v133 wc => ∃ (kq : Nat) (x133_44 : Bool), v133 = .bool x133_44 ∧ Aside0 (Lw_TargetVotes.j3 kq l0 a1 t1429 t1435 x12_3 x133_44 t1427 t1428 = some r) ∧ Aside0 (kq ≤ k3) ∧ Aside0 (Kd.R (Kd.int .i64) 3 wc w.heap.size (fun _ => True) v1437 t1435) ∧ Aside0 (wc.heap[gb1431]? = some (.cells #[.int .i64 t1427, .int .i64 t1428] 58 (0, 0))) ∧ Aside0 (Below w.heap.size w wc))
                      case first =>
                        have H := HC45.out
                        clear HC45
                        by_cases c46 : x10_3 = t1429
                        · rw [if_pos c46] at H
                          have c46b0 := beq_iff_eq.mpr c46
                          have c46b1 := bne_eq_false_iff_eq.mpr c46
                          clear c46
                          (first | rw [c46b0] | (simp only [i64_w, i32_w]; rw [c46b0]) | skip)
                          by_cases c47 : x11_3 = t1429
                          · rw [if_pos c47] at H
                            have c47b0 := beq_iff_eq.mpr c47
                            have c47b1 := bne_eq_false_iff_eq.mpr c47
                            clear c47
                            by_cases c48 : x12_3 > t1429
                            · rw [if_pos c48] at H
                              exact absurd H (by simp)
                            · rw [if_neg c48] at H
                              have c48b0 := decide_eq_false c48
                              clear c48
                              by_cases c49 : x12_3 = t1429
                              · rw [if_pos c49] at H
                                have c49b0 := beq_iff_eq.mpr c49
                                have c49b1 := bne_eq_false_iff_eq.mpr c49
                                clear c49
                                have H' := m0 H
                                clear H
                                obtain ⟨hcz50_0, hcz50_1, hfz50_0, hfz50_1⟩ := b2 BK1431
                                go_wp2
                                go_meet
                                case rel => exact ⟨_, (decide (a1 < t1427)), (by first | rfl | (simp; done) | (simp [*]; done)), H', ⟨by have := HJ4.out; have := HJ16.out; have := HK3.out; first | omega | exact Nat.le_refl _⟩, ⟨br HO_8.out⟩, ⟨bk BK1431.out⟩, ⟨bz⟩⟩
                              · rw [if_neg c49] at H
                                have c49b0 := beq_eq_false_iff_ne.mpr c49
                                have c49b1 := bne_iff_ne.mpr c49
                                have H' := m0 H
                                clear H
                                go_wp2
                                go_meet
                                case rel => exact ⟨_, (false), (by first | rfl | (simp; done) | (simp [*]; done)), H', ⟨by have := HJ4.out; have := HJ16.out; have := HK3.out; first | omega | exact Nat.le_refl _⟩, ⟨br HO_8.out⟩, ⟨bk BK1431.out⟩, ⟨bz⟩⟩
                          · rw [if_neg c47] at H
                            exact absurd H (by simp)
                        · rw [if_neg c46] at H
                          exact absurd H (by simp)
                      case rest =>
                        clear HC45
                        try clear hx1
                        try clear hx14
                        try clear hcz22_0
                        try clear hcz22_1
                        try clear hcz33_0
                        try clear hcz33_1
                        try clear hcz50_0
                        try clear hcz50_1
                        try clear hfz22_0
                        try clear hfz22_1
                        try clear hfz33_0
                        try clear hfz33_1
                        try clear hfz50_0
                        try clear hfz50_1
                        try clear hx1441_0
                        try clear hx1441_1
                        try clear hx1441_2
                        try clear hx1443_0
                        try clear hx1443_1
                        try clear hx1443_2
                        try clear hx1445_0
                        try clear hx1445_1
                        try clear hx1445_2
                        obtain ⟨kq, x133_44, rfl, HA, HJ44, HO_8, BK1431, HB⟩ := hcut
                        cases kq with
                        | zero => exact absurd HA.out (by simp [Lw_TargetVotes.j3])
                        | succ kj44 =>
                          have H := HA.out
                          clear HA
                          simp only [Lw_TargetVotes.j3] at H
                          by_cases c51 : x133_44 = true
                          · subst c51
                            rw [if_pos rfl] at H
                            exact absurd H (by simp)
                          · replace c51 := Bool.eq_false_iff.mpr c51
                            subst c51
                            rw [if_neg (show ¬ (false = true) by decide)] at H
                            replace H := ob H
                            obtain ⟨t1447, A52, H⟩ := H
                            (try dsimp only at H)
                            replace A52 := m0 A52
                            replace H := ob H
                            obtain ⟨⟨t1450, t1451, t1452⟩, A53, H⟩ := H
                            (try dsimp only at H)
                            replace A53 := m0 A53
                            by_cases c54 : x12_3 = (l0.length : Int)
                            · rw [if_pos c54] at H
                              have c54b0 := beq_iff_eq.mpr c54
                              have c54b1 := bne_eq_false_iff_eq.mpr c54
                              clear c54
                              by_cases c55 : t1452 = 0
                              · rw [if_pos c55] at H
                                have c55b0 := beq_iff_eq.mpr c55
                                have c55b1 := bne_eq_false_iff_eq.mpr c55
                                clear c55
                                by_cases c56 : t1450 ≤ a1
                                · rw [if_pos c56] at H
                                  have c56b0 := decide_eq_true c56
                                  clear c56
                                  by_cases c57 : a1 ≤ t1451
                                  · rw [if_pos c57] at H
                                    have c57b0 := decide_eq_true c57
                                    clear c57
                                    by_cases c58 : (t1450 == t1427 && (t1451 == t1428)) = true
                                    · rw [if_pos c58] at H
                                      have c58b0 : (t1450 == t1427 && (t1451 == t1428)) = true := c58
                                      (try (have c58b1 : decide (t1450 = t1427 && (t1451 == t1428)) = true := by simpa using c58))
                                      (try (have c58b2 : (t1450 == t1427 && (t1451 == t1428)) = true := by simpa using c58))
                                      clear c58
                                      obtain rfl := Option.some.inj H
                                      go_wp2_with (first | ((with_reducible refine gate_callee (f := 38) rfl ?_); refine gl (some 136) Try.func38 #[.slice A0 l0.length c0] ?_; (with_reducible refine (Rf_CopyReadings.calls _ _ l0 t1447 _ ?side1 ?side2 A52.out).mono ?_); (case side1 => exact cb HR0 HB); (case side2 => exact HC0.out); rintro e w59 ⟨v1448, rfl, ho0, hb⟩; refine ⟨_, rfl, ?_⟩; replace HO_8 := rb HO_8 hb; have HO1449 := m0 (Kd.R_lower ho0 (below_size bz)); replace BK1431 := bb BK1431 hb; replace HB := sb HB hb; (try clear hb); (try clear ho0); obtain ⟨Ao60, co60, eo60⟩ := Kd.R_slice HO1449.out; subst eo60) | ((with_reducible refine gate_callee (f := 55) rfl ?_); refine gl (some 137) Try.func55 #[.slice Ao60 t1447.length co60] ?_; (with_reducible refine (L_OffsetIn.calls kj44 _ _ t1447 t1450 t1451 t1452 _ ?side1 ?side2 A53.out).mono ?_); (case side1 => exact bc (Kd.R_reads' HO1449.out).2.2); (case side2 => exact (Kd.R_reads' HO1449.out).2.1); rintro e w61 ⟨rfl, hb⟩; refine ⟨_, rfl, ?_⟩; replace HO_8 := rb HO_8 hb; replace HO1449 := rb HO1449 hb; replace BK1431 := bb BK1431 hb; replace HB := sb HB hb; (try clear hb)) | ((with_reducible refine gate_dst (N := 14) rfl ?_); (try (refine gate_guard (by rfl) ?_; dsimp only)); refine be 14 58 #[.int .i64 0, .int .i64 0] ?_; intro gb1453 hg w62 hbox hb; replace HO_8 := rb HO_8 hb; replace HO1449 := rb HO1449 hb; have BK1453 := m0 hbox; have GE1453 := gw w hg; replace HB := sb HB hb; have NB1431_1453 := nl BK1431 hg; have NB1453_1431 := ng (nl BK1431 hg); replace BK1431 := bb BK1431 hb; clear hb hbox hg; have hnb63 := NB1453_1431.out; have hnc63 := NB1431_1453.out; obtain ⟨_, _, _, _⟩ := b2 BK1453; obtain ⟨_, _, _, _⟩ := b2 BK1431; obtain ⟨Ao66, co66, eo66⟩ := Kd.R_slice HO_8.out; subst eo66))
                                      go_ret
                                      exact ez
                                    · rw [if_neg c58] at H
                                      exact absurd H (by simp)
                                  · rw [if_neg c57] at H
                                    exact absurd H (by simp)
                                · rw [if_neg c56] at H
                                  exact absurd H (by simp)
                              · rw [if_neg c55] at H
                                exact absurd H (by simp)
                            · rw [if_neg c54] at H
                              have c54b0 := beq_eq_false_iff_ne.mpr c54
                              have c54b1 := bne_iff_ne.mpr c54
                              obtain rfl := Option.some.inj H
                              go_wp2_with (first | ((with_reducible refine gate_callee (f := 38) rfl ?_); refine gl (some 136) Try.func38 #[.slice A0 l0.length c0] ?_; (with_reducible refine (Rf_CopyReadings.calls _ _ l0 t1447 _ ?side1 ?side2 A52.out).mono ?_); (case side1 => exact cb HR0 HB); (case side2 => exact HC0.out); rintro e w67 ⟨v1448, rfl, ho0, hb⟩; refine ⟨_, rfl, ?_⟩; replace HO_8 := rb HO_8 hb; have HO1449 := m0 (Kd.R_lower ho0 (below_size bz)); replace BK1431 := bb BK1431 hb; replace HB := sb HB hb; (try clear hb); (try clear ho0); obtain ⟨Ao68, co68, eo68⟩ := Kd.R_slice HO1449.out; subst eo68) | ((with_reducible refine gate_callee (f := 55) rfl ?_); refine gl (some 137) Try.func55 #[.slice Ao68 t1447.length co68] ?_; (with_reducible refine (L_OffsetIn.calls kj44 _ _ t1447 t1450 t1451 t1452 _ ?side1 ?side2 A53.out).mono ?_); (case side1 => exact bc (Kd.R_reads' HO1449.out).2.2); (case side2 => exact (Kd.R_reads' HO1449.out).2.1); rintro e w69 ⟨rfl, hb⟩; refine ⟨_, rfl, ?_⟩; replace HO_8 := rb HO_8 hb; replace HO1449 := rb HO1449 hb; replace BK1431 := bb BK1431 hb; replace HB := sb HB hb; (try clear hb)) | ((with_reducible refine gate_dst (N := 14) rfl ?_); (try (refine gate_guard (by rfl) ?_; dsimp only)); refine be 14 58 #[.int .i64 0, .int .i64 0] ?_; intro gb1453 hg w70 hbox hb; replace HO_8 := rb HO_8 hb; replace HO1449 := rb HO1449 hb; have BK1453 := m0 hbox; have GE1453 := gw w hg; replace HB := sb HB hb; have NB1431_1453 := nl BK1431 hg; have NB1453_1431 := ng (nl BK1431 hg); replace BK1431 := bb BK1431 hb; clear hb hbox hg; have hnb71 := NB1453_1431.out; have hnc71 := NB1431_1453.out; obtain ⟨_, _, _, _⟩ := b2 BK1453))
                              go_ret
                              exact ez
  · replace c4 := Bool.eq_false_iff.mpr c4
    subst c4
    rw [if_neg (show ¬ (false = true) by decide)] at H
    exact absurd H (by simp)
end
section
def Bs_Has.l0 : Nat → List Int → Int → Int → Option (Bool)
 | 0, _, _, _ => none
 | k + 1, x0, x1, x5 => if x5 < (x0.length : Int) then (if 0 ≤ x5 then (if (rd x0 x5) = x1 then (some true) else (Bs_Has.l0 k x0 x1 (wrap64 (x5 + 1)))) else (none)) else (some false)
def Bs_Has.f (k : Nat) (l0 : List Int) (a1 : Int) : Option (Bool) := Bs_Has.l0 k l0 a1 0
theorem Bs_Has.mono_l : ∀ k, (∀ y0 y1 y2, LeO (Bs_Has.l0 k y0 y1 y2) (Bs_Has.l0 (k + 1) y0 y1 y2))
 | 0 => fun _ _ _ r h => by simp [Bs_Has.l0] at h
 | k + 1 => by
  have ih0 := Bs_Has.mono_l k
  ·intro y0 y1 y2
   unfold Bs_Has.l0
   repeat' with_reducible first
    | exact ih0 ..
    | exact LeO.refl ..
    | exact LeO.none ..
    | refine LeO.ite ?_ ?_
    | refine LeO.bind ?_ (fun _ => ?_)
theorem Bs_Has.mono : ∀ a0 a1 k, LeO (Bs_Has.f k a0 a1) (Bs_Has.f (k + 1) a0 a1) := by
 intro a0 a1 k
 have ih0 := Bs_Has.mono_l k
 unfold Bs_Has.f
 repeat' with_reducible first
  | exact ih0 ..
  | exact LeO.refl ..
  | exact LeO.none ..
  | refine LeO.ite ?_ ?_
  | refine LeO.bind ?_ (fun _ => ?_)
theorem Bs_Has.calls (k : Nat) (A0 : Option Addr) (c0 : Nat) (l0 : List Int) (a1 : Int) (r : Bool) (w : World) (hr0 : Kd.C (Kd.int .i64) w A0 l0.length l0) (hc0 : l0.length ≤ c0) (h : Bs_Has.f k l0 a1 = some r) :
  Calls Try.prog 119 #[.slice A0 l0.length c0, .int .i64 a1] w fun e w' => e = .returned (.bool r) ∧ Drawn0 w w' := by
 have HR0 := m0 hr0
 have HC0 := m0 hc0
 clear hr0 hc0
 have H : (Bs_Has.l0 k l0 a1 0) = some r := h
 clear h
 have H' := m0 H
 clear H
 go_enter Try.func119, Try.ntmps119
 go_wp2
 go_loopg [5] k (fun kq v5 w' => ∃ (x5_1 : Int), v5 = .int .i64 x5_1 ∧ Aside0 (Bs_Has.l0 kq l0 a1 x5_1 = some r) ∧ Aside0 (kq ≤ k) ∧ Drawn0 w w')
 case atStart => exact ⟨(0), (by first | rfl | (simp; done) | (simp [*]; done)), H', ⟨Nat.le_refl _⟩, by repeat (first | exact Drawn0.refl _ | apply Drawn0.step)⟩
 case round =>
  clear H'
  obtain ⟨x5_1, rfl, HA, HK1, ⟨m1, rfl⟩⟩ := hrel
  cases gk with
  | zero => exact absurd HA.out (by simp [Bs_Has.l0])
  | succ k1 =>
   have H := HA.out
   clear HA
   simp only [Bs_Has.l0] at H
   by_cases c3 : x5_1 < (l0.length : Int)
   ·rw [if_pos c3] at H
    have c3b0 := decide_eq_true c3
    clear c3
    by_cases c4 : 0 ≤ x5_1
    ·rw [if_pos c4] at H
     have c4b0 := decide_eq_true c4
     clear c4
     by_cases c5 : (rd l0 x5_1) = a1
     ·rw [if_pos c5] at H
      have c5b0 := beq_iff_eq.mpr c5
      have c5b1 := bne_eq_false_iff_eq.mpr c5
      clear c5
      obtain rfl := Option.some.inj H
      have p1328 : 0 ≤ (x5_1 : Int) := od
      have q1328 : x5_1 < (l0.length : Int) := od
      obtain ⟨ad1328, e1328, hx1328_0⟩ := Kd.at_int HR0.out x5_1 p1328 q1328
      cases e1328
      replace p1328 := eq_true p1328
      replace q1328 := eq_true q1328
      go_wp2
      go_ret
      exact ⟨by first | rfl | (simp; done) | (simp [*]; done), by repeat (first | exact Drawn0.refl _ | apply Drawn0.step)⟩
     ·rw [if_neg c5] at H
      have c5b0 := beq_eq_false_iff_ne.mpr c5
      have c5b1 := bne_iff_ne.mpr c5
      have H' := m0 H
      clear H
      have p1328 : 0 ≤ (x5_1 : Int) := od
      have q1328 : x5_1 < (l0.length : Int) := od
      obtain ⟨ad1328, e1328, hx1328_0⟩ := Kd.at_int HR0.out x5_1 p1328 q1328
      cases e1328
      replace p1328 := eq_true p1328
      replace q1328 := eq_true q1328
      go_wp2
      go_roundg k1
      case measure => have := HK1.out; omega
      case rel => exact ⟨(wrap64 (x5_1 + 1)), (by first | rfl | (simp; done) | (simp [*]; done)), H', ⟨by have := HK1.out; omega⟩, by repeat (first | exact Drawn0.refl _ | apply Drawn0.step)⟩
    ·rw [if_neg c4] at H
     exact absurd H (by simp)
   ·rw [if_neg c3] at H
    have c3b0 := decide_eq_false c3
    clear c3
    obtain rfl := Option.some.inj H
    go_wp2
    go_ret
    exact ⟨by first | rfl | (simp; done) | (simp [*]; done), by repeat (first | exact Drawn0.refl _ | apply Drawn0.step)⟩
end
section
def Rf_offsets.f (a0_0 : Int) (a0_1 : Int) (a0_2 : Int) : Option (Int × Int) := some (wrap64 ((wrap64 (a0_1 - a0_2)) - a0_0), wrap64 ((wrap64 (a0_1 + a0_2)) - a0_0))
theorem Rf_offsets.calls (a0_0 : Int) (a0_1 : Int) (a0_2 : Int) (r1 : Int) (r2 : Int) (w : World) (h : Rf_offsets.f a0_0 a0_1 a0_2 = some (r1, r2)) :
  Calls Try.prog 120 #[.agg #[.int .i64 a0_0, .int .i64 a0_1, .int .i64 a0_2]] w fun e w' => e = .returned (.agg #[.int .i64 r1, .int .i64 r2]) ∧ Below w.heap.size w w' := by
 have hu85 := Try.underlying85
 have hu58 := Try.underlying58
 have HB := m0 (Below.refl w.heap.size w)
 have H : (some (wrap64 ((wrap64 (a0_1 - a0_2)) - a0_0), wrap64 ((wrap64 (a0_1 + a0_2)) - a0_0))) = some (r1, r2) := h
 clear h
 simp only [Option.some.injEq, Prod.mk.injEq] at H
 obtain ⟨rfl, rfl⟩ := H
 go_enter Try.func120, Try.ntmps120
 go_wp2_with (first | ((with_reducible refine gate_dst (N := 1) rfl ?_); refine be 1 85 #[.int .i64 a0_0, .int .i64 a0_1, .int .i64 a0_2] ?_; intro gb1329 hg w2 hbox hb; have BK1329 := m0 hbox; have GE1329 := gw w hg; replace HB := sb HB hb; clear hb hbox hg) | ((with_reducible refine gate_dst (N := 2) rfl ?_); refine be 2 58 #[.int .i64 0, .int .i64 0] ?_; intro gb1330 hg w3 hbox hb; have BK1330 := m0 hbox; have GE1330 := gw w hg; replace HB := sb HB hb; have NB1329_1330 := nl BK1329 hg; have NB1330_1329 := ng (nl BK1329 hg); replace BK1329 := bb BK1329 hb; clear hb hbox hg; have hnb4 := NB1329_1330.out; have hnc4 := NB1330_1329.out; obtain ⟨_, _, _, _, _, _⟩ := b3 BK1329; obtain ⟨_, _, _, _⟩ := b2 BK1330))
 refine bodyPost_ret (results_cell_row rfl _ _ gb1330 58 #[.int .i64 (wrap64 ((wrap64 (a0_1 - a0_2)) - a0_0)), .int .i64 (wrap64 ((wrap64 (a0_1 + a0_2)) - a0_0))] (0, 0) _ rfl (bq BK1330.out) Try.underlying58 rfl (by kernel_rfl)) rfl ?_
 exact ez
end
section
def Rf_Common.l0 : Nat → List (S85) → List Int → Int → Int → Int → Option (Int × Int × Bool)
 | 0, _, _, _, _, _ => none
 | k + 1, x0, x1, x7, x1333000, x1333001 => if x7 < (x0.length : Int) then ((Bs_Has.f k x1 x7).bind fun t1333 => (if t1333 = true then (Rf_Common.l0 k x0 x1 (wrap64 (x7 + 1)) x1333000 x1333001) else (if 0 ≤ x7 then ((Rf_offsets.f ((rd_T85 x0 x7).f0) ((rd_T85 x0 x7).f1) ((rd_T85 x0 x7).f2)).bind fun bt1335 => (Rf_Common.l0 k x0 x1 (wrap64 (x7 + 1)) (mx x1333000 bt1335.1) (mn x1333001 bt1335.2))) else (none)))) else (some (x1333000, x1333001, decide (x1333000 ≤ x1333001)))
def Rf_Common.f (k : Nat) (l0 : List (S85)) (l1 : List Int) : Option (Int × Int × Bool) := Rf_Common.l0 k l0 l1 0 (-20000) 20000
theorem Rf_Common.mono_l : ∀ k, (∀ y0 y1 y2 y3 y4, LeO (Rf_Common.l0 k y0 y1 y2 y3 y4) (Rf_Common.l0 (k + 1) y0 y1 y2 y3 y4))
 | 0 => fun _ _ _ _ _ r h => by simp [Rf_Common.l0] at h
 | k + 1 => by
  have ih0 := Rf_Common.mono_l k
  ·intro y0 y1 y2 y3 y4
   unfold Rf_Common.l0
   repeat' with_reducible first
    | exact ih0 ..
    | exact Bs_Has.mono ..
    | exact LeO.refl ..
    | exact LeO.none ..
    | refine LeO.ite ?_ ?_
    | refine LeO.bind ?_ (fun _ => ?_)
theorem Rf_Common.mono : ∀ a0 a1 k, LeO (Rf_Common.f k a0 a1) (Rf_Common.f (k + 1) a0 a1) := by
 intro a0 a1 k
 have ih0 := Rf_Common.mono_l k
 unfold Rf_Common.f
 repeat' with_reducible first
  | exact ih0 ..
  | exact Bs_Has.mono ..
  | exact LeO.refl ..
  | exact LeO.none ..
  | refine LeO.ite ?_ ?_
  | refine LeO.bind ?_ (fun _ => ?_)
def Rf_Common.T8 : Bool × List (List Nat × List Nat) := (true, [([], []), ([], []), ([1], [1]), ([], []), ([3], [3]), ([2, 4], [2, 4]), ([0, 0], [0]), ([5, 6, 0, 1, 2, 3, 4, 5, 6], [5])])
def Rf_Common.B8 : List Nat := [0, 0, 2, 0, 8, 30, 1, 127]
theorem Rf_Common.tab8 : rtab .any (opsOf Try.f59 8) = Rf_Common.T8 := by kernel_rfl
theorem Rf_Common.bits8 : waitsOk Rf_Common.T8.2 Rf_Common.B8 = true := by kernel_rfl
theorem Rf_Common.calls (k : Nat) (A0 : Option Addr) (c0 : Nat) (l0 : List (S85)) (A1 : Option Addr) (c1 : Nat) (l1 : List Int) (r1 : Int) (r2 : Int) (r3 : Bool) (w : World) (hr0 : Kd.C k85 w A0 l0.length l0) (hc0 : l0.length ≤ c0) (hr1 : Kd.C (Kd.int .i64) w A1 l1.length l1) (hc1 : l1.length ≤ c1) (h : Rf_Common.f k l0 l1 = some (r1, r2, r3)) :
  Calls Try.prog 59 #[.slice A0 l0.length c0, .slice A1 l1.length c1] w fun e w' => e = .returned (.tuple #[.agg #[.int .i64 r1, .int .i64 r2], .bool r3]) ∧ Below w.heap.size w w' := by
 have hu58 := Try.underlying58
 have hu85 := Try.underlying85
 have HR0 := m0 hr0
 have HC0 := m0 hc0
 clear hr0 hc0
 have HR1 := m0 hr1
 have HC1 := m0 hc1
 clear hr1 hc1
 have HB := m0 (Below.refl w.heap.size w)
 have H : (Rf_Common.l0 k l0 l1 0 (-20000) 20000) = some (r1, r2, r3) := h
 clear h
 have H' := m0 H
 clear H
 go_enter Try.func59, Try.ntmps59
 go_wp2_with (first | ((with_reducible refine gate_dst (N := 4) rfl ?_); refine be 4 58 #[.int .i64 0, .int .i64 0] ?_; intro gb1331 hg w3 hbox hb; have BK1331 := m0 hbox; have GE1331 := gw w hg; replace HB := sb HB hb; clear hb hbox hg) | ((with_reducible refine gate_dst (N := 6) rfl ?_); refine be 6 58 #[.int .i64 0, .int .i64 0] ?_; intro gb1332 hg w4 hbox hb; have BK1332 := m0 hbox; have GE1332 := gw w hg; replace HB := sb HB hb; have NB1331_1332 := nl BK1331 hg; have NB1332_1331 := ng (nl BK1331 hg); replace BK1331 := bb BK1331 hb; clear hb hbox hg; have hnb5 := NB1332_1331.out; have hnc5 := NB1331_1332.out; obtain ⟨hcz6_0, hcz6_1, hfz6_0, hfz6_1⟩ := b2 BK1332))
 go_loopg [7] k (fun kq v7 w' => ∃ (x7_1 : Int) (x1333000_1 : Int) (x1333001_1 : Int), v7 = .int .i64 x7_1 ∧ Aside0 (Rf_Common.l0 kq l0 l1 x7_1 x1333000_1 x1333001_1 = some (r1, r2, r3)) ∧ Aside0 (kq ≤ k) ∧ Aside0 (w'.heap[gb1331]? = some (.cells #[.int .i64 0, .int .i64 0] 58 (0, 0))) ∧ Aside0 (w'.heap[gb1332]? = some (.cells #[.int .i64 x1333000_1, .int .i64 x1333001_1] 58 (0, 0))) ∧ Aside0 (Below w.heap.size w w'))
 case atStart => exact ⟨(0), ((-20000)), (20000), (by first | rfl | (simp; done) | (simp [*]; done)), H', ⟨Nat.le_refl _⟩, ⟨bq BK1331.out⟩, ⟨bq BK1332.out⟩, ⟨bz⟩⟩
 case round =>
  clear H'
  try clear hcz6_0
  try clear hcz6_1
  try clear hfz6_0
  try clear hfz6_1
  obtain ⟨x7_1, x1333000_1, x1333001_1, rfl, HA, HK1, BK1331, BK1332, HB⟩ := hrel
  cases gk with
  | zero => exact absurd HA.out (by simp [Rf_Common.l0])
  | succ k1 =>
   have H := HA.out
   clear HA
   simp only [Rf_Common.l0] at H
   by_cases c7 : x7_1 < (l0.length : Int)
   ·rw [if_pos c7] at H
    have c7b0 := decide_eq_true c7
    clear c7
    replace H := ob H
    obtain ⟨t1333, A8, H⟩ := H
    (try dsimp only at H)
    replace A8 := m0 A8
    by_cases c9 : t1333 = true
    ·subst c9
     rw [if_pos rfl] at H
     have H' := m0 H
     clear H
     go_wp2_with (first | ((with_reducible refine gate_callee (f := 119) rfl ?_); refine gl (some 18) Try.func119 #[.slice A1 l1.length c1, .int .i64 x7_1] ?_; (with_reducible refine (Bs_Has.calls k1 _ _ l1 x7_1 true _ ?side1 ?side2 A8.out).mono ?_); (case side1 => exact cb HR1 HB); (case side2 => exact HC1.out); rintro e w' ⟨rfl, ⟨nd, rfl⟩⟩; refine ⟨_, rfl, ?_⟩))
     go_roundg k1
     case measure => have := HK1.out; omega
     case rel => exact ⟨(wrap64 (x7_1 + 1)), (x1333000_1), (x1333001_1), (by first | rfl | (simp; done) | (simp [*]; done)), H', ⟨by have := HK1.out; omega⟩, ⟨bk BK1331.out⟩, ⟨bk BK1332.out⟩, ⟨bz⟩⟩
    ·replace c9 := Bool.eq_false_iff.mpr c9
     subst c9
     rw [if_neg (show ¬ (false = true) by decide)] at H
     by_cases c10 : 0 ≤ x7_1
     ·rw [if_pos c10] at H
      have c10b0 := decide_eq_true c10
      clear c10
      replace H := ob H
      obtain ⟨⟨t1335, t1336⟩, A11, H⟩ := H
      (try dsimp only at H)
      replace A11 := m0 A11
      obtain ⟨ji12, hji12⟩ : ∃ j_ : Int, (mx x1333000_1 t1335) = j_ := ⟨_, rfl⟩
      replace H : (Rf_Common.l0 k1 l0 l1 (wrap64 (x7_1 + 1)) ji12 (mn x1333001_1 t1336)) = some (r1, r2, r3) := by first | (rw [hji12] at H; exact H) | (simp only [hji12] at H ⊢; exact H)
      (try rw [hji12] at A8)
      (try rw [hji12] at A11)
      have hji12_ : (if x1333000_1 < t1335 then t1335 else x1333000_1) = ji12 := hji12
      obtain ⟨ji13, hji13⟩ : ∃ j_ : Int, (mn x1333001_1 t1336) = j_ := ⟨_, rfl⟩
      replace H : (Rf_Common.l0 k1 l0 l1 (wrap64 (x7_1 + 1)) ji12 ji13) = some (r1, r2, r3) := by first | (rw [hji13] at H; exact H) | (simp only [hji13] at H ⊢; exact H)
      (try rw [hji13] at A8)
      (try rw [hji13] at A11)
      have hji13_ : (if t1336 < x1333001_1 then t1336 else x1333001_1) = ji13 := hji13
      have H' := m0 H
      clear H
      go_wp2_with (first | ((with_reducible refine gate_callee (f := 119) rfl ?_); refine gl (some 18) Try.func119 #[.slice A1 l1.length c1, .int .i64 x7_1] ?_; (with_reducible refine (Bs_Has.calls k1 _ _ l1 x7_1 false _ ?side1 ?side2 A8.out).mono ?_); (case side1 => exact cb HR1 HB); (case side2 => exact HC1.out); rintro e w' ⟨rfl, ⟨nd, rfl⟩⟩; refine ⟨_, rfl, ?_⟩; (try (rw [drewN_self wr]; generalize hq_ : World.drewN wr _ = wr; replace BK1331 := gd BK1331 hq_; replace BK1332 := gd BK1332 hq_; replace HB := gs HB hq_; clear hq_)); have p1334 : 0 ≤ (x7_1 : Int) := od; have q1334 : x7_1 < (l0.length : Int) := od; obtain ⟨ad1334, e1334, hx1334_0, hx1334_1, hx1334_2⟩ := at_T85 HR0.out x7_1 p1334 q1334; cases e1334; replace hx1334_0 := (HB.out.cell (World.block_lt_of_cell? w _ hx1334_0)).trans hx1334_0; replace hx1334_1 := (HB.out.cell (World.block_lt_of_cell? w _ hx1334_1)).trans hx1334_1; replace hx1334_2 := (HB.out.cell (World.block_lt_of_cell? w _ hx1334_2)).trans hx1334_2; replace p1334 := eq_true p1334; replace q1334 := eq_true q1334) | ((with_reducible refine gate_callee (f := 120) rfl ?_); refine gl (some 23) Try.func120 #[.agg #[.int .i64 ((rd_T85 l0 x7_1).f0), .int .i64 ((rd_T85 l0 x7_1).f1), .int .i64 ((rd_T85 l0 x7_1).f2)]] ?_; (with_reducible refine (Rf_offsets.calls ((rd_T85 l0 x7_1).f0) ((rd_T85 l0 x7_1).f1) ((rd_T85 l0 x7_1).f2) t1335 t1336 _ A11.out).mono ?_); rintro e w14 ⟨rfl, hb⟩; refine ⟨_, rfl, ?_⟩; replace BK1331 := bb BK1331 hb; replace BK1332 := bb BK1332 hb; replace HB := sb HB hb; (try clear hb)) | ((with_reducible refine gate_dst (N := 8) rfl ?_); refine be 8 58 #[.int .i64 0, .int .i64 0] ?_; intro gb1337 hg w15 hbox hb; have BK1337 := m0 hbox; have GE1337 := gw w hg; replace HB := sb HB hb; have NB1331_1337 := nl BK1331 hg; have NB1337_1331 := ng (nl BK1331 hg); replace BK1331 := bb BK1331 hb; have NB1332_1337 := nl BK1332 hg; have NB1337_1332 := ng (nl BK1332 hg); replace BK1332 := bb BK1332 hb; clear hb hbox hg; have hnb16 := NB1337_1331.out; have hnc16 := NB1331_1337.out; have hnb17 := NB1337_1332.out; have hnc17 := NB1332_1337.out; obtain ⟨_, _, _, _⟩ := b2 BK1337; have hnb19 := NB1332_1331.out; have hnc19 := NB1331_1332.out; obtain ⟨_, _, _, _⟩ := b2 BK1332))
      go_roundg k1
      case measure => have := HK1.out; omega
      case rel => exact ⟨(wrap64 (x7_1 + 1)), (ji12), (ji13), (by first | rfl | (simp; done) | (simp [*]; done)), H', ⟨by have := HK1.out; omega⟩, ⟨bq BK1331.out⟩, ⟨by (with_reducible repeat (first | refine blk_drewN ?_ _ | refine blk_drew ?_ | refine blk_alloc ?_ _)); refine blk_put (cs := #[.int .i64 ji12, .int .i64 x1333001_1]) ?_ 1 _ rfl; (with_reducible repeat (first | refine blk_drewN ?_ _ | refine blk_drew ?_ | refine blk_alloc ?_ _)); refine blk_put (cs := #[.int .i64 x1333000_1, .int .i64 x1333001_1]) ?_ 0 _ rfl; (with_reducible repeat (first | refine blk_drewN ?_ _ | refine blk_drew ?_ | refine blk_alloc ?_ _)); refine blk_far ?_ NB1332_1337.out _; (with_reducible repeat (first | refine blk_drewN ?_ _ | refine blk_drew ?_ | refine blk_alloc ?_ _)); refine blk_far ?_ NB1332_1337.out _; (with_reducible repeat (first | refine blk_drewN ?_ _ | refine blk_drew ?_ | refine blk_alloc ?_ _)); exact BK1332.out⟩, ⟨bz⟩⟩
     ·rw [if_neg c10] at H
      exact absurd H (by simp)
   ·rw [if_neg c7] at H
    have c7b0 := decide_eq_false c7
    clear c7
    simp only [Option.some.injEq, Prod.mk.injEq] at H
    obtain ⟨rfl, rfl, rfl⟩ := H
    try go_wp2
    replace BK1331 := bd BK1331; replace BK1332 := bd BK1332; replace HB := sd HB
    refine start_ (n := 8) (S := fun w' => w'.cell? ⟨gb1332, 0, none⟩ = some (.int .i64 x1333000_1) ∧ w'.cell? ⟨gb1332, 1, none⟩ = some (.int .i64 x1333001_1)) (ds := []) #[false, false, false, false, false, false, false, false] (by kernel_rfl) rfl rfl cz (fun hH => ?_); refine with_tabW Rf_Common.tab8 Rf_Common.bits8 (fun HT_ HW_ => ?_)
    generalize wr.drew = w21 at BK1331 BK1332 HB hH ⊢
    refine pZ 1 (some 36) #[false, true, false, false, false, false, false, false] HT_ ?_
    refine pZ 3 (some 38) #[false, true, false, true, false, false, false, false] HT_ ?_
    refine takeZ 0 (some 35) #[true, true, false, true, false, false, false, false] (take_ofW HT_.out HW_.out (by kernel_rfl)) hH ?_
    refine takeZ 2 (some 37) #[true, true, true, true, false, false, false, false] (take_ofW HT_.out HW_.out (by kernel_rfl)) hH ?_
    refine takeZ 4 (some 39) #[true, true, true, true, true, false, false, false] (take_ofW HT_.out HW_.out (by kernel_rfl)) hH ?_
    refine pZ 5 (some 40) #[true, true, true, true, true, true, false, false] HT_ ?_
    refine oneZ 6 (none) #[true, true, true, true, true, true, true, false] (one_of HT_.out (by kernel_rfl)) fun K hK => ?_
    have hs22 : w21.cell? ⟨gb1331, 0, none⟩ = some (.int .i64 0) := (blk_cell BK1331.out 0).trans rfl
    have hfs22 := blk_frozen BK1331.out 0
    have hs23 : w21.cell? ⟨gb1331, 1, none⟩ = some (.int .i64 0) := (blk_cell BK1331.out 1).trans rfl
    have hfs23 := blk_frozen BK1331.out 1
    refine skip_ (w1 := ?_) (by rfl) rfl ?_ ?_
    rotate_left
    ·go_simp
     rfl
    refine hK.out _ _ (cf hH) (fun hH => ?_)
    clear hK K
    refine pZ 7 (some 5) #[true, true, true, true, true, true, true, true] HT_ ?_
    refine done_ (done_of HT_.out (by kernel_rfl)) ?_
    try go_wp2
    refine bodyPost_ret (results_ct rfl _ _ gb1331 58 #[.int .i64 x1333000_1, .int .i64 x1333001_1] (0, 0) _ rfl (bq BK1331.out) Try.underlying58 rfl (by kernel_rfl)) rfl ?_
    exact ez
end
section
def Rf_isLess.l0 : Nat → List Int → List Int → Int → Option (Bool)
 | 0, _, _, _ => none
 | k + 1, x0, x1, x5 => if x5 < (x0.length : Int) then (if 0 ≤ x5 then (if x5 < (x1.length : Int) then (if (rd x0 x5) = (rd x1 x5) then (Rf_isLess.l0 k x0 x1 (wrap64 (x5 + 1))) else (some (decide ((rd x0 x5) < (rd x1 x5))))) else (none)) else (none)) else (some false)
def Rf_isLess.f (k : Nat) (l0 : List Int) (l1 : List Int) : Option (Bool) := Rf_isLess.l0 k l0 l1 0
theorem Rf_isLess.mono_l : ∀ k, (∀ y0 y1 y2, LeO (Rf_isLess.l0 k y0 y1 y2) (Rf_isLess.l0 (k + 1) y0 y1 y2))
 | 0 => fun _ _ _ r h => by simp [Rf_isLess.l0] at h
 | k + 1 => by
  have ih0 := Rf_isLess.mono_l k
  ·intro y0 y1 y2
   unfold Rf_isLess.l0
   repeat' with_reducible first
    | exact ih0 ..
    | exact LeO.refl ..
    | exact LeO.none ..
    | refine LeO.ite ?_ ?_
    | refine LeO.bind ?_ (fun _ => ?_)
theorem Rf_isLess.mono : ∀ a0 a1 k, LeO (Rf_isLess.f k a0 a1) (Rf_isLess.f (k + 1) a0 a1) := by
 intro a0 a1 k
 have ih0 := Rf_isLess.mono_l k
 unfold Rf_isLess.f
 repeat' with_reducible first
  | exact ih0 ..
  | exact LeO.refl ..
  | exact LeO.none ..
  | refine LeO.ite ?_ ?_
  | refine LeO.bind ?_ (fun _ => ?_)
theorem Rf_isLess.calls (k : Nat) (A0 : Option Addr) (c0 : Nat) (l0 : List Int) (A1 : Option Addr) (c1 : Nat) (l1 : List Int) (r : Bool) (w : World) (hr0 : Kd.C (Kd.int .i64) w A0 l0.length l0) (hc0 : l0.length ≤ c0) (hr1 : Kd.C (Kd.int .i64) w A1 l1.length l1) (hc1 : l1.length ≤ c1) (h : Rf_isLess.f k l0 l1 = some r) :
  Calls Try.prog 122 #[.slice A0 l0.length c0, .slice A1 l1.length c1] w fun e w' => e = .returned (.bool r) ∧ Drawn0 w w' := by
 have HR0 := m0 hr0
 have HC0 := m0 hc0
 clear hr0 hc0
 have HR1 := m0 hr1
 have HC1 := m0 hc1
 clear hr1 hc1
 have H : (Rf_isLess.l0 k l0 l1 0) = some r := h
 clear h
 have H' := m0 H
 clear H
 go_enter Try.func122, Try.ntmps122
 go_wp2
 repeat (go_quiet (fail); try go_wp2)
 go_loopg [5] k (fun kq v5 w' => ∃ (x5_1 : Int), v5 = .int .i64 x5_1 ∧ Aside0 (Rf_isLess.l0 kq l0 l1 x5_1 = some r) ∧ Aside0 (kq ≤ k) ∧ Drawn0 w w')
 case atStart => exact ⟨(0), (by first | rfl | (simp; done) | (simp [*]; done)), H', ⟨Nat.le_refl _⟩, by repeat (first | exact Drawn0.refl _ | apply Drawn0.step)⟩
 case round =>
  clear H'
  obtain ⟨x5_1, rfl, HA, HK1, ⟨m1, rfl⟩⟩ := hrel
  cases gk with
  | zero => exact absurd HA.out (by simp [Rf_isLess.l0])
  | succ k1 =>
   have H := HA.out
   clear HA
   simp only [Rf_isLess.l0] at H
   by_cases c3 : x5_1 < (l0.length : Int)
   ·rw [if_pos c3] at H
    have c3b0 := decide_eq_true c3
    clear c3
    by_cases c4 : 0 ≤ x5_1
    ·rw [if_pos c4] at H
     have c4b0 := decide_eq_true c4
     clear c4
     by_cases c5 : x5_1 < (l1.length : Int)
     ·rw [if_pos c5] at H
      have c5b0 := decide_eq_true c5
      clear c5
      by_cases c6 : (rd l0 x5_1) = (rd l1 x5_1)
      ·rw [if_pos c6] at H
       have c6b0 := beq_iff_eq.mpr c6
       have c6b1 := bne_eq_false_iff_eq.mpr c6
       clear c6
       have H' := m0 H
       clear H
       have p1363 : 0 ≤ (x5_1 : Int) := od
       have q1363 : x5_1 < (l0.length : Int) := od
       obtain ⟨ad1363, e1363, hx1363_0⟩ := Kd.at_int HR0.out x5_1 p1363 q1363
       cases e1363
       replace p1363 := eq_true p1363
       replace q1363 := eq_true q1363
       have p1364 : 0 ≤ (x5_1 : Int) := od
       have q1364 : x5_1 < (l1.length : Int) := od
       obtain ⟨ad1364, e1364, hx1364_0⟩ := Kd.at_int HR1.out x5_1 p1364 q1364
       cases e1364
       replace p1364 := eq_true p1364
       replace q1364 := eq_true q1364
       go_wp2
       repeat (go_quiet (fail); try go_wp2)
       go_roundg k1
       case measure => have := HK1.out; omega
       case rel => exact ⟨(wrap64 (x5_1 + 1)), (by first | rfl | (simp; done) | (simp [*]; done)), H', ⟨by have := HK1.out; omega⟩, by repeat (first | exact Drawn0.refl _ | apply Drawn0.step)⟩
      ·rw [if_neg c6] at H
       have c6b0 := beq_eq_false_iff_ne.mpr c6
       have c6b1 := bne_iff_ne.mpr c6
       obtain rfl := Option.some.inj H
       have p1363 : 0 ≤ (x5_1 : Int) := od
       have q1363 : x5_1 < (l0.length : Int) := od
       obtain ⟨ad1363, e1363, hx1363_0⟩ := Kd.at_int HR0.out x5_1 p1363 q1363
       cases e1363
       replace p1363 := eq_true p1363
       replace q1363 := eq_true q1363
       have p1364 : 0 ≤ (x5_1 : Int) := od
       have q1364 : x5_1 < (l1.length : Int) := od
       obtain ⟨ad1364, e1364, hx1364_0⟩ := Kd.at_int HR1.out x5_1 p1364 q1364
       cases e1364
       replace p1364 := eq_true p1364
       replace q1364 := eq_true q1364
       have p1365 : 0 ≤ (x5_1 : Int) := od
       have q1365 : x5_1 < (l0.length : Int) := od
       obtain ⟨ad1365, e1365, hx1365_0⟩ := Kd.at_int HR0.out x5_1 p1365 q1365
       obtain rfl : ad1363 = ad1365 := (by injection e1365)
       replace p1365 := eq_true p1365
       replace q1365 := eq_true q1365
       have p1366 : 0 ≤ (x5_1 : Int) := od
       have q1366 : x5_1 < (l1.length : Int) := od
       obtain ⟨ad1366, e1366, hx1366_0⟩ := Kd.at_int HR1.out x5_1 p1366 q1366
       obtain rfl : ad1364 = ad1366 := (by injection e1366)
       replace p1366 := eq_true p1366
       replace q1366 := eq_true q1366
       go_wp2
       repeat (go_quiet (fail); try go_wp2)
       go_ret
       exact ⟨by first | rfl | (simp; done) | (simp [*]; done), by repeat (first | exact Drawn0.refl _ | apply Drawn0.step)⟩
     ·rw [if_neg c5] at H
      exact absurd H (by simp)
    ·rw [if_neg c4] at H
     exact absurd H (by simp)
   ·rw [if_neg c3] at H
    have c3b0 := decide_eq_false c3
    clear c3
    obtain rfl := Option.some.inj H
    go_wp2
    repeat (go_quiet (fail); try go_wp2)
    go_ret
    exact ⟨by first | rfl | (simp; done) | (simp [*]; done), by repeat (first | exact Drawn0.refl _ | apply Drawn0.step)⟩
end
section
mutual
def Rf_Bad.l0 : Nat → List (S85) → List Int → Bool → Int → Option (List Int)
  | 0, _, _, _, _ => none
  | k + 1, x0, x3, x4, x5 => if x5 < (shl .i64 1 (x0.length : Int)) then (Rf_Bad.l1 k x0 x3 x4 x5 ([] : List Int) 0) else (some x3)
def Rf_Bad.l1 : Nat → List (S85) → List Int → Bool → Int → List Int → Int → Option (List Int)
  | 0, _, _, _, _, _, _ => none
  | k + 1, x0, x3, x4, x5, x6, x7 => if x7 < (x0.length : Int) then (if 0 ≤ x7 then (if (Go.bits .and .i64 (shr .i64 x5 x7) 1) = 1 then (if x6.length < 17592186044416 then (Rf_Bad.l1 k x0 x3 x4 x5 (x6 ++ [x7]) (wrap64 (x7 + 1))) else (none)) else (Rf_Bad.l1 k x0 x3 x4 x5 x6 (wrap64 (x7 + 1)))) else (none)) else (if x4 = true then (if (x6.length : Int) > (x3.length : Int) then (Rf_Bad.j2 k x0 x3 x4 x5 x6 true) else (if (x6.length : Int) = (x3.length : Int) then ((Rf_isLess.f k x6 x3).bind fun t1370 => (Rf_Bad.j2 k x0 x3 x4 x5 x6 (!t1370))) else (Rf_Bad.j2 k x0 x3 x4 x5 x6 false))) else (Rf_Bad.j2 k x0 x3 x4 x5 x6 false))
def Rf_Bad.j2 : Nat → List (S85) → List Int → Bool → Int → List Int → Bool → Option (List Int)
  | 0, _, _, _, _, _, _ => none
  | k + 1, x0, x3, x4, x5, x6, x52 => if x52 = true then (Rf_Bad.l0 k x0 x3 x4 (wrap64 (x5 + 1))) else ((Rf_Common.f k x0 x6).bind fun bt1371 => (if bt1371.2.2 = true then (Rf_Bad.l0 k x0 x6 true (wrap64 (x5 + 1))) else (Rf_Bad.l0 k x0 x3 x4 (wrap64 (x5 + 1)))))
end
def Rf_Bad.f (k : Nat) (l0 : List (S85)) : Option (List Int) := Rf_Bad.l0 k l0 ([] : List Int) false 0
theorem Rf_Bad.mono_l : ∀ k, (∀ y0 y1 y2 y3, LeO (Rf_Bad.l0 k y0 y1 y2 y3) (Rf_Bad.l0 (k + 1) y0 y1 y2 y3)) ∧ (∀ y0 y1 y2 y3 y4 y5, LeO (Rf_Bad.l1 k y0 y1 y2 y3 y4 y5) (Rf_Bad.l1 (k + 1) y0 y1 y2 y3 y4 y5)) ∧ (∀ y0 y1 y2 y3 y4 y5, LeO (Rf_Bad.j2 k y0 y1 y2 y3 y4 y5) (Rf_Bad.j2 (k + 1) y0 y1 y2 y3 y4 y5))
  | 0 => ⟨fun _ _ _ _ r h => by simp [Rf_Bad.l0] at h, fun _ _ _ _ _ _ r h => by simp [Rf_Bad.l1] at h, fun _ _ _ _ _ _ r h => by simp [Rf_Bad.j2] at h⟩
  | k + 1 => by
    obtain ⟨ih0, ih1, ih2⟩ := Rf_Bad.mono_l k
    refine ⟨?_, ?_, ?_⟩
    · intro y0 y1 y2 y3
      unfold Rf_Bad.l0
      repeat' with_reducible first
        | exact ih0 ..
        | exact ih1 ..
        | exact ih2 ..
        | exact Rf_Common.mono ..
        | exact Rf_isLess.mono ..
        | exact LeO.refl ..
        | exact LeO.none ..
        | refine LeO.ite ?_ ?_
        | refine LeO.bind ?_ (fun _ => ?_)
    · intro y0 y1 y2 y3 y4 y5
      unfold Rf_Bad.l1
      repeat' with_reducible first
        | exact ih0 ..
        | exact ih1 ..
        | exact ih2 ..
        | exact Rf_Common.mono ..
        | exact Rf_isLess.mono ..
        | exact LeO.refl ..
        | exact LeO.none ..
        | refine LeO.ite ?_ ?_
        | refine LeO.bind ?_ (fun _ => ?_)
    · intro y0 y1 y2 y3 y4 y5
      unfold Rf_Bad.j2
      repeat' with_reducible first
        | exact ih0 ..
        | exact ih1 ..
        | exact ih2 ..
        | exact Rf_Common.mono ..
        | exact Rf_isLess.mono ..
        | exact LeO.refl ..
        | exact LeO.none ..
        | refine LeO.ite ?_ ?_
        | refine LeO.bind ?_ (fun _ => ?_)
theorem Rf_Bad.mono : ∀ a0 k, LeO (Rf_Bad.f k a0) (Rf_Bad.f (k + 1) a0) := by
  intro a0 k
  obtain ⟨ih0, ih1, ih2⟩ := Rf_Bad.mono_l k
  unfold Rf_Bad.f
  repeat' with_reducible first
    | exact ih0 ..
    | exact ih1 ..
    | exact ih2 ..
    | exact Rf_Common.mono ..
    | exact Rf_isLess.mono ..
    | exact LeO.refl ..
    | exact LeO.none ..
    | refine LeO.ite ?_ ?_
    | refine LeO.bind ?_ (fun _ => ?_)
theorem Rf_Bad.calls (k : Nat) (A0 : Option Addr) (c0 : Nat) (l0 : List (S85)) (r : List Int) (w : World) (hr0 : Kd.C k85 w A0 l0.length l0) (hc0 : l0.length ≤ c0) (h : Rf_Bad.f k l0 = some r) :
    Calls Try.prog 61 #[.slice A0 l0.length c0] w fun e w' => ∃ v0_ : Value, e = .returned (v0_) ∧ Kd.R (Kd.int .i64) 3 w' w.heap.size (fun _ => True) v0_ r ∧ Below w.heap.size w w' := by
  have hu58 := Try.underlying58
  have HR0 := m0 hr0
  have HC0 := m0 hc0
  clear hr0 hc0
  have HB := m0 (Below.refl w.heap.size w)
  have H : (Rf_Bad.l0 k l0 ([] : List Int) false 0) = some r := h
  clear h
  have H' := m0 H
  clear H
  go_enter Try.func61, Try.ntmps61
  go_wp2
  go_loopg [3, 4, 5] k (fun kq v3 v4 v5 w' => ∃ (x3_1 : List Int) (x4_1 : Bool) (x5_1 : Int), v4 = .bool x4_1 ∧ v5 = .int .i64 x5_1 ∧ Aside0 (Rf_Bad.l0 kq l0 x3_1 x4_1 x5_1 = some r) ∧ Aside0 (kq ≤ k) ∧ Aside0 (Kd.R (Kd.int .i64) 3 w' w.heap.size (fun _ => True) v3 x3_1) ∧ Aside0 (Below w.heap.size w w'))
  case atStart => exact ⟨(([] : List Int)), (false), (0), (by first | rfl | (simp; done) | (simp [*]; done)), (by first | rfl | (simp; done) | (simp [*]; done)), H', ⟨Nat.le_refl _⟩, ⟨by first | exact Kd.R_nil _ _ _ _ _ | exact Kd.N_nil _ _ _ _ _ | exact Kd.V_nil _ _ _ _ _ | exact Kd.Q_nil _ _ _ _ _ | exact Kd.S_nil _ _ _ _ _⟩, ⟨bz⟩⟩
  case round =>
    clear H'
    obtain ⟨x3_1, x4_1, x5_1, rfl, rfl, HA, HK1, HO_3, HB⟩ := hrel
    cases gk with
    | zero => exact absurd HA.out (by simp [Rf_Bad.l0])
    | succ k1 =>
      have H := HA.out
      clear HA
      simp only [Rf_Bad.l0] at H
      obtain ⟨ji2, hji2⟩ : ∃ j_ : Int, (shl .i64 1 (l0.length : Int)) = j_ := ⟨_, rfl⟩
      replace H : (if x5_1 < (ji2) then (Rf_Bad.l1 k1 l0 x3_1 x4_1 x5_1 ([] : List Int) 0) else (some x3_1)) = some r := by first | (rw [hji2] at H; exact H) | (simp only [hji2] at H ⊢; exact H)
      have hji2_ : (IntKind.i64.wrap (1 * 2 ^ min (l0.length : Int).toNat 64)) = ji2 := hji2
      have hji2z : (l0.length : Int) ≤ 64 → (IntKind.i64.wrap (1 * 2 ^ (l0.length : Int).toNat)) = ji2 := shl_small hji2
      have hji2p : (IntKind.i64.wrap (1 * 2 ^ min l0.length 64)) = ji2 := hji2_
      have hji2q : (l0.length : Int) ≤ 64 → (IntKind.i64.wrap (1 * 2 ^ l0.length)) = ji2 := hji2z
      have hji2r : (IntKind.i64.wrap (2 ^ min l0.length 64)) = ji2 := by have h_ := hji2p; rw [Int.one_mul] at h_; exact h_
      have hji2s : (l0.length : Int) ≤ 64 → (IntKind.i64.wrap (2 ^ l0.length)) = ji2 := fun hle_ => by have h_ := hji2q hle_; rw [Int.one_mul] at h_; exact h_
      have hji2u : (IntKind.i64.wrap (2 ^ min (l0.length : Int).toNat 64)) = ji2 := by have h_ := hji2_; rw [Int.one_mul] at h_; exact h_
      have hji2v : (l0.length : Int) ≤ 64 → (IntKind.i64.wrap (2 ^ (l0.length : Int).toNat)) = ji2 := fun hle_ => by have h_ := hji2z hle_; rw [Int.one_mul] at h_; exact h_
      have hji2y : (wrap64 (1 * 2 ^ min (l0.length : Int).toNat 64)) = ji2 := (i64_w _).symm.trans hji2_
      have hji2x : (l0.length : Int) ≤ 64 → (wrap64 (1 * 2 ^ (l0.length : Int).toNat)) = ji2 := fun h_ => (i64_w _).symm.trans (hji2z h_)
      by_cases c3 : x5_1 < (ji2)
      · rw [if_pos c3] at H
        have c3b0 := decide_eq_true c3
        clear c3
        have H' := m0 H
        clear H
        go_wp2
        go_loopg [6, 7] k1 (fun kq v6 v7 w' => ∃ (x6_2 : List Int) (x7_2 : Int), v7 = .int .i64 x7_2 ∧ Aside0 (Rf_Bad.l1 kq l0 x3_1 x4_1 x5_1 x6_2 x7_2 = some r) ∧ Aside0 (kq ≤ k1) ∧ Aside0 (Kd.R (Kd.int .i64) 3 w' w.heap.size (fun k_ => some k_ ≠ (v6 : Value).ownBlock) u3 x3_1) ∧ Aside0 (Kd.R (Kd.int .i64) 3 w' w.heap.size (fun k_ => some k_ ≠ (u3 : Value).ownBlock) v6 x6_2) ∧ Aside0 (Below w.heap.size w w'))
        case atStart => exact ⟨(([] : List Int)), (0), (by first | rfl | (simp; done) | (simp [*]; done)), H', ⟨Nat.le_refl _⟩, ⟨by (with_reducible repeat (first | apply Kd.R_alloc | apply Kd.R_drewN | apply Kd.R_drew)); exact Kd.R_mono HO_3.out (fun _ hk => (by simp [Value.ownBlock]))⟩, ⟨by first | exact Kd.R_nil _ _ _ _ _ | exact Kd.N_nil _ _ _ _ _ | exact Kd.V_nil _ _ _ _ _ | exact Kd.Q_nil _ _ _ _ _ | exact Kd.S_nil _ _ _ _ _⟩, ⟨bz⟩⟩
        case round =>
          clear H'
          obtain ⟨x6_2, x7_2, rfl, HA, HK2, HO_3, HO_6, HB⟩ := hrel
          cases gk with
          | zero => exact absurd HA.out (by simp [Rf_Bad.l1])
          | succ k2 =>
            have H := HA.out
            clear HA
            simp only [Rf_Bad.l1] at H
            by_cases c4 : x7_2 < (l0.length : Int)
            · rw [if_pos c4] at H
              have c4b0 := decide_eq_true c4
              clear c4
              by_cases c5 : 0 ≤ x7_2
              · rw [if_pos c5] at H
                have c5b0 := eq_true c5
                have c5b1 := decide_eq_true c5
                clear c5
                obtain ⟨ji6, hji6⟩ : ∃ j_ : Int, (shr .i64 x5_1 x7_2) = j_ := ⟨_, rfl⟩
                replace H : (if (Go.bits .and .i64 (ji6) 1) = 1 then (if x6_2.length < 17592186044416 then (Rf_Bad.l1 k2 l0 x3_1 x4_1 x5_1 (x6_2 ++ [x7_2]) (wrap64 (x7_2 + 1))) else (none)) else (Rf_Bad.l1 k2 l0 x3_1 x4_1 x5_1 x6_2 (wrap64 (x7_2 + 1)))) = some r := by first | (rw [hji6] at H; exact H) | (simp only [hji6] at H ⊢; exact H)
                have hji6_ : (x5_1 / 2 ^ min x7_2.toNat 64) = ji6 := hji6
                have hji6z : x7_2 ≤ 64 → (x5_1 / 2 ^ x7_2.toNat) = ji6 := shr_small hji6
                by_cases c7 : (Go.bits .and .i64 (ji6) 1) = 1
                · rw [if_pos c7] at H
                  have c7b0 := beq_iff_eq.mpr c7
                  have c7b1 := bne_eq_false_iff_eq.mpr c7
                  clear c7
                  by_cases c8 : x6_2.length < 17592186044416
                  · rw [if_pos c8] at H
                    have LMc8 := m0 c8
                    clear c8
                    obtain ⟨y1367, hy1367⟩ : ∃ y_ : List Int, y_ = (x6_2 ++ [x7_2]) := ⟨_, rfl⟩
                    replace H : (Rf_Bad.l1 k2 l0 x3_1 x4_1 x5_1 y1367 (wrap64 (x7_2 + 1))) = some r := by first | (rw [hy1367]; with_reducible exact H) | (have H2_ := (Option.bind_some _ _).symm.trans H; rw [hy1367]; with_reducible exact H2_) | (have H2_ := (Option.bind_some _ _).symm.trans H; with_reducible exact H2_) | with_reducible exact H | (rw [hy1367]; exact H) | exact H
                    have Ny1367 := m0 hy1367
                    clear hy1367
                    have H' := m0 H
                    clear H
                    go_wp2_with (first | ((with_reducible refine gate_builtin (b := .append) (xs := #[.tmp 28, .tmp 30]) rfl ?_); (try (refine gate_guard (by rfl) ?_; dsimp only)); at_builtin; refine Kd.R_append (Kd.int .i64) (w0 := w) w.heap.size rfl (.tmp 28) (.tmp 30) 28 3 (.int .i64 0) 8 rfl Try.underlying28 info3 rfl (by decide) (by omega) u6 x6_2 x7_2 [.int .i64 x7_2] (fun k_ => some k_ ≠ (u3 : Value).ownBlock) (fun _ => False) rfl rfl ?aP (fun _ hk => hk.elim) ?aF ?aO ?aB ?aS ?aL ?_; (case aP => exact rfl); (case aB => exact bz); (case aF => exact (fun k_ hk => Kd.fresh' (Kd.R_lt (br HO_3.out)) k_ hk)); (case aO => exact (br HO_6.out)); (case aS => exact (below_size bz)); (case aL => have := LMc8.out; omega); intro v1368 w9 ho hb hg hat; rw [← Ny1367.out] at ho; have n0_ := m0 (Kd.R_after (ok := (fun _ => True)) (by (with_reducible repeat (first | apply Kd.R_alloc | apply Kd.R_drewN | apply Kd.R_drew)); exact Kd.R_mono HO_3.out (fun _ hk => ⟨trivial, hk⟩)) hg hat); have n1_ := m0 (hb); have n2_ := m0 (ho); clear HO_3; clear HB; clear HO_6; have HO_3 := n0_; have HB := n1_; have HO1369 := n2_; clear n0_ n1_ n2_; clear ho hb hg hat))
                    go_roundg k2
                    case measure => have := HK1.out; have := HK2.out; omega
                    case rel => exact ⟨(y1367), (wrap64 (x7_2 + 1)), (by first | rfl | (simp; done) | (simp [*]; done)), H', ⟨by have := HK1.out; have := HK2.out; omega⟩, ⟨by (with_reducible repeat (first | apply Kd.R_alloc | apply Kd.R_drewN | apply Kd.R_drew)); exact Kd.R_mono HO_3.out (fun _ hk => hk.2)⟩, ⟨br HO1369.out⟩, ⟨bz⟩⟩
                  · rw [if_neg c8] at H
                    exact absurd H (by simp)
                · rw [if_neg c7] at H
                  have c7b0 := beq_eq_false_iff_ne.mpr c7
                  have c7b1 := bne_iff_ne.mpr c7
                  have H' := m0 H
                  clear H
                  go_wp2
                  go_roundg k2
                  case measure => have := HK1.out; have := HK2.out; omega
                  case rel => exact ⟨(x6_2), (wrap64 (x7_2 + 1)), (by first | rfl | (simp; done) | (simp [*]; done)), H', ⟨by have := HK1.out; have := HK2.out; omega⟩, ⟨br HO_3.out⟩, ⟨br HO_6.out⟩, ⟨bz⟩⟩
              · rw [if_neg c5] at H
                exact absurd H (by simp)
            · rw [if_neg c4] at H
              have c4b0 := decide_eq_false c4
              clear c4
              have HC10 := m0 H
              clear H
              go_upto_region 12 with (fail)
              go_cut [52] (fun v52 wc => ∃ (kq : Nat) (x52_9 : Bool), v52 = .bool x52_9 ∧ Aside0 (Rf_Bad.j2 kq l0 x3_1 x4_1 x5_1 x6_2 x52_9 = some r) ∧ Aside0 (kq ≤ k2) ∧ Aside0 (Kd.R (Kd.int .i64) 3 wc w.heap.size (fun k_ => some k_ ≠ (u6 : Value).ownBlock) u3 x3_1) ∧ Aside0 (Kd.R (Kd.int .i64) 3 wc w.heap.size (fun k_ => some k_ ≠ (u3 : Value).ownBlock) u6 x6_2) ∧ Aside0 (Below w.heap.size w wc))
              case first =>
                have H := HC10.out
                clear HC10
                by_cases c11 : x4_1 = true
                · subst c11
                  rw [if_pos rfl] at H
                  by_cases c12 : (x6_2.length : Int) > (x3_1.length : Int)
                  · rw [if_pos c12] at H
                    have c12b0 := decide_eq_true c12
                    have c12b1 : decide (x3_1.length < x6_2.length) = true := decide_eq_true (Int.ofNat_lt.mp c12)
                    clear c12
                    (first | rw [c12b0] | (simp only [i64_w, i32_w]; rw [c12b0]) | skip)
                    have H' := m0 H
                    clear H
                    obtain ⟨Ao13, co13, eo13⟩ := Kd.R_slice HO_6.out
                    subst eo13
                    obtain ⟨Ao14, co14, eo14⟩ := Kd.R_slice HO_3.out
                    subst eo14
                    go_wp2
                    go_meet
                    case rel => exact ⟨_, (true), (by first | rfl | (simp; done) | (simp [*]; done)), H', ⟨by have := HK1.out; have := HK2.out; first | omega | exact Nat.le_refl _⟩, ⟨br HO_3.out⟩, ⟨br HO_6.out⟩, ⟨bz⟩⟩
                  · rw [if_neg c12] at H
                    have c12b0 := decide_eq_false c12
                    have c12b1 : decide (x3_1.length < x6_2.length) = false := decide_eq_false (fun h => c12 (Int.ofNat_lt.mpr h))
                    clear c12
                    (first | rw [c12b0] | (simp only [i64_w, i32_w]; rw [c12b0]) | skip)
                    by_cases c15 : (x6_2.length : Int) = (x3_1.length : Int)
                    · rw [if_pos c15] at H
                      have c15b0 := beq_iff_eq.mpr c15
                      have c15b1 := bne_eq_false_iff_eq.mpr c15
                      have c15b2 : (x6_2.length == x3_1.length) = true := by first | simpa using c15 | (simp at c15 ⊢; omega)
                      clear c15
                      replace H := ob H
                      obtain ⟨t1370, A16, H⟩ := H
                      (try dsimp only at H)
                      replace A16 := m0 A16
                      have H' := m0 H
                      clear H
                      obtain ⟨Ao17, co17, eo17⟩ := Kd.R_slice HO_6.out
                      subst eo17
                      obtain ⟨Ao18, co18, eo18⟩ := Kd.R_slice HO_3.out
                      subst eo18
                      go_wp2_with (first | (go_at_call 122; (with_reducible refine (Rf_isLess.calls k2 _ _ x6_2 _ _ x3_1 t1370 _ ?side1 ?side2 ?side3 ?side4 A16.out).mono ?_); (case side1 => exact bc (Kd.R_reads' HO_6.out).2.2); (case side2 => exact (Kd.R_reads' HO_6.out).2.1); (case side3 => exact bc (Kd.R_reads' HO_3.out).2.2); (case side4 => exact (Kd.R_reads' HO_3.out).2.1); rintro e w' ⟨rfl, ⟨nd, rfl⟩⟩))
                      go_meet
                      case rel => exact ⟨_, (!t1370), (by first | rfl | (simp; done) | (simp [*]; done)), H', ⟨by have := HK1.out; have := HK2.out; first | omega | exact Nat.le_refl _⟩, ⟨br HO_3.out⟩, ⟨br HO_6.out⟩, ⟨bz⟩⟩
                    · rw [if_neg c15] at H
                      have c15b0 := beq_eq_false_iff_ne.mpr c15
                      have c15b1 := bne_iff_ne.mpr c15
                      have c15b2 : (x6_2.length == x3_1.length) = false := by first | simpa using c15 | (simp at c15 ⊢; omega)
                      have H' := m0 H
                      clear H
                      obtain ⟨Ao19, co19, eo19⟩ := Kd.R_slice HO_6.out
                      subst eo19
                      obtain ⟨Ao20, co20, eo20⟩ := Kd.R_slice HO_3.out
                      subst eo20
                      go_wp2
                      go_meet
                      case rel => exact ⟨_, (false), (by first | rfl | (simp; done) | (simp [*]; done)), H', ⟨by have := HK1.out; have := HK2.out; first | omega | exact Nat.le_refl _⟩, ⟨br HO_3.out⟩, ⟨br HO_6.out⟩, ⟨bz⟩⟩
                · replace c11 := Bool.eq_false_iff.mpr c11
                  subst c11
                  rw [if_neg (show ¬ (false = true) by decide)] at H
                  have H' := m0 H
                  clear H
                  go_wp2
                  go_meet
                  case rel => exact ⟨_, (false), (by first | rfl | (simp; done) | (simp [*]; done)), H', ⟨by have := HK1.out; have := HK2.out; first | omega | exact Nat.le_refl _⟩, ⟨br HO_3.out⟩, ⟨br HO_6.out⟩, ⟨bz⟩⟩
              case rest =>
                clear HC10
                obtain ⟨kq, x52_9, rfl, HA, HJ9, HO_3, HO_6, HB⟩ := hcut
                cases kq with
                | zero => exact absurd HA.out (by simp [Rf_Bad.j2])
                | succ kj9 =>
                  have H := HA.out
                  clear HA
                  simp only [Rf_Bad.j2] at H
                  by_cases c21 : x52_9 = true
                  · subst c21
                    rw [if_pos rfl] at H
                    have H' := m0 H
                    clear H
                    go_wp2
                    go_roundg kj9
                    case measure => have := HK1.out; have := HK2.out; have := HJ9.out; omega
                    case rel => exact ⟨(x3_1), (x4_1), (wrap64 (x5_1 + 1)), (by first | rfl | (simp; done) | (simp [*]; done)), (by first | rfl | (simp; done) | (simp [*]; done)), H', ⟨by have := HK1.out; have := HK2.out; have := HJ9.out; omega⟩, ⟨by (with_reducible repeat (first | apply Kd.R_alloc | apply Kd.R_drewN | apply Kd.R_drew)); exact Kd.R_mono HO_3.out (fun _ hk => trivial)⟩, ⟨bz⟩⟩
                  · replace c21 := Bool.eq_false_iff.mpr c21
                    subst c21
                    rw [if_neg (show ¬ (false = true) by decide)] at H
                    replace H := ob H
                    obtain ⟨⟨t1371, t1372, t1373⟩, A22, H⟩ := H
                    (try dsimp only at H)
                    replace A22 := m0 A22
                    by_cases c23 : t1373 = true
                    · subst c23
                      rw [if_pos rfl] at H
                      have H' := m0 H
                      clear H
                      obtain ⟨Ao24, co24, eo24⟩ := Kd.R_slice HO_6.out
                      subst eo24
                      go_wp2_with (first | ((with_reducible refine gate_callee (f := 59) rfl ?_); refine gl (some 56) Try.func59 #[.slice A0 l0.length c0, .slice Ao24 x6_2.length co24] ?_; (with_reducible refine (Rf_Common.calls kj9 _ _ l0 _ _ x6_2 t1371 t1372 true _ ?side1 ?side2 ?side3 ?side4 A22.out).mono ?_); (case side1 => exact cb HR0 HB); (case side2 => exact HC0.out); (case side3 => exact bc (Kd.R_reads' HO_6.out).2.2); (case side4 => exact (Kd.R_reads' HO_6.out).2.1); rintro e w25 ⟨rfl, hb⟩; refine ⟨_, rfl, ?_⟩; replace HO_3 := rb HO_3 hb; replace HO_6 := rb HO_6 hb; replace HB := sb HB hb; (try clear hb)) | ((with_reducible refine gate_dst (N := 8) rfl ?_); (try (refine gate_guard (by rfl) ?_; dsimp only)); refine be 8 58 #[.int .i64 0, .int .i64 0] ?_; intro gb1374 hg w26 hbox hb; replace HO_3 := rb HO_3 hb; replace HO_6 := rb HO_6 hb; have BK1374 := m0 hbox; have GE1374 := gw w hg; replace HB := sb HB hb; clear hb hbox hg; obtain ⟨_, _, _, _⟩ := b2 BK1374))
                      go_roundg kj9
                      case measure => have := HK1.out; have := HK2.out; have := HJ9.out; omega
                      case rel => exact ⟨(x6_2), (true), (wrap64 (x5_1 + 1)), (by first | rfl | (simp; done) | (simp [*]; done)), (by first | rfl | (simp; done) | (simp [*]; done)), H', ⟨by have := HK1.out; have := HK2.out; have := HJ9.out; omega⟩, ⟨by (with_reducible repeat (first | apply Kd.R_alloc | apply Kd.R_drewN | apply Kd.R_drew)); exact Kd.R_mono (Kd.R_far (p := ⟨gb1374, 1, none⟩) (Kd.R_far (p := ⟨gb1374, 0, none⟩) (Kd.R_types HO_6.out BK1374.out (by decide)) (fun _ hk => hk.2) (.int .i64 t1371)) (fun _ hk => hk.2) (.int .i64 t1372)) (fun _ hk => trivial)⟩, ⟨bz⟩⟩
                    · replace c23 := Bool.eq_false_iff.mpr c23
                      subst c23
                      rw [if_neg (show ¬ (false = true) by decide)] at H
                      have H' := m0 H
                      clear H
                      obtain ⟨Ao28, co28, eo28⟩ := Kd.R_slice HO_6.out
                      subst eo28
                      go_wp2_with (first | ((with_reducible refine gate_callee (f := 59) rfl ?_); refine gl (some 56) Try.func59 #[.slice A0 l0.length c0, .slice Ao28 x6_2.length co28] ?_; (with_reducible refine (Rf_Common.calls kj9 _ _ l0 _ _ x6_2 t1371 t1372 false _ ?side1 ?side2 ?side3 ?side4 A22.out).mono ?_); (case side1 => exact cb HR0 HB); (case side2 => exact HC0.out); (case side3 => exact bc (Kd.R_reads' HO_6.out).2.2); (case side4 => exact (Kd.R_reads' HO_6.out).2.1); rintro e w29 ⟨rfl, hb⟩; refine ⟨_, rfl, ?_⟩; replace HO_3 := rb HO_3 hb; replace HO_6 := rb HO_6 hb; replace HB := sb HB hb; (try clear hb)) | ((with_reducible refine gate_dst (N := 8) rfl ?_); (try (refine gate_guard (by rfl) ?_; dsimp only)); refine be 8 58 #[.int .i64 0, .int .i64 0] ?_; intro gb1374 hg w30 hbox hb; replace HO_3 := rb HO_3 hb; replace HO_6 := rb HO_6 hb; have BK1374 := m0 hbox; have GE1374 := gw w hg; replace HB := sb HB hb; clear hb hbox hg; obtain ⟨_, _, _, _⟩ := b2 BK1374))
                      go_roundg kj9
                      case measure => have := HK1.out; have := HK2.out; have := HJ9.out; omega
                      case rel => exact ⟨(x3_1), (x4_1), (wrap64 (x5_1 + 1)), (by first | rfl | (simp; done) | (simp [*]; done)), (by first | rfl | (simp; done) | (simp [*]; done)), H', ⟨by have := HK1.out; have := HK2.out; have := HJ9.out; omega⟩, ⟨by (with_reducible repeat (first | apply Kd.R_alloc | apply Kd.R_drewN | apply Kd.R_drew)); exact Kd.R_mono (Kd.R_far (p := ⟨gb1374, 1, none⟩) (Kd.R_far (p := ⟨gb1374, 0, none⟩) (Kd.R_types HO_3.out BK1374.out (by decide)) (fun _ hk => hk.2) (.int .i64 t1371)) (fun _ hk => hk.2) (.int .i64 t1372)) (fun _ hk => trivial)⟩, ⟨bz⟩⟩
      · rw [if_neg c3] at H
        have c3b0 := decide_eq_false c3
        clear c3
        obtain rfl := Option.some.inj H
        go_wp2
        go_ret
        exact ⟨_, by first | rfl | (simp [errW_none, errW_some] <;> rfl) | (simp only [← hji2]; first | rfl | (simp [errW_none, errW_some] <;> rfl)) | (simp [*, errW_none, errW_some] <;> rfl), by (with_reducible repeat (first | apply Kd.R_alloc | apply Kd.R_drewN | apply Kd.R_drew)); exact HO_3.out, by repeat (first | (with_reducible first | exact HB.out | apply below_alloc | apply pw_below_drewN | apply below_drew1) | exact HB.out)⟩
end
end Go.Proofs.Ytibhfahbabgbaaa.A
