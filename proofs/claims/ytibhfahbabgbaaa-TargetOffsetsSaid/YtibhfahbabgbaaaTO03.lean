/- Walks of the program's functions (printed, made shorter), each with what it computes. -/
import Derived.Test.YtibhfahbabgbaaaB05
import Derived.Test.YtibhfahbabgbaaaB08
import Derived.Test.YtibhfahbabgbaaaB12
import Derived.Test.YtibhfahbabgbaaaB16
import Derived.Test.YtibhfahbabgbaaaTO01
import Derived.Test.YtibhfahbabgbaaaTO02
import Derived.Test.YtibhfahbabgbaaaB04
namespace Go.Proofs.Ytibhfahbabgbaaa.A
set_option maxHeartbeats 8000000
set_option maxRecDepth 100000
open Go.RowKit Go.Proofs.YtibhfahbabgbaaaW.PrintWords Go.Proofs.YtibhfahbabgbaaaW.PrintLast Go.Proofs.YtibhfahbabgbaaaW.PrintMore
attribute [local go_sem] max2_int min2_int max_two min_two max_three min_three max_four min_four
set_option linter.unusedVariables false
set_option linter.unusedSimpArgs false
attribute [local go_sem high] eqA58
mutual
def Lw_TargetOffsets.j0 : Nat → List (S85) → Int → Int → Int → List Int → Int → Int → Bool → Int → Int → Int → Int → Option (Bool)
  | 0, _, _, _, _, _, _, _, _, _, _, _, _ => none
  | k + 1, x0, x6, x8, x9, x10, x11, x13, x60, x1389000, x1389001, x1397000, x1397001 => if x60 = true then (none) else (if x13 = 0 then ((Rf_Common.f k x0 ([] : List Int)).bind fun bt1406 => (if bt1406.2.2 = true then (if x6 = 0 then (if (!(x1389000 == bt1406.1) || (!(x1389001 == bt1406.2.1))) = true then (none) else (Lw_TargetOffsets.j1 k x0 x8 x9 x10 x11 false x1397000 x1397001)) else (none)) else (if x6 = 12 then (Lw_TargetOffsets.j1 k x0 x8 x9 x10 x11 (!(x1389000 == 0) || (!(x1389001 == 0))) x1397000 x1397001) else (none)))) else (if x6 = x13 then (if x9 = x13 then (if x11 = x13 then (if (x1389000 == 0 && (x1389001 == 0)) = true then (if (x1397000 == 0 && (x1397001 == 0)) = true then (if x8 = 0 then (some ((x10.length : Int) == 0)) else (none)) else (none)) else (none)) else (none)) else (none)) else (none)))
def Lw_TargetOffsets.j1 : Nat → List (S85) → Int → Int → List Int → Int → Bool → Int → Int → Option (Bool)
  | 0, _, _, _, _, _, _, _, _ => none
  | k + 1, x0, x8, x9, x10, x11, x122, x1397000, x1397001 => if x122 = true then (none) else ((Rf_Voted.f k x0).bind fun bt1410 => (if x9 = 0 then (if (x1397000 == bt1410.1 && (x1397001 == bt1410.2.1)) = true then (if x8 = bt1410.2.2 then (if x11 = 0 then ((Rf_Bad.f k x0).bind fun t1414 => ((Bs_Ints.f k x10 t1414).bind fun t1417 => (some t1417))) else (none)) else (none)) else (none)) else (none)))
end
def Lw_TargetOffsets.f (k : Nat) (l0 : List (S85)) : Option (Bool) := (Lw_awake.f k).bind fun t1375 => (if t1375 = true then ((Lw_few.f l0).bind fun t1376 => (if t1376 = true then ((Rf_CopyReadings.f l0).bind fun t1377 => ((L_CheckReadings.f k t1377).bind fun bt1380 => ((Rf_CopyReadings.f l0).bind fun t1382 => ((L_OffsetIn.f k t1382).bind fun bt1385 => ((Rf_CopyReadings.f l0).bind fun t1389 => ((L_VotedIn.f k t1389).bind fun bt1392 => ((Rf_CopyReadings.f l0).bind fun t1397 => ((L_BadOf.f k t1397).bind fun bt1400 => ((Rf_CheckReadings.f k l0).bind fun bt1404 => (if bt1380.2 = bt1404.2 then (Lw_TargetOffsets.j0 k l0 bt1385.2.2 bt1392.2.2.1 bt1392.2.2.2 bt1400.1 bt1400.2 bt1404.2 (bt1380.1 != bt1404.1) bt1385.1 bt1385.2.1 bt1392.1 bt1392.2.1) else (none))))))))))) else (some true))) else (none))
theorem Lw_TargetOffsets.mono_l : ∀ k, (∀ y0 y1 y2 y3 y4 y5 y6 y7 y8 y9 y10 y11, LeO (Lw_TargetOffsets.j0 k y0 y1 y2 y3 y4 y5 y6 y7 y8 y9 y10 y11) (Lw_TargetOffsets.j0 (k + 1) y0 y1 y2 y3 y4 y5 y6 y7 y8 y9 y10 y11)) ∧ (∀ y0 y1 y2 y3 y4 y5 y6 y7, LeO (Lw_TargetOffsets.j1 k y0 y1 y2 y3 y4 y5 y6 y7) (Lw_TargetOffsets.j1 (k + 1) y0 y1 y2 y3 y4 y5 y6 y7))
  | 0 => ⟨fun _ _ _ _ _ _ _ _ _ _ _ _ r h => by simp [Lw_TargetOffsets.j0] at h, fun _ _ _ _ _ _ _ _ r h => by simp [Lw_TargetOffsets.j1] at h⟩
  | k + 1 => by
    obtain ⟨ih0, ih1⟩ := Lw_TargetOffsets.mono_l k
    refine ⟨?_, ?_⟩
    · intro y0 y1 y2 y3 y4 y5 y6 y7 y8 y9 y10 y11
      unfold Lw_TargetOffsets.j0
      repeat' with_reducible first
        | exact ih0 ..
        | exact ih1 ..
        | exact Bs_Ints.mono ..
        | exact Lw_awake.mono ..
        | exact Rf_Bad.mono ..
        | exact Rf_CheckReadings.mono ..
        | exact Rf_Common.mono ..
        | exact Rf_Voted.mono ..
        | exact L_BadOf.mono ..
        | exact L_CheckReadings.mono ..
        | exact L_OffsetIn.mono ..
        | exact L_VotedIn.mono ..
        | exact LeO.refl ..
        | exact LeO.none ..
        | refine LeO.ite ?_ ?_
        | refine LeO.bind ?_ (fun _ => ?_)
    · intro y0 y1 y2 y3 y4 y5 y6 y7
      unfold Lw_TargetOffsets.j1
      repeat' with_reducible first
        | exact ih0 ..
        | exact ih1 ..
        | exact Bs_Ints.mono ..
        | exact Lw_awake.mono ..
        | exact Rf_Bad.mono ..
        | exact Rf_CheckReadings.mono ..
        | exact Rf_Common.mono ..
        | exact Rf_Voted.mono ..
        | exact L_BadOf.mono ..
        | exact L_CheckReadings.mono ..
        | exact L_OffsetIn.mono ..
        | exact L_VotedIn.mono ..
        | exact LeO.refl ..
        | exact LeO.none ..
        | refine LeO.ite ?_ ?_
        | refine LeO.bind ?_ (fun _ => ?_)
theorem Lw_TargetOffsets.mono : ∀ a0 k, LeO (Lw_TargetOffsets.f k a0) (Lw_TargetOffsets.f (k + 1) a0) := by
  intro a0 k
  obtain ⟨ih0, ih1⟩ := Lw_TargetOffsets.mono_l k
  unfold Lw_TargetOffsets.f
  repeat' with_reducible first
    | exact ih0 ..
    | exact ih1 ..
    | exact Bs_Ints.mono ..
    | exact Lw_awake.mono ..
    | exact Rf_Bad.mono ..
    | exact Rf_CheckReadings.mono ..
    | exact Rf_Common.mono ..
    | exact Rf_Voted.mono ..
    | exact L_BadOf.mono ..
    | exact L_CheckReadings.mono ..
    | exact L_OffsetIn.mono ..
    | exact L_VotedIn.mono ..
    | exact LeO.refl ..
    | exact LeO.none ..
    | refine LeO.ite ?_ ?_
    | refine LeO.bind ?_ (fun _ => ?_)
theorem Lw_TargetOffsets.calls (k : Nat) (A0 : Option Addr) (c0 : Nat) (l0 : List (S85)) (r : Bool) (w : World) (hr0 : Kd.C k85 w A0 l0.length l0) (hc0 : l0.length ≤ c0) (h : Lw_TargetOffsets.f k l0 = some r) :
    Calls Try.prog 10 #[.slice A0 l0.length c0] w fun e w' => e = .returned (.bool r) ∧ Below w.heap.size w w' := by
  have hu58 := Try.underlying58
  have HR0 := m0 hr0
  have HC0 := m0 hc0
  clear hr0 hc0
  have HB := m0 (Below.refl w.heap.size w)
  have H : ((Lw_awake.f k).bind fun t1375 => (if t1375 = true then ((Lw_few.f l0).bind fun t1376 => (if t1376 = true then ((Rf_CopyReadings.f l0).bind fun t1377 => ((L_CheckReadings.f k t1377).bind fun bt1380 => ((Rf_CopyReadings.f l0).bind fun t1382 => ((L_OffsetIn.f k t1382).bind fun bt1385 => ((Rf_CopyReadings.f l0).bind fun t1389 => ((L_VotedIn.f k t1389).bind fun bt1392 => ((Rf_CopyReadings.f l0).bind fun t1397 => ((L_BadOf.f k t1397).bind fun bt1400 => ((Rf_CheckReadings.f k l0).bind fun bt1404 => (if bt1380.2 = bt1404.2 then (Lw_TargetOffsets.j0 k l0 bt1385.2.2 bt1392.2.2.1 bt1392.2.2.2 bt1400.1 bt1400.2 bt1404.2 (bt1380.1 != bt1404.1) bt1385.1 bt1385.2.1 bt1392.1 bt1392.2.1) else (none))))))))))) else (some true))) else (none))) = some r := h
  clear h
  replace H := ob H
  obtain ⟨t1375, A2, H⟩ := H
  (try dsimp only at H)
  replace A2 := m0 A2
  by_cases c3 : t1375 = true
  · subst c3
    rw [if_pos rfl] at H
    replace H := ob H
    obtain ⟨t1376, A4, H⟩ := H
    (try dsimp only at H)
    replace A4 := m0 A4
    by_cases c5 : t1376 = true
    · subst c5
      rw [if_pos rfl] at H
      replace H := ob H
      obtain ⟨t1377, A6, H⟩ := H
      (try dsimp only at H)
      replace A6 := m0 A6
      replace H := ob H
      obtain ⟨⟨t1380, t1381⟩, A7, H⟩ := H
      (try dsimp only at H)
      replace A7 := m0 A7
      replace H := ob H
      obtain ⟨t1382, A8, H⟩ := H
      (try dsimp only at H)
      replace A8 := m0 A8
      replace H := ob H
      obtain ⟨⟨t1385, t1386, t1387⟩, A9, H⟩ := H
      (try dsimp only at H)
      replace A9 := m0 A9
      replace H := ob H
      obtain ⟨t1389, A10, H⟩ := H
      (try dsimp only at H)
      replace A10 := m0 A10
      replace H := ob H
      obtain ⟨⟨t1392, t1393, t1394, t1395⟩, A11, H⟩ := H
      (try dsimp only at H)
      replace A11 := m0 A11
      replace H := ob H
      obtain ⟨t1397, A12, H⟩ := H
      (try dsimp only at H)
      replace A12 := m0 A12
      replace H := ob H
      obtain ⟨⟨t1400, t1401⟩, A13, H⟩ := H
      (try dsimp only at H)
      replace A13 := m0 A13
      replace H := ob H
      obtain ⟨⟨t1404, t1405⟩, A14, H⟩ := H
      (try dsimp only at H)
      replace A14 := m0 A14
      have HC15 := m0 H
      clear H
      go_enter Try.func10, Try.ntmps10
      go_upto_region 10 with (first | ((with_reducible refine gate_callee (f := 14) rfl ?_); refine gl (some 18) Try.func14 #[] ?_; (with_reducible refine (Lw_awake.calls k  true _ A2.out).mono ?_); rintro e w16 ⟨rfl, hb⟩; refine ⟨_, rfl, ?_⟩; replace HB := sb HB hb; (try clear hb)) | ((with_reducible refine gate_callee (f := 36) rfl ?_); refine gl (some 21) Try.func36 #[.slice A0 l0.length c0] ?_; (with_reducible refine (Lw_few.calls _ _ l0 true _ ?side1 ?side2 A4.out).mono ?_); (case side1 => exact cb HR0 HB); (case side2 => exact HC0.out); rintro e w' ⟨rfl, ⟨nd, rfl⟩⟩; refine ⟨_, rfl, ?_⟩; (try (rw [drewN_self w16]; generalize hq_ : World.drewN w16 _ = w16; replace HB := gs HB hq_; clear hq_))) | ((with_reducible refine gate_callee (f := 38) rfl ?_); refine gl (some 25) Try.func38 #[.slice A0 l0.length c0] ?_; (with_reducible refine (Rf_CopyReadings.calls _ _ l0 t1377 _ ?side1 ?side2 A6.out).mono ?_); (case side1 => exact cb HR0 HB); (case side2 => exact HC0.out); rintro e w17 ⟨v1378, rfl, ho0, hb⟩; refine ⟨_, rfl, ?_⟩; have HO1379 := m0 (Kd.R_lower ho0 (below_size bz)); replace HB := sb HB hb; (try clear hb); (try clear ho0); obtain ⟨Ao18, co18, eo18⟩ := Kd.R_slice HO1379.out; subst eo18) | ((with_reducible refine gate_callee (f := 54) rfl ?_); refine gl (some 26) Try.func54 #[.slice Ao18 t1377.length co18] ?_; (with_reducible refine (L_CheckReadings.calls k _ _ t1377 t1380 t1381 _ ?side1 ?side2 A7.out).mono ?_); (case side1 => exact bc (Kd.R_reads' HO1379.out).2.2); (case side2 => exact (Kd.R_reads' HO1379.out).2.1); rintro e w19 ⟨rfl, hb⟩; refine ⟨_, rfl, ?_⟩; replace HO1379 := rb HO1379 hb; replace HB := sb HB hb; (try clear hb)) | ((with_reducible refine gate_callee (f := 38) rfl ?_); refine gl (some 31) Try.func38 #[.slice A0 l0.length c0] ?_; (with_reducible refine (Rf_CopyReadings.calls _ _ l0 t1382 _ ?side1 ?side2 A8.out).mono ?_); (case side1 => exact cb HR0 HB); (case side2 => exact HC0.out); rintro e w20 ⟨v1383, rfl, ho0, hb⟩; refine ⟨_, rfl, ?_⟩; have HO1384 := m0 (Kd.R_lower (Kd.R_new' ho0 (Kd.R_lt (br HO1379.out))) (below_size bz)); replace HO1379 := m0 (Kd.R_elder' (br HO1379.out) (Kd.R_base ho0) hb); replace HB := sb HB hb; (try clear hb); (try clear ho0); obtain ⟨Ao21, co21, eo21⟩ := Kd.R_slice HO1384.out; subst eo21) | ((with_reducible refine gate_callee (f := 55) rfl ?_); refine gl (some 32) Try.func55 #[.slice Ao21 t1382.length co21] ?_; (with_reducible refine (L_OffsetIn.calls k _ _ t1382 t1385 t1386 t1387 _ ?side1 ?side2 A9.out).mono ?_); (case side1 => exact bc (Kd.R_reads' HO1384.out).2.2); (case side2 => exact (Kd.R_reads' HO1384.out).2.1); rintro e w22 ⟨rfl, hb⟩; refine ⟨_, rfl, ?_⟩; replace HO1379 := rb HO1379 hb; replace HO1384 := rb HO1384 hb; replace HB := sb HB hb; (try clear hb)) | ((with_reducible refine gate_dst (N := 5) rfl ?_); (try (refine gate_guard (by rfl) ?_; dsimp only)); refine be 5 58 #[.int .i64 0, .int .i64 0] ?_; intro gb1388 hg w23 hbox hb; replace HO1379 := rb HO1379 hb; replace HO1384 := rb HO1384 hb; have BK1388 := m0 hbox; have GE1388 := gw w hg; replace HB := sb HB hb; clear hb hbox hg; obtain ⟨hcz24_0, hcz24_1, hfz24_0, hfz24_1⟩ := b2 BK1388) | ((with_reducible refine gate_callee (f := 38) rfl ?_); refine gl (some 37) Try.func38 #[.slice A0 l0.length c0] ?_; (with_reducible refine (Rf_CopyReadings.calls _ _ l0 t1389 _ ?side1 ?side2 A10.out).mono ?_); (case side1 => exact Kd.C_below HR0.out bz); (case side2 => exact HC0.out); rintro e w25 ⟨v1390, rfl, ho0, hb⟩; refine ⟨_, rfl, ?_⟩; have HO1391 := m0 (Kd.R_lower (Kd.R_new' (Kd.R_new' ho0 (Kd.R_lt (by (with_reducible repeat (first | apply Kd.R_alloc | apply Kd.R_drewN | apply Kd.R_drew)); exact (Kd.R_mono (Kd.R_far (p := ⟨gb1388, 1, none⟩) (Kd.R_far (p := ⟨gb1388, 0, none⟩) (Kd.R_types HO1379.out BK1388.out (by decide)) (fun _ hk => hk.2) (.int .i64 t1385)) (fun _ hk => hk.2) (.int .i64 t1386)) (fun _ h_ => h_.1))))) (Kd.R_lt (by (with_reducible repeat (first | apply Kd.R_alloc | apply Kd.R_drewN | apply Kd.R_drew)); exact (Kd.R_mono (Kd.R_far (p := ⟨gb1388, 1, none⟩) (Kd.R_far (p := ⟨gb1388, 0, none⟩) (Kd.R_types HO1384.out BK1388.out (by decide)) (fun _ hk => hk.2) (.int .i64 t1385)) (fun _ hk => hk.2) (.int .i64 t1386)) (fun _ h_ => h_.1))))) (below_size bz)); replace HO1379 := m0 (Kd.R_elder' (by (with_reducible repeat (first | apply Kd.R_alloc | apply Kd.R_drewN | apply Kd.R_drew)); exact (Kd.R_mono (Kd.R_far (p := ⟨gb1388, 1, none⟩) (Kd.R_far (p := ⟨gb1388, 0, none⟩) (Kd.R_types HO1379.out BK1388.out (by decide)) (fun _ hk => hk.2) (.int .i64 t1385)) (fun _ hk => hk.2) (.int .i64 t1386)) (fun _ h_ => h_.1))) (Kd.R_base ho0) hb); replace HO1384 := m0 (Kd.R_elder' (by (with_reducible repeat (first | apply Kd.R_alloc | apply Kd.R_drewN | apply Kd.R_drew)); exact (Kd.R_mono (Kd.R_far (p := ⟨gb1388, 1, none⟩) (Kd.R_far (p := ⟨gb1388, 0, none⟩) (Kd.R_types HO1384.out BK1388.out (by decide)) (fun _ hk => hk.2) (.int .i64 t1385)) (fun _ hk => hk.2) (.int .i64 t1386)) (fun _ h_ => h_.1))) (Kd.R_base ho0) hb); replace BK1388 := m0 (blk_below (g := gb1388) (o := .cells #[.int .i64 t1385, .int .i64 t1386] 58 (0, 0)) (bq BK1388.out) hb); replace HB := sb HB hb; (try clear hb); (try clear ho0); obtain ⟨Ao26, co26, eo26⟩ := Kd.R_slice HO1391.out; subst eo26) | ((with_reducible refine gate_callee (f := 56) rfl ?_); refine gl (some 38) Try.func56 #[.slice Ao26 t1389.length co26] ?_; (with_reducible refine (L_VotedIn.calls k _ _ t1389 t1392 t1393 t1394 t1395 _ ?side1 ?side2 A11.out).mono ?_); (case side1 => exact bc (Kd.R_reads' HO1391.out).2.2); (case side2 => exact (Kd.R_reads' HO1391.out).2.1); rintro e w27 ⟨rfl, hb⟩; refine ⟨_, rfl, ?_⟩; replace HO1379 := rb HO1379 hb; replace HO1384 := rb HO1384 hb; replace HO1391 := rb HO1391 hb; replace BK1388 := bb BK1388 hb; replace HB := sb HB hb; (try clear hb)) | ((with_reducible refine gate_dst (N := 7) rfl ?_); (try (refine gate_guard (by rfl) ?_; dsimp only)); refine be 7 58 #[.int .i64 0, .int .i64 0] ?_; intro gb1396 hg w28 hbox hb; replace HO1379 := rb HO1379 hb; replace HO1384 := rb HO1384 hb; replace HO1391 := rb HO1391 hb; have BK1396 := m0 hbox; have GE1396 := gw w hg; replace HB := sb HB hb; have NB1388_1396 := nl BK1388 hg; have NB1396_1388 := ng (nl BK1388 hg); replace BK1388 := bb BK1388 hb; clear hb hbox hg; have hnb29 := NB1396_1388.out; have hnc29 := NB1388_1396.out; obtain ⟨hcz30_0, hcz30_1, hfz30_0, hfz30_1⟩ := b2 BK1396) | ((with_reducible refine gate_callee (f := 38) rfl ?_); refine gl (some 44) Try.func38 #[.slice A0 l0.length c0] ?_; (with_reducible refine (Rf_CopyReadings.calls _ _ l0 t1397 _ ?side1 ?side2 A12.out).mono ?_); (case side1 => exact Kd.C_below HR0.out bz); (case side2 => exact HC0.out); rintro e w31 ⟨v1398, rfl, ho0, hb⟩; refine ⟨_, rfl, ?_⟩; have HO1399 := m0 (Kd.R_lower (Kd.R_new' (Kd.R_new' (Kd.R_new' ho0 (Kd.R_lt (by (with_reducible repeat (first | apply Kd.R_alloc | apply Kd.R_drewN | apply Kd.R_drew)); exact (Kd.R_mono (Kd.R_far (p := ⟨gb1396, 1, none⟩) (Kd.R_far (p := ⟨gb1396, 0, none⟩) (Kd.R_types HO1379.out BK1396.out (by decide)) (fun _ hk => hk.2) (.int .i64 t1392)) (fun _ hk => hk.2) (.int .i64 t1393)) (fun _ h_ => h_.1))))) (Kd.R_lt (by (with_reducible repeat (first | apply Kd.R_alloc | apply Kd.R_drewN | apply Kd.R_drew)); exact (Kd.R_mono (Kd.R_far (p := ⟨gb1396, 1, none⟩) (Kd.R_far (p := ⟨gb1396, 0, none⟩) (Kd.R_types HO1384.out BK1396.out (by decide)) (fun _ hk => hk.2) (.int .i64 t1392)) (fun _ hk => hk.2) (.int .i64 t1393)) (fun _ h_ => h_.1))))) (Kd.R_lt (by (with_reducible repeat (first | apply Kd.R_alloc | apply Kd.R_drewN | apply Kd.R_drew)); exact (Kd.R_mono (Kd.R_far (p := ⟨gb1396, 1, none⟩) (Kd.R_far (p := ⟨gb1396, 0, none⟩) (Kd.R_types HO1391.out BK1396.out (by decide)) (fun _ hk => hk.2) (.int .i64 t1392)) (fun _ hk => hk.2) (.int .i64 t1393)) (fun _ h_ => h_.1))))) (below_size bz)); replace HO1379 := m0 (Kd.R_elder' (by (with_reducible repeat (first | apply Kd.R_alloc | apply Kd.R_drewN | apply Kd.R_drew)); exact (Kd.R_mono (Kd.R_far (p := ⟨gb1396, 1, none⟩) (Kd.R_far (p := ⟨gb1396, 0, none⟩) (Kd.R_types HO1379.out BK1396.out (by decide)) (fun _ hk => hk.2) (.int .i64 t1392)) (fun _ hk => hk.2) (.int .i64 t1393)) (fun _ h_ => h_.1))) (Kd.R_base ho0) hb); replace HO1384 := m0 (Kd.R_elder' (by (with_reducible repeat (first | apply Kd.R_alloc | apply Kd.R_drewN | apply Kd.R_drew)); exact (Kd.R_mono (Kd.R_far (p := ⟨gb1396, 1, none⟩) (Kd.R_far (p := ⟨gb1396, 0, none⟩) (Kd.R_types HO1384.out BK1396.out (by decide)) (fun _ hk => hk.2) (.int .i64 t1392)) (fun _ hk => hk.2) (.int .i64 t1393)) (fun _ h_ => h_.1))) (Kd.R_base ho0) hb); replace HO1391 := m0 (Kd.R_elder' (by (with_reducible repeat (first | apply Kd.R_alloc | apply Kd.R_drewN | apply Kd.R_drew)); exact (Kd.R_mono (Kd.R_far (p := ⟨gb1396, 1, none⟩) (Kd.R_far (p := ⟨gb1396, 0, none⟩) (Kd.R_types HO1391.out BK1396.out (by decide)) (fun _ hk => hk.2) (.int .i64 t1392)) (fun _ hk => hk.2) (.int .i64 t1393)) (fun _ h_ => h_.1))) (Kd.R_base ho0) hb); replace BK1388 := m0 (blk_below (g := gb1388) (o := .cells #[.int .i64 t1385, .int .i64 t1386] 58 (0, 0)) (bq BK1388.out) hb); replace BK1396 := m0 (blk_below (g := gb1396) (o := .cells #[.int .i64 t1392, .int .i64 t1393] 58 (0, 0)) (bq BK1396.out) hb); replace HB := sb HB hb; (try clear hb); (try clear ho0); obtain ⟨Ao32, co32, eo32⟩ := Kd.R_slice HO1399.out; subst eo32) | ((with_reducible refine gate_callee (f := 57) rfl ?_); refine gl (some 45) Try.func57 #[.slice Ao32 t1397.length co32] ?_; (with_reducible refine (L_BadOf.calls k _ _ t1397 t1400 t1401 _ ?side1 ?side2 A13.out).mono ?_); (case side1 => exact bc (Kd.R_reads' HO1399.out).2.2); (case side2 => exact (Kd.R_reads' HO1399.out).2.1); rintro e w33 ⟨v1402, rfl, ho0, hb⟩; refine ⟨_, rfl, ?_⟩; replace HO1379 := rb HO1379 hb; replace HO1384 := rb HO1384 hb; replace HO1391 := rb HO1391 hb; replace HO1399 := rb HO1399 hb; have HO1403 := m0 (Kd.R_lower ho0 (below_size bz)); replace BK1388 := bb BK1388 hb; replace BK1396 := bb BK1396 hb; replace HB := sb HB hb; (try clear hb); (try clear ho0)) | ((with_reducible refine gate_callee (f := 58) rfl ?_); refine gl (some 50) Try.func58 #[.slice A0 l0.length c0] ?_; (with_reducible refine (Rf_CheckReadings.calls k _ _ l0 t1404 t1405 _ ?side1 ?side2 A14.out).mono ?_); (case side1 => exact cb HR0 HB); (case side2 => exact HC0.out); rintro e w' ⟨rfl, ⟨nd, rfl⟩⟩; refine ⟨_, rfl, ?_⟩))
      (try simp only [Act.put, List.setIfInBounds_toArray, List.set_cons_zero, List.set_cons_succ])
      go_cut [60] (fun v60 wc => ∃ (kq : Nat) (x60_14 : Bool), v60 = .bool x60_14 ∧ Aside0 (Lw_TargetOffsets.j0 kq l0 t1387 t1394 t1395 t1400 t1401 t1405 x60_14 t1385 t1386 t1392 t1393 = some r) ∧ Aside0 (kq ≤ k) ∧ Aside0 (Kd.R (Kd.int .i64) 3 wc w.heap.size (fun _ => True) v1402 t1400) ∧ Aside0 (wc.heap[gb1388]? = some (.cells #[.int .i64 t1385, .int .i64 t1386] 58 (0, 0))) ∧ Aside0 (wc.heap[gb1396]? = some (.cells #[.int .i64 t1392, .int .i64 t1393] 58 (0, 0))) ∧ Aside0 (Below w.heap.size w wc))
      case first =>
        have H := HC15.out
        clear HC15
        by_cases c34 : t1381 = t1405
        · rw [if_pos c34] at H
          have c34b0 := beq_iff_eq.mpr c34
          have c34b1 := bne_eq_false_iff_eq.mpr c34
          clear c34
          (first | rw [c34b0] | (simp only [i64_w, i32_w]; rw [c34b0]) | skip)
          have H' := m0 H
          clear H
          go_wp2
          go_meet
          case rel => exact ⟨_, ((t1380 != t1404)), (by first | rfl | (simp; done) | (simp [*]; done)), H', ⟨by first | omega | exact Nat.le_refl _⟩, ⟨br HO1403.out⟩, ⟨bk BK1388.out⟩, ⟨bk BK1396.out⟩, ⟨bz⟩⟩
        · rw [if_neg c34] at H
          exact absurd H (by simp)
      case rest =>
        clear HC15
        try clear hcz24_0
        try clear hcz24_1
        try clear hcz30_0
        try clear hcz30_1
        try clear hfz24_0
        try clear hfz24_1
        try clear hfz30_0
        try clear hfz30_1
        obtain ⟨kq, x60_14, rfl, HA, HJ14, HO_10, BK1388, BK1396, HB⟩ := hcut
        cases kq with
        | zero => exact absurd HA.out (by simp [Lw_TargetOffsets.j0])
        | succ kj14 =>
          have H := HA.out
          clear HA
          simp only [Lw_TargetOffsets.j0] at H
          by_cases c35 : x60_14 = true
          · subst c35
            rw [if_pos rfl] at H
            exact absurd H (by simp)
          · replace c35 := Bool.eq_false_iff.mpr c35
            subst c35
            rw [if_neg (show ¬ (false = true) by decide)] at H
            by_cases c36 : t1405 = 0
            · rw [if_pos c36] at H
              have c36b0 := beq_iff_eq.mpr c36
              have c36b1 := bne_eq_false_iff_eq.mpr c36
              clear c36
              replace H := ob H
              obtain ⟨⟨t1406, t1407, t1408⟩, A37, H⟩ := H
              (try dsimp only at H)
              replace A37 := m0 A37
              have HC38 := m0 H
              clear H
              go_upto_region 15 with (first | ((with_reducible refine gate_callee (f := 59) rfl ?_); refine gl (some 97) Try.func59 #[.slice A0 l0.length c0, .slice none 0 0] ?_; (refine (Rf_Common.calls kj14 _ _ l0 _ _ ([] : List Int) t1406 t1407 t1408 _ ?side1 ?side2 ?side3 ?side4 A37.out).mono ?_); (case side1 => exact cb HR0 HB); (case side2 => exact HC0.out); (case side3 => exact Kd.C_nil _ _); (case side4 => exact Nat.le_refl _); rintro e w39 ⟨rfl, hb⟩; refine ⟨_, rfl, ?_⟩; replace HO_10 := rb HO_10 hb; replace BK1388 := bb BK1388 hb; replace BK1396 := bb BK1396 hb; replace HB := sb HB hb; (try clear hb)) | ((with_reducible refine gate_dst (N := 14) rfl ?_); (try (refine gate_guard (by rfl) ?_; dsimp only)); refine be 14 58 #[.int .i64 0, .int .i64 0] ?_; intro gb1409 hg w40 hbox hb; replace HO_10 := rb HO_10 hb; have BK1409 := m0 hbox; have GE1409 := gw w hg; replace HB := sb HB hb; have NB1388_1409 := nl BK1388 hg; have NB1409_1388 := ng (nl BK1388 hg); replace BK1388 := bb BK1388 hb; have NB1396_1409 := nl BK1396 hg; have NB1409_1396 := ng (nl BK1396 hg); replace BK1396 := bb BK1396 hb; clear hb hbox hg; have hnb41 := NB1409_1388.out; have hnc41 := NB1388_1409.out; have hnb42 := NB1409_1396.out; have hnc42 := NB1396_1409.out; obtain ⟨hcz43_0, hcz43_1, hfz43_0, hfz43_1⟩ := b2 BK1409))
              (try simp only [Act.put, List.setIfInBounds_toArray, List.set_cons_zero, List.set_cons_succ])
              go_cut [122] (fun v122 wc => ∃ (kq : Nat) (x122_37 : Bool), v122 = .bool x122_37 ∧ Aside0 (Lw_TargetOffsets.j1 kq l0 t1394 t1395 t1400 t1401 x122_37 t1392 t1393 = some r) ∧ Aside0 (kq ≤ kj14) ∧ Aside0 (Kd.R (Kd.int .i64) 3 wc w.heap.size (fun _ => True) v1402 t1400) ∧ Aside0 (wc.heap[gb1388]? = some (.cells #[.int .i64 t1385, .int .i64 t1386] 58 (0, 0))) ∧ Aside0 (wc.heap[gb1396]? = some (.cells #[.int .i64 t1392, .int .i64 t1393] 58 (0, 0))) ∧ Aside0 (wc.heap[gb1409]? = some (.cells #[.int .i64 t1406, .int .i64 t1407] 58 (0, 0))) ∧ Aside0 (Below w.heap.size w wc))
              case first =>
                have H := HC38.out
                clear HC38
                by_cases c44 : t1408 = true
                · subst c44
                  rw [if_pos rfl] at H
                  by_cases c45 : t1387 = 0
                  · rw [if_pos c45] at H
                    have c45b0 := beq_iff_eq.mpr c45
                    have c45b1 := bne_eq_false_iff_eq.mpr c45
                    clear c45
                    (first | rw [c45b0] | (simp only [i64_w, i32_w]; rw [c45b0]) | skip)
                    by_cases c46 : (!(t1385 == t1406) || (!(t1386 == t1407))) = true
                    · rw [if_pos c46] at H
                      exact absurd H (by simp)
                    · rw [if_neg c46] at H
                      have c46b0 : (!(t1385 == t1406) || (!(t1386 == t1407))) = false := by simpa using c46
                      clear c46
                      have H' := m0 H
                      clear H
                      have hnb47 := NB1388_1396.out
                      have hnc47 := NB1396_1388.out
                      have hnb48 := NB1388_1409.out
                      have hnc48 := NB1409_1388.out
                      obtain ⟨hcz49_0, hcz49_1, hfz49_0, hfz49_1⟩ := b2 BK1388
                      have hnb50 := NB1409_1396.out
                      have hnc50 := NB1396_1409.out
                      obtain ⟨hcz51_0, hcz51_1, hfz51_0, hfz51_1⟩ := b2 BK1409
                      go_wp2
                      go_meet
                      case rel => exact ⟨_, (false), (by first | rfl | (simp; done) | (simp [*]; done)), H', ⟨by have := HJ14.out; first | omega | exact Nat.le_refl _⟩, ⟨by (with_reducible repeat (first | apply Kd.R_alloc | apply Kd.R_drewN | apply Kd.R_drew)); exact Kd.R_mono (Kd.R_far (p := ⟨gb1409, 1, none⟩) (Kd.R_far (p := ⟨gb1409, 0, none⟩) (Kd.R_types HO_10.out BK1409.out (by decide)) (fun _ hk => hk.2) (.int .i64 t1406)) (fun _ hk => hk.2) (.int .i64 t1407)) (fun _ hk => trivial)⟩, ⟨bq BK1388.out⟩, ⟨bq BK1396.out⟩, ⟨bq BK1409.out⟩, ⟨bz⟩⟩
                  · rw [if_neg c45] at H
                    exact absurd H (by simp)
                · replace c44 := Bool.eq_false_iff.mpr c44
                  subst c44
                  rw [if_neg (show ¬ (false = true) by decide)] at H
                  by_cases c52 : t1387 = 12
                  · rw [if_pos c52] at H
                    have c52b0 := beq_iff_eq.mpr c52
                    have c52b1 := bne_eq_false_iff_eq.mpr c52
                    clear c52
                    have H' := m0 H
                    clear H
                    have hnb53 := NB1388_1396.out
                    have hnc53 := NB1396_1388.out
                    have hnb54 := NB1388_1409.out
                    have hnc54 := NB1409_1388.out
                    obtain ⟨hcz55_0, hcz55_1, hfz55_0, hfz55_1⟩ := b2 BK1388
                    go_wp2
                    go_meet
                    case rel => exact ⟨_, ((!(t1385 == 0) || (!(t1386 == 0)))), (by first | rfl | (simp; done) | (simp [*]; done)), H', ⟨by have := HJ14.out; first | omega | exact Nat.le_refl _⟩, ⟨by (with_reducible repeat (first | apply Kd.R_alloc | apply Kd.R_drewN | apply Kd.R_drew)); exact Kd.R_mono (Kd.R_far (p := ⟨gb1409, 1, none⟩) (Kd.R_far (p := ⟨gb1409, 0, none⟩) (Kd.R_types HO_10.out BK1409.out (by decide)) (fun _ hk => hk.2) (.int .i64 t1406)) (fun _ hk => hk.2) (.int .i64 t1407)) (fun _ hk => trivial)⟩, ⟨bq BK1388.out⟩, ⟨bq BK1396.out⟩, ⟨bq BK1409.out⟩, ⟨bz⟩⟩
                  · rw [if_neg c52] at H
                    exact absurd H (by simp)
              case rest =>
                clear HC38
                try clear hcz24_0
                try clear hcz24_1
                try clear hcz30_0
                try clear hcz30_1
                try clear hcz43_0
                try clear hcz43_1
                try clear hcz49_0
                try clear hcz49_1
                try clear hcz51_0
                try clear hcz51_1
                try clear hcz55_0
                try clear hcz55_1
                try clear hfz24_0
                try clear hfz24_1
                try clear hfz30_0
                try clear hfz30_1
                try clear hfz43_0
                try clear hfz43_1
                try clear hfz49_0
                try clear hfz49_1
                try clear hfz51_0
                try clear hfz51_1
                try clear hfz55_0
                try clear hfz55_1
                obtain ⟨kq, x122_37, rfl, HA, HJ37, HO_10, BK1388, BK1396, BK1409, HB⟩ := hcut
                cases kq with
                | zero => exact absurd HA.out (by simp [Lw_TargetOffsets.j1])
                | succ kj37 =>
                  have H := HA.out
                  clear HA
                  simp only [Lw_TargetOffsets.j1] at H
                  by_cases c56 : x122_37 = true
                  · subst c56
                    rw [if_pos rfl] at H
                    exact absurd H (by simp)
                  · replace c56 := Bool.eq_false_iff.mpr c56
                    subst c56
                    rw [if_neg (show ¬ (false = true) by decide)] at H
                    replace H := ob H
                    obtain ⟨⟨t1410, t1411, t1412⟩, A57, H⟩ := H
                    (try dsimp only at H)
                    replace A57 := m0 A57
                    by_cases c58 : t1395 = 0
                    · rw [if_pos c58] at H
                      have c58b0 := beq_iff_eq.mpr c58
                      have c58b1 := bne_eq_false_iff_eq.mpr c58
                      clear c58
                      by_cases c59 : (t1392 == t1410 && (t1393 == t1411)) = true
                      · rw [if_pos c59] at H
                        have c59b0 : (t1392 == t1410 && (t1393 == t1411)) = true := c59
                        (try (have c59b1 : decide (t1392 = t1410 && (t1393 == t1411)) = true := by simpa using c59))
                        (try (have c59b2 : (t1392 == t1410 && (t1393 == t1411)) = true := by simpa using c59))
                        clear c59
                        by_cases c60 : t1394 = t1412
                        · rw [if_pos c60] at H
                          have c60b0 := beq_iff_eq.mpr c60
                          have c60b1 := bne_eq_false_iff_eq.mpr c60
                          clear c60
                          by_cases c61 : t1401 = 0
                          · rw [if_pos c61] at H
                            have c61b0 := beq_iff_eq.mpr c61
                            have c61b1 := bne_eq_false_iff_eq.mpr c61
                            clear c61
                            replace H := ob H
                            obtain ⟨t1414, A62, H⟩ := H
                            (try dsimp only at H)
                            replace A62 := m0 A62
                            replace H := ob H
                            obtain ⟨t1417, A63, H⟩ := H
                            (try dsimp only at H)
                            replace A63 := m0 A63
                            obtain rfl := Option.some.inj H
                            go_wp2_with (first | ((with_reducible refine gate_callee (f := 60) rfl ?_); refine gl (some 125) Try.func60 #[.slice A0 l0.length c0] ?_; (with_reducible refine (Rf_Voted.calls kj37 _ _ l0 t1410 t1411 t1412 _ ?side1 ?side2 A57.out).mono ?_); (case side1 => exact cb HR0 HB); (case side2 => exact HC0.out); rintro e w64 ⟨rfl, hb⟩; refine ⟨_, rfl, ?_⟩; replace HO_10 := rb HO_10 hb; replace BK1388 := bb BK1388 hb; replace BK1396 := bb BK1396 hb; replace BK1409 := bb BK1409 hb; replace HB := sb HB hb; (try clear hb)) | ((with_reducible refine gate_dst (N := 16) rfl ?_); (try (refine gate_guard (by rfl) ?_; dsimp only)); refine be 16 58 #[.int .i64 0, .int .i64 0] ?_; intro gb1413 hg w65 hbox hb; replace HO_10 := rb HO_10 hb; have BK1413 := m0 hbox; have GE1413 := gw w hg; replace HB := sb HB hb; have NB1388_1413 := nl BK1388 hg; have NB1413_1388 := ng (nl BK1388 hg); replace BK1388 := bb BK1388 hb; have NB1396_1413 := nl BK1396 hg; have NB1413_1396 := ng (nl BK1396 hg); replace BK1396 := bb BK1396 hb; have NB1409_1413 := nl BK1409 hg; have NB1413_1409 := ng (nl BK1409 hg); replace BK1409 := bb BK1409 hb; clear hb hbox hg; have hnb66 := NB1413_1388.out; have hnc66 := NB1388_1413.out; have hnb67 := NB1413_1396.out; have hnc67 := NB1396_1413.out; have hnb68 := NB1413_1409.out; have hnc68 := NB1409_1413.out; obtain ⟨_, _, _, _⟩ := b2 BK1413; have hnb70 := NB1396_1388.out; have hnc70 := NB1388_1396.out; have hnb71 := NB1396_1409.out; have hnc71 := NB1409_1396.out; obtain ⟨_, _, _, _⟩ := b2 BK1396) | (go_at_call 61; (with_reducible refine (Rf_Bad.calls kj37 _ _ l0 t1414 _ ?side1 ?side2 A62.out).mono ?_); (case side1 => exact Kd.C_below HR0.out bz); (case side2 => exact HC0.out); rintro e w73 ⟨v1415, rfl, ho0, hb⟩; have HO1416 := m0 (Kd.R_lower (Kd.R_new' ho0 (Kd.R_lt (by (with_reducible repeat (first | apply Kd.R_alloc | apply Kd.R_drewN | apply Kd.R_drew)); exact (Kd.R_mono (Kd.R_far (p := ⟨gb1413, 1, none⟩) (Kd.R_far (p := ⟨gb1413, 0, none⟩) (Kd.R_types HO_10.out BK1413.out (by decide)) (fun _ hk => hk.2) (.int .i64 t1410)) (fun _ hk => hk.2) (.int .i64 t1411)) (fun _ h_ => h_.1))))) (below_size bz)); replace HO_10 := m0 (Kd.R_elder' (by (with_reducible repeat (first | apply Kd.R_alloc | apply Kd.R_drewN | apply Kd.R_drew)); exact (Kd.R_mono (Kd.R_far (p := ⟨gb1413, 1, none⟩) (Kd.R_far (p := ⟨gb1413, 0, none⟩) (Kd.R_types HO_10.out BK1413.out (by decide)) (fun _ hk => hk.2) (.int .i64 t1410)) (fun _ hk => hk.2) (.int .i64 t1411)) (fun _ h_ => h_.1))) (Kd.R_base ho0) hb); replace BK1388 := m0 (blk_below (g := gb1388) (o := .cells #[.int .i64 t1385, .int .i64 t1386] 58 (0, 0)) (bq BK1388.out) hb); replace BK1396 := m0 (blk_below (g := gb1396) (o := .cells #[.int .i64 t1392, .int .i64 t1393] 58 (0, 0)) (bq BK1396.out) hb); replace BK1409 := m0 (blk_below (g := gb1409) (o := .cells #[.int .i64 t1406, .int .i64 t1407] 58 (0, 0)) (bq BK1409.out) hb); replace BK1413 := m0 (blk_below (g := gb1413) (o := .cells #[.int .i64 t1410, .int .i64 t1411] 58 (0, 0)) (bq BK1413.out) hb); replace HB := sb HB hb; (try clear hb); (try clear ho0); obtain ⟨Ao74, co74, eo74⟩ := Kd.R_slice HO_10.out; subst eo74; obtain ⟨Ao75, co75, eo75⟩ := Kd.R_slice HO1416.out; subst eo75) | (go_at_call 21; (with_reducible refine (Bs_Ints.calls kj37 _ _ t1400 _ _ t1414 t1417 _ ?side1 ?side2 ?side3 ?side4 A63.out).mono ?_); (case side1 => exact bc (Kd.R_reads' HO_10.out).2.2); (case side2 => exact (Kd.R_reads' HO_10.out).2.1); (case side3 => exact bc (Kd.R_reads' HO1416.out).2.2); (case side4 => exact (Kd.R_reads' HO1416.out).2.1); rintro e w' ⟨rfl, ⟨nd, rfl⟩⟩))
                            go_ret
                            exact ez
                          · rw [if_neg c61] at H
                            exact absurd H (by simp)
                        · rw [if_neg c60] at H
                          exact absurd H (by simp)
                      · rw [if_neg c59] at H
                        exact absurd H (by simp)
                    · rw [if_neg c58] at H
                      exact absurd H (by simp)
            · rw [if_neg c36] at H
              have c36b0 := beq_eq_false_iff_ne.mpr c36
              have c36b1 := bne_iff_ne.mpr c36
              by_cases c76 : t1387 = t1405
              · rw [if_pos c76] at H
                have c76b0 := beq_iff_eq.mpr c76
                have c76b1 := bne_eq_false_iff_eq.mpr c76
                clear c76
                by_cases c77 : t1395 = t1405
                · rw [if_pos c77] at H
                  have c77b0 := beq_iff_eq.mpr c77
                  have c77b1 := bne_eq_false_iff_eq.mpr c77
                  clear c77
                  by_cases c78 : t1401 = t1405
                  · rw [if_pos c78] at H
                    have c78b0 := beq_iff_eq.mpr c78
                    have c78b1 := bne_eq_false_iff_eq.mpr c78
                    clear c78
                    by_cases c79 : (t1385 == 0 && (t1386 == 0)) = true
                    · rw [if_pos c79] at H
                      have c79b0 : (t1385 == 0 && (t1386 == 0)) = true := c79
                      (try (have c79b1 : decide (t1385 = 0 && (t1386 == 0)) = true := by simpa using c79))
                      (try (have c79b2 : (t1385 == 0 && (t1386 == 0)) = true := by simpa using c79))
                      clear c79
                      by_cases c80 : (t1392 == 0 && (t1393 == 0)) = true
                      · rw [if_pos c80] at H
                        have c80b0 : (t1392 == 0 && (t1393 == 0)) = true := c80
                        (try (have c80b1 : decide (t1392 = 0 && (t1393 == 0)) = true := by simpa using c80))
                        (try (have c80b2 : (t1392 == 0 && (t1393 == 0)) = true := by simpa using c80))
                        clear c80
                        by_cases c81 : t1394 = 0
                        · rw [if_pos c81] at H
                          have c81b0 := beq_iff_eq.mpr c81
                          have c81b1 := bne_eq_false_iff_eq.mpr c81
                          clear c81
                          obtain rfl := Option.some.inj H
                          have hnb82 := NB1388_1396.out
                          have hnc82 := NB1396_1388.out
                          obtain ⟨_, _, _, _⟩ := b2 BK1388
                          obtain ⟨_, _, _, _⟩ := b2 BK1396
                          obtain ⟨Ao85, co85, eo85⟩ := Kd.R_slice HO_10.out
                          subst eo85
                          go_wp2
                          go_ret
                          exact ez
                        · rw [if_neg c81] at H
                          exact absurd H (by simp)
                      · rw [if_neg c80] at H
                        exact absurd H (by simp)
                    · rw [if_neg c79] at H
                      exact absurd H (by simp)
                  · rw [if_neg c78] at H
                    exact absurd H (by simp)
                · rw [if_neg c77] at H
                  exact absurd H (by simp)
              · rw [if_neg c76] at H
                exact absurd H (by simp)
    · replace c5 := Bool.eq_false_iff.mpr c5
      subst c5
      rw [if_neg (show ¬ (false = true) by decide)] at H
      obtain rfl := Option.some.inj H
      go_enter Try.func10, Try.ntmps10
      go_wp2_with (first | ((with_reducible refine gate_callee (f := 14) rfl ?_); refine gl (some 18) Try.func14 #[] ?_; (with_reducible refine (Lw_awake.calls k  true _ A2.out).mono ?_); rintro e w86 ⟨rfl, hb⟩; refine ⟨_, rfl, ?_⟩; replace HB := sb HB hb; (try clear hb)) | ((with_reducible refine gate_callee (f := 36) rfl ?_); refine gl (some 21) Try.func36 #[.slice A0 l0.length c0] ?_; (with_reducible refine (Lw_few.calls _ _ l0 false _ ?side1 ?side2 A4.out).mono ?_); (case side1 => exact cb HR0 HB); (case side2 => exact HC0.out); rintro e w' ⟨rfl, ⟨nd, rfl⟩⟩; refine ⟨_, rfl, ?_⟩))
      go_ret
      exact ez
  · replace c3 := Bool.eq_false_iff.mpr c3
    subst c3
    rw [if_neg (show ¬ (false = true) by decide)] at H
    exact absurd H (by simp)
end Go.Proofs.Ytibhfahbabgbaaa.A
