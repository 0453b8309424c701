/- Walks of the program's functions (printed, made shorter), each with what it computes. -/
import Derived.Test.YtjnkphmcndaijaaDoorSpd04
import Derived.Test.YtjnkphmcndaijaaDoorSpd12
import Derived.Test.YtjnkphmcndaijaaDoorSpd13
import Derived.Test.YtjnkphmcndaijaaDoorSpd19
import Derived.Test.YtjnkphmcndaijaaDoorSpd03
namespace Go.Proofs.YtjnkphmcndaijaaDoor.A
set_option maxHeartbeats 8000000
set_option maxRecDepth 100000
open Go.RowKit Go.Proofs.YtjnkphmcndaijaaDoorW.PrintWords Go.Proofs.YtjnkphmcndaijaaDoorW.PrintLast Go.Proofs.YtjnkphmcndaijaaDoorW.PrintMore
attribute [local go_sem] max2_int min2_int max_two min_two max_three min_three max_four min_four
set_option linter.unusedVariables false
set_option linter.unusedSimpArgs false
attribute [local go_sem high] eqA26
def Lw_LineSpeeds.j0 : Nat → Bool → Bool → Int → Int → Int → Int → Int → Int → Int → Option (Bool)
  | 0, _, _, _, _, _, _, _, _, _ => none
  | k + 1, x11, x112, x857000, x857001, x858000, x858001, x858002, x863000, x863001 => if x112 = true then (none) else (if x11 = true then ((L_PositionOf.f k x863000 x863001 x858000 x858001 x858002).bind fun bt876 => (if bt876.2.2 = 0 then (some (bt876.1 == x857000 && (bt876.2.1 == x857001))) else (none))) else (some true))
def Lw_LineSpeeds.f (k : Nat) (a0_0 : Int) (a0_1 : Int) (a1_0 : Int) (a1_1 : Int) (a1_2 : Int) : Option (Bool) := (Lw_awake.f k).bind fun t858 => (if t858 = true then ((L_SpeedAt.f k a0_0 a0_1 a1_0 a1_1 a1_2).bind fun bt859 => ((L_PositionOf.f k a0_0 a0_1 a1_0 a1_1 a1_2).bind fun bt863 => ((Rf_ScaleErr.f k a0_0 a0_1 a1_0 a1_1 a1_2).bind fun t867 => (if t867 = 0 then ((Rf_Speed.f k a0_0 a0_1 a1_0 a1_1 a1_2).bind fun bt868 => ((Rf_Position.f k a0_0 a0_1 a1_0 a1_1 a1_2).bind fun bt872 => (if bt868.2.2 = true then (if bt859.2.2 = 0 then (if (!(bt859.1 == bt868.1) || (!(bt859.2.1 == bt868.2.1))) = true then (Lw_LineSpeeds.j0 k bt868.2.2 true a0_0 a0_1 a1_0 a1_1 a1_2 bt859.1 bt859.2.1) else (if bt872.2.2 = true then (if bt863.2.2 = 0 then (if (!(bt863.1 == bt872.1) || (!(bt863.2.1 == bt872.2.1))) = true then (Lw_LineSpeeds.j0 k bt868.2.2 true a0_0 a0_1 a1_0 a1_1 a1_2 bt859.1 bt859.2.1) else (Lw_LineSpeeds.j0 k bt868.2.2 false a0_0 a0_1 a1_0 a1_1 a1_2 bt859.1 bt859.2.1)) else (Lw_LineSpeeds.j0 k bt868.2.2 true a0_0 a0_1 a1_0 a1_1 a1_2 bt859.1 bt859.2.1)) else (if bt863.2.2 = 8 then (Lw_LineSpeeds.j0 k bt868.2.2 (!(bt863.1 == 0) || (!(bt863.2.1 == 0))) a0_0 a0_1 a1_0 a1_1 a1_2 bt859.1 bt859.2.1) else (Lw_LineSpeeds.j0 k bt868.2.2 true a0_0 a0_1 a1_0 a1_1 a1_2 bt859.1 bt859.2.1)))) else (Lw_LineSpeeds.j0 k bt868.2.2 true a0_0 a0_1 a1_0 a1_1 a1_2 bt859.1 bt859.2.1)) else (if bt859.2.2 = 8 then (if (!(bt859.1 == 0) || (!(bt859.2.1 == 0))) = true then (Lw_LineSpeeds.j0 k bt868.2.2 true a0_0 a0_1 a1_0 a1_1 a1_2 bt859.1 bt859.2.1) else (if bt872.2.2 = true then (if bt863.2.2 = 0 then (if (!(bt863.1 == bt872.1) || (!(bt863.2.1 == bt872.2.1))) = true then (Lw_LineSpeeds.j0 k bt868.2.2 true a0_0 a0_1 a1_0 a1_1 a1_2 bt859.1 bt859.2.1) else (Lw_LineSpeeds.j0 k bt868.2.2 false a0_0 a0_1 a1_0 a1_1 a1_2 bt859.1 bt859.2.1)) else (Lw_LineSpeeds.j0 k bt868.2.2 true a0_0 a0_1 a1_0 a1_1 a1_2 bt859.1 bt859.2.1)) else (if bt863.2.2 = 8 then (Lw_LineSpeeds.j0 k bt868.2.2 (!(bt863.1 == 0) || (!(bt863.2.1 == 0))) a0_0 a0_1 a1_0 a1_1 a1_2 bt859.1 bt859.2.1) else (Lw_LineSpeeds.j0 k bt868.2.2 true a0_0 a0_1 a1_0 a1_1 a1_2 bt859.1 bt859.2.1)))) else (Lw_LineSpeeds.j0 k bt868.2.2 true a0_0 a0_1 a1_0 a1_1 a1_2 bt859.1 bt859.2.1))))) else (if bt859.2.2 = t867 then (if bt863.2.2 = t867 then (if (bt859.1 == 0 && (bt859.2.1 == 0)) = true then (some (bt863.1 == 0 && (bt863.2.1 == 0))) else (none)) else (none)) else (none)))))) else (none))
theorem Lw_LineSpeeds.mono_l : ∀ k, (∀ y0 y1 y2 y3 y4 y5 y6 y7 y8, LeO (Lw_LineSpeeds.j0 k y0 y1 y2 y3 y4 y5 y6 y7 y8) (Lw_LineSpeeds.j0 (k + 1) y0 y1 y2 y3 y4 y5 y6 y7 y8))
  | 0 => fun _ _ _ _ _ _ _ _ _ r h => by simp [Lw_LineSpeeds.j0] at h
  | k + 1 => by
    have ih0 := Lw_LineSpeeds.mono_l k
    · intro y0 y1 y2 y3 y4 y5 y6 y7 y8
      unfold Lw_LineSpeeds.j0
      repeat' with_reducible first
        | exact ih0 ..
        | exact Lw_awake.mono ..
        | exact Rf_Position.mono ..
        | exact Rf_ScaleErr.mono ..
        | exact Rf_Speed.mono ..
        | exact L_PositionOf.mono ..
        | exact L_SpeedAt.mono ..
        | exact LeO.refl ..
        | exact LeO.none ..
        | refine LeO.ite ?_ ?_
        | refine LeO.bind ?_ (fun _ => ?_)
theorem Lw_LineSpeeds.mono : ∀ a0 a1 a2 a3 a4 k, LeO (Lw_LineSpeeds.f k a0 a1 a2 a3 a4) (Lw_LineSpeeds.f (k + 1) a0 a1 a2 a3 a4) := by
  intro a0 a1 a2 a3 a4 k
  have ih0 := Lw_LineSpeeds.mono_l k
  unfold Lw_LineSpeeds.f
  repeat' with_reducible first
    | exact ih0 ..
    | exact Lw_awake.mono ..
    | exact Rf_Position.mono ..
    | exact Rf_ScaleErr.mono ..
    | exact Rf_Speed.mono ..
    | exact L_PositionOf.mono ..
    | exact L_SpeedAt.mono ..
    | exact LeO.refl ..
    | exact LeO.none ..
    | refine LeO.ite ?_ ?_
    | refine LeO.bind ?_ (fun _ => ?_)
theorem Lw_LineSpeeds.calls (k : Nat) (a0_0 : Int) (a0_1 : Int) (a1_0 : Int) (a1_1 : Int) (a1_2 : Int) (r : Bool) (w : World) (hG : EstG w) (h : Lw_LineSpeeds.f k a0_0 a0_1 a1_0 a1_1 a1_2 = some r) :
    Calls Tryd.prog 7 #[.agg #[.int .i64 a0_0, .int .i64 a0_1], .agg #[.int .i64 a1_0, .int .i64 a1_1, .int .i64 a1_2]] w fun e w' => e = .returned (.bool r) ∧ Below w.heap.size w w' := by
  have hu26 := Tryd.underlying26
  have hu63 := Tryd.underlying63
  have HG := m0 hG
  clear hG
  have HB := m0 (Below.refl w.heap.size w)
  have H : ((Lw_awake.f k).bind fun t858 => (if t858 = true then ((L_SpeedAt.f k a0_0 a0_1 a1_0 a1_1 a1_2).bind fun bt859 => ((L_PositionOf.f k a0_0 a0_1 a1_0 a1_1 a1_2).bind fun bt863 => ((Rf_ScaleErr.f k a0_0 a0_1 a1_0 a1_1 a1_2).bind fun t867 => (if t867 = 0 then ((Rf_Speed.f k a0_0 a0_1 a1_0 a1_1 a1_2).bind fun bt868 => ((Rf_Position.f k a0_0 a0_1 a1_0 a1_1 a1_2).bind fun bt872 => (if bt868.2.2 = true then (if bt859.2.2 = 0 then (if (!(bt859.1 == bt868.1) || (!(bt859.2.1 == bt868.2.1))) = true then (Lw_LineSpeeds.j0 k bt868.2.2 true a0_0 a0_1 a1_0 a1_1 a1_2 bt859.1 bt859.2.1) else (if bt872.2.2 = true then (if bt863.2.2 = 0 then (if (!(bt863.1 == bt872.1) || (!(bt863.2.1 == bt872.2.1))) = true then (Lw_LineSpeeds.j0 k bt868.2.2 true a0_0 a0_1 a1_0 a1_1 a1_2 bt859.1 bt859.2.1) else (Lw_LineSpeeds.j0 k bt868.2.2 false a0_0 a0_1 a1_0 a1_1 a1_2 bt859.1 bt859.2.1)) else (Lw_LineSpeeds.j0 k bt868.2.2 true a0_0 a0_1 a1_0 a1_1 a1_2 bt859.1 bt859.2.1)) else (if bt863.2.2 = 8 then (Lw_LineSpeeds.j0 k bt868.2.2 (!(bt863.1 == 0) || (!(bt863.2.1 == 0))) a0_0 a0_1 a1_0 a1_1 a1_2 bt859.1 bt859.2.1) else (Lw_LineSpeeds.j0 k bt868.2.2 true a0_0 a0_1 a1_0 a1_1 a1_2 bt859.1 bt859.2.1)))) else (Lw_LineSpeeds.j0 k bt868.2.2 true a0_0 a0_1 a1_0 a1_1 a1_2 bt859.1 bt859.2.1)) else (if bt859.2.2 = 8 then (if (!(bt859.1 == 0) || (!(bt859.2.1 == 0))) = true then (Lw_LineSpeeds.j0 k bt868.2.2 true a0_0 a0_1 a1_0 a1_1 a1_2 bt859.1 bt859.2.1) else (if bt872.2.2 = true then (if bt863.2.2 = 0 then (if (!(bt863.1 == bt872.1) || (!(bt863.2.1 == bt872.2.1))) = true then (Lw_LineSpeeds.j0 k bt868.2.2 true a0_0 a0_1 a1_0 a1_1 a1_2 bt859.1 bt859.2.1) else (Lw_LineSpeeds.j0 k bt868.2.2 false a0_0 a0_1 a1_0 a1_1 a1_2 bt859.1 bt859.2.1)) else (Lw_LineSpeeds.j0 k bt868.2.2 true a0_0 a0_1 a1_0 a1_1 a1_2 bt859.1 bt859.2.1)) else (if bt863.2.2 = 8 then (Lw_LineSpeeds.j0 k bt868.2.2 (!(bt863.1 == 0) || (!(bt863.2.1 == 0))) a0_0 a0_1 a1_0 a1_1 a1_2 bt859.1 bt859.2.1) else (Lw_LineSpeeds.j0 k bt868.2.2 true a0_0 a0_1 a1_0 a1_1 a1_2 bt859.1 bt859.2.1)))) else (Lw_LineSpeeds.j0 k bt868.2.2 true a0_0 a0_1 a1_0 a1_1 a1_2 bt859.1 bt859.2.1))))) else (if bt859.2.2 = t867 then (if bt863.2.2 = t867 then (if (bt859.1 == 0 && (bt859.2.1 == 0)) = true then (some (bt863.1 == 0 && (bt863.2.1 == 0))) else (none)) else (none)) else (none)))))) else (none))) = some r := h
  clear h
  replace H := ob H
  obtain ⟨t858, A3, H⟩ := H
  (try dsimp only at H)
  replace A3 := m0 A3
  by_cases c4 : t858 = true
  · subst c4
    rw [if_pos rfl] at H
    replace H := ob H
    obtain ⟨⟨t859, t860, t861⟩, A5, H⟩ := H
    (try dsimp only at H)
    replace A5 := m0 A5
    replace H := ob H
    obtain ⟨⟨t863, t864, t865⟩, A6, H⟩ := H
    (try dsimp only at H)
    replace A6 := m0 A6
    replace H := ob H
    obtain ⟨t867, A7, H⟩ := H
    (try dsimp only at H)
    replace A7 := m0 A7
    by_cases c8 : t867 = 0
    · rw [if_pos c8] at H
      have c8b0 := beq_iff_eq.mpr c8
      have c8b1 := bne_eq_false_iff_eq.mpr c8
      clear c8
      replace H := ob H
      obtain ⟨⟨t868, t869, t870⟩, A9, H⟩ := H
      (try dsimp only at H)
      replace A9 := m0 A9
      replace H := ob H
      obtain ⟨⟨t872, t873, t874⟩, A10, H⟩ := H
      (try dsimp only at H)
      replace A10 := m0 A10
      have HC11 := m0 H
      clear H
      go_enter Tryd.func7, Tryd.ntmps7
      go_upto_region 10 with (first | ((with_reducible refine gate_dst (N := 2) rfl ?_); refine be 2 26 #[.int .i64 a0_0, .int .i64 a0_1] ?_; intro gb856 hg w12 hbox hb; have BK856 := m0 hbox; have GE856 := gw w hg; replace HB := sb HB hb; clear hb hbox hg) | ((with_reducible refine gate_dst (N := 3) rfl ?_); refine be 3 63 #[.int .i64 a1_0, .int .i64 a1_1, .int .i64 a1_2] ?_; intro gb857 hg w13 hbox hb; have BK857 := m0 hbox; have GE857 := gw w hg; replace HB := sb HB hb; have NB856_857 := nl BK856 hg; have NB857_856 := ng (nl BK856 hg); replace BK856 := bb BK856 hb; clear hb hbox hg) | ((with_reducible refine gate_callee (f := 18) rfl ?_); refine gl (some 16) Tryd.func18 #[] ?_; (with_reducible refine (Lw_awake.calls k  true _ ?side1 A3.out).mono ?_); (case side1 => exact EstG.below HG.out bz); rintro e w14 ⟨rfl, hb⟩; refine ⟨_, rfl, ?_⟩; replace BK856 := bb BK856 hb; replace BK857 := bb BK857 hb; replace HB := sb HB hb; (try clear hb); have hnb15 := NB856_857.out; have hnc15 := NB857_856.out; obtain ⟨hcz16_0, hcz16_1, hfz16_0, hfz16_1⟩ := b2 BK856; obtain ⟨hcz17_0, hcz17_1, hcz17_2, hfz17_0, hfz17_1, hfz17_2⟩ := b3 BK857) | ((with_reducible refine gate_callee (f := 45) rfl ?_); refine gl (some 21) Tryd.func45 #[.agg #[.int .i64 a0_0, .int .i64 a0_1], .agg #[.int .i64 a1_0, .int .i64 a1_1, .int .i64 a1_2]] ?_; (with_reducible refine (L_SpeedAt.calls k a0_0 a0_1 a1_0 a1_1 a1_2 t859 t860 t861 _ A5.out).mono ?_); rintro e w18 ⟨rfl, hb⟩; refine ⟨_, rfl, ?_⟩; replace BK856 := bb BK856 hb; replace BK857 := bb BK857 hb; replace HB := sb HB hb; (try clear hb)) | ((with_reducible refine gate_dst (N := 5) rfl ?_); refine be 5 26 #[.int .i64 0, .int .i64 0] ?_; intro gb862 hg w19 hbox hb; have BK862 := m0 hbox; have GE862 := gw w hg; replace HB := sb HB hb; have NB856_862 := nl BK856 hg; have NB862_856 := ng (nl BK856 hg); replace BK856 := bb BK856 hb; have NB857_862 := nl BK857 hg; have NB862_857 := ng (nl BK857 hg); replace BK857 := bb BK857 hb; clear hb hbox hg; have hnb20 := NB862_856.out; have hnc20 := NB856_862.out; have hnb21 := NB862_857.out; have hnc21 := NB857_862.out; obtain ⟨hcz22_0, hcz22_1, hfz22_0, hfz22_1⟩ := b2 BK862; obtain ⟨hcz23_0, hcz23_1, hfz23_0, hfz23_1⟩ := b2 BK856; obtain ⟨hcz24_0, hcz24_1, hcz24_2, hfz24_0, hfz24_1, hfz24_2⟩ := b3 BK857) | ((with_reducible refine gate_callee (f := 46) rfl ?_); refine gl (some 27) Tryd.func46 #[.agg #[.int .i64 a0_0, .int .i64 a0_1], .agg #[.int .i64 a1_0, .int .i64 a1_1, .int .i64 a1_2]] ?_; (with_reducible refine (L_PositionOf.calls k a0_0 a0_1 a1_0 a1_1 a1_2 t863 t864 t865 _ A6.out).mono ?_); rintro e w25 ⟨rfl, hb⟩; refine ⟨_, rfl, ?_⟩; replace BK856 := m0 (blk_below (g := gb856) (o := .cells #[.int .i64 a0_0, .int .i64 a0_1] 26 (0, 0)) (bq BK856.out) hb); replace BK857 := m0 (blk_below (g := gb857) (o := .cells #[.int .i64 a1_0, .int .i64 a1_1, .int .i64 a1_2] 63 (0, 0)) (bq BK857.out) hb); replace BK862 := m0 (blk_below (g := gb862) (o := .cells #[.int .i64 t859, .int .i64 t860] 26 (0, 0)) (bq BK862.out) hb); replace HB := sb HB hb; (try clear hb)) | ((with_reducible refine gate_dst (N := 7) rfl ?_); refine be 7 26 #[.int .i64 0, .int .i64 0] ?_; intro gb866 hg w26 hbox hb; have BK866 := m0 hbox; have GE866 := gw w hg; replace HB := sb HB hb; have NB856_866 := nl BK856 hg; have NB866_856 := ng (nl BK856 hg); replace BK856 := bb BK856 hb; have NB857_866 := nl BK857 hg; have NB866_857 := ng (nl BK857 hg); replace BK857 := bb BK857 hb; have NB862_866 := nl BK862 hg; have NB866_862 := ng (nl BK862 hg); replace BK862 := bb BK862 hb; clear hb hbox hg; have hnb27 := NB866_856.out; have hnc27 := NB856_866.out; have hnb28 := NB866_857.out; have hnc28 := NB857_866.out; have hnb29 := NB866_862.out; have hnc29 := NB862_866.out; obtain ⟨hcz30_0, hcz30_1, hfz30_0, hfz30_1⟩ := b2 BK866; obtain ⟨hcz31_0, hcz31_1, hfz31_0, hfz31_1⟩ := b2 BK856; obtain ⟨hcz32_0, hcz32_1, hcz32_2, hfz32_0, hfz32_1, hfz32_2⟩ := b3 BK857) | ((with_reducible refine gate_callee (f := 47) rfl ?_); refine gl (some 32) Tryd.func47 #[.agg #[.int .i64 a0_0, .int .i64 a0_1], .agg #[.int .i64 a1_0, .int .i64 a1_1, .int .i64 a1_2]] ?_; (with_reducible refine (Rf_ScaleErr.calls k a0_0 a0_1 a1_0 a1_1 a1_2 t867 _ A7.out).mono ?_); rintro e w33 ⟨rfl, hb⟩; refine ⟨_, rfl, ?_⟩; replace BK856 := m0 (blk_below (g := gb856) (o := .cells #[.int .i64 a0_0, .int .i64 a0_1] 26 (0, 0)) (bq BK856.out) hb); replace BK857 := m0 (blk_below (g := gb857) (o := .cells #[.int .i64 a1_0, .int .i64 a1_1, .int .i64 a1_2] 63 (0, 0)) (bq BK857.out) hb); replace BK862 := m0 (blk_below (g := gb862) (o := .cells #[.int .i64 t859, .int .i64 t860] 26 (0, 0)) (bq BK862.out) hb); replace BK866 := m0 (blk_below (g := gb866) (o := .cells #[.int .i64 t863, .int .i64 t864] 26 (0, 0)) (bq BK866.out) hb); replace HB := sb HB hb; (try clear hb); obtain ⟨hcz34_0, hcz34_1, hfz34_0, hfz34_1⟩ := b2 BK856; obtain ⟨hcz35_0, hcz35_1, hcz35_2, hfz35_0, hfz35_1, hfz35_2⟩ := b3 BK857) | ((with_reducible refine gate_callee (f := 48) rfl ?_); refine gl (some 56) Tryd.func48 #[.agg #[.int .i64 a0_0, .int .i64 a0_1], .agg #[.int .i64 a1_0, .int .i64 a1_1, .int .i64 a1_2]] ?_; (with_reducible refine (Rf_Speed.calls k a0_0 a0_1 a1_0 a1_1 a1_2 t868 t869 t870 _ A9.out).mono ?_); rintro e w36 ⟨rfl, hb⟩; refine ⟨_, rfl, ?_⟩; replace BK856 := bb BK856 hb; replace BK857 := bb BK857 hb; replace BK862 := bb BK862 hb; replace BK866 := bb BK866 hb; replace HB := sb HB hb; (try clear hb)) | ((with_reducible refine gate_dst (N := 10) rfl ?_); refine be 10 26 #[.int .i64 0, .int .i64 0] ?_; intro gb871 hg w37 hbox hb; have BK871 := m0 hbox; have GE871 := gw w hg; replace HB := sb HB hb; have NB856_871 := nl BK856 hg; have NB871_856 := ng (nl BK856 hg); replace BK856 := bb BK856 hb; have NB857_871 := nl BK857 hg; have NB871_857 := ng (nl BK857 hg); replace BK857 := bb BK857 hb; have NB862_871 := nl BK862 hg; have NB871_862 := ng (nl BK862 hg); replace BK862 := bb BK862 hb; have NB866_871 := nl BK866 hg; have NB871_866 := ng (nl BK866 hg); replace BK866 := bb BK866 hb; clear hb hbox hg; have hnb38 := NB871_856.out; have hnc38 := NB856_871.out; have hnb39 := NB871_857.out; have hnc39 := NB857_871.out; have hnb40 := NB871_862.out; have hnc40 := NB862_871.out; have hnb41 := NB871_866.out; have hnc41 := NB866_871.out; obtain ⟨hcz42_0, hcz42_1, hfz42_0, hfz42_1⟩ := b2 BK871; obtain ⟨hcz43_0, hcz43_1, hfz43_0, hfz43_1⟩ := b2 BK856; obtain ⟨hcz44_0, hcz44_1, hcz44_2, hfz44_0, hfz44_1, hfz44_2⟩ := b3 BK857) | ((with_reducible refine gate_callee (f := 49) rfl ?_); refine gl (some 62) Tryd.func49 #[.agg #[.int .i64 a0_0, .int .i64 a0_1], .agg #[.int .i64 a1_0, .int .i64 a1_1, .int .i64 a1_2]] ?_; (with_reducible refine (Rf_Position.calls k a0_0 a0_1 a1_0 a1_1 a1_2 t872 t873 t874 _ A10.out).mono ?_); rintro e w45 ⟨rfl, hb⟩; refine ⟨_, rfl, ?_⟩; replace BK856 := m0 (blk_below (g := gb856) (o := .cells #[.int .i64 a0_0, .int .i64 a0_1] 26 (0, 0)) (bq BK856.out) hb); replace BK857 := m0 (blk_below (g := gb857) (o := .cells #[.int .i64 a1_0, .int .i64 a1_1, .int .i64 a1_2] 63 (0, 0)) (bq BK857.out) hb); replace BK862 := m0 (blk_below (g := gb862) (o := .cells #[.int .i64 t859, .int .i64 t860] 26 (0, 0)) (bq BK862.out) hb); replace BK866 := m0 (blk_below (g := gb866) (o := .cells #[.int .i64 t863, .int .i64 t864] 26 (0, 0)) (bq BK866.out) hb); replace BK871 := m0 (blk_below (g := gb871) (o := .cells #[.int .i64 t868, .int .i64 t869] 26 (0, 0)) (bq BK871.out) hb); replace HB := sb HB hb; (try clear hb)) | ((with_reducible refine gate_dst (N := 12) rfl ?_); refine be 12 26 #[.int .i64 0, .int .i64 0] ?_; intro gb875 hg w46 hbox hb; have BK875 := m0 hbox; have GE875 := gw w hg; replace HB := sb HB hb; have NB856_875 := nl BK856 hg; have NB875_856 := ng (nl BK856 hg); replace BK856 := bb BK856 hb; have NB857_875 := nl BK857 hg; have NB875_857 := ng (nl BK857 hg); replace BK857 := bb BK857 hb; have NB862_875 := nl BK862 hg; have NB875_862 := ng (nl BK862 hg); replace BK862 := bb BK862 hb; have NB866_875 := nl BK866 hg; have NB875_866 := ng (nl BK866 hg); replace BK866 := bb BK866 hb; have NB871_875 := nl BK871 hg; have NB875_871 := ng (nl BK871 hg); replace BK871 := bb BK871 hb; clear hb hbox hg; have hnb47 := NB875_856.out; have hnc47 := NB856_875.out; have hnb48 := NB875_857.out; have hnc48 := NB857_875.out; have hnb49 := NB875_862.out; have hnc49 := NB862_875.out; have hnb50 := NB875_866.out; have hnc50 := NB866_875.out; have hnb51 := NB875_871.out; have hnc51 := NB871_875.out; obtain ⟨hcz52_0, hcz52_1, hfz52_0, hfz52_1⟩ := b2 BK875))
      (try simp only [Act.put, List.setIfInBounds_toArray, List.set_cons_zero, List.set_cons_succ])
      go_cut [112] (fun v112 wc => ∃ (kq : Nat) (x112_10 : Bool), v112 = .bool x112_10 ∧ Aside0 (Lw_LineSpeeds.j0 kq t870 x112_10 a0_0 a0_1 a1_0 a1_1 a1_2 t859 t860 = some r) ∧ Aside0 (kq ≤ k) ∧ Aside0 (wc.heap[gb856]? = some (.cells #[.int .i64 a0_0, .int .i64 a0_1] 26 (0, 0))) ∧ Aside0 (wc.heap[gb857]? = some (.cells #[.int .i64 a1_0, .int .i64 a1_1, .int .i64 a1_2] 63 (0, 0))) ∧ Aside0 (wc.heap[gb862]? = some (.cells #[.int .i64 t859, .int .i64 t860] 26 (0, 0))) ∧ Aside0 (wc.heap[gb866]? = some (.cells #[.int .i64 t863, .int .i64 t864] 26 (0, 0))) ∧ Aside0 (wc.heap[gb871]? = some (.cells #[.int .i64 t868, .int .i64 t869] 26 (0, 0))) ∧ Aside0 (wc.heap[gb875]? = some (.cells #[.int .i64 t872, .int .i64 t873] 26 (0, 0))) ∧ Aside0 (Below w.heap.size w wc))
      case first =>
        have H := HC11.out
        clear HC11
        by_cases c53 : t870 = true
        · subst c53
          rw [if_pos rfl] at H
          by_cases c54 : t861 = 0
          · rw [if_pos c54] at H
            have c54b0 := beq_iff_eq.mpr c54
            have c54b1 := bne_eq_false_iff_eq.mpr c54
            clear c54
            (first | rw [c54b0] | (simp only [i64_w, i32_w]; rw [c54b0]) | skip)
            by_cases c55 : (!(t859 == t868) || (!(t860 == t869))) = true
            · rw [if_pos c55] at H
              have c55b0 : (!(t859 == t868) || (!(t860 == t869))) = true := c55
              clear c55
              have H' := m0 H
              clear H
              have hnb56 := NB862_856.out
              have hnc56 := NB856_862.out
              have hnb57 := NB862_857.out
              have hnc57 := NB857_862.out
              have hnb58 := NB862_866.out
              have hnc58 := NB866_862.out
              have hnb59 := NB862_871.out
              have hnc59 := NB871_862.out
              have hnb60 := NB862_875.out
              have hnc60 := NB875_862.out
              obtain ⟨hcz61_0, hcz61_1, hfz61_0, hfz61_1⟩ := b2 BK862
              have hnb62 := NB871_856.out
              have hnc62 := NB856_871.out
              have hnb63 := NB871_857.out
              have hnc63 := NB857_871.out
              have hnb64 := NB871_866.out
              have hnc64 := NB866_871.out
              have hnb65 := NB871_875.out
              have hnc65 := NB875_871.out
              obtain ⟨hcz66_0, hcz66_1, hfz66_0, hfz66_1⟩ := b2 BK871
              go_wp2
              go_meet
              case rel => exact ⟨_, (true), (by first | rfl | (simp; done) | (simp [*]; done)), H', ⟨by first | omega | exact Nat.le_refl _⟩, ⟨bq BK856.out⟩, ⟨bq BK857.out⟩, ⟨bq BK862.out⟩, ⟨bq BK866.out⟩, ⟨bq BK871.out⟩, ⟨bq BK875.out⟩, ⟨bz⟩⟩
            · rw [if_neg c55] at H
              have c55b0 : (!(t859 == t868) || (!(t860 == t869))) = false := by simpa using c55
              clear c55
              by_cases c67 : t874 = true
              · subst c67
                rw [if_pos rfl] at H
                by_cases c68 : t865 = 0
                · rw [if_pos c68] at H
                  have c68b0 := beq_iff_eq.mpr c68
                  have c68b1 := bne_eq_false_iff_eq.mpr c68
                  clear c68
                  by_cases c69 : (!(t863 == t872) || (!(t864 == t873))) = true
                  · rw [if_pos c69] at H
                    have c69b0 : (!(t863 == t872) || (!(t864 == t873))) = true := c69
                    clear c69
                    have H' := m0 H
                    clear H
                    have hnb70 := NB862_856.out
                    have hnc70 := NB856_862.out
                    have hnb71 := NB862_857.out
                    have hnc71 := NB857_862.out
                    have hnb72 := NB862_866.out
                    have hnc72 := NB866_862.out
                    have hnb73 := NB862_871.out
                    have hnc73 := NB871_862.out
                    have hnb74 := NB862_875.out
                    have hnc74 := NB875_862.out
                    obtain ⟨hcz75_0, hcz75_1, hfz75_0, hfz75_1⟩ := b2 BK862
                    have hnb76 := NB871_856.out
                    have hnc76 := NB856_871.out
                    have hnb77 := NB871_857.out
                    have hnc77 := NB857_871.out
                    have hnb78 := NB871_866.out
                    have hnc78 := NB866_871.out
                    have hnb79 := NB871_875.out
                    have hnc79 := NB875_871.out
                    obtain ⟨hcz80_0, hcz80_1, hfz80_0, hfz80_1⟩ := b2 BK871
                    have hnb81 := NB866_856.out
                    have hnc81 := NB856_866.out
                    have hnb82 := NB866_857.out
                    have hnc82 := NB857_866.out
                    have hnb83 := NB866_875.out
                    have hnc83 := NB875_866.out
                    obtain ⟨hcz84_0, hcz84_1, hfz84_0, hfz84_1⟩ := b2 BK866
                    have hnb85 := NB875_856.out
                    have hnc85 := NB856_875.out
                    have hnb86 := NB875_857.out
                    have hnc86 := NB857_875.out
                    obtain ⟨hcz87_0, hcz87_1, hfz87_0, hfz87_1⟩ := b2 BK875
                    go_wp2
                    go_meet
                    case rel => exact ⟨_, (true), (by first | rfl | (simp; done) | (simp [*]; done)), H', ⟨by first | omega | exact Nat.le_refl _⟩, ⟨bq BK856.out⟩, ⟨bq BK857.out⟩, ⟨bq BK862.out⟩, ⟨bq BK866.out⟩, ⟨bq BK871.out⟩, ⟨bq BK875.out⟩, ⟨bz⟩⟩
                  · rw [if_neg c69] at H
                    have c69b0 : (!(t863 == t872) || (!(t864 == t873))) = false := by simpa using c69
                    clear c69
                    have H' := m0 H
                    clear H
                    have hnb88 := NB862_856.out
                    have hnc88 := NB856_862.out
                    have hnb89 := NB862_857.out
                    have hnc89 := NB857_862.out
                    have hnb90 := NB862_866.out
                    have hnc90 := NB866_862.out
                    have hnb91 := NB862_871.out
                    have hnc91 := NB871_862.out
                    have hnb92 := NB862_875.out
                    have hnc92 := NB875_862.out
                    obtain ⟨hcz93_0, hcz93_1, hfz93_0, hfz93_1⟩ := b2 BK862
                    have hnb94 := NB871_856.out
                    have hnc94 := NB856_871.out
                    have hnb95 := NB871_857.out
                    have hnc95 := NB857_871.out
                    have hnb96 := NB871_866.out
                    have hnc96 := NB866_871.out
                    have hnb97 := NB871_875.out
                    have hnc97 := NB875_871.out
                    obtain ⟨hcz98_0, hcz98_1, hfz98_0, hfz98_1⟩ := b2 BK871
                    have hnb99 := NB866_856.out
                    have hnc99 := NB856_866.out
                    have hnb100 := NB866_857.out
                    have hnc100 := NB857_866.out
                    have hnb101 := NB866_875.out
                    have hnc101 := NB875_866.out
                    obtain ⟨hcz102_0, hcz102_1, hfz102_0, hfz102_1⟩ := b2 BK866
                    have hnb103 := NB875_856.out
                    have hnc103 := NB856_875.out
                    have hnb104 := NB875_857.out
                    have hnc104 := NB857_875.out
                    obtain ⟨hcz105_0, hcz105_1, hfz105_0, hfz105_1⟩ := b2 BK875
                    go_wp2
                    go_meet
                    case rel => exact ⟨_, (false), (by first | rfl | (simp; done) | (simp [*]; done)), H', ⟨by first | omega | exact Nat.le_refl _⟩, ⟨bq BK856.out⟩, ⟨bq BK857.out⟩, ⟨bq BK862.out⟩, ⟨bq BK866.out⟩, ⟨bq BK871.out⟩, ⟨bq BK875.out⟩, ⟨bz⟩⟩
                · rw [if_neg c68] at H
                  have c68b0 := beq_eq_false_iff_ne.mpr c68
                  have c68b1 := bne_iff_ne.mpr c68
                  have H' := m0 H
                  clear H
                  have hnb106 := NB862_856.out
                  have hnc106 := NB856_862.out
                  have hnb107 := NB862_857.out
                  have hnc107 := NB857_862.out
                  have hnb108 := NB862_866.out
                  have hnc108 := NB866_862.out
                  have hnb109 := NB862_871.out
                  have hnc109 := NB871_862.out
                  have hnb110 := NB862_875.out
                  have hnc110 := NB875_862.out
                  obtain ⟨hcz111_0, hcz111_1, hfz111_0, hfz111_1⟩ := b2 BK862
                  have hnb112 := NB871_856.out
                  have hnc112 := NB856_871.out
                  have hnb113 := NB871_857.out
                  have hnc113 := NB857_871.out
                  have hnb114 := NB871_866.out
                  have hnc114 := NB866_871.out
                  have hnb115 := NB871_875.out
                  have hnc115 := NB875_871.out
                  obtain ⟨hcz116_0, hcz116_1, hfz116_0, hfz116_1⟩ := b2 BK871
                  go_wp2
                  go_meet
                  case rel => exact ⟨_, (true), (by first | rfl | (simp; done) | (simp [*]; done)), H', ⟨by first | omega | exact Nat.le_refl _⟩, ⟨bq BK856.out⟩, ⟨bq BK857.out⟩, ⟨bq BK862.out⟩, ⟨bq BK866.out⟩, ⟨bq BK871.out⟩, ⟨bq BK875.out⟩, ⟨bz⟩⟩
              · replace c67 := Bool.eq_false_iff.mpr c67
                subst c67
                rw [if_neg (show ¬ (false = true) by decide)] at H
                by_cases c117 : t865 = 8
                · rw [if_pos c117] at H
                  have c117b0 := beq_iff_eq.mpr c117
                  have c117b1 := bne_eq_false_iff_eq.mpr c117
                  clear c117
                  have H' := m0 H
                  clear H
                  have hnb118 := NB862_856.out
                  have hnc118 := NB856_862.out
                  have hnb119 := NB862_857.out
                  have hnc119 := NB857_862.out
                  have hnb120 := NB862_866.out
                  have hnc120 := NB866_862.out
                  have hnb121 := NB862_871.out
                  have hnc121 := NB871_862.out
                  have hnb122 := NB862_875.out
                  have hnc122 := NB875_862.out
                  obtain ⟨hcz123_0, hcz123_1, hfz123_0, hfz123_1⟩ := b2 BK862
                  have hnb124 := NB871_856.out
                  have hnc124 := NB856_871.out
                  have hnb125 := NB871_857.out
                  have hnc125 := NB857_871.out
                  have hnb126 := NB871_866.out
                  have hnc126 := NB866_871.out
                  have hnb127 := NB871_875.out
                  have hnc127 := NB875_871.out
                  obtain ⟨hcz128_0, hcz128_1, hfz128_0, hfz128_1⟩ := b2 BK871
                  have hnb129 := NB866_856.out
                  have hnc129 := NB856_866.out
                  have hnb130 := NB866_857.out
                  have hnc130 := NB857_866.out
                  have hnb131 := NB866_875.out
                  have hnc131 := NB875_866.out
                  obtain ⟨hcz132_0, hcz132_1, hfz132_0, hfz132_1⟩ := b2 BK866
                  go_wp2
                  go_meet
                  case rel => exact ⟨_, ((!(t863 == 0) || (!(t864 == 0)))), (by first | rfl | (simp; done) | (simp [*]; done)), H', ⟨by first | omega | exact Nat.le_refl _⟩, ⟨bq BK856.out⟩, ⟨bq BK857.out⟩, ⟨bq BK862.out⟩, ⟨bq BK866.out⟩, ⟨bq BK871.out⟩, ⟨bq BK875.out⟩, ⟨bz⟩⟩
                · rw [if_neg c117] at H
                  have c117b0 := beq_eq_false_iff_ne.mpr c117
                  have c117b1 := bne_iff_ne.mpr c117
                  have H' := m0 H
                  clear H
                  have hnb133 := NB862_856.out
                  have hnc133 := NB856_862.out
                  have hnb134 := NB862_857.out
                  have hnc134 := NB857_862.out
                  have hnb135 := NB862_866.out
                  have hnc135 := NB866_862.out
                  have hnb136 := NB862_871.out
                  have hnc136 := NB871_862.out
                  have hnb137 := NB862_875.out
                  have hnc137 := NB875_862.out
                  obtain ⟨hcz138_0, hcz138_1, hfz138_0, hfz138_1⟩ := b2 BK862
                  have hnb139 := NB871_856.out
                  have hnc139 := NB856_871.out
                  have hnb140 := NB871_857.out
                  have hnc140 := NB857_871.out
                  have hnb141 := NB871_866.out
                  have hnc141 := NB866_871.out
                  have hnb142 := NB871_875.out
                  have hnc142 := NB875_871.out
                  obtain ⟨hcz143_0, hcz143_1, hfz143_0, hfz143_1⟩ := b2 BK871
                  go_wp2
                  go_meet
                  case rel => exact ⟨_, (true), (by first | rfl | (simp; done) | (simp [*]; done)), H', ⟨by first | omega | exact Nat.le_refl _⟩, ⟨bq BK856.out⟩, ⟨bq BK857.out⟩, ⟨bq BK862.out⟩, ⟨bq BK866.out⟩, ⟨bq BK871.out⟩, ⟨bq BK875.out⟩, ⟨bz⟩⟩
          · rw [if_neg c54] at H
            have c54b0 := beq_eq_false_iff_ne.mpr c54
            have c54b1 := bne_iff_ne.mpr c54
            (first | rw [c54b0] | (simp only [i64_w, i32_w]; rw [c54b0]) | skip)
            have H' := m0 H
            clear H
            go_wp2
            go_meet
            case rel => exact ⟨_, (true), (by first | rfl | (simp; done) | (simp [*]; done)), H', ⟨by first | omega | exact Nat.le_refl _⟩, ⟨bq BK856.out⟩, ⟨bq BK857.out⟩, ⟨bq BK862.out⟩, ⟨bq BK866.out⟩, ⟨bq BK871.out⟩, ⟨bq BK875.out⟩, ⟨bz⟩⟩
        · replace c53 := Bool.eq_false_iff.mpr c53
          subst c53
          rw [if_neg (show ¬ (false = true) by decide)] at H
          by_cases c144 : t861 = 8
          · rw [if_pos c144] at H
            have c144b0 := beq_iff_eq.mpr c144
            have c144b1 := bne_eq_false_iff_eq.mpr c144
            clear c144
            by_cases c145 : (!(t859 == 0) || (!(t860 == 0))) = true
            · rw [if_pos c145] at H
              have c145b0 : (!(t859 == 0) || (!(t860 == 0))) = true := c145
              clear c145
              have H' := m0 H
              clear H
              have hnb146 := NB862_856.out
              have hnc146 := NB856_862.out
              have hnb147 := NB862_857.out
              have hnc147 := NB857_862.out
              have hnb148 := NB862_866.out
              have hnc148 := NB866_862.out
              have hnb149 := NB862_871.out
              have hnc149 := NB871_862.out
              have hnb150 := NB862_875.out
              have hnc150 := NB875_862.out
              obtain ⟨hcz151_0, hcz151_1, hfz151_0, hfz151_1⟩ := b2 BK862
              go_wp2
              go_meet
              case rel => exact ⟨_, (true), (by first | rfl | (simp; done) | (simp [*]; done)), H', ⟨by first | omega | exact Nat.le_refl _⟩, ⟨bq BK856.out⟩, ⟨bq BK857.out⟩, ⟨bq BK862.out⟩, ⟨bq BK866.out⟩, ⟨bq BK871.out⟩, ⟨bq BK875.out⟩, ⟨bz⟩⟩
            · rw [if_neg c145] at H
              have c145b0 : (!(t859 == 0) || (!(t860 == 0))) = false := by simpa using c145
              clear c145
              by_cases c152 : t874 = true
              · subst c152
                rw [if_pos rfl] at H
                by_cases c153 : t865 = 0
                · rw [if_pos c153] at H
                  have c153b0 := beq_iff_eq.mpr c153
                  have c153b1 := bne_eq_false_iff_eq.mpr c153
                  clear c153
                  by_cases c154 : (!(t863 == t872) || (!(t864 == t873))) = true
                  · rw [if_pos c154] at H
                    have c154b0 : (!(t863 == t872) || (!(t864 == t873))) = true := c154
                    clear c154
                    have H' := m0 H
                    clear H
                    have hnb155 := NB862_856.out
                    have hnc155 := NB856_862.out
                    have hnb156 := NB862_857.out
                    have hnc156 := NB857_862.out
                    have hnb157 := NB862_866.out
                    have hnc157 := NB866_862.out
                    have hnb158 := NB862_871.out
                    have hnc158 := NB871_862.out
                    have hnb159 := NB862_875.out
                    have hnc159 := NB875_862.out
                    obtain ⟨hcz160_0, hcz160_1, hfz160_0, hfz160_1⟩ := b2 BK862
                    have hnb161 := NB866_856.out
                    have hnc161 := NB856_866.out
                    have hnb162 := NB866_857.out
                    have hnc162 := NB857_866.out
                    have hnb163 := NB866_871.out
                    have hnc163 := NB871_866.out
                    have hnb164 := NB866_875.out
                    have hnc164 := NB875_866.out
                    obtain ⟨hcz165_0, hcz165_1, hfz165_0, hfz165_1⟩ := b2 BK866
                    have hnb166 := NB875_856.out
                    have hnc166 := NB856_875.out
                    have hnb167 := NB875_857.out
                    have hnc167 := NB857_875.out
                    have hnb168 := NB875_871.out
                    have hnc168 := NB871_875.out
                    obtain ⟨hcz169_0, hcz169_1, hfz169_0, hfz169_1⟩ := b2 BK875
                    go_wp2
                    go_meet
                    case rel => exact ⟨_, (true), (by first | rfl | (simp; done) | (simp [*]; done)), H', ⟨by first | omega | exact Nat.le_refl _⟩, ⟨bq BK856.out⟩, ⟨bq BK857.out⟩, ⟨bq BK862.out⟩, ⟨bq BK866.out⟩, ⟨bq BK871.out⟩, ⟨bq BK875.out⟩, ⟨bz⟩⟩
                  · rw [if_neg c154] at H
                    have c154b0 : (!(t863 == t872) || (!(t864 == t873))) = false := by simpa using c154
                    clear c154
                    have H' := m0 H
                    clear H
                    have hnb170 := NB862_856.out
                    have hnc170 := NB856_862.out
                    have hnb171 := NB862_857.out
                    have hnc171 := NB857_862.out
                    have hnb172 := NB862_866.out
                    have hnc172 := NB866_862.out
                    have hnb173 := NB862_871.out
                    have hnc173 := NB871_862.out
                    have hnb174 := NB862_875.out
                    have hnc174 := NB875_862.out
                    obtain ⟨hcz175_0, hcz175_1, hfz175_0, hfz175_1⟩ := b2 BK862
                    have hnb176 := NB866_856.out
                    have hnc176 := NB856_866.out
                    have hnb177 := NB866_857.out
                    have hnc177 := NB857_866.out
                    have hnb178 := NB866_871.out
                    have hnc178 := NB871_866.out
                    have hnb179 := NB866_875.out
                    have hnc179 := NB875_866.out
                    obtain ⟨hcz180_0, hcz180_1, hfz180_0, hfz180_1⟩ := b2 BK866
                    have hnb181 := NB875_856.out
                    have hnc181 := NB856_875.out
                    have hnb182 := NB875_857.out
                    have hnc182 := NB857_875.out
                    have hnb183 := NB875_871.out
                    have hnc183 := NB871_875.out
                    obtain ⟨hcz184_0, hcz184_1, hfz184_0, hfz184_1⟩ := b2 BK875
                    go_wp2
                    go_meet
                    case rel => exact ⟨_, (false), (by first | rfl | (simp; done) | (simp [*]; done)), H', ⟨by first | omega | exact Nat.le_refl _⟩, ⟨bq BK856.out⟩, ⟨bq BK857.out⟩, ⟨bq BK862.out⟩, ⟨bq BK866.out⟩, ⟨bq BK871.out⟩, ⟨bq BK875.out⟩, ⟨bz⟩⟩
                · rw [if_neg c153] at H
                  have c153b0 := beq_eq_false_iff_ne.mpr c153
                  have c153b1 := bne_iff_ne.mpr c153
                  have H' := m0 H
                  clear H
                  have hnb185 := NB862_856.out
                  have hnc185 := NB856_862.out
                  have hnb186 := NB862_857.out
                  have hnc186 := NB857_862.out
                  have hnb187 := NB862_866.out
                  have hnc187 := NB866_862.out
                  have hnb188 := NB862_871.out
                  have hnc188 := NB871_862.out
                  have hnb189 := NB862_875.out
                  have hnc189 := NB875_862.out
                  obtain ⟨hcz190_0, hcz190_1, hfz190_0, hfz190_1⟩ := b2 BK862
                  go_wp2
                  go_meet
                  case rel => exact ⟨_, (true), (by first | rfl | (simp; done) | (simp [*]; done)), H', ⟨by first | omega | exact Nat.le_refl _⟩, ⟨bq BK856.out⟩, ⟨bq BK857.out⟩, ⟨bq BK862.out⟩, ⟨bq BK866.out⟩, ⟨bq BK871.out⟩, ⟨bq BK875.out⟩, ⟨bz⟩⟩
              · replace c152 := Bool.eq_false_iff.mpr c152
                subst c152
                rw [if_neg (show ¬ (false = true) by decide)] at H
                by_cases c191 : t865 = 8
                · rw [if_pos c191] at H
                  have c191b0 := beq_iff_eq.mpr c191
                  have c191b1 := bne_eq_false_iff_eq.mpr c191
                  clear c191
                  have H' := m0 H
                  clear H
                  have hnb192 := NB862_856.out
                  have hnc192 := NB856_862.out
                  have hnb193 := NB862_857.out
                  have hnc193 := NB857_862.out
                  have hnb194 := NB862_866.out
                  have hnc194 := NB866_862.out
                  have hnb195 := NB862_871.out
                  have hnc195 := NB871_862.out
                  have hnb196 := NB862_875.out
                  have hnc196 := NB875_862.out
                  obtain ⟨hcz197_0, hcz197_1, hfz197_0, hfz197_1⟩ := b2 BK862
                  have hnb198 := NB866_856.out
                  have hnc198 := NB856_866.out
                  have hnb199 := NB866_857.out
                  have hnc199 := NB857_866.out
                  have hnb200 := NB866_871.out
                  have hnc200 := NB871_866.out
                  have hnb201 := NB866_875.out
                  have hnc201 := NB875_866.out
                  obtain ⟨hcz202_0, hcz202_1, hfz202_0, hfz202_1⟩ := b2 BK866
                  go_wp2
                  go_meet
                  case rel => exact ⟨_, ((!(t863 == 0) || (!(t864 == 0)))), (by first | rfl | (simp; done) | (simp [*]; done)), H', ⟨by first | omega | exact Nat.le_refl _⟩, ⟨bq BK856.out⟩, ⟨bq BK857.out⟩, ⟨bq BK862.out⟩, ⟨bq BK866.out⟩, ⟨bq BK871.out⟩, ⟨bq BK875.out⟩, ⟨bz⟩⟩
                · rw [if_neg c191] at H
                  have c191b0 := beq_eq_false_iff_ne.mpr c191
                  have c191b1 := bne_iff_ne.mpr c191
                  have H' := m0 H
                  clear H
                  have hnb203 := NB862_856.out
                  have hnc203 := NB856_862.out
                  have hnb204 := NB862_857.out
                  have hnc204 := NB857_862.out
                  have hnb205 := NB862_866.out
                  have hnc205 := NB866_862.out
                  have hnb206 := NB862_871.out
                  have hnc206 := NB871_862.out
                  have hnb207 := NB862_875.out
                  have hnc207 := NB875_862.out
                  obtain ⟨hcz208_0, hcz208_1, hfz208_0, hfz208_1⟩ := b2 BK862
                  go_wp2
                  go_meet
                  case rel => exact ⟨_, (true), (by first | rfl | (simp; done) | (simp [*]; done)), H', ⟨by first | omega | exact Nat.le_refl _⟩, ⟨bq BK856.out⟩, ⟨bq BK857.out⟩, ⟨bq BK862.out⟩, ⟨bq BK866.out⟩, ⟨bq BK871.out⟩, ⟨bq BK875.out⟩, ⟨bz⟩⟩
          · rw [if_neg c144] at H
            have c144b0 := beq_eq_false_iff_ne.mpr c144
            have c144b1 := bne_iff_ne.mpr c144
            have H' := m0 H
            clear H
            go_wp2
            go_meet
            case rel => exact ⟨_, (true), (by first | rfl | (simp; done) | (simp [*]; done)), H', ⟨by first | omega | exact Nat.le_refl _⟩, ⟨bq BK856.out⟩, ⟨bq BK857.out⟩, ⟨bq BK862.out⟩, ⟨bq BK866.out⟩, ⟨bq BK871.out⟩, ⟨bq BK875.out⟩, ⟨bz⟩⟩
      case rest =>
        clear HC11
        try clear hcz102_0
        try clear hcz102_1
        try clear hcz105_0
        try clear hcz105_1
        try clear hcz111_0
        try clear hcz111_1
        try clear hcz116_0
        try clear hcz116_1
        try clear hcz123_0
        try clear hcz123_1
        try clear hcz128_0
        try clear hcz128_1
        try clear hcz132_0
        try clear hcz132_1
        try clear hcz138_0
        try clear hcz138_1
        try clear hcz143_0
        try clear hcz143_1
        try clear hcz151_0
        try clear hcz151_1
        try clear hcz160_0
        try clear hcz160_1
        try clear hcz165_0
        try clear hcz165_1
        try clear hcz169_0
        try clear hcz169_1
        try clear hcz16_0
        try clear hcz16_1
        try clear hcz175_0
        try clear hcz175_1
        try clear hcz17_0
        try clear hcz17_1
        try clear hcz17_2
        try clear hcz180_0
        try clear hcz180_1
        try clear hcz184_0
        try clear hcz184_1
        try clear hcz190_0
        try clear hcz190_1
        try clear hcz197_0
        try clear hcz197_1
        try clear hcz202_0
        try clear hcz202_1
        try clear hcz208_0
        try clear hcz208_1
        try clear hcz22_0
        try clear hcz22_1
        try clear hcz23_0
        try clear hcz23_1
        try clear hcz24_0
        try clear hcz24_1
        try clear hcz24_2
        try clear hcz30_0
        try clear hcz30_1
        try clear hcz31_0
        try clear hcz31_1
        try clear hcz32_0
        try clear hcz32_1
        try clear hcz32_2
        try clear hcz34_0
        try clear hcz34_1
        try clear hcz35_0
        try clear hcz35_1
        try clear hcz35_2
        try clear hcz42_0
        try clear hcz42_1
        try clear hcz43_0
        try clear hcz43_1
        try clear hcz44_0
        try clear hcz44_1
        try clear hcz44_2
        try clear hcz52_0
        try clear hcz52_1
        try clear hcz61_0
        try clear hcz61_1
        try clear hcz66_0
        try clear hcz66_1
        try clear hcz75_0
        try clear hcz75_1
        try clear hcz80_0
        try clear hcz80_1
        try clear hcz84_0
        try clear hcz84_1
        try clear hcz87_0
        try clear hcz87_1
        try clear hcz93_0
        try clear hcz93_1
        try clear hcz98_0
        try clear hcz98_1
        try clear hfz102_0
        try clear hfz102_1
        try clear hfz105_0
        try clear hfz105_1
        try clear hfz111_0
        try clear hfz111_1
        try clear hfz116_0
        try clear hfz116_1
        try clear hfz123_0
        try clear hfz123_1
        try clear hfz128_0
        try clear hfz128_1
        try clear hfz132_0
        try clear hfz132_1
        try clear hfz138_0
        try clear hfz138_1
        try clear hfz143_0
        try clear hfz143_1
        try clear hfz151_0
        try clear hfz151_1
        try clear hfz160_0
        try clear hfz160_1
        try clear hfz165_0
        try clear hfz165_1
        try clear hfz169_0
        try clear hfz169_1
        try clear hfz16_0
        try clear hfz16_1
        try clear hfz175_0
        try clear hfz175_1
        try clear hfz17_0
        try clear hfz17_1
        try clear hfz17_2
        try clear hfz180_0
        try clear hfz180_1
        try clear hfz184_0
        try clear hfz184_1
        try clear hfz190_0
        try clear hfz190_1
        try clear hfz197_0
        try clear hfz197_1
        try clear hfz202_0
        try clear hfz202_1
        try clear hfz208_0
        try clear hfz208_1
        try clear hfz22_0
        try clear hfz22_1
        try clear hfz23_0
        try clear hfz23_1
        try clear hfz24_0
        try clear hfz24_1
        try clear hfz24_2
        try clear hfz30_0
        try clear hfz30_1
        try clear hfz31_0
        try clear hfz31_1
        try clear hfz32_0
        try clear hfz32_1
        try clear hfz32_2
        try clear hfz34_0
        try clear hfz34_1
        try clear hfz35_0
        try clear hfz35_1
        try clear hfz35_2
        try clear hfz42_0
        try clear hfz42_1
        try clear hfz43_0
        try clear hfz43_1
        try clear hfz44_0
        try clear hfz44_1
        try clear hfz44_2
        try clear hfz52_0
        try clear hfz52_1
        try clear hfz61_0
        try clear hfz61_1
        try clear hfz66_0
        try clear hfz66_1
        try clear hfz75_0
        try clear hfz75_1
        try clear hfz80_0
        try clear hfz80_1
        try clear hfz84_0
        try clear hfz84_1
        try clear hfz87_0
        try clear hfz87_1
        try clear hfz93_0
        try clear hfz93_1
        try clear hfz98_0
        try clear hfz98_1
        obtain ⟨kq, x112_10, rfl, HA, HJ10, BK856, BK857, BK862, BK866, BK871, BK875, HB⟩ := hcut
        cases kq with
        | zero => exact absurd HA.out (by simp [Lw_LineSpeeds.j0])
        | succ kj10 =>
          have H := HA.out
          clear HA
          simp only [Lw_LineSpeeds.j0] at H
          by_cases c209 : x112_10 = true
          · subst c209
            rw [if_pos rfl] at H
            exact absurd H (by simp)
          · replace c209 := Bool.eq_false_iff.mpr c209
            subst c209
            rw [if_neg (show ¬ (false = true) by decide)] at H
            by_cases c210 : t870 = true
            · subst c210
              rw [if_pos rfl] at H
              replace H := ob H
              obtain ⟨⟨t876, t877, t878⟩, A211, H⟩ := H
              (try dsimp only at H)
              replace A211 := m0 A211
              by_cases c212 : t878 = 0
              · rw [if_pos c212] at H
                have c212b0 := beq_iff_eq.mpr c212
                have c212b1 := bne_eq_false_iff_eq.mpr c212
                clear c212
                obtain rfl := Option.some.inj H
                have hnb213 := NB862_856.out
                have hnc213 := NB856_862.out
                have hnb214 := NB862_857.out
                have hnc214 := NB857_862.out
                have hnb215 := NB862_866.out
                have hnc215 := NB866_862.out
                have hnb216 := NB862_871.out
                have hnc216 := NB871_862.out
                have hnb217 := NB862_875.out
                have hnc217 := NB875_862.out
                obtain ⟨_, _, _, _⟩ := b2 BK862
                have hnb219 := NB857_856.out
                have hnc219 := NB856_857.out
                have hnb220 := NB857_866.out
                have hnc220 := NB866_857.out
                have hnb221 := NB857_871.out
                have hnc221 := NB871_857.out
                have hnb222 := NB857_875.out
                have hnc222 := NB875_857.out
                obtain ⟨_, _, _, _, _, _⟩ := b3 BK857
                go_wp2_with (first | ((with_reducible refine gate_callee (f := 46) rfl ?_); refine gl (some 118) Tryd.func46 #[.agg #[.int .i64 t859, .int .i64 t860], .agg #[.int .i64 a1_0, .int .i64 a1_1, .int .i64 a1_2]] ?_; (with_reducible refine (L_PositionOf.calls kj10 t859 t860 a1_0 a1_1 a1_2 t876 t877 t878 _ A211.out).mono ?_); rintro e w224 ⟨rfl, hb⟩; refine ⟨_, rfl, ?_⟩; replace BK856 := bb BK856 hb; replace BK857 := bb BK857 hb; replace BK862 := bb BK862 hb; replace BK866 := bb BK866 hb; replace BK871 := bb BK871 hb; replace BK875 := bb BK875 hb; replace HB := sb HB hb; (try clear hb)) | ((with_reducible refine gate_dst (N := 14) rfl ?_); refine be 14 26 #[.int .i64 0, .int .i64 0] ?_; intro gb879 hg w225 hbox hb; have BK879 := m0 hbox; have GE879 := gw w hg; replace HB := sb HB hb; have NB856_879 := nl BK856 hg; have NB879_856 := ng (nl BK856 hg); replace BK856 := bb BK856 hb; have NB857_879 := nl BK857 hg; have NB879_857 := ng (nl BK857 hg); replace BK857 := bb BK857 hb; have NB862_879 := nl BK862 hg; have NB879_862 := ng (nl BK862 hg); replace BK862 := bb BK862 hb; have NB866_879 := nl BK866 hg; have NB879_866 := ng (nl BK866 hg); replace BK866 := bb BK866 hb; have NB871_879 := nl BK871 hg; have NB879_871 := ng (nl BK871 hg); replace BK871 := bb BK871 hb; have NB875_879 := nl BK875 hg; have NB879_875 := ng (nl BK875 hg); replace BK875 := bb BK875 hb; clear hb hbox hg; have hnb226 := NB879_856.out; have hnc226 := NB856_879.out; have hnb227 := NB879_857.out; have hnc227 := NB857_879.out; have hnb228 := NB879_862.out; have hnc228 := NB862_879.out; have hnb229 := NB879_866.out; have hnc229 := NB866_879.out; have hnb230 := NB879_871.out; have hnc230 := NB871_879.out; have hnb231 := NB879_875.out; have hnc231 := NB875_879.out; obtain ⟨_, _, _, _⟩ := b2 BK879; have hnb233 := NB856_866.out; have hnc233 := NB866_856.out; have hnb234 := NB856_871.out; have hnc234 := NB871_856.out; have hnb235 := NB856_875.out; have hnc235 := NB875_856.out; obtain ⟨_, _, _, _⟩ := b2 BK856))
                go_ret
                exact ez
              · rw [if_neg c212] at H
                exact absurd H (by simp)
            · replace c210 := Bool.eq_false_iff.mpr c210
              subst c210
              rw [if_neg (show ¬ (false = true) by decide)] at H
              obtain rfl := Option.some.inj H
              go_wp2
              go_ret
              exact ez
    · rw [if_neg c8] at H
      have c8b0 := beq_eq_false_iff_ne.mpr c8
      have c8b1 := bne_iff_ne.mpr c8
      by_cases c237 : t861 = t867
      · rw [if_pos c237] at H
        have c237b0 := beq_iff_eq.mpr c237
        have c237b1 := bne_eq_false_iff_eq.mpr c237
        clear c237
        by_cases c238 : t865 = t867
        · rw [if_pos c238] at H
          have c238b0 := beq_iff_eq.mpr c238
          have c238b1 := bne_eq_false_iff_eq.mpr c238
          clear c238
          by_cases c239 : (t859 == 0 && (t860 == 0)) = true
          · rw [if_pos c239] at H
            have c239b0 : (t859 == 0 && (t860 == 0)) = true := c239
            (try (have c239b1 : decide (t859 = 0 && (t860 == 0)) = true := by simpa using c239))
            (try (have c239b2 : (t859 == 0 && (t860 == 0)) = true := by simpa using c239))
            clear c239
            obtain rfl := Option.some.inj H
            go_enter Tryd.func7, Tryd.ntmps7
            go_wp2_with (first | ((with_reducible refine gate_dst (N := 2) rfl ?_); refine be 2 26 #[.int .i64 a0_0, .int .i64 a0_1] ?_; intro gb856 hg w240 hbox hb; have BK856 := m0 hbox; have GE856 := gw w hg; replace HB := sb HB hb; clear hb hbox hg) | ((with_reducible refine gate_dst (N := 3) rfl ?_); refine be 3 63 #[.int .i64 a1_0, .int .i64 a1_1, .int .i64 a1_2] ?_; intro gb857 hg w241 hbox hb; have BK857 := m0 hbox; have GE857 := gw w hg; replace HB := sb HB hb; have NB856_857 := nl BK856 hg; have NB857_856 := ng (nl BK856 hg); replace BK856 := bb BK856 hb; clear hb hbox hg) | ((with_reducible refine gate_callee (f := 18) rfl ?_); refine gl (some 16) Tryd.func18 #[] ?_; (with_reducible refine (Lw_awake.calls k  true _ ?side1 A3.out).mono ?_); (case side1 => exact EstG.below HG.out bz); rintro e w242 ⟨rfl, hb⟩; refine ⟨_, rfl, ?_⟩; replace BK856 := bb BK856 hb; replace BK857 := bb BK857 hb; replace HB := sb HB hb; (try clear hb); have hnb243 := NB856_857.out; have hnc243 := NB857_856.out; obtain ⟨_, _, _, _⟩ := b2 BK856; obtain ⟨_, _, _, _, _, _⟩ := b3 BK857) | ((with_reducible refine gate_callee (f := 45) rfl ?_); refine gl (some 21) Tryd.func45 #[.agg #[.int .i64 a0_0, .int .i64 a0_1], .agg #[.int .i64 a1_0, .int .i64 a1_1, .int .i64 a1_2]] ?_; (with_reducible refine (L_SpeedAt.calls k a0_0 a0_1 a1_0 a1_1 a1_2 t859 t860 t861 _ A5.out).mono ?_); rintro e w246 ⟨rfl, hb⟩; refine ⟨_, rfl, ?_⟩; replace BK856 := bb BK856 hb; replace BK857 := bb BK857 hb; replace HB := sb HB hb; (try clear hb)) | ((with_reducible refine gate_dst (N := 5) rfl ?_); refine be 5 26 #[.int .i64 0, .int .i64 0] ?_; intro gb862 hg w247 hbox hb; have BK862 := m0 hbox; have GE862 := gw w hg; replace HB := sb HB hb; have NB856_862 := nl BK856 hg; have NB862_856 := ng (nl BK856 hg); replace BK856 := bb BK856 hb; have NB857_862 := nl BK857 hg; have NB862_857 := ng (nl BK857 hg); replace BK857 := bb BK857 hb; clear hb hbox hg; have hnb248 := NB862_856.out; have hnc248 := NB856_862.out; have hnb249 := NB862_857.out; have hnc249 := NB857_862.out; obtain ⟨_, _, _, _⟩ := b2 BK862; obtain ⟨_, _, _, _⟩ := b2 BK856; obtain ⟨_, _, _, _, _, _⟩ := b3 BK857) | ((with_reducible refine gate_callee (f := 46) rfl ?_); refine gl (some 27) Tryd.func46 #[.agg #[.int .i64 a0_0, .int .i64 a0_1], .agg #[.int .i64 a1_0, .int .i64 a1_1, .int .i64 a1_2]] ?_; (with_reducible refine (L_PositionOf.calls k a0_0 a0_1 a1_0 a1_1 a1_2 t863 t864 t865 _ A6.out).mono ?_); rintro e w253 ⟨rfl, hb⟩; refine ⟨_, rfl, ?_⟩; replace BK856 := m0 (blk_below (g := gb856) (o := .cells #[.int .i64 a0_0, .int .i64 a0_1] 26 (0, 0)) (bq BK856.out) hb); replace BK857 := m0 (blk_below (g := gb857) (o := .cells #[.int .i64 a1_0, .int .i64 a1_1, .int .i64 a1_2] 63 (0, 0)) (bq BK857.out) hb); replace BK862 := m0 (blk_below (g := gb862) (o := .cells #[.int .i64 t859, .int .i64 t860] 26 (0, 0)) (bq BK862.out) hb); replace HB := sb HB hb; (try clear hb)) | ((with_reducible refine gate_dst (N := 7) rfl ?_); refine be 7 26 #[.int .i64 0, .int .i64 0] ?_; intro gb866 hg w254 hbox hb; have BK866 := m0 hbox; have GE866 := gw w hg; replace HB := sb HB hb; have NB856_866 := nl BK856 hg; have NB866_856 := ng (nl BK856 hg); replace BK856 := bb BK856 hb; have NB857_866 := nl BK857 hg; have NB866_857 := ng (nl BK857 hg); replace BK857 := bb BK857 hb; have NB862_866 := nl BK862 hg; have NB866_862 := ng (nl BK862 hg); replace BK862 := bb BK862 hb; clear hb hbox hg; have hnb255 := NB866_856.out; have hnc255 := NB856_866.out; have hnb256 := NB866_857.out; have hnc256 := NB857_866.out; have hnb257 := NB866_862.out; have hnc257 := NB862_866.out; obtain ⟨_, _, _, _⟩ := b2 BK866; obtain ⟨_, _, _, _⟩ := b2 BK856; obtain ⟨_, _, _, _, _, _⟩ := b3 BK857) | ((with_reducible refine gate_callee (f := 47) rfl ?_); refine gl (some 32) Tryd.func47 #[.agg #[.int .i64 a0_0, .int .i64 a0_1], .agg #[.int .i64 a1_0, .int .i64 a1_1, .int .i64 a1_2]] ?_; (with_reducible refine (Rf_ScaleErr.calls k a0_0 a0_1 a1_0 a1_1 a1_2 t867 _ A7.out).mono ?_); rintro e w261 ⟨rfl, hb⟩; refine ⟨_, rfl, ?_⟩; replace BK856 := m0 (blk_below (g := gb856) (o := .cells #[.int .i64 a0_0, .int .i64 a0_1] 26 (0, 0)) (bq BK856.out) hb); replace BK857 := m0 (blk_below (g := gb857) (o := .cells #[.int .i64 a1_0, .int .i64 a1_1, .int .i64 a1_2] 63 (0, 0)) (bq BK857.out) hb); replace BK862 := m0 (blk_below (g := gb862) (o := .cells #[.int .i64 t859, .int .i64 t860] 26 (0, 0)) (bq BK862.out) hb); replace BK866 := m0 (blk_below (g := gb866) (o := .cells #[.int .i64 t863, .int .i64 t864] 26 (0, 0)) (bq BK866.out) hb); replace HB := sb HB hb; (try clear hb); obtain ⟨_, _, _, _⟩ := b2 BK862; obtain ⟨_, _, _, _⟩ := b2 BK866))
            go_ret
            exact ez
          · rw [if_neg c239] at H
            exact absurd H (by simp)
        · rw [if_neg c238] at H
          exact absurd H (by simp)
      · rw [if_neg c237] at H
        exact absurd H (by simp)
  · replace c4 := Bool.eq_false_iff.mpr c4
    subst c4
    rw [if_neg (show ¬ (false = true) by decide)] at H
    exact absurd H (by simp)
end Go.Proofs.YtjnkphmcndaijaaDoor.A
