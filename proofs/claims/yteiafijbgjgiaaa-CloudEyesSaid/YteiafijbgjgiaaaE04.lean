/- Walks of the program's functions (printed, made shorter), each with what it computes. -/
import Derived.Test.YteiafijbgjgiaaaB09
import Derived.Test.YteiafijbgjgiaaaB15
import Derived.Test.YteiafijbgjgiaaaE03
namespace Go.Proofs.Yteiafijbgjgiaaa.A
set_option maxHeartbeats 8000000
set_option maxRecDepth 100000
open Go.RowKit Go.Proofs.YteiafijbgjgiaaaW.PrintWords Go.Proofs.YteiafijbgjgiaaaW.PrintLast Go.Proofs.YteiafijbgjgiaaaW.PrintMore
attribute [local go_sem] max2_int min2_int max_two min_two max_three min_three max_four min_four
set_option linter.unusedVariables false
set_option linter.unusedSimpArgs false
mutual
def Lw_CloudEyes.j0 : Nat → List (S108) → Int → Int → Int → Bool → Int → Int → Option (Bool)
  | 0, _, _, _, _, _, _, _ => none
  | k + 1, x0, x5, x7, x8, x67, x471000, x471001 => if x67 = true then (some false) else ((Bs_Within.f x471001 0 1000000000000).bind fun t486 => (if t486 = true then ((Rf_CopyShots.f x0).bind fun t487 => ((L_ExposureOf.f k t487 (wrap64 (Int.tdiv (wrap64 (x471000 + 1)) 2))).bind fun bt490 => (if bt490.2 = 0 then (Lw_CloudEyes.j1 k x0 x5 x7 x8 (decide (bt490.1 > x5)) x471000 x471001) else (Lw_CloudEyes.j1 k x0 x5 x7 x8 true x471000 x471001)))) else (if x8 = 2 then (some (x7 == 0)) else (some false))))
def Lw_CloudEyes.j1 : Nat → List (S108) → Int → Int → Int → Bool → Int → Int → Option (Bool)
  | 0, _, _, _, _, _, _, _ => none
  | k + 1, x0, x5, x7, x8, x94, x471000, x471001 => if x94 = true then (some false) else ((Rf_Unsafe.f k x0 x471000 x471001).bind fun bt492 => (if (bt492.2 != (decide (x5 > x471001))) = true then (some false) else (if bt492.2 = true then (if x8 = 0 then (if x7 = bt492.1 then ((Rf_Energy.f k x0 x471000 x7).bind fun t494 => (if t494 > x471001 then ((Rf_Energy.f k x0 x471000 (wrap64 (x7 - 1))).bind fun t495 => (some (decide (t495 ≤ x471001)))) else (some false))) else (some false)) else (some false)) else (if x8 = 12 then (some (x7 == 0)) else (some false)))))
end
def Lw_CloudEyes.f (k : Nat) (l0 : List (S108)) (a1_0 : Int) (a1_1 : Int) : Option (Bool) := (Lw_awake.f k).bind fun t471 => (if t471 = true then (if (l0.length : Int) > 22 then (some true) else ((Rf_CopyShots.f l0).bind fun t472 => ((L_ExposureOf.f k t472 a1_0).bind fun bt475 => ((Rf_CopyShots.f l0).bind fun t477 => ((L_UnsafeAt.f k t477 a1_0 a1_1).bind fun bt480 => ((Rf_ShotsErr.f k l0).bind fun t482 => ((Rf_WindowErr.f a1_0).bind fun t483 => ((Lw_both.f t482 t483).bind fun t484 => (if t484 = 0 then (if bt475.2 = 0 then ((Rf_Exposure.f k l0 a1_0).bind fun t485 => (Lw_CloudEyes.j0 k l0 bt475.1 bt480.1 bt480.2 (bt475.1 != t485) a1_0 a1_1)) else (Lw_CloudEyes.j0 k l0 bt475.1 bt480.1 bt480.2 true a1_0 a1_1)) else (if bt475.2 = t484 then (if bt475.1 = 0 then (if bt480.2 = t484 then (some (bt480.1 == 0)) else (some false)) else (some false)) else (some false))))))))))) else (some false))
theorem Lw_CloudEyes.mono_l : ∀ k, (∀ y0 y1 y2 y3 y4 y5 y6, LeO (Lw_CloudEyes.j0 k y0 y1 y2 y3 y4 y5 y6) (Lw_CloudEyes.j0 (k + 1) y0 y1 y2 y3 y4 y5 y6)) ∧ (∀ y0 y1 y2 y3 y4 y5 y6, LeO (Lw_CloudEyes.j1 k y0 y1 y2 y3 y4 y5 y6) (Lw_CloudEyes.j1 (k + 1) y0 y1 y2 y3 y4 y5 y6))
  | 0 => ⟨fun _ _ _ _ _ _ _ r h => by simp [Lw_CloudEyes.j0] at h, fun _ _ _ _ _ _ _ r h => by simp [Lw_CloudEyes.j1] at h⟩
  | k + 1 => by
    obtain ⟨ih0, ih1⟩ := Lw_CloudEyes.mono_l k; refine ⟨?_, ?_⟩
    · intro y0 y1 y2 y3 y4 y5 y6; unfold Lw_CloudEyes.j0
      repeat' with_reducible first
        | exact ih0 ..
        | exact ih1 ..
        | exact L_ExposureOf.mono ..
        | exact L_UnsafeAt.mono ..
        | exact Lw_awake.mono ..
        | exact Rf_Energy.mono ..
        | exact Rf_Exposure.mono ..
        | exact Rf_ShotsErr.mono ..
        | exact Rf_Unsafe.mono ..
        | exact LeO.refl ..
        | exact LeO.none ..
        | refine LeO.ite ?_ ?_
        | refine LeO.bind ?_ (fun _ => ?_)
    · intro y0 y1 y2 y3 y4 y5 y6; unfold Lw_CloudEyes.j1
      repeat' with_reducible first
        | exact ih0 ..
        | exact ih1 ..
        | exact L_ExposureOf.mono ..
        | exact L_UnsafeAt.mono ..
        | exact Lw_awake.mono ..
        | exact Rf_Energy.mono ..
        | exact Rf_Exposure.mono ..
        | exact Rf_ShotsErr.mono ..
        | exact Rf_Unsafe.mono ..
        | exact LeO.refl ..
        | exact LeO.none ..
        | refine LeO.ite ?_ ?_
        | refine LeO.bind ?_ (fun _ => ?_)
theorem Lw_CloudEyes.mono : ∀ a0 a1 a2 k, LeO (Lw_CloudEyes.f k a0 a1 a2) (Lw_CloudEyes.f (k + 1) a0 a1 a2) := by
  intro a0 a1 a2 k; obtain ⟨ih0, ih1⟩ := Lw_CloudEyes.mono_l k; unfold Lw_CloudEyes.f
  repeat' with_reducible first
    | exact ih0 ..
    | exact ih1 ..
    | exact L_ExposureOf.mono ..
    | exact L_UnsafeAt.mono ..
    | exact Lw_awake.mono ..
    | exact Rf_Energy.mono ..
    | exact Rf_Exposure.mono ..
    | exact Rf_ShotsErr.mono ..
    | exact Rf_Unsafe.mono ..
    | exact LeO.refl ..
    | exact LeO.none ..
    | refine LeO.ite ?_ ?_
    | refine LeO.bind ?_ (fun _ => ?_)
def Lw_CloudEyes.T5 : Bool × List (List Nat × List Nat) := (true, [([], []), ([0], [0]), ([], []), ([2], [2]), ([1, 3, 1], [1, 3]), ([4], [4]), ([5], [5]), ([5], [5]), ([6, 4, 0, 1, 2, 3, 4, 5, 6], [6]), ([7, 8, 0, 1, 2, 3, 4, 5, 6, 7, 8], [7])])
def Lw_CloudEyes.B5 : List Nat := [0, 1, 0, 4, 15, 31, 63, 63, 127, 511]
theorem Lw_CloudEyes.tab5 : rtab .any (opsOf Try.f3 5) = Lw_CloudEyes.T5 := by kernel_rfl
theorem Lw_CloudEyes.bits5 : waitsOk Lw_CloudEyes.T5.2 Lw_CloudEyes.B5 = true := by kernel_rfl
def Lw_CloudEyes.T6 : Bool × List (List Nat × List Nat) := (true, [([], []), ([0], [0]), ([], []), ([1, 2, 1], [1, 2]), ([3], [3]), ([4], [4]), ([4], [4]), ([5, 3, 0, 1, 2, 3, 4, 5], [5]), ([6, 7, 0, 1, 2, 3, 4, 5, 6, 7], [6])])
def Lw_CloudEyes.B6 : List Nat := [0, 1, 0, 7, 15, 31, 31, 63, 255]
theorem Lw_CloudEyes.tab6 : rtab .any (opsOf Try.f3 6) = Lw_CloudEyes.T6 := by kernel_rfl
theorem Lw_CloudEyes.bits6 : waitsOk Lw_CloudEyes.T6.2 Lw_CloudEyes.B6 = true := by kernel_rfl
def Lw_CloudEyes.T14 : Bool × List (List Nat × List Nat) := (true, [([], []), ([0], [0]), ([], []), ([2], [2]), ([3], [3]), ([4], [4]), ([1, 5, 1], [1, 5]), ([6], [6]), ([7], [7]), ([7], [7]), ([8, 6, 0, 1, 2, 3, 4, 5, 6, 7, 8], [8]), ([9, 10, 0, 1, 2, 3, 4, 5, 6, 7, 8, 9, 10], [9])])
def Lw_CloudEyes.B14 : List Nat := [0, 1, 0, 4, 12, 28, 63, 127, 255, 255, 511, 2047]
theorem Lw_CloudEyes.tab14 : rtab .any (opsOf Try.f3 14) = Lw_CloudEyes.T14 := by kernel_rfl
theorem Lw_CloudEyes.bits14 : waitsOk Lw_CloudEyes.T14.2 Lw_CloudEyes.B14 = true := by kernel_rfl
def Lw_CloudEyes.T22 : Bool × List (List Nat × List Nat) := (true, [([], []), ([0], [0]), ([1], [1]), ([2], [2]), ([2], [2]), ([3, 4, 2], [2, 3, 4]), ([2, 5], [2, 5]), ([6, 2], [6]), ([7], [7]), ([7], [7]), ([9, 7], [7, 9]), ([7], [7]), ([8, 10, 11, 7, 7], [7, 8, 10, 11]), ([7], [7]), ([13, 7], [7, 13]), ([12, 14, 7], [7, 12, 14]), ([7, 15], [7, 15]), ([16, 12], [16]), ([17], [17]), ([17], [17]), ([19, 17], [17, 19]), ([17], [17]), ([21, 17], [17, 21]), ([18, 20, 22, 17, 17], [17, 18, 20, 22]), ([17], [17]), ([24, 17], [17, 24]), ([23, 25, 17], [17, 23, 25]), ([17, 26], [17, 26]), ([27, 23, 0, 1, 2, 3, 4, 5, 6, 7, 8, 9, 10, 11, 12, 13, 14, 15, 16, 17, 18, 19, 20, 21, 22, 23, 24, 25, 26, 27], [27])])
def Lw_CloudEyes.B22 : List Nat := [0, 1, 3, 7, 7, 31, 63, 127, 255, 255, 767, 255, 4095, 255, 8447, 32767, 65535, 131071, 262143, 262143, 786431, 262143, 2359295, 8388607, 262143, 17039359, 67108863, 134217727, 268435455]
theorem Lw_CloudEyes.tab22 : rtab .any (opsOf Try.f3 22) = Lw_CloudEyes.T22 := by kernel_rfl
theorem Lw_CloudEyes.bits22 : waitsOk Lw_CloudEyes.T22.2 Lw_CloudEyes.B22 = true := by kernel_rfl
theorem Lw_CloudEyes.calls (k : Nat) (A0 : Option Addr) (c0 : Nat) (l0 : List (S108)) (a1_0 : Int) (a1_1 : Int) (r : Bool) (w : World) (hr0 : Kd.C k108 w A0 l0.length l0) (hc0 : l0.length ≤ c0) (H : Lw_CloudEyes.f k l0 a1_0 a1_1 = some r) :
    Calls Try.prog 3 #[.slice A0 l0.length c0, .agg #[.int .i64 a1_0, .int .i64 a1_1]] w fun e w' => e = .returned (.bool r) ∧ Below w.heap.size w w' := by
  have hu24 := Try.underlying24; have HR0 := m0 hr0; have HC0 := m0 hc0; clear hr0 hc0; have HB := m0 (Below.refl w.heap.size w); unfold Lw_CloudEyes.f at H; replace H := oa H; obtain ⟨t471, A3, H⟩ := H; (try dsimp only at H)
  by_cases c4 : t471 = true
  · subst c4; rw [if_pos rfl] at H
    by_cases c5 : (l0.length : Int) > 22
    · rw [if_pos c5] at H; have c5b0 := decide_eq_true c5; have c5b1 : decide (22 < l0.length) = true := decide_eq_true (by omega); clear c5; obtain rfl := Option.some.inj H; go_enter Try.func3, Try.ntmps3
      go_wp2_with (first | ((with_reducible refine ga 3 rfl ?_); refine be 3 24 #[.int .i64 a1_0, .int .i64 a1_1] ?_; intro gb470 hg w6 hbox hb; have BK470 := m0 hbox; have GE470 := gw w hg; replace HB := sb HB hb; clear hb hbox hg) | ((with_reducible refine gc 11 rfl ?_); refine gl (some 14) Try.func11 #[] ?_; (with_reducible refine (Lw_awake.calls k  true _ A3.out).mono ?_); rintro e w7 ⟨rfl, hb⟩; refine ⟨_, rfl, ?_⟩; replace BK470 := bb BK470 hb; replace HB := sb HB hb; (try clear hb)))
      go_ret
      exact ez
    · rw [if_neg c5] at H; have c5b0 := decide_eq_false c5; have c5b1 : decide (22 < l0.length) = false := decide_eq_false (by omega); clear c5; replace H := oa H; obtain ⟨t472, A8, H⟩ := H; (try dsimp only at H); replace H := oa H; obtain ⟨⟨t475, t476⟩, A9, H⟩ := H; (try dsimp only at H); replace H := oa H; obtain ⟨t477, A10, H⟩ := H; (try dsimp only at H); replace H := oa H; obtain ⟨⟨t480, t481⟩, A11, H⟩ := H; (try dsimp only at H); replace H := oa H; obtain ⟨t482, A12, H⟩ := H; (try dsimp only at H); replace H := oa H; obtain ⟨t483, A13, H⟩ := H; (try dsimp only at H); replace H := oa H; obtain ⟨t484, A14, H⟩ := H; (try dsimp only at H)
      by_cases c15 : t484 = 0
      · rw [if_pos c15] at H; have c15b0 := beq_iff_eq.mpr c15; have c15b1 := bne_eq_false_iff_eq.mpr c15; clear c15; have HC16 := m0 H; clear H; go_enter Try.func3, Try.ntmps3
        try go_wp2_with (first | ((with_reducible refine ga 3 rfl ?_); refine be 3 24 #[.int .i64 a1_0, .int .i64 a1_1] ?_; intro gb470 hg w17 hbox hb; have BK470 := m0 hbox; have GE470 := gw w hg; replace HB := sb HB hb; clear hb hbox hg) | ((with_reducible refine gc 11 rfl ?_); refine gl (some 14) Try.func11 #[] ?_; (with_reducible refine (Lw_awake.calls k  true _ A3.out).mono ?_); rintro e w18 ⟨rfl, hb⟩; refine ⟨_, rfl, ?_⟩; replace BK470 := bb BK470 hb; replace HB := sb HB hb; (try clear hb)))
        replace BK470 := bd BK470; replace HB := sd HB; refine start_ (n := 10) (S := fun w' => w'.cell? ⟨gb470, 0, none⟩ = some (.int .i64 a1_0) ∧ w'.cell? ⟨gb470, 1, none⟩ = some (.int .i64 a1_1)) (ds := []) _ (by kernel_rfl) rfl rfl cz (fun hH => ?_); refine with_tabW Lw_CloudEyes.tab5 Lw_CloudEyes.bits5 (fun HT_ HW_ => ?_); generalize w18.drew = w19 at BK470 HB hH ⊢; refine pZ 0 (some 20) #[true, false, false, false, false, false, false, false, false, false] HT_ ?_; refine pZ 2 (some 22) #[true, false, true, false, false, false, false, false, false, false] HT_ ?_; refine takeZ 3 (some 23) #[true, false, true, true, false, false, false, false, false, false] (tw HT_ HW_) hH ?_; refine oneZ 1 (some 21) #[true, true, true, true, false, false, false, false, false, false] (o1 HT_) fun K hK => ?_; refine gz Try.func13 #[.slice A0 l0.length c0] ?_
        with_reducible refine (Rf_CopyShots.calls _ _ l0 t472 _ ?side1 ?side2 A8.out).mono ?_
        (case side1 => exact cb HR0 HB)
        (case side2 => exact HC0.out)
        rintro e w20 ⟨v473, rfl, ho0, hb⟩; refine ⟨_, rfl, ?_⟩; have HO474 := m0 (Kd.R_lower ho0 (below_size bz)); replace BK470 := bb BK470 hb; replace HB := sb HB hb; (try clear hb); (try clear ho0); obtain ⟨Ao21, co21, eo21⟩ := Kd.R_slice HO474.out; subst eo21; refine hK.out _ _ cz (fun hH => ?_); clear hK K; refine nz 21 ?_; refine oneZ 4 (some 24) #[true, true, true, true, true, false, false, false, false, false] (o1 HT_) fun K hK => ?_; refine gz Try.func12 #[.slice Ao21 t472.length co21, .int .i64 a1_0] ?_
        with_reducible refine (L_ExposureOf.calls k _ _ t472 a1_0 t475 t476 _ ?side1 ?side2 A9.out).mono ?_
        (case side1 => exact bc (Kd.R_reads' HO474.out).2.2)
        (case side2 => exact (Kd.R_reads' HO474.out).2.1)
        rintro e w22 ⟨rfl, hb⟩; refine ⟨_, rfl, ?_⟩; replace HO474 := rb HO474 hb; replace BK470 := bb BK470 hb; replace HB := sb HB hb; (try clear hb); refine hK.out _ _ cz (fun hH => ?_); clear hK K; refine nz 24 ?_; refine pZ 5 (some 19) #[true, true, true, true, true, true, false, false, false, false] HT_ ?_; refine pZ 6 (some 25) #[true, true, true, true, true, true, true, false, false, false] HT_ ?_; refine pZ 7 (some 26) #[true, true, true, true, true, true, true, true, false, false] HT_ ?_; refine pZ 8 (some 5) #[true, true, true, true, true, true, true, true, true, false] HT_ ?_; refine pZ 9 (some 6) #[true, true, true, true, true, true, true, true, true, true] HT_ ?_; refine done_ (done_of HT_.out (by kernel_rfl)) ?_
        try go_wp2
        replace HO474 := m0 (Kd.R_drew HO474.out); replace BK470 := bd BK470; replace HB := sd HB; refine start_ (n := 9) (S := fun w' => w'.cell? ⟨gb470, 0, none⟩ = some (.int .i64 a1_0) ∧ w'.cell? ⟨gb470, 1, none⟩ = some (.int .i64 a1_1)) (ds := []) _ (by kernel_rfl) rfl rfl cz (fun hH => ?_); refine with_tabW Lw_CloudEyes.tab6 Lw_CloudEyes.bits6 (fun HT_ HW_ => ?_); generalize w22.drew = w23 at HO474 BK470 HB hH ⊢; refine pZ 0 (some 28) #[true, false, false, false, false, false, false, false, false] HT_ ?_; refine takeZ 2 (some 30) #[true, false, true, false, false, false, false, false, false] (tw HT_ HW_) hH ?_; refine oneZ 1 (some 29) #[true, true, true, false, false, false, false, false, false] (o1 HT_) fun K hK => ?_; refine gz Try.func13 #[.slice A0 l0.length c0] ?_
        with_reducible refine (Rf_CopyShots.calls _ _ l0 t477 _ ?side1 ?side2 A10.out).mono ?_
        (case side1 => exact cb HR0 HB)
        (case side2 => exact HC0.out)
        rintro e w24 ⟨v478, rfl, ho0, hb⟩; refine ⟨_, rfl, ?_⟩; have HO479 := m0 (Kd.R_lower (Kd.R_new' ho0 (Kd.R_lt (br HO474.out))) (below_size bz)); replace HO474 := m0 (Kd.R_elder' (br HO474.out) (Kd.R_base ho0) hb); replace BK470 := bb BK470 hb; replace HB := sb HB hb; (try clear hb); (try clear ho0); obtain ⟨Ao25, co25, eo25⟩ := Kd.R_slice HO479.out; subst eo25; refine hK.out _ _ cz (fun hH => ?_); clear hK K; refine nz 29 ?_; refine oneZ 3 (some 31) #[true, true, true, true, false, false, false, false, false] (o1 HT_) fun K hK => ?_; refine gz Try.func14 #[.slice Ao25 t477.length co25, .agg #[.int .i64 a1_0, .int .i64 a1_1]] ?_
        with_reducible refine (L_UnsafeAt.calls k _ _ t477 a1_0 a1_1 t480 t481 _ ?side1 ?side2 A11.out).mono ?_
        (case side1 => exact bc (Kd.R_reads' HO479.out).2.2)
        (case side2 => exact (Kd.R_reads' HO479.out).2.1)
        rintro e w26 ⟨rfl, hb⟩; refine ⟨_, rfl, ?_⟩; replace HO474 := rb HO474 hb; replace HO479 := rb HO479 hb; replace BK470 := bb BK470 hb; replace HB := sb HB hb; (try clear hb); refine hK.out _ _ cz (fun hH => ?_); clear hK K; refine nz 31 ?_; refine pZ 4 (some 27) #[true, true, true, true, true, false, false, false, false] HT_ ?_; refine pZ 5 (some 32) #[true, true, true, true, true, true, false, false, false] HT_ ?_; refine pZ 6 (some 33) #[true, true, true, true, true, true, true, false, false] HT_ ?_; refine pZ 7 (some 7) #[true, true, true, true, true, true, true, true, false] HT_ ?_; refine pZ 8 (some 8) #[true, true, true, true, true, true, true, true, true] HT_ ?_; refine done_ (done_of HT_.out (by kernel_rfl)) ?_
        try go_wp2
        replace HO474 := m0 (Kd.R_drew HO474.out); replace HO479 := m0 (Kd.R_drew HO479.out); replace BK470 := bd BK470; replace HB := sd HB; refine start_ (n := 7) (S := fun w' => w'.cell? ⟨gb470, 0, none⟩ = some (.int .i64 a1_0) ∧ w'.cell? ⟨gb470, 1, none⟩ = some (.int .i64 a1_1)) (ds := []) _ (by kernel_rfl) rfl rfl cz (fun hH => ?_); generalize w26.drew = w27 at HO474 HO479 BK470 HB hH ⊢; refine pure_ (i := 0) (N := some 34) (v := ?_) (a' := ?_) #[true, false, false, false, false, false, false] rfl rfl (by kernel_rfl) (fun _ _ _ h => h) (Or.inl ⟨by rfl, ?_⟩) ?_ ?_; rotate_left
        · intro w'
          go_simp
          with_reducible rfl
        rotate_left
        · exact pz
        refine pure_ (i := 2) (N := some 36) (v := ?_) (a' := ?_) #[true, false, true, false, false, false, false] rfl rfl (by kernel_rfl) (fun _ _ _ h => h) (Or.inl ⟨by rfl, ?_⟩) ?_ ?_; rotate_left
        · intro w'
          go_simp
          with_reducible rfl
        rotate_left
        · exact pz
        refine takeZ 3 (some 37) #[true, false, true, true, false, false, false] (by kernel_rfl) hH ?_; refine oneZ 1 (some 35) #[true, true, true, true, false, false, false] (by kernel_rfl) fun K hK => ?_; refine gz Try.func16 #[.slice A0 l0.length c0] ?_
        with_reducible refine (Rf_ShotsErr.calls k _ _ l0 t482 _ ?side1 ?side2 A12.out).mono ?_
        (case side1 => exact cb HR0 HB)
        (case side2 => exact HC0.out)
        rintro e w' ⟨rfl, ⟨nd, rfl⟩⟩; refine ⟨_, rfl, ?_⟩; refine hK.out _ _ cz (fun hH => ?_); clear hK K; refine nz 35 ?_; refine oneZ 4 (some 38) #[true, true, true, true, true, false, false] (by kernel_rfl) fun K hK => ?_; refine gz Try.func17 #[.int .i64 a1_0] ?_
        with_reducible refine (Rf_WindowErr.calls a1_0 t483 _ A13.out).mono ?_
        rintro e w' ⟨rfl, ⟨nd, rfl⟩⟩; refine ⟨_, rfl, ?_⟩; refine hK.out _ _ cz (fun hH => ?_); clear hK K; refine nz 38 ?_; refine oneZ 5 (some 39) #[true, true, true, true, true, true, false] (by kernel_rfl) fun K hK => ?_; refine gz Try.func15 #[.int .i64 t482, .int .i64 t483] ?_
        with_reducible refine (Lw_both.calls t482 t483 t484 _ A14.out).mono ?_
        rintro e w' ⟨rfl, ⟨nd, rfl⟩⟩; refine ⟨_, rfl, ?_⟩; refine hK.out _ _ cz (fun hH => ?_); clear hK K; refine nz 39 ?_; refine pure_ (i := 6) (N := some 9) (v := ?_) (a' := ?_) #[true, true, true, true, true, true, true] rfl rfl (by kernel_rfl) (fun _ _ _ h => h) (Or.inl ⟨by rfl, ?_⟩) ?_ ?_; rotate_left
        · intro w'
          go_simp
          with_reducible rfl
        rotate_left
        · exact pz
        refine done_ (by kernel_rfl) ?_
        go_upto_region 10 with (fail)
        go_cut [67] (fun v67 wc => ∃ (kq : Nat) (x67_15 : Bool), v67 = .bool x67_15 ∧ Aside0 (Lw_CloudEyes.j0 kq l0 t475 t480 t481 x67_15 a1_0 a1_1 = some r) ∧ Aside0 (kq ≤ k) ∧ Aside0 (wc.heap[gb470]? = some (.cells #[.int .i64 a1_0, .int .i64 a1_1] 24 (0, 0))) ∧ Aside0 (Below w.heap.size w wc))
        case first =>
          have H := HC16.out; clear HC16
          by_cases c28 : t476 = 0
          · rw [if_pos c28] at H; have c28b0 := beq_iff_eq.mpr c28; have c28b1 := bne_eq_false_iff_eq.mpr c28; clear c28
            (first | rw [c28b0] | (simp only [i64_w, i32_w]; rw [c28b0]) | skip)
            replace H := oa H; obtain ⟨t485, A29, H⟩ := H; (try dsimp only at H); have H' := m0 H; clear H; obtain ⟨hcz30_0, hcz30_1, hfz30_0, hfz30_1⟩ := b2 BK470
            go_wp2_with (first | (go_at_call 18; (with_reducible refine (Rf_Exposure.calls k _ _ l0 a1_0 t485 _ ?side1 ?side2 A29.out).mono ?_); (case side1 => exact cb HR0 HB); (case side2 => exact HC0.out); rintro e w31 ⟨rfl, hb⟩; replace HO474 := rb HO474 hb; replace HO479 := rb HO479 hb; replace BK470 := bb BK470 hb; replace HB := sb HB hb; (try clear hb)))
            go_meet
            case rel => exact ⟨_, ((t475 != t485)), rz, H', ⟨by first | omega | exact Nat.le_refl _⟩, ⟨bk BK470.out⟩, ⟨bz⟩⟩
          · rw [if_neg c28] at H; have c28b0 := beq_eq_false_iff_ne.mpr c28; have c28b1 := bne_iff_ne.mpr c28
            (first | rw [c28b0] | (simp only [i64_w, i32_w]; rw [c28b0]) | skip)
            have H' := m0 H; clear H
            go_wp2
            go_meet
            case rel => exact ⟨_, (true), rz, H', ⟨by first | omega | exact Nat.le_refl _⟩, ⟨bk BK470.out⟩, ⟨bz⟩⟩
        case rest =>
          clear HC16
          try clear hcz30_0
          try clear hcz30_1
          try clear hfz30_0
          try clear hfz30_1
          obtain ⟨kq, x67_15, rfl, HA, HJ15, BK470, HB⟩ := hcut
          cases kq with
          | zero => exact absurd HA.out (by simp [Lw_CloudEyes.j0])
          | succ kj15 =>
            have H := HA.out; clear HA; simp only [Lw_CloudEyes.j0] at H
            by_cases c32 : x67_15 = true
            · subst c32; rw [if_pos rfl] at H; obtain rfl := Option.some.inj H
              go_wp2
              go_ret
              exact ez
            · replace c32 := Bool.eq_false_iff.mpr c32; subst c32; rw [if_neg (show ¬ (false = true) by decide)] at H; replace H := oa H; obtain ⟨t486, A33, H⟩ := H; (try dsimp only at H)
              by_cases c34 : t486 = true
              · subst c34; rw [if_pos rfl] at H; replace H := oa H; obtain ⟨t487, A35, H⟩ := H; (try dsimp only at H); replace H := oa H; obtain ⟨⟨t490, t491⟩, A36, H⟩ := H; (try dsimp only at H); have HC37 := m0 H; clear H; obtain ⟨hcz38_0, hcz38_1, hfz38_0, hfz38_1⟩ := b2 BK470
                try go_wp2_with (first | ((with_reducible refine gc 19 rfl ?_); refine gl (some 70) Try.func19 #[.int .i64 a1_1, .int .i64 0, .int .i64 1000000000000] ?_; (with_reducible refine (Bs_Within.calls a1_1 0 1000000000000 true _ A33.out).mono ?_); rintro e w' ⟨rfl, ⟨nd, rfl⟩⟩; refine ⟨_, rfl, ?_⟩))
                (try (rw [drewN_self wc]; generalize hq_ : World.drewN wc _ = wc; replace BK470 := gd BK470 hq_; replace HB := gs HB hq_; clear hq_))
                replace BK470 := bd BK470; replace HB := sd HB; refine start_ (n := 12) (S := fun w' => w'.cell? ⟨gb470, 0, none⟩ = some (.int .i64 a1_0) ∧ w'.cell? ⟨gb470, 1, none⟩ = some (.int .i64 a1_1)) (ds := []) _ (by kernel_rfl) rfl rfl cz (fun hH => ?_); refine with_tabW Lw_CloudEyes.tab14 Lw_CloudEyes.bits14 (fun HT_ HW_ => ?_); generalize wc.drew = w39 at BK470 HB hH ⊢; refine pZ 0 (some 79) (bs 12 1) HT_ ?_; refine pZ 2 (some 81) (bs 12 5) HT_ ?_; refine takeZ 3 (some 82) (bs 12 13) (tw HT_ HW_) hH ?_; refine pZ 4 (some 83) (bs 12 29) HT_ ?_; refine pZ 5 (some 84) (bs 12 61) HT_ ?_; refine oneZ 1 (some 80) (bs 12 63) (o1 HT_) fun K hK => ?_; refine gz Try.func13 #[.slice A0 l0.length c0] ?_
                with_reducible refine (Rf_CopyShots.calls _ _ l0 t487 _ ?side1 ?side2 A35.out).mono ?_
                (case side1 => exact cb HR0 HB)
                (case side2 => exact HC0.out)
                rintro e w40 ⟨v488, rfl, ho0, hb⟩; refine ⟨_, rfl, ?_⟩; have HO489 := m0 (Kd.R_lower ho0 (below_size bz)); replace BK470 := bb BK470 hb; replace HB := sb HB hb; (try clear hb); (try clear ho0); obtain ⟨Ao41, co41, eo41⟩ := Kd.R_slice HO489.out; subst eo41; refine hK.out _ _ cz (fun hH => ?_); clear hK K; refine nz 80 ?_; refine oneZ 6 (some 85) (bs 12 127) (o1 HT_) fun K hK => ?_; refine gz Try.func12 #[.slice Ao41 t487.length co41, .int .i64 (wrap64 (Int.tdiv (wrap64 (a1_0 + 1)) 2))] ?_
                with_reducible refine (L_ExposureOf.calls kj15 _ _ t487 (wrap64 (Int.tdiv (wrap64 (a1_0 + 1)) 2)) t490 t491 _ ?side1 ?side2 A36.out).mono ?_
                (case side1 => exact bc (Kd.R_reads' HO489.out).2.2)
                (case side2 => exact (Kd.R_reads' HO489.out).2.1)
                rintro e w42 ⟨rfl, hb⟩; refine ⟨_, rfl, ?_⟩; replace HO489 := rb HO489 hb; replace BK470 := bb BK470 hb; replace HB := sb HB hb; (try clear hb); refine hK.out _ _ cz (fun hH => ?_); clear hK K; refine nz 85 ?_; refine pZ 7 (some 78) (bs 12 255) HT_ ?_; refine pZ 8 (some 86) (bs 12 511) HT_ ?_; refine pZ 9 (some 87) (bs 12 1023) HT_ ?_; refine pZ 10 (some 10) (bs 12 2047) HT_ ?_; refine pZ 11 (some 11) (bs 12 4095) HT_ ?_; refine done_ (done_of HT_.out (by kernel_rfl)) ?_
                go_upto_region 15 with (fail)
                go_cut [94] (fun v94 wc => ∃ (kq : Nat) (x94_36 : Bool), v94 = .bool x94_36 ∧ Aside0 (Lw_CloudEyes.j1 kq l0 t475 t480 t481 x94_36 a1_0 a1_1 = some r) ∧ Aside0 (kq ≤ kj15) ∧ Aside0 (wc.heap[gb470]? = some (.cells #[.int .i64 a1_0, .int .i64 a1_1] 24 (0, 0))) ∧ Aside0 (Below w.heap.size w wc))
                case first =>
                  have H := HC37.out; clear HC37
                  by_cases c43 : t491 = 0
                  · rw [if_pos c43] at H; have c43b0 := beq_iff_eq.mpr c43; have c43b1 := bne_eq_false_iff_eq.mpr c43; clear c43
                    (first | rw [c43b0] | (simp only [i64_w, i32_w]; rw [c43b0]) | skip)
                    have H' := m0 H; clear H
                    go_wp2
                    go_meet
                    case rel => exact ⟨_, (decide (t490 > t475)), rz, H', ⟨by have := HJ15.out; first | omega | exact Nat.le_refl _⟩, ⟨bk BK470.out⟩, ⟨bz⟩⟩
                  · rw [if_neg c43] at H; have c43b0 := beq_eq_false_iff_ne.mpr c43; have c43b1 := bne_iff_ne.mpr c43
                    (first | rw [c43b0] | (simp only [i64_w, i32_w]; rw [c43b0]) | skip)
                    have H' := m0 H; clear H
                    go_wp2
                    go_meet
                    case rel => exact ⟨_, (true), rz, H', ⟨by have := HJ15.out; first | omega | exact Nat.le_refl _⟩, ⟨bk BK470.out⟩, ⟨bz⟩⟩
                case rest =>
                  clear HC37
                  try clear hcz30_0
                  try clear hcz30_1
                  try clear hcz38_0
                  try clear hcz38_1
                  try clear hfz30_0
                  try clear hfz30_1
                  try clear hfz38_0
                  try clear hfz38_1
                  obtain ⟨kq, x94_36, rfl, HA, HJ36, BK470, HB⟩ := hcut
                  cases kq with
                  | zero => exact absurd HA.out (by simp [Lw_CloudEyes.j1])
                  | succ kj36 =>
                    have H := HA.out; clear HA; simp only [Lw_CloudEyes.j1] at H
                    by_cases c44 : x94_36 = true
                    · subst c44; rw [if_pos rfl] at H; obtain rfl := Option.some.inj H
                      go_wp2
                      go_ret
                      exact ez
                    · replace c44 := Bool.eq_false_iff.mpr c44; subst c44; rw [if_neg (show ¬ (false = true) by decide)] at H; replace H := oa H; obtain ⟨⟨t492, t493⟩, A45, H⟩ := H; (try dsimp only at H)
                      by_cases c46 : (t493 != (decide (t475 > a1_1))) = true
                      · rw [if_pos c46] at H; have c46b0 : (t493 != (decide (t475 > a1_1))) = true := c46; (try (have c46b1 : decide (t493 = (decide (t475 > a1_1))) = false := by simpa using c46)); (try (have c46b2 : (t493 == (decide (t475 > a1_1))) = false := by simpa using c46)); (try (have c46b3 : ¬ (t493 = (decide (t475 > a1_1))) := by simpa using c46)); clear c46; obtain rfl := Option.some.inj H; obtain ⟨_, _, _, _⟩ := b2 BK470
                        go_wp2_with (first | ((with_reducible refine gc 20 rfl ?_); refine gl (some 98) Try.func20 #[.slice A0 l0.length c0, .agg #[.int .i64 a1_0, .int .i64 a1_1]] ?_; (with_reducible refine (Rf_Unsafe.calls kj36 _ _ l0 a1_0 a1_1 t492 t493 _ ?side1 ?side2 A45.out).mono ?_); (case side1 => exact cb HR0 HB); (case side2 => exact HC0.out); rintro e w48 ⟨rfl, hb⟩; refine ⟨_, rfl, ?_⟩; replace BK470 := bb BK470 hb; replace HB := sb HB hb; (try clear hb); obtain ⟨_, _, _, _⟩ := b2 BK470))
                        go_ret
                        exact ez
                      · rw [if_neg c46] at H; have c46b0 : (t493 != (decide (t475 > a1_1))) = false := by simpa using c46
                        (try (have c46b1 : decide (t493 = (decide (t475 > a1_1))) = true := by simpa using c46)); (try (have c46b2 : (t493 == (decide (t475 > a1_1))) = true := by simpa using c46)); clear c46
                        by_cases c50 : t493 = true
                        · subst c50; rw [if_pos rfl] at H
                          by_cases c51 : t481 = 0
                          · rw [if_pos c51] at H; have c51b0 := beq_iff_eq.mpr c51; have c51b1 := bne_eq_false_iff_eq.mpr c51; clear c51
                            by_cases c52 : t480 = t492
                            · rw [if_pos c52] at H; have c52b0 := beq_iff_eq.mpr c52; have c52b1 := bne_eq_false_iff_eq.mpr c52; clear c52; replace H := oa H; obtain ⟨t494, A53, H⟩ := H; (try dsimp only at H)
                              by_cases c54 : t494 > a1_1
                              · rw [if_pos c54] at H; have c54b0 := decide_eq_true c54; clear c54; replace H := oa H; obtain ⟨t495, A55, H⟩ := H; (try dsimp only at H); obtain rfl := Option.some.inj H; obtain ⟨_, _, _, _⟩ := b2 BK470
                                try go_wp2_with (first | ((with_reducible refine gc 20 rfl ?_); refine gl (some 98) Try.func20 #[.slice A0 l0.length c0, .agg #[.int .i64 a1_0, .int .i64 a1_1]] ?_; (with_reducible refine (Rf_Unsafe.calls kj36 _ _ l0 a1_0 a1_1 t492 true _ ?side1 ?side2 A45.out).mono ?_); (case side1 => exact cb HR0 HB); (case side2 => exact HC0.out); rintro e w57 ⟨rfl, hb⟩; refine ⟨_, rfl, ?_⟩; replace BK470 := bb BK470 hb; replace HB := sb HB hb; (try clear hb); obtain ⟨_, _, _, _⟩ := b2 BK470))
                                replace BK470 := bd BK470; replace HB := sd HB; refine start_ (n := 29) (S := fun w' => w'.cell? ⟨gb470, 0, none⟩ = some (.int .i64 a1_0) ∧ w'.cell? ⟨gb470, 1, none⟩ = some (.int .i64 a1_1)) (ds := []) _ (by kernel_rfl) rfl rfl cz (fun hH => ?_); refine with_tabW Lw_CloudEyes.tab22 Lw_CloudEyes.bits22 (fun HT_ HW_ => ?_); generalize w57.drew = w59 at BK470 HB hH ⊢; refine pZ 0 (some 115) (bs 29 1) HT_ ?_; refine pZ 1 (some 116) (bs 29 3) HT_ ?_; refine pZ 2 (some 117) (bs 29 7) HT_ ?_; refine pZ 3 (some 118) (bs 29 15) HT_ ?_; refine pZ 4 (some 119) (bs 29 31) HT_ ?_; refine pZ 5 (some 120) (bs 29 63) HT_ ?_; refine pZ 6 (some 121) (bs 29 127) HT_ ?_; refine pZ 7 (some 122) (bs 29 255) HT_ ?_; refine pZ 8 (some 123) (bs 29 511) HT_ ?_; refine pZ 9 (some 124) (bs 29 1023) HT_ ?_; refine pZ 11 (some 126) (bs 29 3071) HT_ ?_; refine pZ 13 (some 128) (bs 29 11263) HT_ ?_; refine takeZ 10 (some 125) (bs 29 12287) (tw HT_ HW_) hH ?_; refine takeZ 14 (some 129) (bs 29 28671) (tw HT_ HW_) hH ?_; refine oneZ 12 (some 127) (bs 29 32767) (o1 HT_) fun K hK => ?_; refine gz Try.func21 #[.slice A0 l0.length c0, .int .i64 a1_0, .int .i64 t480] ?_
                                with_reducible refine (Rf_Energy.calls kj36 _ _ l0 a1_0 t480 t494 _ ?side1 ?side2 A53.out).mono ?_
                                (case side1 => exact cb HR0 HB)
                                (case side2 => exact HC0.out)
                                rintro e w60 ⟨rfl, hb⟩; refine ⟨_, rfl, ?_⟩; replace BK470 := bb BK470 hb; replace HB := sb HB hb; (try clear hb); refine hK.out _ _ cz (fun hH => ?_); clear hK K; refine nz 127 ?_; refine pZ 15 (some 130) (bs 29 65535) HT_ ?_; refine pZ 16 (some 131) (bs 29 131071) HT_ ?_; refine pZ 17 (some 132) (bs 29 262143) HT_ ?_; refine pZ 18 (some 133) (bs 29 524287) HT_ ?_; refine pZ 19 (some 134) (bs 29 1048575) HT_ ?_; refine pZ 21 (some 136) (bs 29 3145727) HT_ ?_; refine pZ 22 (some 137) (bs 29 7340031) HT_ ?_; refine pZ 24 (some 139) (bs 29 24117247) HT_ ?_; refine takeZ 20 (some 135) (bs 29 25165823) (tw HT_ HW_) hH ?_; refine takeZ 25 (some 140) (bs 29 58720255) (tw HT_ HW_) hH ?_; refine oneZ 23 (some 138) (bs 29 67108863) (o1 HT_) fun K hK => ?_; refine gz Try.func21 #[.slice A0 l0.length c0, .int .i64 a1_0, .int .i64 (wrap64 (t480 - 1))] ?_
                                with_reducible refine (Rf_Energy.calls kj36 _ _ l0 a1_0 (wrap64 (t480 - 1)) t495 _ ?side1 ?side2 A55.out).mono ?_
                                (case side1 => exact cb HR0 HB)
                                (case side2 => exact HC0.out)
                                rintro e w61 ⟨rfl, hb⟩; refine ⟨_, rfl, ?_⟩; replace BK470 := bb BK470 hb; replace HB := sb HB hb; (try clear hb); refine hK.out _ _ cz (fun hH => ?_); clear hK K; refine nz 138 ?_; refine pZ 26 (some 141) (bs 29 134217727) HT_ ?_; refine pZ 27 (some 142) (bs 29 268435455) HT_ ?_; refine pZ 28 (some 4) (bs 29 536870911) HT_ ?_; refine done_ (done_of HT_.out (by kernel_rfl)) ?_
                                try go_wp2
                                go_ret
                                exact ez
                              · rw [if_neg c54] at H; have c54b0 := decide_eq_false c54; clear c54; obtain rfl := Option.some.inj H; obtain ⟨_, _, _, _⟩ := b2 BK470
                                try go_wp2_with (first | ((with_reducible refine gc 20 rfl ?_); refine gl (some 98) Try.func20 #[.slice A0 l0.length c0, .agg #[.int .i64 a1_0, .int .i64 a1_1]] ?_; (with_reducible refine (Rf_Unsafe.calls kj36 _ _ l0 a1_0 a1_1 t492 true _ ?side1 ?side2 A45.out).mono ?_); (case side1 => exact cb HR0 HB); (case side2 => exact HC0.out); rintro e w63 ⟨rfl, hb⟩; refine ⟨_, rfl, ?_⟩; replace BK470 := bb BK470 hb; replace HB := sb HB hb; (try clear hb); obtain ⟨_, _, _, _⟩ := b2 BK470))
                                replace BK470 := bd BK470; replace HB := sd HB; refine start_ (n := 29) (S := fun w' => w'.cell? ⟨gb470, 0, none⟩ = some (.int .i64 a1_0) ∧ w'.cell? ⟨gb470, 1, none⟩ = some (.int .i64 a1_1)) (ds := []) _ (by kernel_rfl) rfl rfl cz (fun hH => ?_); refine with_tabW Lw_CloudEyes.tab22 Lw_CloudEyes.bits22 (fun HT_ HW_ => ?_); generalize w63.drew = w65 at BK470 HB hH ⊢; refine pZ 0 (some 115) (bs 29 1) HT_ ?_; refine pZ 1 (some 116) (bs 29 3) HT_ ?_; refine pZ 2 (some 117) (bs 29 7) HT_ ?_; refine pZ 3 (some 118) (bs 29 15) HT_ ?_; refine pZ 4 (some 119) (bs 29 31) HT_ ?_; refine pZ 5 (some 120) (bs 29 63) HT_ ?_; refine pZ 6 (some 121) (bs 29 127) HT_ ?_; refine pZ 7 (some 122) (bs 29 255) HT_ ?_; refine pZ 8 (some 123) (bs 29 511) HT_ ?_; refine pZ 9 (some 124) (bs 29 1023) HT_ ?_; refine pZ 11 (some 126) (bs 29 3071) HT_ ?_; refine pZ 13 (some 128) (bs 29 11263) HT_ ?_; refine takeZ 10 (some 125) (bs 29 12287) (tw HT_ HW_) hH ?_; refine takeZ 14 (some 129) (bs 29 28671) (tw HT_ HW_) hH ?_; refine oneZ 12 (some 127) (bs 29 32767) (o1 HT_) fun K hK => ?_; refine gz Try.func21 #[.slice A0 l0.length c0, .int .i64 a1_0, .int .i64 t480] ?_
                                with_reducible refine (Rf_Energy.calls kj36 _ _ l0 a1_0 t480 t494 _ ?side1 ?side2 A53.out).mono ?_
                                (case side1 => exact cb HR0 HB)
                                (case side2 => exact HC0.out)
                                rintro e w66 ⟨rfl, hb⟩; refine ⟨_, rfl, ?_⟩; replace BK470 := bb BK470 hb; replace HB := sb HB hb; (try clear hb); refine hK.out _ _ cz (fun hH => ?_); clear hK K; refine nz 127 ?_; refine pZ 15 (some 130) (bs 29 65535) HT_ ?_; refine pZ 16 (some 131) (bs 29 131071) HT_ ?_; refine pZ 17 (some 132) (bs 29 262143) HT_ ?_; refine pure_ (i := 18) (N := some 133) (v := undef) (a' := ?_) (bs 29 524287) rfl rfl (any_of HT_.out (by kernel_rfl)) (fun _ _ _ h => h) (Or.inr ⟨by rfl, rfl⟩) ?_ ?_; rotate_left
                                · exact pz
                                refine pure_ (i := 19) (N := some 134) (v := undef) (a' := ?_) (bs 29 1048575) rfl rfl (any_of HT_.out (by kernel_rfl)) (fun _ _ _ h => h) (Or.inr ⟨by rfl, rfl⟩) ?_ ?_; rotate_left
                                · exact pz
                                refine pure_ (i := 20) (N := some 135) (v := undef) (a' := ?_) (bs 29 2097151) rfl rfl (any_of HT_.out (by kernel_rfl)) (fun _ _ _ h => h) (Or.inr ⟨by rfl, rfl⟩) ?_ ?_; rotate_left
                                · exact pz
                                refine pure_ (i := 21) (N := some 136) (v := undef) (a' := ?_) (bs 29 4194303) rfl rfl (any_of HT_.out (by kernel_rfl)) (fun _ _ _ h => h) (Or.inr ⟨by rfl, rfl⟩) ?_ ?_; rotate_left
                                · exact pz
                                refine pure_ (i := 22) (N := some 137) (v := undef) (a' := ?_) (bs 29 8388607) rfl rfl (any_of HT_.out (by kernel_rfl)) (fun _ _ _ h => h) (Or.inr ⟨by rfl, rfl⟩) ?_ ?_; rotate_left
                                · exact pz
                                refine pure_ (i := 23) (N := some 138) (v := undef) (a' := ?_) (bs 29 16777215) rfl rfl (any_of HT_.out (by kernel_rfl)) (fun _ _ _ h => h) (Or.inr ⟨by rfl, rfl⟩) ?_ ?_; rotate_left
                                · exact pz
                                refine pure_ (i := 24) (N := some 139) (v := undef) (a' := ?_) (bs 29 33554431) rfl rfl (any_of HT_.out (by kernel_rfl)) (fun _ _ _ h => h) (Or.inr ⟨by rfl, rfl⟩) ?_ ?_; rotate_left
                                · exact pz
                                refine pure_ (i := 25) (N := some 140) (v := undef) (a' := ?_) (bs 29 67108863) rfl rfl (any_of HT_.out (by kernel_rfl)) (fun _ _ _ h => h) (Or.inr ⟨by rfl, rfl⟩) ?_ ?_; rotate_left
                                · exact pz
                                refine pure_ (i := 26) (N := some 141) (v := undef) (a' := ?_) (bs 29 134217727) rfl rfl (any_of HT_.out (by kernel_rfl)) (fun _ _ _ h => h) (Or.inr ⟨by rfl, rfl⟩) ?_ ?_; rotate_left
                                · exact pz
                                refine pZ 27 (some 142) (bs 29 268435455) HT_ ?_; refine pZ 28 (some 4) (bs 29 536870911) HT_ ?_; refine done_ (done_of HT_.out (by kernel_rfl)) ?_
                                try go_wp2
                                go_ret
                                exact ez
                            · rw [if_neg c52] at H; have c52b0 := beq_eq_false_iff_ne.mpr c52; have c52b1 := bne_iff_ne.mpr c52; obtain rfl := Option.some.inj H; obtain ⟨_, _, _, _⟩ := b2 BK470
                              try go_wp2_with (first | ((with_reducible refine gc 20 rfl ?_); refine gl (some 98) Try.func20 #[.slice A0 l0.length c0, .agg #[.int .i64 a1_0, .int .i64 a1_1]] ?_; (with_reducible refine (Rf_Unsafe.calls kj36 _ _ l0 a1_0 a1_1 t492 true _ ?side1 ?side2 A45.out).mono ?_); (case side1 => exact cb HR0 HB); (case side2 => exact HC0.out); rintro e w68 ⟨rfl, hb⟩; refine ⟨_, rfl, ?_⟩; replace BK470 := bb BK470 hb; replace HB := sb HB hb; (try clear hb); obtain ⟨_, _, _, _⟩ := b2 BK470))
                              replace BK470 := bd BK470; replace HB := sd HB; refine start_ (n := 29) (S := fun w' => True) (ds := []) _ (by kernel_rfl) rfl rfl trivial (fun hH => ?_); refine with_tabW Lw_CloudEyes.tab22 Lw_CloudEyes.bits22 (fun HT_ HW_ => ?_); generalize w68.drew = w70 at BK470 HB hH ⊢; refine pZ 0 (some 115) (bs 29 1) HT_ ?_; refine pZ 1 (some 116) (bs 29 3) HT_ ?_; refine pZ 2 (some 117) (bs 29 7) HT_ ?_; refine pZ 3 (some 118) (bs 29 15) HT_ ?_; refine pZ 4 (some 119) (bs 29 31) HT_ ?_; refine pZ 5 (some 120) (bs 29 63) HT_ ?_; refine pZ 6 (some 121) (bs 29 127) HT_ ?_; refine pZ 7 (some 122) (bs 29 255) HT_ ?_; refine pure_ (i := 8) (N := some 123) (v := undef) (a' := ?_) (bs 29 511) rfl rfl (any_of HT_.out (by kernel_rfl)) (fun _ _ _ h => h) (Or.inr ⟨by rfl, rfl⟩) ?_ ?_; rotate_left
                              · exact pz
                              refine pure_ (i := 9) (N := some 124) (v := undef) (a' := ?_) (bs 29 1023) rfl rfl (any_of HT_.out (by kernel_rfl)) (fun _ _ _ h => h) (Or.inr ⟨by rfl, rfl⟩) ?_ ?_; rotate_left
                              · exact pz
                              refine pure_ (i := 10) (N := some 125) (v := undef) (a' := ?_) (bs 29 2047) rfl rfl (any_of HT_.out (by kernel_rfl)) (fun _ _ _ h => h) (Or.inr ⟨by rfl, rfl⟩) ?_ ?_; rotate_left
                              · exact pz
                              refine pure_ (i := 11) (N := some 126) (v := undef) (a' := ?_) (bs 29 4095) rfl rfl (any_of HT_.out (by kernel_rfl)) (fun _ _ _ h => h) (Or.inr ⟨by rfl, rfl⟩) ?_ ?_; rotate_left
                              · exact pz
                              refine pure_ (i := 12) (N := some 127) (v := undef) (a' := ?_) (bs 29 8191) rfl rfl (any_of HT_.out (by kernel_rfl)) (fun _ _ _ h => h) (Or.inr ⟨by rfl, rfl⟩) ?_ ?_; rotate_left
                              · exact pz
                              refine pure_ (i := 13) (N := some 128) (v := undef) (a' := ?_) (bs 29 16383) rfl rfl (any_of HT_.out (by kernel_rfl)) (fun _ _ _ h => h) (Or.inr ⟨by rfl, rfl⟩) ?_ ?_; rotate_left
                              · exact pz
                              refine pure_ (i := 14) (N := some 129) (v := undef) (a' := ?_) (bs 29 32767) rfl rfl (any_of HT_.out (by kernel_rfl)) (fun _ _ _ h => h) (Or.inr ⟨by rfl, rfl⟩) ?_ ?_; rotate_left
                              · exact pz
                              refine pure_ (i := 15) (N := some 130) (v := undef) (a' := ?_) (bs 29 65535) rfl rfl (any_of HT_.out (by kernel_rfl)) (fun _ _ _ h => h) (Or.inr ⟨by rfl, rfl⟩) ?_ ?_; rotate_left
                              · exact pz
                              refine pZ 16 (some 131) (bs 29 131071) HT_ ?_; refine pZ 17 (some 132) (bs 29 262143) HT_ ?_; refine pure_ (i := 18) (N := some 133) (v := undef) (a' := ?_) (bs 29 524287) rfl rfl (any_of HT_.out (by kernel_rfl)) (fun _ _ _ h => h) (Or.inr ⟨by rfl, rfl⟩) ?_ ?_; rotate_left
                              · exact pz
                              refine pure_ (i := 19) (N := some 134) (v := undef) (a' := ?_) (bs 29 1048575) rfl rfl (any_of HT_.out (by kernel_rfl)) (fun _ _ _ h => h) (Or.inr ⟨by rfl, rfl⟩) ?_ ?_; rotate_left
                              · exact pz
                              refine pure_ (i := 20) (N := some 135) (v := undef) (a' := ?_) (bs 29 2097151) rfl rfl (any_of HT_.out (by kernel_rfl)) (fun _ _ _ h => h) (Or.inr ⟨by rfl, rfl⟩) ?_ ?_; rotate_left
                              · exact pz
                              refine pure_ (i := 21) (N := some 136) (v := undef) (a' := ?_) (bs 29 4194303) rfl rfl (any_of HT_.out (by kernel_rfl)) (fun _ _ _ h => h) (Or.inr ⟨by rfl, rfl⟩) ?_ ?_; rotate_left
                              · exact pz
                              refine pure_ (i := 22) (N := some 137) (v := undef) (a' := ?_) (bs 29 8388607) rfl rfl (any_of HT_.out (by kernel_rfl)) (fun _ _ _ h => h) (Or.inr ⟨by rfl, rfl⟩) ?_ ?_; rotate_left
                              · exact pz
                              refine pure_ (i := 23) (N := some 138) (v := undef) (a' := ?_) (bs 29 16777215) rfl rfl (any_of HT_.out (by kernel_rfl)) (fun _ _ _ h => h) (Or.inr ⟨by rfl, rfl⟩) ?_ ?_; rotate_left
                              · exact pz
                              refine pure_ (i := 24) (N := some 139) (v := undef) (a' := ?_) (bs 29 33554431) rfl rfl (any_of HT_.out (by kernel_rfl)) (fun _ _ _ h => h) (Or.inr ⟨by rfl, rfl⟩) ?_ ?_; rotate_left
                              · exact pz
                              refine pure_ (i := 25) (N := some 140) (v := undef) (a' := ?_) (bs 29 67108863) rfl rfl (any_of HT_.out (by kernel_rfl)) (fun _ _ _ h => h) (Or.inr ⟨by rfl, rfl⟩) ?_ ?_; rotate_left
                              · exact pz
                              refine pure_ (i := 26) (N := some 141) (v := undef) (a' := ?_) (bs 29 134217727) rfl rfl (any_of HT_.out (by kernel_rfl)) (fun _ _ _ h => h) (Or.inr ⟨by rfl, rfl⟩) ?_ ?_; rotate_left
                              · exact pz
                              refine pZ 27 (some 142) (bs 29 268435455) HT_ ?_; refine pZ 28 (some 4) (bs 29 536870911) HT_ ?_; refine done_ (done_of HT_.out (by kernel_rfl)) ?_
                              try go_wp2
                              go_ret
                              exact ez
                          · rw [if_neg c51] at H; have c51b0 := beq_eq_false_iff_ne.mpr c51; have c51b1 := bne_iff_ne.mpr c51; obtain rfl := Option.some.inj H; obtain ⟨_, _, _, _⟩ := b2 BK470
                            try go_wp2_with (first | ((with_reducible refine gc 20 rfl ?_); refine gl (some 98) Try.func20 #[.slice A0 l0.length c0, .agg #[.int .i64 a1_0, .int .i64 a1_1]] ?_; (with_reducible refine (Rf_Unsafe.calls kj36 _ _ l0 a1_0 a1_1 t492 true _ ?side1 ?side2 A45.out).mono ?_); (case side1 => exact cb HR0 HB); (case side2 => exact HC0.out); rintro e w72 ⟨rfl, hb⟩; refine ⟨_, rfl, ?_⟩; replace BK470 := bb BK470 hb; replace HB := sb HB hb; (try clear hb); obtain ⟨_, _, _, _⟩ := b2 BK470))
                            replace BK470 := bd BK470; replace HB := sd HB; refine start_ (n := 29) (S := fun w' => True) (ds := []) _ (by kernel_rfl) rfl rfl trivial (fun hH => ?_); refine with_tabW Lw_CloudEyes.tab22 Lw_CloudEyes.bits22 (fun HT_ HW_ => ?_); generalize w72.drew = w74 at BK470 HB hH ⊢; refine pZ 0 (some 115) (bs 29 1) HT_ ?_; refine pZ 1 (some 116) (bs 29 3) HT_ ?_; refine pZ 2 (some 117) (bs 29 7) HT_ ?_; refine pure_ (i := 3) (N := some 118) (v := undef) (a' := ?_) (bs 29 15) rfl rfl (any_of HT_.out (by kernel_rfl)) (fun _ _ _ h => h) (Or.inr ⟨by rfl, rfl⟩) ?_ ?_; rotate_left
                            · exact pz
                            refine pure_ (i := 4) (N := some 119) (v := undef) (a' := ?_) (bs 29 31) rfl rfl (any_of HT_.out (by kernel_rfl)) (fun _ _ _ h => h) (Or.inr ⟨by rfl, rfl⟩) ?_ ?_; rotate_left
                            · exact pz
                            refine pure_ (i := 5) (N := some 120) (v := undef) (a' := ?_) (bs 29 63) rfl rfl (any_of HT_.out (by kernel_rfl)) (fun _ _ _ h => h) (Or.inr ⟨by rfl, rfl⟩) ?_ ?_; rotate_left
                            · exact pz
                            refine pZ 6 (some 121) (bs 29 127) HT_ ?_; refine pZ 7 (some 122) (bs 29 255) HT_ ?_; refine pure_ (i := 8) (N := some 123) (v := undef) (a' := ?_) (bs 29 511) rfl rfl (any_of HT_.out (by kernel_rfl)) (fun _ _ _ h => h) (Or.inr ⟨by rfl, rfl⟩) ?_ ?_; rotate_left
                            · exact pz
                            refine pure_ (i := 9) (N := some 124) (v := undef) (a' := ?_) (bs 29 1023) rfl rfl (any_of HT_.out (by kernel_rfl)) (fun _ _ _ h => h) (Or.inr ⟨by rfl, rfl⟩) ?_ ?_; rotate_left
                            · exact pz
                            refine pure_ (i := 10) (N := some 125) (v := undef) (a' := ?_) (bs 29 2047) rfl rfl (any_of HT_.out (by kernel_rfl)) (fun _ _ _ h => h) (Or.inr ⟨by rfl, rfl⟩) ?_ ?_; rotate_left
                            · exact pz
                            refine pure_ (i := 11) (N := some 126) (v := undef) (a' := ?_) (bs 29 4095) rfl rfl (any_of HT_.out (by kernel_rfl)) (fun _ _ _ h => h) (Or.inr ⟨by rfl, rfl⟩) ?_ ?_; rotate_left
                            · exact pz
                            refine pure_ (i := 12) (N := some 127) (v := undef) (a' := ?_) (bs 29 8191) rfl rfl (any_of HT_.out (by kernel_rfl)) (fun _ _ _ h => h) (Or.inr ⟨by rfl, rfl⟩) ?_ ?_; rotate_left
                            · exact pz
                            refine pure_ (i := 13) (N := some 128) (v := undef) (a' := ?_) (bs 29 16383) rfl rfl (any_of HT_.out (by kernel_rfl)) (fun _ _ _ h => h) (Or.inr ⟨by rfl, rfl⟩) ?_ ?_; rotate_left
                            · exact pz
                            refine pure_ (i := 14) (N := some 129) (v := undef) (a' := ?_) (bs 29 32767) rfl rfl (any_of HT_.out (by kernel_rfl)) (fun _ _ _ h => h) (Or.inr ⟨by rfl, rfl⟩) ?_ ?_; rotate_left
                            · exact pz
                            refine pure_ (i := 15) (N := some 130) (v := undef) (a' := ?_) (bs 29 65535) rfl rfl (any_of HT_.out (by kernel_rfl)) (fun _ _ _ h => h) (Or.inr ⟨by rfl, rfl⟩) ?_ ?_; rotate_left
                            · exact pz
                            refine pZ 16 (some 131) (bs 29 131071) HT_ ?_; refine pZ 17 (some 132) (bs 29 262143) HT_ ?_; refine pure_ (i := 18) (N := some 133) (v := undef) (a' := ?_) (bs 29 524287) rfl rfl (any_of HT_.out (by kernel_rfl)) (fun _ _ _ h => h) (Or.inr ⟨by rfl, rfl⟩) ?_ ?_; rotate_left
                            · exact pz
                            refine pure_ (i := 19) (N := some 134) (v := undef) (a' := ?_) (bs 29 1048575) rfl rfl (any_of HT_.out (by kernel_rfl)) (fun _ _ _ h => h) (Or.inr ⟨by rfl, rfl⟩) ?_ ?_; rotate_left
                            · exact pz
                            refine pure_ (i := 20) (N := some 135) (v := undef) (a' := ?_) (bs 29 2097151) rfl rfl (any_of HT_.out (by kernel_rfl)) (fun _ _ _ h => h) (Or.inr ⟨by rfl, rfl⟩) ?_ ?_; rotate_left
                            · exact pz
                            refine pure_ (i := 21) (N := some 136) (v := undef) (a' := ?_) (bs 29 4194303) rfl rfl (any_of HT_.out (by kernel_rfl)) (fun _ _ _ h => h) (Or.inr ⟨by rfl, rfl⟩) ?_ ?_; rotate_left
                            · exact pz
                            refine pure_ (i := 22) (N := some 137) (v := undef) (a' := ?_) (bs 29 8388607) rfl rfl (any_of HT_.out (by kernel_rfl)) (fun _ _ _ h => h) (Or.inr ⟨by rfl, rfl⟩) ?_ ?_; rotate_left
                            · exact pz
                            refine pure_ (i := 23) (N := some 138) (v := undef) (a' := ?_) (bs 29 16777215) rfl rfl (any_of HT_.out (by kernel_rfl)) (fun _ _ _ h => h) (Or.inr ⟨by rfl, rfl⟩) ?_ ?_; rotate_left
                            · exact pz
                            refine pure_ (i := 24) (N := some 139) (v := undef) (a' := ?_) (bs 29 33554431) rfl rfl (any_of HT_.out (by kernel_rfl)) (fun _ _ _ h => h) (Or.inr ⟨by rfl, rfl⟩) ?_ ?_; rotate_left
                            · exact pz
                            refine pure_ (i := 25) (N := some 140) (v := undef) (a' := ?_) (bs 29 67108863) rfl rfl (any_of HT_.out (by kernel_rfl)) (fun _ _ _ h => h) (Or.inr ⟨by rfl, rfl⟩) ?_ ?_; rotate_left
                            · exact pz
                            refine pure_ (i := 26) (N := some 141) (v := undef) (a' := ?_) (bs 29 134217727) rfl rfl (any_of HT_.out (by kernel_rfl)) (fun _ _ _ h => h) (Or.inr ⟨by rfl, rfl⟩) ?_ ?_; rotate_left
                            · exact pz
                            refine pZ 27 (some 142) (bs 29 268435455) HT_ ?_; refine pZ 28 (some 4) (bs 29 536870911) HT_ ?_; refine done_ (done_of HT_.out (by kernel_rfl)) ?_
                            try go_wp2
                            go_ret
                            exact ez
                        · replace c50 := Bool.eq_false_iff.mpr c50; subst c50; rw [if_neg (show ¬ (false = true) by decide)] at H
                          by_cases c75 : t481 = 12
                          · rw [if_pos c75] at H; have c75b0 := beq_iff_eq.mpr c75; have c75b1 := bne_eq_false_iff_eq.mpr c75; clear c75; obtain rfl := Option.some.inj H; obtain ⟨_, _, _, _⟩ := b2 BK470
                            go_wp2_with (first | ((with_reducible refine gc 20 rfl ?_); refine gl (some 98) Try.func20 #[.slice A0 l0.length c0, .agg #[.int .i64 a1_0, .int .i64 a1_1]] ?_; (with_reducible refine (Rf_Unsafe.calls kj36 _ _ l0 a1_0 a1_1 t492 false _ ?side1 ?side2 A45.out).mono ?_); (case side1 => exact cb HR0 HB); (case side2 => exact HC0.out); rintro e w77 ⟨rfl, hb⟩; refine ⟨_, rfl, ?_⟩; replace BK470 := bb BK470 hb; replace HB := sb HB hb; (try clear hb); obtain ⟨_, _, _, _⟩ := b2 BK470))
                            go_ret
                            exact ez
                          · rw [if_neg c75] at H; have c75b0 := beq_eq_false_iff_ne.mpr c75; have c75b1 := bne_iff_ne.mpr c75; obtain rfl := Option.some.inj H; obtain ⟨_, _, _, _⟩ := b2 BK470
                            go_wp2_with (first | ((with_reducible refine gc 20 rfl ?_); refine gl (some 98) Try.func20 #[.slice A0 l0.length c0, .agg #[.int .i64 a1_0, .int .i64 a1_1]] ?_; (with_reducible refine (Rf_Unsafe.calls kj36 _ _ l0 a1_0 a1_1 t492 false _ ?side1 ?side2 A45.out).mono ?_); (case side1 => exact cb HR0 HB); (case side2 => exact HC0.out); rintro e w80 ⟨rfl, hb⟩; refine ⟨_, rfl, ?_⟩; replace BK470 := bb BK470 hb; replace HB := sb HB hb; (try clear hb); obtain ⟨_, _, _, _⟩ := b2 BK470))
                            go_ret
                            exact ez
              · replace c34 := Bool.eq_false_iff.mpr c34; subst c34; rw [if_neg (show ¬ (false = true) by decide)] at H
                by_cases c82 : t481 = 2
                · rw [if_pos c82] at H; have c82b0 := beq_iff_eq.mpr c82; have c82b1 := bne_eq_false_iff_eq.mpr c82; clear c82; obtain rfl := Option.some.inj H; obtain ⟨_, _, _, _⟩ := b2 BK470
                  go_wp2_with (first | ((with_reducible refine gc 19 rfl ?_); refine gl (some 70) Try.func19 #[.int .i64 a1_1, .int .i64 0, .int .i64 1000000000000] ?_; (with_reducible refine (Bs_Within.calls a1_1 0 1000000000000 false _ A33.out).mono ?_); rintro e w' ⟨rfl, ⟨nd, rfl⟩⟩; refine ⟨_, rfl, ?_⟩))
                  go_ret
                  exact ez
                · rw [if_neg c82] at H; have c82b0 := beq_eq_false_iff_ne.mpr c82; have c82b1 := bne_iff_ne.mpr c82; obtain rfl := Option.some.inj H; obtain ⟨_, _, _, _⟩ := b2 BK470
                  go_wp2_with (first | ((with_reducible refine gc 19 rfl ?_); refine gl (some 70) Try.func19 #[.int .i64 a1_1, .int .i64 0, .int .i64 1000000000000] ?_; (with_reducible refine (Bs_Within.calls a1_1 0 1000000000000 false _ A33.out).mono ?_); rintro e w' ⟨rfl, ⟨nd, rfl⟩⟩; refine ⟨_, rfl, ?_⟩))
                  go_ret
                  exact ez
      · rw [if_neg c15] at H; have c15b0 := beq_eq_false_iff_ne.mpr c15; have c15b1 := bne_iff_ne.mpr c15
        by_cases c85 : t476 = t484
        · rw [if_pos c85] at H; have c85b0 := beq_iff_eq.mpr c85; have c85b1 := bne_eq_false_iff_eq.mpr c85; clear c85
          by_cases c86 : t475 = 0
          · rw [if_pos c86] at H; have c86b0 := beq_iff_eq.mpr c86; have c86b1 := bne_eq_false_iff_eq.mpr c86; clear c86
            by_cases c87 : t481 = t484
            · rw [if_pos c87] at H; have c87b0 := beq_iff_eq.mpr c87; have c87b1 := bne_eq_false_iff_eq.mpr c87; clear c87; obtain rfl := Option.some.inj H; go_enter Try.func3, Try.ntmps3
              try go_wp2_with (first | ((with_reducible refine ga 3 rfl ?_); refine be 3 24 #[.int .i64 a1_0, .int .i64 a1_1] ?_; intro gb470 hg w88 hbox hb; have BK470 := m0 hbox; have GE470 := gw w hg; replace HB := sb HB hb; clear hb hbox hg) | ((with_reducible refine gc 11 rfl ?_); refine gl (some 14) Try.func11 #[] ?_; (with_reducible refine (Lw_awake.calls k  true _ A3.out).mono ?_); rintro e w89 ⟨rfl, hb⟩; refine ⟨_, rfl, ?_⟩; replace BK470 := bb BK470 hb; replace HB := sb HB hb; (try clear hb)))
              replace BK470 := bd BK470; replace HB := sd HB; refine start_ (n := 10) (S := fun w' => w'.cell? ⟨gb470, 0, none⟩ = some (.int .i64 a1_0) ∧ w'.cell? ⟨gb470, 1, none⟩ = some (.int .i64 a1_1)) (ds := []) _ (by kernel_rfl) rfl rfl cz (fun hH => ?_); refine with_tabW Lw_CloudEyes.tab5 Lw_CloudEyes.bits5 (fun HT_ HW_ => ?_); generalize w89.drew = w90 at BK470 HB hH ⊢; refine pZ 0 (some 20) #[true, false, false, false, false, false, false, false, false, false] HT_ ?_; refine pZ 2 (some 22) #[true, false, true, false, false, false, false, false, false, false] HT_ ?_; refine takeZ 3 (some 23) #[true, false, true, true, false, false, false, false, false, false] (tw HT_ HW_) hH ?_; refine oneZ 1 (some 21) #[true, true, true, true, false, false, false, false, false, false] (o1 HT_) fun K hK => ?_; refine gz Try.func13 #[.slice A0 l0.length c0] ?_
              with_reducible refine (Rf_CopyShots.calls _ _ l0 t472 _ ?side1 ?side2 A8.out).mono ?_
              (case side1 => exact cb HR0 HB)
              (case side2 => exact HC0.out)
              rintro e w91 ⟨v473, rfl, ho0, hb⟩; refine ⟨_, rfl, ?_⟩; have HO474 := m0 (Kd.R_lower ho0 (below_size bz)); replace BK470 := bb BK470 hb; replace HB := sb HB hb; (try clear hb); (try clear ho0); obtain ⟨Ao92, co92, eo92⟩ := Kd.R_slice HO474.out; subst eo92; refine hK.out _ _ cz (fun hH => ?_); clear hK K; refine nz 21 ?_; refine oneZ 4 (some 24) #[true, true, true, true, true, false, false, false, false, false] (o1 HT_) fun K hK => ?_; refine gz Try.func12 #[.slice Ao92 t472.length co92, .int .i64 a1_0] ?_
              with_reducible refine (L_ExposureOf.calls k _ _ t472 a1_0 t475 t476 _ ?side1 ?side2 A9.out).mono ?_
              (case side1 => exact bc (Kd.R_reads' HO474.out).2.2)
              (case side2 => exact (Kd.R_reads' HO474.out).2.1)
              rintro e w93 ⟨rfl, hb⟩; refine ⟨_, rfl, ?_⟩; replace HO474 := rb HO474 hb; replace BK470 := bb BK470 hb; replace HB := sb HB hb; (try clear hb); refine hK.out _ _ cz (fun hH => ?_); clear hK K; refine nz 24 ?_; refine pZ 5 (some 19) #[true, true, true, true, true, true, false, false, false, false] HT_ ?_; refine pZ 6 (some 25) #[true, true, true, true, true, true, true, false, false, false] HT_ ?_; refine pZ 7 (some 26) #[true, true, true, true, true, true, true, true, false, false] HT_ ?_; refine pZ 8 (some 5) #[true, true, true, true, true, true, true, true, true, false] HT_ ?_; refine pZ 9 (some 6) #[true, true, true, true, true, true, true, true, true, true] HT_ ?_; refine done_ (done_of HT_.out (by kernel_rfl)) ?_
              try go_wp2
              replace HO474 := m0 (Kd.R_drew HO474.out); replace BK470 := bd BK470; replace HB := sd HB; refine start_ (n := 9) (S := fun w' => w'.cell? ⟨gb470, 0, none⟩ = some (.int .i64 a1_0) ∧ w'.cell? ⟨gb470, 1, none⟩ = some (.int .i64 a1_1)) (ds := []) _ (by kernel_rfl) rfl rfl cz (fun hH => ?_); refine with_tabW Lw_CloudEyes.tab6 Lw_CloudEyes.bits6 (fun HT_ HW_ => ?_); generalize w93.drew = w94 at HO474 BK470 HB hH ⊢; refine pZ 0 (some 28) #[true, false, false, false, false, false, false, false, false] HT_ ?_; refine takeZ 2 (some 30) #[true, false, true, false, false, false, false, false, false] (tw HT_ HW_) hH ?_; refine oneZ 1 (some 29) #[true, true, true, false, false, false, false, false, false] (o1 HT_) fun K hK => ?_; refine gz Try.func13 #[.slice A0 l0.length c0] ?_
              with_reducible refine (Rf_CopyShots.calls _ _ l0 t477 _ ?side1 ?side2 A10.out).mono ?_
              (case side1 => exact cb HR0 HB)
              (case side2 => exact HC0.out)
              rintro e w95 ⟨v478, rfl, ho0, hb⟩; refine ⟨_, rfl, ?_⟩; have HO479 := m0 (Kd.R_lower (Kd.R_new' ho0 (Kd.R_lt (br HO474.out))) (below_size bz)); replace HO474 := m0 (Kd.R_elder' (br HO474.out) (Kd.R_base ho0) hb); replace BK470 := bb BK470 hb; replace HB := sb HB hb; (try clear hb); (try clear ho0); obtain ⟨Ao96, co96, eo96⟩ := Kd.R_slice HO479.out; subst eo96; refine hK.out _ _ cz (fun hH => ?_); clear hK K; refine nz 29 ?_; refine oneZ 3 (some 31) #[true, true, true, true, false, false, false, false, false] (o1 HT_) fun K hK => ?_; refine gz Try.func14 #[.slice Ao96 t477.length co96, .agg #[.int .i64 a1_0, .int .i64 a1_1]] ?_
              with_reducible refine (L_UnsafeAt.calls k _ _ t477 a1_0 a1_1 t480 t481 _ ?side1 ?side2 A11.out).mono ?_
              (case side1 => exact bc (Kd.R_reads' HO479.out).2.2)
              (case side2 => exact (Kd.R_reads' HO479.out).2.1)
              rintro e w97 ⟨rfl, hb⟩; refine ⟨_, rfl, ?_⟩; replace HO474 := rb HO474 hb; replace HO479 := rb HO479 hb; replace BK470 := bb BK470 hb; replace HB := sb HB hb; (try clear hb); refine hK.out _ _ cz (fun hH => ?_); clear hK K; refine nz 31 ?_; refine pZ 4 (some 27) #[true, true, true, true, true, false, false, false, false] HT_ ?_; refine pZ 5 (some 32) #[true, true, true, true, true, true, false, false, false] HT_ ?_; refine pZ 6 (some 33) #[true, true, true, true, true, true, true, false, false] HT_ ?_; refine pZ 7 (some 7) #[true, true, true, true, true, true, true, true, false] HT_ ?_; refine pZ 8 (some 8) #[true, true, true, true, true, true, true, true, true] HT_ ?_; refine done_ (done_of HT_.out (by kernel_rfl)) ?_
              try go_wp2
              replace HO474 := m0 (Kd.R_drew HO474.out); replace HO479 := m0 (Kd.R_drew HO479.out); replace BK470 := bd BK470; replace HB := sd HB; refine start_ (n := 7) (S := fun w' => w'.cell? ⟨gb470, 0, none⟩ = some (.int .i64 a1_0) ∧ w'.cell? ⟨gb470, 1, none⟩ = some (.int .i64 a1_1)) (ds := []) _ (by kernel_rfl) rfl rfl cz (fun hH => ?_); generalize w97.drew = w98 at HO474 HO479 BK470 HB hH ⊢; refine pure_ (i := 0) (N := some 34) (v := ?_) (a' := ?_) #[true, false, false, false, false, false, false] rfl rfl (by kernel_rfl) (fun _ _ _ h => h) (Or.inl ⟨by rfl, ?_⟩) ?_ ?_; rotate_left
              · intro w'
                go_simp
                with_reducible rfl
              rotate_left
              · exact pz
              refine pure_ (i := 2) (N := some 36) (v := ?_) (a' := ?_) #[true, false, true, false, false, false, false] rfl rfl (by kernel_rfl) (fun _ _ _ h => h) (Or.inl ⟨by rfl, ?_⟩) ?_ ?_; rotate_left
              · intro w'
                go_simp
                with_reducible rfl
              rotate_left
              · exact pz
              refine takeZ 3 (some 37) #[true, false, true, true, false, false, false] (by kernel_rfl) hH ?_; refine oneZ 1 (some 35) #[true, true, true, true, false, false, false] (by kernel_rfl) fun K hK => ?_; refine gz Try.func16 #[.slice A0 l0.length c0] ?_
              with_reducible refine (Rf_ShotsErr.calls k _ _ l0 t482 _ ?side1 ?side2 A12.out).mono ?_
              (case side1 => exact cb HR0 HB)
              (case side2 => exact HC0.out)
              rintro e w' ⟨rfl, ⟨nd, rfl⟩⟩; refine ⟨_, rfl, ?_⟩; refine hK.out _ _ cz (fun hH => ?_); clear hK K; refine nz 35 ?_; refine oneZ 4 (some 38) #[true, true, true, true, true, false, false] (by kernel_rfl) fun K hK => ?_; refine gz Try.func17 #[.int .i64 a1_0] ?_
              with_reducible refine (Rf_WindowErr.calls a1_0 t483 _ A13.out).mono ?_
              rintro e w' ⟨rfl, ⟨nd, rfl⟩⟩; refine ⟨_, rfl, ?_⟩; refine hK.out _ _ cz (fun hH => ?_); clear hK K; refine nz 38 ?_; refine oneZ 5 (some 39) #[true, true, true, true, true, true, false] (by kernel_rfl) fun K hK => ?_; refine gz Try.func15 #[.int .i64 t482, .int .i64 t483] ?_
              with_reducible refine (Lw_both.calls t482 t483 t484 _ A14.out).mono ?_
              rintro e w' ⟨rfl, ⟨nd, rfl⟩⟩; refine ⟨_, rfl, ?_⟩; refine hK.out _ _ cz (fun hH => ?_); clear hK K; refine nz 39 ?_; refine pure_ (i := 6) (N := some 9) (v := ?_) (a' := ?_) #[true, true, true, true, true, true, true] rfl rfl (by kernel_rfl) (fun _ _ _ h => h) (Or.inl ⟨by rfl, ?_⟩) ?_ ?_; rotate_left
              · intro w'
                go_simp
                with_reducible rfl
              rotate_left
              · exact pz
              refine done_ (by kernel_rfl) ?_
              try go_wp2
              go_ret
              exact ez
            · rw [if_neg c87] at H; have c87b0 := beq_eq_false_iff_ne.mpr c87; have c87b1 := bne_iff_ne.mpr c87; obtain rfl := Option.some.inj H; go_enter Try.func3, Try.ntmps3
              try go_wp2_with (first | ((with_reducible refine ga 3 rfl ?_); refine be 3 24 #[.int .i64 a1_0, .int .i64 a1_1] ?_; intro gb470 hg w99 hbox hb; have BK470 := m0 hbox; have GE470 := gw w hg; replace HB := sb HB hb; clear hb hbox hg) | ((with_reducible refine gc 11 rfl ?_); refine gl (some 14) Try.func11 #[] ?_; (with_reducible refine (Lw_awake.calls k  true _ A3.out).mono ?_); rintro e w100 ⟨rfl, hb⟩; refine ⟨_, rfl, ?_⟩; replace BK470 := bb BK470 hb; replace HB := sb HB hb; (try clear hb)))
              replace BK470 := bd BK470; replace HB := sd HB; refine start_ (n := 10) (S := fun w' => w'.cell? ⟨gb470, 0, none⟩ = some (.int .i64 a1_0) ∧ w'.cell? ⟨gb470, 1, none⟩ = some (.int .i64 a1_1)) (ds := []) _ (by kernel_rfl) rfl rfl cz (fun hH => ?_); refine with_tabW Lw_CloudEyes.tab5 Lw_CloudEyes.bits5 (fun HT_ HW_ => ?_); generalize w100.drew = w101 at BK470 HB hH ⊢; refine pZ 0 (some 20) #[true, false, false, false, false, false, false, false, false, false] HT_ ?_; refine pZ 2 (some 22) #[true, false, true, false, false, false, false, false, false, false] HT_ ?_; refine takeZ 3 (some 23) #[true, false, true, true, false, false, false, false, false, false] (tw HT_ HW_) hH ?_; refine oneZ 1 (some 21) #[true, true, true, true, false, false, false, false, false, false] (o1 HT_) fun K hK => ?_; refine gz Try.func13 #[.slice A0 l0.length c0] ?_
              with_reducible refine (Rf_CopyShots.calls _ _ l0 t472 _ ?side1 ?side2 A8.out).mono ?_
              (case side1 => exact cb HR0 HB)
              (case side2 => exact HC0.out)
              rintro e w102 ⟨v473, rfl, ho0, hb⟩; refine ⟨_, rfl, ?_⟩; have HO474 := m0 (Kd.R_lower ho0 (below_size bz)); replace BK470 := bb BK470 hb; replace HB := sb HB hb; (try clear hb); (try clear ho0); obtain ⟨Ao103, co103, eo103⟩ := Kd.R_slice HO474.out; subst eo103; refine hK.out _ _ cz (fun hH => ?_); clear hK K; refine nz 21 ?_; refine oneZ 4 (some 24) #[true, true, true, true, true, false, false, false, false, false] (o1 HT_) fun K hK => ?_; refine gz Try.func12 #[.slice Ao103 t472.length co103, .int .i64 a1_0] ?_
              with_reducible refine (L_ExposureOf.calls k _ _ t472 a1_0 t475 t476 _ ?side1 ?side2 A9.out).mono ?_
              (case side1 => exact bc (Kd.R_reads' HO474.out).2.2)
              (case side2 => exact (Kd.R_reads' HO474.out).2.1)
              rintro e w104 ⟨rfl, hb⟩; refine ⟨_, rfl, ?_⟩; replace HO474 := rb HO474 hb; replace BK470 := bb BK470 hb; replace HB := sb HB hb; (try clear hb); refine hK.out _ _ cz (fun hH => ?_); clear hK K; refine nz 24 ?_; refine pZ 5 (some 19) #[true, true, true, true, true, true, false, false, false, false] HT_ ?_; refine pZ 6 (some 25) #[true, true, true, true, true, true, true, false, false, false] HT_ ?_; refine pZ 7 (some 26) #[true, true, true, true, true, true, true, true, false, false] HT_ ?_; refine pZ 8 (some 5) #[true, true, true, true, true, true, true, true, true, false] HT_ ?_; refine pZ 9 (some 6) #[true, true, true, true, true, true, true, true, true, true] HT_ ?_; refine done_ (done_of HT_.out (by kernel_rfl)) ?_
              try go_wp2
              replace HO474 := m0 (Kd.R_drew HO474.out); replace BK470 := bd BK470; replace HB := sd HB; refine start_ (n := 9) (S := fun w' => w'.cell? ⟨gb470, 0, none⟩ = some (.int .i64 a1_0) ∧ w'.cell? ⟨gb470, 1, none⟩ = some (.int .i64 a1_1)) (ds := []) _ (by kernel_rfl) rfl rfl cz (fun hH => ?_); refine with_tabW Lw_CloudEyes.tab6 Lw_CloudEyes.bits6 (fun HT_ HW_ => ?_); generalize w104.drew = w105 at HO474 BK470 HB hH ⊢; refine pZ 0 (some 28) #[true, false, false, false, false, false, false, false, false] HT_ ?_; refine takeZ 2 (some 30) #[true, false, true, false, false, false, false, false, false] (tw HT_ HW_) hH ?_; refine oneZ 1 (some 29) #[true, true, true, false, false, false, false, false, false] (o1 HT_) fun K hK => ?_; refine gz Try.func13 #[.slice A0 l0.length c0] ?_
              with_reducible refine (Rf_CopyShots.calls _ _ l0 t477 _ ?side1 ?side2 A10.out).mono ?_
              (case side1 => exact cb HR0 HB)
              (case side2 => exact HC0.out)
              rintro e w106 ⟨v478, rfl, ho0, hb⟩; refine ⟨_, rfl, ?_⟩; have HO479 := m0 (Kd.R_lower (Kd.R_new' ho0 (Kd.R_lt (br HO474.out))) (below_size bz)); replace HO474 := m0 (Kd.R_elder' (br HO474.out) (Kd.R_base ho0) hb); replace BK470 := bb BK470 hb; replace HB := sb HB hb; (try clear hb); (try clear ho0); obtain ⟨Ao107, co107, eo107⟩ := Kd.R_slice HO479.out; subst eo107; refine hK.out _ _ cz (fun hH => ?_); clear hK K; refine nz 29 ?_; refine oneZ 3 (some 31) #[true, true, true, true, false, false, false, false, false] (o1 HT_) fun K hK => ?_; refine gz Try.func14 #[.slice Ao107 t477.length co107, .agg #[.int .i64 a1_0, .int .i64 a1_1]] ?_
              with_reducible refine (L_UnsafeAt.calls k _ _ t477 a1_0 a1_1 t480 t481 _ ?side1 ?side2 A11.out).mono ?_
              (case side1 => exact bc (Kd.R_reads' HO479.out).2.2)
              (case side2 => exact (Kd.R_reads' HO479.out).2.1)
              rintro e w108 ⟨rfl, hb⟩; refine ⟨_, rfl, ?_⟩; replace HO474 := rb HO474 hb; replace HO479 := rb HO479 hb; replace BK470 := bb BK470 hb; replace HB := sb HB hb; (try clear hb); refine hK.out _ _ cz (fun hH => ?_); clear hK K; refine nz 31 ?_; refine pZ 4 (some 27) #[true, true, true, true, true, false, false, false, false] HT_ ?_; refine pZ 5 (some 32) #[true, true, true, true, true, true, false, false, false] HT_ ?_; refine pZ 6 (some 33) #[true, true, true, true, true, true, true, false, false] HT_ ?_; refine pZ 7 (some 7) #[true, true, true, true, true, true, true, true, false] HT_ ?_; refine pZ 8 (some 8) #[true, true, true, true, true, true, true, true, true] HT_ ?_; refine done_ (done_of HT_.out (by kernel_rfl)) ?_
              try go_wp2
              replace HO474 := m0 (Kd.R_drew HO474.out); replace HO479 := m0 (Kd.R_drew HO479.out); replace BK470 := bd BK470; replace HB := sd HB; refine start_ (n := 7) (S := fun w' => w'.cell? ⟨gb470, 0, none⟩ = some (.int .i64 a1_0) ∧ w'.cell? ⟨gb470, 1, none⟩ = some (.int .i64 a1_1)) (ds := []) _ (by kernel_rfl) rfl rfl cz (fun hH => ?_); generalize w108.drew = w109 at HO474 HO479 BK470 HB hH ⊢; refine pure_ (i := 0) (N := some 34) (v := ?_) (a' := ?_) #[true, false, false, false, false, false, false] rfl rfl (by kernel_rfl) (fun _ _ _ h => h) (Or.inl ⟨by rfl, ?_⟩) ?_ ?_; rotate_left
              · intro w'
                go_simp
                with_reducible rfl
              rotate_left
              · exact pz
              refine pure_ (i := 2) (N := some 36) (v := ?_) (a' := ?_) #[true, false, true, false, false, false, false] rfl rfl (by kernel_rfl) (fun _ _ _ h => h) (Or.inl ⟨by rfl, ?_⟩) ?_ ?_; rotate_left
              · intro w'
                go_simp
                with_reducible rfl
              rotate_left
              · exact pz
              refine takeZ 3 (some 37) #[true, false, true, true, false, false, false] (by kernel_rfl) hH ?_; refine oneZ 1 (some 35) #[true, true, true, true, false, false, false] (by kernel_rfl) fun K hK => ?_; refine gz Try.func16 #[.slice A0 l0.length c0] ?_
              with_reducible refine (Rf_ShotsErr.calls k _ _ l0 t482 _ ?side1 ?side2 A12.out).mono ?_
              (case side1 => exact cb HR0 HB)
              (case side2 => exact HC0.out)
              rintro e w' ⟨rfl, ⟨nd, rfl⟩⟩; refine ⟨_, rfl, ?_⟩; refine hK.out _ _ cz (fun hH => ?_); clear hK K; refine nz 35 ?_; refine oneZ 4 (some 38) #[true, true, true, true, true, false, false] (by kernel_rfl) fun K hK => ?_; refine gz Try.func17 #[.int .i64 a1_0] ?_
              with_reducible refine (Rf_WindowErr.calls a1_0 t483 _ A13.out).mono ?_
              rintro e w' ⟨rfl, ⟨nd, rfl⟩⟩; refine ⟨_, rfl, ?_⟩; refine hK.out _ _ cz (fun hH => ?_); clear hK K; refine nz 38 ?_; refine oneZ 5 (some 39) #[true, true, true, true, true, true, false] (by kernel_rfl) fun K hK => ?_; refine gz Try.func15 #[.int .i64 t482, .int .i64 t483] ?_
              with_reducible refine (Lw_both.calls t482 t483 t484 _ A14.out).mono ?_
              rintro e w' ⟨rfl, ⟨nd, rfl⟩⟩; refine ⟨_, rfl, ?_⟩; refine hK.out _ _ cz (fun hH => ?_); clear hK K; refine nz 39 ?_; refine pure_ (i := 6) (N := some 9) (v := ?_) (a' := ?_) #[true, true, true, true, true, true, true] rfl rfl (by kernel_rfl) (fun _ _ _ h => h) (Or.inl ⟨by rfl, ?_⟩) ?_ ?_; rotate_left
              · intro w'
                go_simp
                with_reducible rfl
              rotate_left
              · exact pz
              refine done_ (by kernel_rfl) ?_
              try go_wp2
              go_ret
              exact ez
          · rw [if_neg c86] at H; have c86b0 := beq_eq_false_iff_ne.mpr c86; have c86b1 := bne_iff_ne.mpr c86; obtain rfl := Option.some.inj H; go_enter Try.func3, Try.ntmps3
            try go_wp2_with (first | ((with_reducible refine ga 3 rfl ?_); refine be 3 24 #[.int .i64 a1_0, .int .i64 a1_1] ?_; intro gb470 hg w110 hbox hb; have BK470 := m0 hbox; have GE470 := gw w hg; replace HB := sb HB hb; clear hb hbox hg) | ((with_reducible refine gc 11 rfl ?_); refine gl (some 14) Try.func11 #[] ?_; (with_reducible refine (Lw_awake.calls k  true _ A3.out).mono ?_); rintro e w111 ⟨rfl, hb⟩; refine ⟨_, rfl, ?_⟩; replace BK470 := bb BK470 hb; replace HB := sb HB hb; (try clear hb)))
            replace BK470 := bd BK470; replace HB := sd HB; refine start_ (n := 10) (S := fun w' => w'.cell? ⟨gb470, 0, none⟩ = some (.int .i64 a1_0) ∧ w'.cell? ⟨gb470, 1, none⟩ = some (.int .i64 a1_1)) (ds := []) _ (by kernel_rfl) rfl rfl cz (fun hH => ?_); refine with_tabW Lw_CloudEyes.tab5 Lw_CloudEyes.bits5 (fun HT_ HW_ => ?_); generalize w111.drew = w112 at BK470 HB hH ⊢; refine pZ 0 (some 20) #[true, false, false, false, false, false, false, false, false, false] HT_ ?_; refine pZ 2 (some 22) #[true, false, true, false, false, false, false, false, false, false] HT_ ?_; refine takeZ 3 (some 23) #[true, false, true, true, false, false, false, false, false, false] (tw HT_ HW_) hH ?_; refine oneZ 1 (some 21) #[true, true, true, true, false, false, false, false, false, false] (o1 HT_) fun K hK => ?_; refine gz Try.func13 #[.slice A0 l0.length c0] ?_
            with_reducible refine (Rf_CopyShots.calls _ _ l0 t472 _ ?side1 ?side2 A8.out).mono ?_
            (case side1 => exact cb HR0 HB)
            (case side2 => exact HC0.out)
            rintro e w113 ⟨v473, rfl, ho0, hb⟩; refine ⟨_, rfl, ?_⟩; have HO474 := m0 (Kd.R_lower ho0 (below_size bz)); replace BK470 := bb BK470 hb; replace HB := sb HB hb; (try clear hb); (try clear ho0); obtain ⟨Ao114, co114, eo114⟩ := Kd.R_slice HO474.out; subst eo114; refine hK.out _ _ cz (fun hH => ?_); clear hK K; refine nz 21 ?_; refine oneZ 4 (some 24) #[true, true, true, true, true, false, false, false, false, false] (o1 HT_) fun K hK => ?_; refine gz Try.func12 #[.slice Ao114 t472.length co114, .int .i64 a1_0] ?_
            with_reducible refine (L_ExposureOf.calls k _ _ t472 a1_0 t475 t476 _ ?side1 ?side2 A9.out).mono ?_
            (case side1 => exact bc (Kd.R_reads' HO474.out).2.2)
            (case side2 => exact (Kd.R_reads' HO474.out).2.1)
            rintro e w115 ⟨rfl, hb⟩; refine ⟨_, rfl, ?_⟩; replace HO474 := rb HO474 hb; replace BK470 := bb BK470 hb; replace HB := sb HB hb; (try clear hb); refine hK.out _ _ cz (fun hH => ?_); clear hK K; refine nz 24 ?_; refine pZ 5 (some 19) #[true, true, true, true, true, true, false, false, false, false] HT_ ?_; refine pZ 6 (some 25) #[true, true, true, true, true, true, true, false, false, false] HT_ ?_; refine pZ 7 (some 26) #[true, true, true, true, true, true, true, true, false, false] HT_ ?_; refine pZ 8 (some 5) #[true, true, true, true, true, true, true, true, true, false] HT_ ?_; refine pZ 9 (some 6) #[true, true, true, true, true, true, true, true, true, true] HT_ ?_; refine done_ (done_of HT_.out (by kernel_rfl)) ?_
            try go_wp2
            replace HO474 := m0 (Kd.R_drew HO474.out); replace BK470 := bd BK470; replace HB := sd HB; refine start_ (n := 9) (S := fun w' => w'.cell? ⟨gb470, 0, none⟩ = some (.int .i64 a1_0) ∧ w'.cell? ⟨gb470, 1, none⟩ = some (.int .i64 a1_1)) (ds := []) _ (by kernel_rfl) rfl rfl cz (fun hH => ?_); refine with_tabW Lw_CloudEyes.tab6 Lw_CloudEyes.bits6 (fun HT_ HW_ => ?_); generalize w115.drew = w116 at HO474 BK470 HB hH ⊢; refine pZ 0 (some 28) #[true, false, false, false, false, false, false, false, false] HT_ ?_; refine takeZ 2 (some 30) #[true, false, true, false, false, false, false, false, false] (tw HT_ HW_) hH ?_; refine oneZ 1 (some 29) #[true, true, true, false, false, false, false, false, false] (o1 HT_) fun K hK => ?_; refine gz Try.func13 #[.slice A0 l0.length c0] ?_
            with_reducible refine (Rf_CopyShots.calls _ _ l0 t477 _ ?side1 ?side2 A10.out).mono ?_
            (case side1 => exact cb HR0 HB)
            (case side2 => exact HC0.out)
            rintro e w117 ⟨v478, rfl, ho0, hb⟩; refine ⟨_, rfl, ?_⟩; have HO479 := m0 (Kd.R_lower (Kd.R_new' ho0 (Kd.R_lt (br HO474.out))) (below_size bz)); replace HO474 := m0 (Kd.R_elder' (br HO474.out) (Kd.R_base ho0) hb); replace BK470 := bb BK470 hb; replace HB := sb HB hb; (try clear hb); (try clear ho0); obtain ⟨Ao118, co118, eo118⟩ := Kd.R_slice HO479.out; subst eo118; refine hK.out _ _ cz (fun hH => ?_); clear hK K; refine nz 29 ?_; refine oneZ 3 (some 31) #[true, true, true, true, false, false, false, false, false] (o1 HT_) fun K hK => ?_; refine gz Try.func14 #[.slice Ao118 t477.length co118, .agg #[.int .i64 a1_0, .int .i64 a1_1]] ?_
            with_reducible refine (L_UnsafeAt.calls k _ _ t477 a1_0 a1_1 t480 t481 _ ?side1 ?side2 A11.out).mono ?_
            (case side1 => exact bc (Kd.R_reads' HO479.out).2.2)
            (case side2 => exact (Kd.R_reads' HO479.out).2.1)
            rintro e w119 ⟨rfl, hb⟩; refine ⟨_, rfl, ?_⟩; replace HO474 := rb HO474 hb; replace HO479 := rb HO479 hb; replace BK470 := bb BK470 hb; replace HB := sb HB hb; (try clear hb); refine hK.out _ _ cz (fun hH => ?_); clear hK K; refine nz 31 ?_; refine pZ 4 (some 27) #[true, true, true, true, true, false, false, false, false] HT_ ?_; refine pZ 5 (some 32) #[true, true, true, true, true, true, false, false, false] HT_ ?_; refine pZ 6 (some 33) #[true, true, true, true, true, true, true, false, false] HT_ ?_; refine pZ 7 (some 7) #[true, true, true, true, true, true, true, true, false] HT_ ?_; refine pZ 8 (some 8) #[true, true, true, true, true, true, true, true, true] HT_ ?_; refine done_ (done_of HT_.out (by kernel_rfl)) ?_
            try go_wp2
            replace HO474 := m0 (Kd.R_drew HO474.out); replace HO479 := m0 (Kd.R_drew HO479.out); replace BK470 := bd BK470; replace HB := sd HB; refine start_ (n := 7) (S := fun w' => w'.cell? ⟨gb470, 0, none⟩ = some (.int .i64 a1_0) ∧ w'.cell? ⟨gb470, 1, none⟩ = some (.int .i64 a1_1)) (ds := []) _ (by kernel_rfl) rfl rfl cz (fun hH => ?_); generalize w119.drew = w120 at HO474 HO479 BK470 HB hH ⊢; refine pure_ (i := 0) (N := some 34) (v := ?_) (a' := ?_) #[true, false, false, false, false, false, false] rfl rfl (by kernel_rfl) (fun _ _ _ h => h) (Or.inl ⟨by rfl, ?_⟩) ?_ ?_; rotate_left
            · intro w'
              go_simp
              with_reducible rfl
            rotate_left
            · exact pz
            refine pure_ (i := 2) (N := some 36) (v := ?_) (a' := ?_) #[true, false, true, false, false, false, false] rfl rfl (by kernel_rfl) (fun _ _ _ h => h) (Or.inl ⟨by rfl, ?_⟩) ?_ ?_; rotate_left
            · intro w'
              go_simp
              with_reducible rfl
            rotate_left
            · exact pz
            refine takeZ 3 (some 37) #[true, false, true, true, false, false, false] (by kernel_rfl) hH ?_; refine oneZ 1 (some 35) #[true, true, true, true, false, false, false] (by kernel_rfl) fun K hK => ?_; refine gz Try.func16 #[.slice A0 l0.length c0] ?_
            with_reducible refine (Rf_ShotsErr.calls k _ _ l0 t482 _ ?side1 ?side2 A12.out).mono ?_
            (case side1 => exact cb HR0 HB)
            (case side2 => exact HC0.out)
            rintro e w' ⟨rfl, ⟨nd, rfl⟩⟩; refine ⟨_, rfl, ?_⟩; refine hK.out _ _ cz (fun hH => ?_); clear hK K; refine nz 35 ?_; refine oneZ 4 (some 38) #[true, true, true, true, true, false, false] (by kernel_rfl) fun K hK => ?_; refine gz Try.func17 #[.int .i64 a1_0] ?_
            with_reducible refine (Rf_WindowErr.calls a1_0 t483 _ A13.out).mono ?_
            rintro e w' ⟨rfl, ⟨nd, rfl⟩⟩; refine ⟨_, rfl, ?_⟩; refine hK.out _ _ cz (fun hH => ?_); clear hK K; refine nz 38 ?_; refine oneZ 5 (some 39) #[true, true, true, true, true, true, false] (by kernel_rfl) fun K hK => ?_; refine gz Try.func15 #[.int .i64 t482, .int .i64 t483] ?_
            with_reducible refine (Lw_both.calls t482 t483 t484 _ A14.out).mono ?_
            rintro e w' ⟨rfl, ⟨nd, rfl⟩⟩; refine ⟨_, rfl, ?_⟩; refine hK.out _ _ cz (fun hH => ?_); clear hK K; refine nz 39 ?_; refine pure_ (i := 6) (N := some 9) (v := ?_) (a' := ?_) #[true, true, true, true, true, true, true] rfl rfl (by kernel_rfl) (fun _ _ _ h => h) (Or.inl ⟨by rfl, ?_⟩) ?_ ?_; rotate_left
            · intro w'
              go_simp
              with_reducible rfl
            rotate_left
            · exact pz
            refine done_ (by kernel_rfl) ?_
            try go_wp2
            go_ret
            exact ez
        · rw [if_neg c85] at H; have c85b0 := beq_eq_false_iff_ne.mpr c85; have c85b1 := bne_iff_ne.mpr c85; obtain rfl := Option.some.inj H; go_enter Try.func3, Try.ntmps3
          try go_wp2_with (first | ((with_reducible refine ga 3 rfl ?_); refine be 3 24 #[.int .i64 a1_0, .int .i64 a1_1] ?_; intro gb470 hg w121 hbox hb; have BK470 := m0 hbox; have GE470 := gw w hg; replace HB := sb HB hb; clear hb hbox hg) | ((with_reducible refine gc 11 rfl ?_); refine gl (some 14) Try.func11 #[] ?_; (with_reducible refine (Lw_awake.calls k  true _ A3.out).mono ?_); rintro e w122 ⟨rfl, hb⟩; refine ⟨_, rfl, ?_⟩; replace BK470 := bb BK470 hb; replace HB := sb HB hb; (try clear hb)))
          replace BK470 := bd BK470; replace HB := sd HB; refine start_ (n := 10) (S := fun w' => w'.cell? ⟨gb470, 0, none⟩ = some (.int .i64 a1_0) ∧ w'.cell? ⟨gb470, 1, none⟩ = some (.int .i64 a1_1)) (ds := []) _ (by kernel_rfl) rfl rfl cz (fun hH => ?_); refine with_tabW Lw_CloudEyes.tab5 Lw_CloudEyes.bits5 (fun HT_ HW_ => ?_); generalize w122.drew = w123 at BK470 HB hH ⊢; refine pZ 0 (some 20) #[true, false, false, false, false, false, false, false, false, false] HT_ ?_; refine pZ 2 (some 22) #[true, false, true, false, false, false, false, false, false, false] HT_ ?_; refine takeZ 3 (some 23) #[true, false, true, true, false, false, false, false, false, false] (tw HT_ HW_) hH ?_; refine oneZ 1 (some 21) #[true, true, true, true, false, false, false, false, false, false] (o1 HT_) fun K hK => ?_; refine gz Try.func13 #[.slice A0 l0.length c0] ?_
          with_reducible refine (Rf_CopyShots.calls _ _ l0 t472 _ ?side1 ?side2 A8.out).mono ?_
          (case side1 => exact cb HR0 HB)
          (case side2 => exact HC0.out)
          rintro e w124 ⟨v473, rfl, ho0, hb⟩; refine ⟨_, rfl, ?_⟩; have HO474 := m0 (Kd.R_lower ho0 (below_size bz)); replace BK470 := bb BK470 hb; replace HB := sb HB hb; (try clear hb); (try clear ho0); obtain ⟨Ao125, co125, eo125⟩ := Kd.R_slice HO474.out; subst eo125; refine hK.out _ _ cz (fun hH => ?_); clear hK K; refine nz 21 ?_; refine oneZ 4 (some 24) #[true, true, true, true, true, false, false, false, false, false] (o1 HT_) fun K hK => ?_; refine gz Try.func12 #[.slice Ao125 t472.length co125, .int .i64 a1_0] ?_
          with_reducible refine (L_ExposureOf.calls k _ _ t472 a1_0 t475 t476 _ ?side1 ?side2 A9.out).mono ?_
          (case side1 => exact bc (Kd.R_reads' HO474.out).2.2)
          (case side2 => exact (Kd.R_reads' HO474.out).2.1)
          rintro e w126 ⟨rfl, hb⟩; refine ⟨_, rfl, ?_⟩; replace HO474 := rb HO474 hb; replace BK470 := bb BK470 hb; replace HB := sb HB hb; (try clear hb); refine hK.out _ _ cz (fun hH => ?_); clear hK K; refine nz 24 ?_; refine pZ 5 (some 19) #[true, true, true, true, true, true, false, false, false, false] HT_ ?_; refine pZ 6 (some 25) #[true, true, true, true, true, true, true, false, false, false] HT_ ?_; refine pZ 7 (some 26) #[true, true, true, true, true, true, true, true, false, false] HT_ ?_; refine pZ 8 (some 5) #[true, true, true, true, true, true, true, true, true, false] HT_ ?_; refine pZ 9 (some 6) #[true, true, true, true, true, true, true, true, true, true] HT_ ?_; refine done_ (done_of HT_.out (by kernel_rfl)) ?_
          try go_wp2
          replace HO474 := m0 (Kd.R_drew HO474.out); replace BK470 := bd BK470; replace HB := sd HB; refine start_ (n := 9) (S := fun w' => w'.cell? ⟨gb470, 0, none⟩ = some (.int .i64 a1_0) ∧ w'.cell? ⟨gb470, 1, none⟩ = some (.int .i64 a1_1)) (ds := []) _ (by kernel_rfl) rfl rfl cz (fun hH => ?_); refine with_tabW Lw_CloudEyes.tab6 Lw_CloudEyes.bits6 (fun HT_ HW_ => ?_); generalize w126.drew = w127 at HO474 BK470 HB hH ⊢; refine pZ 0 (some 28) #[true, false, false, false, false, false, false, false, false] HT_ ?_; refine takeZ 2 (some 30) #[true, false, true, false, false, false, false, false, false] (tw HT_ HW_) hH ?_; refine oneZ 1 (some 29) #[true, true, true, false, false, false, false, false, false] (o1 HT_) fun K hK => ?_; refine gz Try.func13 #[.slice A0 l0.length c0] ?_
          with_reducible refine (Rf_CopyShots.calls _ _ l0 t477 _ ?side1 ?side2 A10.out).mono ?_
          (case side1 => exact cb HR0 HB)
          (case side2 => exact HC0.out)
          rintro e w128 ⟨v478, rfl, ho0, hb⟩; refine ⟨_, rfl, ?_⟩; have HO479 := m0 (Kd.R_lower (Kd.R_new' ho0 (Kd.R_lt (br HO474.out))) (below_size bz)); replace HO474 := m0 (Kd.R_elder' (br HO474.out) (Kd.R_base ho0) hb); replace BK470 := bb BK470 hb; replace HB := sb HB hb; (try clear hb); (try clear ho0); obtain ⟨Ao129, co129, eo129⟩ := Kd.R_slice HO479.out; subst eo129; refine hK.out _ _ cz (fun hH => ?_); clear hK K; refine nz 29 ?_; refine oneZ 3 (some 31) #[true, true, true, true, false, false, false, false, false] (o1 HT_) fun K hK => ?_; refine gz Try.func14 #[.slice Ao129 t477.length co129, .agg #[.int .i64 a1_0, .int .i64 a1_1]] ?_
          with_reducible refine (L_UnsafeAt.calls k _ _ t477 a1_0 a1_1 t480 t481 _ ?side1 ?side2 A11.out).mono ?_
          (case side1 => exact bc (Kd.R_reads' HO479.out).2.2)
          (case side2 => exact (Kd.R_reads' HO479.out).2.1)
          rintro e w130 ⟨rfl, hb⟩; refine ⟨_, rfl, ?_⟩; replace HO474 := rb HO474 hb; replace HO479 := rb HO479 hb; replace BK470 := bb BK470 hb; replace HB := sb HB hb; (try clear hb); refine hK.out _ _ cz (fun hH => ?_); clear hK K; refine nz 31 ?_; refine pZ 4 (some 27) #[true, true, true, true, true, false, false, false, false] HT_ ?_; refine pZ 5 (some 32) #[true, true, true, true, true, true, false, false, false] HT_ ?_; refine pZ 6 (some 33) #[true, true, true, true, true, true, true, false, false] HT_ ?_; refine pZ 7 (some 7) #[true, true, true, true, true, true, true, true, false] HT_ ?_; refine pZ 8 (some 8) #[true, true, true, true, true, true, true, true, true] HT_ ?_; refine done_ (done_of HT_.out (by kernel_rfl)) ?_
          try go_wp2
          replace HO474 := m0 (Kd.R_drew HO474.out); replace HO479 := m0 (Kd.R_drew HO479.out); replace BK470 := bd BK470; replace HB := sd HB; refine start_ (n := 7) (S := fun w' => w'.cell? ⟨gb470, 0, none⟩ = some (.int .i64 a1_0) ∧ w'.cell? ⟨gb470, 1, none⟩ = some (.int .i64 a1_1)) (ds := []) _ (by kernel_rfl) rfl rfl cz (fun hH => ?_); generalize w130.drew = w131 at HO474 HO479 BK470 HB hH ⊢; refine pure_ (i := 0) (N := some 34) (v := ?_) (a' := ?_) #[true, false, false, false, false, false, false] rfl rfl (by kernel_rfl) (fun _ _ _ h => h) (Or.inl ⟨by rfl, ?_⟩) ?_ ?_; rotate_left
          · intro w'
            go_simp
            with_reducible rfl
          rotate_left
          · exact pz
          refine pure_ (i := 2) (N := some 36) (v := ?_) (a' := ?_) #[true, false, true, false, false, false, false] rfl rfl (by kernel_rfl) (fun _ _ _ h => h) (Or.inl ⟨by rfl, ?_⟩) ?_ ?_; rotate_left
          · intro w'
            go_simp
            with_reducible rfl
          rotate_left
          · exact pz
          refine takeZ 3 (some 37) #[true, false, true, true, false, false, false] (by kernel_rfl) hH ?_; refine oneZ 1 (some 35) #[true, true, true, true, false, false, false] (by kernel_rfl) fun K hK => ?_; refine gz Try.func16 #[.slice A0 l0.length c0] ?_
          with_reducible refine (Rf_ShotsErr.calls k _ _ l0 t482 _ ?side1 ?side2 A12.out).mono ?_
          (case side1 => exact cb HR0 HB)
          (case side2 => exact HC0.out)
          rintro e w' ⟨rfl, ⟨nd, rfl⟩⟩; refine ⟨_, rfl, ?_⟩; refine hK.out _ _ cz (fun hH => ?_); clear hK K; refine nz 35 ?_; refine oneZ 4 (some 38) #[true, true, true, true, true, false, false] (by kernel_rfl) fun K hK => ?_; refine gz Try.func17 #[.int .i64 a1_0] ?_
          with_reducible refine (Rf_WindowErr.calls a1_0 t483 _ A13.out).mono ?_
          rintro e w' ⟨rfl, ⟨nd, rfl⟩⟩; refine ⟨_, rfl, ?_⟩; refine hK.out _ _ cz (fun hH => ?_); clear hK K; refine nz 38 ?_; refine oneZ 5 (some 39) #[true, true, true, true, true, true, false] (by kernel_rfl) fun K hK => ?_; refine gz Try.func15 #[.int .i64 t482, .int .i64 t483] ?_
          with_reducible refine (Lw_both.calls t482 t483 t484 _ A14.out).mono ?_
          rintro e w' ⟨rfl, ⟨nd, rfl⟩⟩; refine ⟨_, rfl, ?_⟩; refine hK.out _ _ cz (fun hH => ?_); clear hK K; refine nz 39 ?_; refine pure_ (i := 6) (N := some 9) (v := ?_) (a' := ?_) #[true, true, true, true, true, true, true] rfl rfl (by kernel_rfl) (fun _ _ _ h => h) (Or.inl ⟨by rfl, ?_⟩) ?_ ?_; rotate_left
          · intro w'
            go_simp
            with_reducible rfl
          rotate_left
          · exact pz
          refine done_ (by kernel_rfl) ?_
          try go_wp2
          go_ret
          exact ez
  · replace c4 := Bool.eq_false_iff.mpr c4; subst c4; rw [if_neg (show ¬ (false = true) by decide)] at H; obtain rfl := Option.some.inj H; go_enter Try.func3, Try.ntmps3
    go_wp2_with (first | ((with_reducible refine ga 3 rfl ?_); refine be 3 24 #[.int .i64 a1_0, .int .i64 a1_1] ?_; intro gb470 hg w132 hbox hb; have BK470 := m0 hbox; have GE470 := gw w hg; replace HB := sb HB hb; clear hb hbox hg) | ((with_reducible refine gc 11 rfl ?_); refine gl (some 14) Try.func11 #[] ?_; (with_reducible refine (Lw_awake.calls k  false _ A3.out).mono ?_); rintro e w133 ⟨rfl, hb⟩; refine ⟨_, rfl, ?_⟩; replace BK470 := bb BK470 hb; replace HB := sb HB hb; (try clear hb)))
    go_ret
    exact ez
end Go.Proofs.Yteiafijbgjgiaaa.A
