/- Walks of the program's functions (printed, made shorter), each with what it computes. -/
import Derived.Test.YtibhfahbabgbaaaTX23
namespace Go.Proofs.Ytibhfahbabgbaaa.A
set_option maxHeartbeats 8000000
set_option maxRecDepth 100000
open Go.RowKit Go.Proofs.YtibhfahbabgbaaaW.PrintWords Go.Proofs.YtibhfahbabgbaaaW.PrintLast Go.Proofs.YtibhfahbabgbaaaW.PrintMore
attribute [local go_sem] max2_int min2_int max_two min_two max_three min_three max_four min_four
set_option linter.unusedVariables false
set_option linter.unusedSimpArgs false
attribute [local go_sem high] eqA56 eqA73
mutual
def Lw_TargetLines.j0 : Nat → List (S85) → Int → Int → Int → Int → Int → Bool → Int → Int → Int → Int → Int → Int → Int → Int → Option (Bool)
  | 0, _, _, _, _, _, _, _, _, _, _, _, _, _, _, _ => none
  | k + 1, x0, x6, x8, x9, x10, x11, x46, x745000, x745001, x745002, x755000, x755001, x755002, x762000, x762001 => if x46 = true then (Lw_TargetLines.j1 k x0 x6 x8 x9 x10 11 x745000 x745001 x745002 x755000 x755001 x755002 x762000 x762001) else (Lw_TargetLines.j1 k x0 x6 x8 x9 x10 x11 x745000 x745001 x745002 x755000 x755001 x755002 x762000 x762001)
def Lw_TargetLines.j1 : Nat → List (S85) → Int → Int → Int → Int → Int → Int → Int → Int → Int → Int → Int → Int → Int → Option (Bool)
  | 0, _, _, _, _, _, _, _, _, _, _, _, _, _, _ => none
  | k + 1, x0, x6, x8, x9, x10, x11, x745000, x745001, x745002, x755000, x755001, x755002, x762000, x762001 => if x11 = 0 then ((Rf_Residual.f k x0).bind fun bt769 => (if x6 = 0 then ((Rf_Line.f k x0).bind fun bt773 => (if (!(x755000 == bt773.1) || (!(x755001 == bt773.2.1) || (!(x755002 == bt773.2.2)))) = true then (none) else (if bt769.2.2 = true then (if x8 = 0 then (if (!(x762000 == bt769.1) || (!(x762001 == bt769.2.1))) = true then (none) else (Lw_TargetLines.j2 k x0 x9 x10 false x745000 x745001 x745002)) else (none)) else (if x8 = 8 then (Lw_TargetLines.j2 k x0 x9 x10 (!(x762000 == 0) || (!(x762001 == 0))) x745000 x745001 x745002) else (none))))) else (none))) else (if x6 = x11 then (if x8 = x11 then (if x10 = x11 then (if (x755000 == 0 && (x755001 == 0 && (x755002 == 0))) = true then (if (x762000 == 0 && (x762001 == 0)) = true then (some (x9 == 0)) else (none)) else (none)) else (none)) else (none)) else (none))
def Lw_TargetLines.j2 : Nat → List (S85) → Int → Int → Bool → Int → Int → Int → Option (Bool)
  | 0, _, _, _, _, _, _, _ => none
  | k + 1, x0, x9, x10, x113, x745000, x745001, x745002 => if x113 = true then (none) else ((Rf_LineErr.f k x745000 x745001 x745002).bind fun t776 => (if t776 = 0 then ((Rf_CheckLine.f k x0 x745000 x745001 x745002).bind fun bt777 => (if x10 = bt777.2 then (some (x9 == bt777.1)) else (none))) else (if x10 = t776 then (some (x9 == 0)) else (none))))
end
def Lw_TargetLines.f (k : Nat) (l0 : List (S85)) (a1_0 : Int) (a1_1 : Int) (a1_2 : Int) : Option (Bool) := (Lw_awake.f k).bind fun t745 => (if t745 = true then ((Lw_few.f l0).bind fun t746 => (if t746 = true then ((Rf_CopyReadings.f l0).bind fun t747 => ((L_LineOf.f k t747).bind fun bt750 => ((Rf_CopyReadings.f l0).bind fun t755 => ((L_ResidualOf.f k t755).bind fun bt758 => ((Rf_CopyReadings.f l0).bind fun t762 => ((L_CheckLine.f k t762 a1_0 a1_1 a1_2).bind fun bt765 => ((Rf_ReadingsErr.f k l0).bind fun t767 => (if t767 = 0 then ((Rf_AreEqual.f k l0).bind fun t768 => (Lw_TargetLines.j0 k l0 bt750.2.2.2 bt758.2.2 bt765.1 bt765.2 t767 t768 a1_0 a1_1 a1_2 bt750.1 bt750.2.1 bt750.2.2.1 bt758.1 bt758.2.1)) else (Lw_TargetLines.j0 k l0 bt750.2.2.2 bt758.2.2 bt765.1 bt765.2 t767 false a1_0 a1_1 a1_2 bt750.1 bt750.2.1 bt750.2.2.1 bt758.1 bt758.2.1))))))))) else (some true))) else (none))
theorem Lw_TargetLines.mono_l : ∀ k, (∀ y0 y1 y2 y3 y4 y5 y6 y7 y8 y9 y10 y11 y12 y13 y14, LeO (Lw_TargetLines.j0 k y0 y1 y2 y3 y4 y5 y6 y7 y8 y9 y10 y11 y12 y13 y14) (Lw_TargetLines.j0 (k + 1) y0 y1 y2 y3 y4 y5 y6 y7 y8 y9 y10 y11 y12 y13 y14)) ∧ (∀ y0 y1 y2 y3 y4 y5 y6 y7 y8 y9 y10 y11 y12 y13, LeO (Lw_TargetLines.j1 k y0 y1 y2 y3 y4 y5 y6 y7 y8 y9 y10 y11 y12 y13) (Lw_TargetLines.j1 (k + 1) y0 y1 y2 y3 y4 y5 y6 y7 y8 y9 y10 y11 y12 y13)) ∧ (∀ y0 y1 y2 y3 y4 y5 y6, LeO (Lw_TargetLines.j2 k y0 y1 y2 y3 y4 y5 y6) (Lw_TargetLines.j2 (k + 1) y0 y1 y2 y3 y4 y5 y6))
  | 0 => ⟨fun _ _ _ _ _ _ _ _ _ _ _ _ _ _ _ r h => by simp [Lw_TargetLines.j0] at h, fun _ _ _ _ _ _ _ _ _ _ _ _ _ _ r h => by simp [Lw_TargetLines.j1] at h, fun _ _ _ _ _ _ _ r h => by simp [Lw_TargetLines.j2] at h⟩
  | k + 1 => by
    obtain ⟨ih0, ih1, ih2⟩ := Lw_TargetLines.mono_l k; refine ⟨?_, ?_, ?_⟩
    · intro y0 y1 y2 y3 y4 y5 y6 y7 y8 y9 y10 y11 y12 y13 y14; unfold Lw_TargetLines.j0
      repeat' with_reducible first
        | exact ih0 ..
        | exact ih1 ..
        | exact ih2 ..
        | exact Lw_awake.mono ..
        | exact Rf_AreEqual.mono ..
        | exact Rf_CheckLine.mono ..
        | exact Rf_Line.mono ..
        | exact Rf_LineErr.mono ..
        | exact Rf_ReadingsErr.mono ..
        | exact Rf_Residual.mono ..
        | exact L_CheckLine.mono ..
        | exact L_LineOf.mono ..
        | exact L_ResidualOf.mono ..
        | exact LeO.refl ..
        | exact LeO.none ..
        | refine LeO.ite ?_ ?_
        | refine LeO.bind ?_ (fun _ => ?_)
    · intro y0 y1 y2 y3 y4 y5 y6 y7 y8 y9 y10 y11 y12 y13; unfold Lw_TargetLines.j1
      repeat' with_reducible first
        | exact ih0 ..
        | exact ih1 ..
        | exact ih2 ..
        | exact Lw_awake.mono ..
        | exact Rf_AreEqual.mono ..
        | exact Rf_CheckLine.mono ..
        | exact Rf_Line.mono ..
        | exact Rf_LineErr.mono ..
        | exact Rf_ReadingsErr.mono ..
        | exact Rf_Residual.mono ..
        | exact L_CheckLine.mono ..
        | exact L_LineOf.mono ..
        | exact L_ResidualOf.mono ..
        | exact LeO.refl ..
        | exact LeO.none ..
        | refine LeO.ite ?_ ?_
        | refine LeO.bind ?_ (fun _ => ?_)
    · intro y0 y1 y2 y3 y4 y5 y6; unfold Lw_TargetLines.j2
      repeat' with_reducible first
        | exact ih0 ..
        | exact ih1 ..
        | exact ih2 ..
        | exact Lw_awake.mono ..
        | exact Rf_AreEqual.mono ..
        | exact Rf_CheckLine.mono ..
        | exact Rf_Line.mono ..
        | exact Rf_LineErr.mono ..
        | exact Rf_ReadingsErr.mono ..
        | exact Rf_Residual.mono ..
        | exact L_CheckLine.mono ..
        | exact L_LineOf.mono ..
        | exact L_ResidualOf.mono ..
        | exact LeO.refl ..
        | exact LeO.none ..
        | refine LeO.ite ?_ ?_
        | refine LeO.bind ?_ (fun _ => ?_)
theorem Lw_TargetLines.mono : ∀ a0 a1 a2 a3 k, LeO (Lw_TargetLines.f k a0 a1 a2 a3) (Lw_TargetLines.f (k + 1) a0 a1 a2 a3) := by
  intro a0 a1 a2 a3 k; obtain ⟨ih0, ih1, ih2⟩ := Lw_TargetLines.mono_l k; unfold Lw_TargetLines.f
  repeat' with_reducible first
    | exact ih0 ..
    | exact ih1 ..
    | exact ih2 ..
    | exact Lw_awake.mono ..
    | exact Rf_AreEqual.mono ..
    | exact Rf_CheckLine.mono ..
    | exact Rf_Line.mono ..
    | exact Rf_LineErr.mono ..
    | exact Rf_ReadingsErr.mono ..
    | exact Rf_Residual.mono ..
    | exact L_CheckLine.mono ..
    | exact L_LineOf.mono ..
    | exact L_ResidualOf.mono ..
    | exact LeO.refl ..
    | exact LeO.none ..
    | refine LeO.ite ?_ ?_
    | refine LeO.bind ?_ (fun _ => ?_)
def Lw_TargetLines.T7 : Bool × List (List Nat × List Nat) := (true, [([], []), ([0], [0]), ([], []), ([1, 2, 1], [1, 2]), ([3], [3]), ([4], [4]), ([4], [4]), ([5, 3, 0, 1, 2, 3, 4, 5], [5]), ([6, 7, 0, 1, 2, 3, 4, 5, 6, 7], [6])])
def Lw_TargetLines.B7 : List Nat := [0, 1, 0, 7, 15, 31, 31, 63, 255]
theorem Lw_TargetLines.tab7 : rtab .any (opsOf Try.f7 7) = Lw_TargetLines.T7 := by kernel_rfl
theorem Lw_TargetLines.bits7 : waitsOk Lw_TargetLines.T7.2 Lw_TargetLines.B7 = true := by kernel_rfl
def Lw_TargetLines.T14 : Bool × List (List Nat × List Nat) := (true, [([], []), ([0], [0]), ([1], [1]), ([2], [2]), ([2], [2]), ([4, 2, 2], [2, 4]), ([3, 5, 2], [2, 3, 5]), ([2, 6], [2, 6]), ([7, 5], [7]), ([8], [8]), ([9, 8, 8], [8, 9]), ([10], [10]), ([11, 10], [10, 11]), ([12, 10, 10], [10, 12]), ([13], [13]), ([13], [13]), ([14, 15, 13], [13, 14, 15]), ([13, 16, 10], [10, 13, 16]), ([10, 17, 8], [8, 10, 17]), ([8, 18], [8, 18]), ([19, 13], [19]), ([20], [20]), ([21, 20], [20, 21]), ([22, 20, 20], [20, 22]), ([23], [23]), ([24, 23], [23, 24]), ([25, 23, 23], [23, 25]), ([26], [26]), ([26], [26]), ([27, 28, 26], [26, 27, 28]), ([26, 29, 23], [23, 26, 29]), ([23, 30, 20], [20, 23, 30]), ([20, 31], [20, 31])])
def Lw_TargetLines.B14 : List Nat := [0, 1, 3, 7, 7, 23, 63, 127, 255, 511, 1023, 2047, 4095, 8191, 16383, 16383, 65535, 131071, 262143, 524287, 1048575, 2097151, 4194303, 8388607, 16777215, 33554431, 67108863, 134217727, 134217727, 536870911, 1073741823, 2147483647, 4294967295]
theorem Lw_TargetLines.tab14 : rtab .any (opsOf Try.f7 14) = Lw_TargetLines.T14 := by kernel_rfl
theorem Lw_TargetLines.bits14 : waitsOk Lw_TargetLines.T14.2 Lw_TargetLines.B14 = true := by kernel_rfl
theorem Lw_TargetLines.calls (k : Nat) (A0 : Option Addr) (c0 : Nat) (l0 : List (S85)) (a1_0 : Int) (a1_1 : Int) (a1_2 : Int) (r : Bool) (w : World) (hr0 : Kd.C k85 w A0 l0.length l0) (hc0 : l0.length ≤ c0) (H : Lw_TargetLines.f k l0 a1_0 a1_1 a1_2 = some r) :
    Calls Try.prog 7 #[.slice A0 l0.length c0, .agg #[.int .i64 a1_0, .int .i64 a1_1, .int .i64 a1_2]] w fun e w' => e = .returned (.bool r) ∧ Below w.heap.size w w' := by
  have hu56 := Try.underlying56; have hu73 := Try.underlying73; have HR0 := m0 hr0; have HC0 := m0 hc0; clear hr0 hc0; have HB := m0 (Below.refl w.heap.size w); unfold Lw_TargetLines.f at H; replace H := oa H; obtain ⟨t745, A3, H⟩ := H; (try dsimp only at H)
  by_cases c4 : t745 = true
  · subst c4; rw [if_pos rfl] at H; replace H := oa H; obtain ⟨t746, A5, H⟩ := H; (try dsimp only at H)
    by_cases c6 : t746 = true
    · subst c6; rw [if_pos rfl] at H; replace H := oa H; obtain ⟨t747, A7, H⟩ := H; (try dsimp only at H); replace H := oa H; obtain ⟨⟨t750, t751, t752, t753⟩, A8, H⟩ := H; (try dsimp only at H); replace H := oa H; obtain ⟨t755, A9, H⟩ := H; (try dsimp only at H); replace H := oa H; obtain ⟨⟨t758, t759, t760⟩, A10, H⟩ := H; (try dsimp only at H); replace H := oa H; obtain ⟨t762, A11, H⟩ := H; (try dsimp only at H); replace H := oa H; obtain ⟨⟨t765, t766⟩, A12, H⟩ := H; (try dsimp only at H); replace H := oa H; obtain ⟨t767, A13, H⟩ := H; (try dsimp only at H); have HC14 := m0 H; clear H; go_enter Try.func7, Try.ntmps7
      try go_wp2_with (first | ((with_reducible refine ga 3 rfl ?_); refine be 3 56 #[.int .i64 a1_0, .int .i64 a1_1, .int .i64 a1_2] ?_; intro gb744 hg w15 hbox hb; have BK744 := m0 hbox; have GE744 := gw w hg; replace HB := sb HB hb; clear hb hbox hg) | ((with_reducible refine gc 14 rfl ?_); refine gl (some 15) Try.func14 #[] ?_; (with_reducible refine (Lw_awake.calls k  true _ A3.out).mono ?_); rintro e w16 ⟨rfl, hb⟩; refine ⟨_, rfl, ?_⟩; replace BK744 := bb BK744 hb; replace HB := sb HB hb; (try clear hb)) | ((with_reducible refine gc 36 rfl ?_); refine gl (some 18) Try.func36 #[.slice A0 l0.length c0] ?_; (with_reducible refine (Lw_few.calls _ _ l0 true _ ?side1 ?side2 A5.out).mono ?_); (case side1 => exact cb HR0 HB); (case side2 => exact HC0.out); rintro e w' ⟨rfl, ⟨nd, rfl⟩⟩; refine ⟨_, rfl, ?_⟩; (try (rw [drewN_self w16]; generalize hq_ : World.drewN w16 _ = w16; replace BK744 := gd BK744 hq_; replace HB := gs HB hq_; clear hq_))) | ((with_reducible refine gc 38 rfl ?_); refine gl (some 22) Try.func38 #[.slice A0 l0.length c0] ?_; (with_reducible refine (Rf_CopyReadings.calls _ _ l0 t747 _ ?side1 ?side2 A7.out).mono ?_); (case side1 => exact cb HR0 HB); (case side2 => exact HC0.out); rintro e w17 ⟨v748, rfl, ho0, hb⟩; refine ⟨_, rfl, ?_⟩; have HO749 := m0 (Kd.R_lower ho0 (below_size bz)); replace BK744 := bb BK744 hb; replace HB := sb HB hb; (try clear hb); (try clear ho0); obtain ⟨Ao18, co18, eo18⟩ := Kd.R_slice HO749.out; subst eo18) | ((with_reducible refine gc 37 rfl ?_); refine gl (some 23) Try.func37 #[.slice Ao18 t747.length co18] ?_; (with_reducible refine (L_LineOf.calls k _ _ t747 t750 t751 t752 t753 _ ?side1 ?side2 A8.out).mono ?_); (case side1 => exact bc (Kd.R_reads' HO749.out).2.2); (case side2 => exact (Kd.R_reads' HO749.out).2.1); rintro e w19 ⟨rfl, hb⟩; refine ⟨_, rfl, ?_⟩; replace HO749 := rb HO749 hb; replace BK744 := bb BK744 hb; replace HB := sb HB hb; (try clear hb)) | ((with_reducible refine ga 5 rfl ?_); refine be 5 56 #[.int .i64 0, .int .i64 0, .int .i64 0] ?_; intro gb754 hg w20 hbox hb; replace HO749 := rb HO749 hb; have BK754 := m0 hbox; have GE754 := gw w hg; replace HB := sb HB hb; have NB744_754 := nl BK744 hg; have NB754_744 := ng (nl BK744 hg); replace BK744 := bb BK744 hb; clear hb hbox hg; have hnb21 := NB754_744.out; have hnc21 := NB744_754.out; obtain ⟨hcz22_0, hcz22_1, hcz22_2, hfz22_0, hfz22_1, hfz22_2⟩ := b3 BK754) | ((with_reducible refine gc 38 rfl ?_); refine gl (some 28) Try.func38 #[.slice A0 l0.length c0] ?_; (with_reducible refine (Rf_CopyReadings.calls _ _ l0 t755 _ ?side1 ?side2 A9.out).mono ?_); (case side1 => exact Kd.C_below HR0.out bz); (case side2 => exact HC0.out); rintro e w23 ⟨v756, rfl, ho0, hb⟩; refine ⟨_, rfl, ?_⟩; have HO757 := m0 (Kd.R_lower (Kd.R_new' ho0 (Kd.R_lt (by (with_reducible repeat (first | apply Kd.R_alloc | apply Kd.R_drewN | apply Kd.R_drew)); exact (Kd.R_mono (rf (rf (rf (Kd.R_types HO749.out BK754.out (by decide)) (·.2)) (·.2)) (·.2)) (fun _ h_ => h_.1))))) (below_size bz)); replace HO749 := m0 (Kd.R_elder' (by (with_reducible repeat (first | apply Kd.R_alloc | apply Kd.R_drewN | apply Kd.R_drew)); exact (Kd.R_mono (rf (rf (rf (Kd.R_types HO749.out BK754.out (by decide)) (·.2)) (·.2)) (·.2)) (fun _ h_ => h_.1))) (Kd.R_base ho0) hb); replace BK744 := m0 (blk_below (g := gb744) (o := .cells #[.int .i64 a1_0, .int .i64 a1_1, .int .i64 a1_2] 56 (0, 0)) (bq BK744.out) hb); replace BK754 := m0 (blk_below (g := gb754) (o := .cells #[.int .i64 t750, .int .i64 t751, .int .i64 t752] 56 (0, 0)) (bq BK754.out) hb); replace HB := sb HB hb; (try clear hb); (try clear ho0); obtain ⟨Ao24, co24, eo24⟩ := Kd.R_slice HO757.out; subst eo24) | ((with_reducible refine gc 39 rfl ?_); refine gl (some 29) Try.func39 #[.slice Ao24 t755.length co24] ?_; (with_reducible refine (L_ResidualOf.calls k _ _ t755 t758 t759 t760 _ ?side1 ?side2 A10.out).mono ?_); (case side1 => exact bc (Kd.R_reads' HO757.out).2.2); (case side2 => exact (Kd.R_reads' HO757.out).2.1); rintro e w25 ⟨rfl, hb⟩; refine ⟨_, rfl, ?_⟩; replace HO749 := rb HO749 hb; replace HO757 := rb HO757 hb; replace BK744 := bb BK744 hb; replace BK754 := bb BK754 hb; replace HB := sb HB hb; (try clear hb)) | ((with_reducible refine ga 7 rfl ?_); refine be 7 73 #[.int .i64 0, .int .i64 0] ?_; intro gb761 hg w26 hbox hb; replace HO749 := rb HO749 hb; replace HO757 := rb HO757 hb; have BK761 := m0 hbox; have GE761 := gw w hg; replace HB := sb HB hb; have NB744_761 := nl BK744 hg; have NB761_744 := ng (nl BK744 hg); replace BK744 := bb BK744 hb; have NB754_761 := nl BK754 hg; have NB761_754 := ng (nl BK754 hg); replace BK754 := bb BK754 hb; clear hb hbox hg; have hnb27 := NB761_744.out; have hnc27 := NB744_761.out; have hnb28 := NB761_754.out; have hnc28 := NB754_761.out; obtain ⟨hcz29_0, hcz29_1, hfz29_0, hfz29_1⟩ := b2 BK761))
      replace HO749 : Aside0 (Kd.R k85 85 ((w26.setCell ⟨gb761, 0, none⟩ (.int .i64 t758)).setCell ⟨gb761, 1, none⟩ (.int .i64 t759)) w.heap.size (fun k_ => some k_ ≠ (.slice Ao24 t755.length co24 : Value).ownBlock) (.slice Ao18 t747.length co18) t747) := ⟨by (with_reducible repeat (first | apply Kd.R_alloc | apply Kd.R_drewN | apply Kd.R_drew)); exact Kd.R_mono (rf (rf (Kd.R_types HO749.out BK761.out (by decide)) (·.2)) (·.2)) (fun _ hk => hk.1.2)⟩; replace HO757 : Aside0 (Kd.R k85 85 ((w26.setCell ⟨gb761, 0, none⟩ (.int .i64 t758)).setCell ⟨gb761, 1, none⟩ (.int .i64 t759)) w.heap.size (fun k_ => some k_ ≠ (.slice Ao18 t747.length co18 : Value).ownBlock) (.slice Ao24 t755.length co24) t755) := ⟨by (with_reducible repeat (first | apply Kd.R_alloc | apply Kd.R_drewN | apply Kd.R_drew)); exact Kd.R_mono (rf (rf (Kd.R_types HO757.out BK761.out (by decide)) (·.2)) (·.2)) (fun _ hk => hk.1.2)⟩; replace BK744 : Aside0 (((w26.setCell ⟨gb761, 0, none⟩ (.int .i64 t758)).setCell ⟨gb761, 1, none⟩ (.int .i64 t759)).heap[gb744]? = some (.cells #[.int .i64 a1_0, .int .i64 a1_1, .int .i64 a1_2] 56 (0, 0))) := ⟨bq BK744.out⟩; replace BK754 : Aside0 (((w26.setCell ⟨gb761, 0, none⟩ (.int .i64 t758)).setCell ⟨gb761, 1, none⟩ (.int .i64 t759)).heap[gb754]? = some (.cells #[.int .i64 t750, .int .i64 t751, .int .i64 t752] 56 (0, 0))) := ⟨bq BK754.out⟩; replace BK761 : Aside0 (((w26.setCell ⟨gb761, 0, none⟩ (.int .i64 t758)).setCell ⟨gb761, 1, none⟩ (.int .i64 t759)).heap[gb761]? = some (.cells #[.int .i64 t758, .int .i64 t759] 73 (0, 0))) := ⟨bq BK761.out⟩; replace HB : Aside0 (Below w.heap.size w ((w26.setCell ⟨gb761, 0, none⟩ (.int .i64 t758)).setCell ⟨gb761, 1, none⟩ (.int .i64 t759))) := ⟨bz⟩; generalize ((w26.setCell ⟨gb761, 0, none⟩ (.int .i64 t758)).setCell ⟨gb761, 1, none⟩ (.int .i64 t759)) = w30 at HO749 HO757 BK744 BK754 BK761 HB ⊢; replace HO749 := m0 (Kd.R_drew HO749.out); replace HO757 := m0 (Kd.R_drew HO757.out); replace BK744 := bd BK744; replace BK754 := bd BK754; replace BK761 := bd BK761; replace HB := sd HB; refine start_ (n := 9) (S := fun w' => w'.cell? ⟨gb744, 0, none⟩ = some (.int .i64 a1_0) ∧ w'.cell? ⟨gb744, 1, none⟩ = some (.int .i64 a1_1) ∧ w'.cell? ⟨gb744, 2, none⟩ = some (.int .i64 a1_2)) (ds := []) _ (by kernel_rfl) rfl rfl cz (fun hH => ?_); refine with_tabW Lw_TargetLines.tab7 Lw_TargetLines.bits7 (fun HT_ HW_ => ?_); generalize w30.drew = w31 at HO749 HO757 BK744 BK754 BK761 HB hH ⊢; refine pZ 0 (some 33) #[true, false, false, false, false, false, false, false, false] HT_ ?_; refine takeZ 2 (some 35) #[true, false, true, false, false, false, false, false, false] (tw HT_ HW_) hH ?_; refine oneZ 1 (some 34) #[true, true, true, false, false, false, false, false, false] (o1 HT_) fun K hK => ?_; refine gz Try.func38 #[.slice A0 l0.length c0] ?_
      with_reducible refine (Rf_CopyReadings.calls _ _ l0 t762 _ ?side1 ?side2 A11.out).mono ?_
      (case side1 => exact cb HR0 HB)
      (case side2 => exact HC0.out)
      rintro e w32 ⟨v763, rfl, ho0, hb⟩; refine ⟨_, rfl, ?_⟩; have HO764 := m0 (Kd.R_lower (Kd.R_new' (Kd.R_new' ho0 (Kd.R_lt (br HO749.out))) (Kd.R_lt (br HO757.out))) (below_size bz)); replace HO749 := m0 (Kd.R_elder' (br HO749.out) (Kd.R_base ho0) hb); replace HO757 := m0 (Kd.R_elder' (br HO757.out) (Kd.R_base ho0) hb); replace BK744 := bb BK744 hb; replace BK754 := bb BK754 hb; replace BK761 := bb BK761 hb; replace HB := sb HB hb; (try clear hb); (try clear ho0); obtain ⟨Ao33, co33, eo33⟩ := Kd.R_slice HO764.out; subst eo33; refine hK.out _ _ cz (fun hH => ?_); clear hK K; refine nz 34 ?_; refine oneZ 3 (some 36) #[true, true, true, true, false, false, false, false, false] (o1 HT_) fun K hK => ?_; refine gz Try.func40 #[.slice Ao33 t762.length co33, .agg #[.int .i64 a1_0, .int .i64 a1_1, .int .i64 a1_2]] ?_
      with_reducible refine (L_CheckLine.calls k _ _ t762 a1_0 a1_1 a1_2 t765 t766 _ ?side1 ?side2 A12.out).mono ?_
      (case side1 => exact bc (Kd.R_reads' HO764.out).2.2)
      (case side2 => exact (Kd.R_reads' HO764.out).2.1)
      rintro e w34 ⟨rfl, hb⟩; refine ⟨_, rfl, ?_⟩; replace HO749 := rb HO749 hb; replace HO757 := rb HO757 hb; replace HO764 := rb HO764 hb; replace BK744 := bb BK744 hb; replace BK754 := bb BK754 hb; replace BK761 := bb BK761 hb; replace HB := sb HB hb; (try clear hb); refine hK.out _ _ cz (fun hH => ?_); clear hK K; refine nz 36 ?_; refine pZ 4 (some 32) #[true, true, true, true, true, false, false, false, false] HT_ ?_; refine pZ 5 (some 37) #[true, true, true, true, true, true, false, false, false] HT_ ?_; refine pZ 6 (some 38) #[true, true, true, true, true, true, true, false, false] HT_ ?_; refine pZ 7 (some 9) #[true, true, true, true, true, true, true, true, false] HT_ ?_; refine pZ 8 (some 10) #[true, true, true, true, true, true, true, true, true] HT_ ?_; refine done_ (done_of HT_.out (by kernel_rfl)) ?_
      go_upto_region 9 with (first | ((with_reducible refine gc 41 rfl ?_); refine gl (some 40) Try.func41 #[.slice A0 l0.length c0] ?_; (with_reducible refine (Rf_ReadingsErr.calls k _ _ l0 t767 _ ?side1 ?side2 A13.out).mono ?_); (case side1 => exact cb HR0 HB); (case side2 => exact HC0.out); rintro e w' ⟨rfl, ⟨nd, rfl⟩⟩; refine ⟨_, rfl, ?_⟩))
      (try simp only [Act.put, List.setIfInBounds_toArray, List.set_cons_zero, List.set_cons_succ])
      go_cut [46] (fun v46 wc => ∃ (kq : Nat) (x46_13 : Bool), v46 = .bool x46_13 ∧ Aside0 (Lw_TargetLines.j0 kq l0 t753 t760 t765 t766 t767 x46_13 a1_0 a1_1 a1_2 t750 t751 t752 t758 t759 = some r) ∧ Aside0 (kq ≤ k) ∧ Aside0 (wc.heap[gb744]? = some (.cells #[.int .i64 a1_0, .int .i64 a1_1, .int .i64 a1_2] 56 (0, 0))) ∧ Aside0 (wc.heap[gb754]? = some (.cells #[.int .i64 t750, .int .i64 t751, .int .i64 t752] 56 (0, 0))) ∧ Aside0 (wc.heap[gb761]? = some (.cells #[.int .i64 t758, .int .i64 t759] 73 (0, 0))) ∧ Aside0 (Below w.heap.size w wc))
      case first =>
        have H := HC14.out; clear HC14
        by_cases c35 : t767 = 0
        · rw [if_pos c35] at H; have c35b0 := beq_iff_eq.mpr c35; have c35b1 := bne_eq_false_iff_eq.mpr c35; clear c35
          (first | rw [c35b0] | (simp only [i64_w, i32_w]; rw [c35b0]) | skip)
          replace H := oa H; obtain ⟨t768, A36, H⟩ := H; (try dsimp only at H); have H' := m0 H; clear H
          go_wp2_with (first | (go_at_call 42; (with_reducible refine (Rf_AreEqual.calls k _ _ l0 t768 _ ?side1 ?side2 A36.out).mono ?_); (case side1 => exact cb HR0 HB); (case side2 => exact HC0.out); rintro e w' ⟨rfl, ⟨nd, rfl⟩⟩))
          go_meet
          case rel => exact ⟨_, (t768), rz, H', ⟨by first | omega | exact Nat.le_refl _⟩, ⟨bk BK744.out⟩, ⟨bk BK754.out⟩, ⟨bk BK761.out⟩, ⟨bz⟩⟩
        · rw [if_neg c35] at H; have c35b0 := beq_eq_false_iff_ne.mpr c35; have c35b1 := bne_iff_ne.mpr c35
          (first | rw [c35b0] | (simp only [i64_w, i32_w]; rw [c35b0]) | skip)
          have H' := m0 H; clear H
          go_wp2
          go_meet
          case rel => exact ⟨_, (false), rz, H', ⟨by first | omega | exact Nat.le_refl _⟩, ⟨bk BK744.out⟩, ⟨bk BK754.out⟩, ⟨bk BK761.out⟩, ⟨bz⟩⟩
      case rest =>
        clear HC14
        try clear hcz22_0
        try clear hcz22_1
        try clear hcz22_2
        try clear hcz29_0
        try clear hcz29_1
        try clear hfz22_0
        try clear hfz22_1
        try clear hfz22_2
        try clear hfz29_0
        try clear hfz29_1
        obtain ⟨kq, x46_13, rfl, HA, HJ13, BK744, BK754, BK761, HB⟩ := hcut
        cases kq with
        | zero => exact absurd HA.out (by simp [Lw_TargetLines.j0])
        | succ kj13 =>
          have H := HA.out; clear HA; simp only [Lw_TargetLines.j0] at H; have HC37 := m0 H; clear H
          go_upto_if 46 with (fail)
          go_cut [11] (fun v11 wc => ∃ (kq : Nat) (x11_36 : Int), v11 = .int .i64 x11_36 ∧ Aside0 (Lw_TargetLines.j1 kq l0 t753 t760 t765 t766 x11_36 a1_0 a1_1 a1_2 t750 t751 t752 t758 t759 = some r) ∧ Aside0 (kq ≤ kj13) ∧ Aside0 (wc.heap[gb744]? = some (.cells #[.int .i64 a1_0, .int .i64 a1_1, .int .i64 a1_2] 56 (0, 0))) ∧ Aside0 (wc.heap[gb754]? = some (.cells #[.int .i64 t750, .int .i64 t751, .int .i64 t752] 56 (0, 0))) ∧ Aside0 (wc.heap[gb761]? = some (.cells #[.int .i64 t758, .int .i64 t759] 73 (0, 0))) ∧ Aside0 (Below w.heap.size w wc))
          case first =>
            have H := HC37.out; clear HC37
            by_cases c38 : x46_13 = true
            · subst c38; rw [if_pos rfl] at H; have H' := m0 H; clear H
              go_wp2
              go_meet
              case rel => exact ⟨_, (11), rz, H', ⟨by have := HJ13.out; first | omega | exact Nat.le_refl _⟩, ⟨bk BK744.out⟩, ⟨bk BK754.out⟩, ⟨bk BK761.out⟩, ⟨bz⟩⟩
            · replace c38 := Bool.eq_false_iff.mpr c38; subst c38; rw [if_neg (show ¬ (false = true) by decide)] at H; have H' := m0 H; clear H
              go_wp2
              go_meet
              case rel => exact ⟨_, (t767), rz, H', ⟨by have := HJ13.out; first | omega | exact Nat.le_refl _⟩, ⟨bk BK744.out⟩, ⟨bk BK754.out⟩, ⟨bk BK761.out⟩, ⟨bz⟩⟩
          case rest =>
            clear HC37
            try clear hcz22_0
            try clear hcz22_1
            try clear hcz22_2
            try clear hcz29_0
            try clear hcz29_1
            try clear hfz22_0
            try clear hfz22_1
            try clear hfz22_2
            try clear hfz29_0
            try clear hfz29_1
            obtain ⟨kq, x11_36, rfl, HA, HJ36, BK744, BK754, BK761, HB⟩ := hcut
            cases kq with
            | zero => exact absurd HA.out (by simp [Lw_TargetLines.j1])
            | succ kj36 =>
              have H := HA.out; clear HA; simp only [Lw_TargetLines.j1] at H
              by_cases c39 : x11_36 = 0
              · rw [if_pos c39] at H; have c39b0 := beq_iff_eq.mpr c39; have c39b1 := bne_eq_false_iff_eq.mpr c39; clear c39; replace H := oa H; obtain ⟨⟨t769, t770, t771⟩, A40, H⟩ := H; (try dsimp only at H); have HC41 := m0 H; clear H
                go_upto_region 14 with (first | ((with_reducible refine gc 43 rfl ?_); refine gl (some 78) Try.func43 #[.slice A0 l0.length c0] ?_; (with_reducible refine (Rf_Residual.calls kj36 _ _ l0 t769 t770 t771 _ ?side1 ?side2 A40.out).mono ?_); (case side1 => exact cb HR0 HB); (case side2 => exact HC0.out); rintro e w42 ⟨rfl, hb⟩; refine ⟨_, rfl, ?_⟩; replace BK744 := bb BK744 hb; replace BK754 := bb BK754 hb; replace BK761 := bb BK761 hb; replace HB := sb HB hb; (try clear hb)) | ((with_reducible refine ga 12 rfl ?_); refine be 12 73 #[.int .i64 0, .int .i64 0] ?_; intro gb772 hg w43 hbox hb; have BK772 := m0 hbox; have GE772 := gw w hg; replace HB := sb HB hb; have NB744_772 := nl BK744 hg; have NB772_744 := ng (nl BK744 hg); replace BK744 := bb BK744 hb; have NB754_772 := nl BK754 hg; have NB772_754 := ng (nl BK754 hg); replace BK754 := bb BK754 hb; have NB761_772 := nl BK761 hg; have NB772_761 := ng (nl BK761 hg); replace BK761 := bb BK761 hb; clear hb hbox hg; have hnb44 := NB772_744.out; have hnc44 := NB744_772.out; have hnb45 := NB772_754.out; have hnc45 := NB754_772.out; have hnb46 := NB772_761.out; have hnc46 := NB761_772.out; obtain ⟨_, _, _, _⟩ := b2 BK772))
                (try simp only [Act.put, List.setIfInBounds_toArray, List.set_cons_zero, List.set_cons_succ])
                go_cut [113] (fun v113 wc => ∃ (kq : Nat) (x113_40 : Bool), v113 = .bool x113_40 ∧ Aside0 (Lw_TargetLines.j2 kq l0 t765 t766 x113_40 a1_0 a1_1 a1_2 = some r) ∧ Aside0 (kq ≤ kj36) ∧ Aside0 (wc.heap[gb744]? = some (.cells #[.int .i64 a1_0, .int .i64 a1_1, .int .i64 a1_2] 56 (0, 0))) ∧ Aside0 (wc.heap[gb754]? = some (.cells #[.int .i64 t750, .int .i64 t751, .int .i64 t752] 56 (0, 0))) ∧ Aside0 (wc.heap[gb761]? = some (.cells #[.int .i64 t758, .int .i64 t759] 73 (0, 0))) ∧ Aside0 (wc.heap[gb772]? = some (.cells #[.int .i64 t769, .int .i64 t770] 73 (0, 0))) ∧ Aside0 (Below w.heap.size w wc))
                case first =>
                  have H := HC41.out; clear HC41
                  by_cases c48 : t753 = 0
                  · rw [if_pos c48] at H; have c48b0 := beq_iff_eq.mpr c48; have c48b1 := bne_eq_false_iff_eq.mpr c48; clear c48
                    (first | rw [c48b0] | (simp only [i64_w, i32_w]; rw [c48b0]) | skip)
                    replace H := oa H; obtain ⟨⟨t773, t774, t775⟩, A49, H⟩ := H; (try dsimp only at H)
                    by_cases c50 : (!(t750 == t773) || (!(t751 == t774) || (!(t752 == t775)))) = true
                    · rw [if_pos c50] at H; have c50b0 : (!(t750 == t773) || (!(t751 == t774) || (!(t752 == t775)))) = true := c50; clear c50; exact absurd H (by simp)
                    · rw [if_neg c50] at H; have c50b0 : (!(t750 == t773) || (!(t751 == t774) || (!(t752 == t775)))) = false := by simpa using c50
                      clear c50
                      by_cases c51 : t771 = true
                      · subst c51; rw [if_pos rfl] at H
                        by_cases c52 : t760 = 0
                        · rw [if_pos c52] at H; have c52b0 := beq_iff_eq.mpr c52; have c52b1 := bne_eq_false_iff_eq.mpr c52; clear c52
                          by_cases c53 : (!(t758 == t769) || (!(t759 == t770))) = true
                          · rw [if_pos c53] at H; have c53b0 : (!(t758 == t769) || (!(t759 == t770))) = true := c53; clear c53; exact absurd H (by simp)
                          · rw [if_neg c53] at H; have c53b0 : (!(t758 == t769) || (!(t759 == t770))) = false := by simpa using c53
                            clear c53; have H' := m0 H; clear H
                            try go_wp2
                            replace BK744 : Aside0 (((w43.setCell ⟨gb772, 0, none⟩ (.int .i64 t769)).setCell ⟨gb772, 1, none⟩ (.int .i64 t770)).heap[gb744]? = some (.cells #[.int .i64 a1_0, .int .i64 a1_1, .int .i64 a1_2] 56 (0, 0))) := ⟨bq BK744.out⟩; replace BK754 : Aside0 (((w43.setCell ⟨gb772, 0, none⟩ (.int .i64 t769)).setCell ⟨gb772, 1, none⟩ (.int .i64 t770)).heap[gb754]? = some (.cells #[.int .i64 t750, .int .i64 t751, .int .i64 t752] 56 (0, 0))) := ⟨bq BK754.out⟩; replace BK761 : Aside0 (((w43.setCell ⟨gb772, 0, none⟩ (.int .i64 t769)).setCell ⟨gb772, 1, none⟩ (.int .i64 t770)).heap[gb761]? = some (.cells #[.int .i64 t758, .int .i64 t759] 73 (0, 0))) := ⟨bq BK761.out⟩; replace BK772 : Aside0 (((w43.setCell ⟨gb772, 0, none⟩ (.int .i64 t769)).setCell ⟨gb772, 1, none⟩ (.int .i64 t770)).heap[gb772]? = some (.cells #[.int .i64 t769, .int .i64 t770] 73 (0, 0))) := ⟨bq BK772.out⟩; replace HB : Aside0 (Below w.heap.size w ((w43.setCell ⟨gb772, 0, none⟩ (.int .i64 t769)).setCell ⟨gb772, 1, none⟩ (.int .i64 t770))) := ⟨bz⟩; generalize ((w43.setCell ⟨gb772, 0, none⟩ (.int .i64 t769)).setCell ⟨gb772, 1, none⟩ (.int .i64 t770)) = w54 at BK744 BK754 BK761 BK772 HB ⊢; replace BK744 := bd BK744; replace BK754 := bd BK754; replace BK761 := bd BK761; replace BK772 := bd BK772; replace HB := sd HB; refine start_ (n := 33) (S := fun w' => w'.cell? ⟨gb754, 0, none⟩ = some (.int .i64 t750) ∧ w'.cell? ⟨gb754, 1, none⟩ = some (.int .i64 t751) ∧ w'.cell? ⟨gb754, 2, none⟩ = some (.int .i64 t752) ∧ w'.cell? ⟨gb761, 0, none⟩ = some (.int .i64 t758) ∧ w'.cell? ⟨gb761, 1, none⟩ = some (.int .i64 t759) ∧ w'.cell? ⟨gb772, 0, none⟩ = some (.int .i64 t769) ∧ w'.cell? ⟨gb772, 1, none⟩ = some (.int .i64 t770)) (ds := []) _ (by kernel_rfl) rfl rfl cz (fun hH => ?_); refine with_tabW Lw_TargetLines.tab14 Lw_TargetLines.bits14 (fun HT_ HW_ => ?_); generalize w54.drew = w55 at BK744 BK754 BK761 BK772 HB hH ⊢; refine pZ 0 (some 81) (bs 33 1) HT_ ?_; refine pZ 1 (some 82) (bs 33 3) HT_ ?_; refine pZ 2 (some 83) (bs 33 7) HT_ ?_; refine pZ 4 (some 85) (bs 33 23) HT_ ?_; refine takeZ 3 (some 84) (bs 33 31) (tw HT_ HW_) hH ?_; refine oneZ 5 (some 86) (bs 33 63) (o1 HT_) fun K hK => ?_; refine gz Try.func44 #[.slice A0 l0.length c0] ?_
                            with_reducible refine (Rf_Line.calls kj36 _ _ l0 t773 t774 t775 _ ?side1 ?side2 A49.out).mono ?_
                            (case side1 => exact cb HR0 HB)
                            (case side2 => exact HC0.out)
                            rintro e w56 ⟨rfl, hb⟩; refine ⟨_, rfl, ?_⟩; replace BK744 := bb BK744 hb; replace BK754 := bb BK754 hb; replace BK761 := bb BK761 hb; replace BK772 := bb BK772 hb; replace HB := sb HB hb; (try clear hb); refine hK.out _ _ cz (fun hH => ?_); clear hK K; refine nz 86 ?_; refine pZ 6 (some 87) (bs 33 127) HT_ ?_; refine pZ 7 (some 88) (bs 33 255) HT_ ?_; refine pZ 8 (some 89) (bs 33 511) HT_ ?_; refine pZ 9 (some 90) (bs 33 1023) HT_ ?_; refine pZ 10 (some 91) (bs 33 2047) HT_ ?_; refine pZ 11 (some 92) (bs 33 4095) HT_ ?_; refine pZ 12 (some 93) (bs 33 8191) HT_ ?_; refine pZ 13 (some 94) (bs 33 16383) HT_ ?_; refine takeZ 14 (some 95) (bs 33 32767) (tw HT_ HW_) hH ?_; refine takeZ 15 (some 96) (bs 33 65535) (tw HT_ HW_) hH ?_; refine pZ 16 (some 97) (bs 33 131071) HT_ ?_; refine pZ 17 (some 98) (bs 33 262143) HT_ ?_; refine pZ 18 (some 99) (bs 33 524287) HT_ ?_; refine pZ 19 (some 100) (bs 33 1048575) HT_ ?_; refine pZ 20 (some 101) (bs 33 2097151) HT_ ?_; refine pZ 21 (some 102) (bs 33 4194303) HT_ ?_; refine pZ 22 (some 103) (bs 33 8388607) HT_ ?_; refine pZ 23 (some 104) (bs 33 16777215) HT_ ?_; refine pure_ (i := 24) (N := some 105) (v := undef) (a' := ?_) (bs 33 33554431) rfl rfl (any_of HT_.out (by kernel_rfl)) (fun _ _ _ h => h) (Or.inr ⟨by rfl, rfl⟩) ?_ ?_; rotate_left
                            · exact pz
                            refine pure_ (i := 25) (N := some 106) (v := undef) (a' := ?_) (bs 33 67108863) rfl rfl (any_of HT_.out (by kernel_rfl)) (fun _ _ _ h => h) (Or.inr ⟨by rfl, rfl⟩) ?_ ?_; rotate_left
                            · exact pz
                            refine pure_ (i := 26) (N := some 107) (v := undef) (a' := ?_) (bs 33 134217727) rfl rfl (any_of HT_.out (by kernel_rfl)) (fun _ _ _ h => h) (Or.inr ⟨by rfl, rfl⟩) ?_ ?_; rotate_left
                            · exact pz
                            refine pure_ (i := 27) (N := some 108) (v := undef) (a' := ?_) (bs 33 268435455) rfl rfl (any_of HT_.out (by kernel_rfl)) (fun _ _ _ h => h) (Or.inr ⟨by rfl, rfl⟩) ?_ ?_; rotate_left
                            · exact pz
                            refine pure_ (i := 28) (N := some 109) (v := undef) (a' := ?_) (bs 33 536870911) rfl rfl (any_of HT_.out (by kernel_rfl)) (fun _ _ _ h => h) (Or.inr ⟨by rfl, rfl⟩) ?_ ?_; rotate_left
                            · exact pz
                            refine pure_ (i := 29) (N := some 110) (v := undef) (a' := ?_) (bs 33 1073741823) rfl rfl (any_of HT_.out (by kernel_rfl)) (fun _ _ _ h => h) (Or.inr ⟨by rfl, rfl⟩) ?_ ?_; rotate_left
                            · exact pz
                            refine pure_ (i := 30) (N := some 111) (v := undef) (a' := ?_) (bs 33 2147483647) rfl rfl (any_of HT_.out (by kernel_rfl)) (fun _ _ _ h => h) (Or.inr ⟨by rfl, rfl⟩) ?_ ?_; rotate_left
                            · exact pz
                            refine pZ 31 (some 112) (bs 33 4294967295) HT_ ?_; refine pZ 32 (some 113) (bs 33 8589934591) HT_ ?_; refine done_ (done_of HT_.out (by kernel_rfl)) ?_
                            try go_wp2
                            go_meet
                            case rel => exact ⟨_, (false), rz, H', ⟨by have := HJ13.out; have := HJ36.out; first | omega | exact Nat.le_refl _⟩, ⟨bk BK744.out⟩, ⟨bk BK754.out⟩, ⟨bk BK761.out⟩, ⟨bk BK772.out⟩, ⟨bz⟩⟩
                        · rw [if_neg c52] at H; have c52b0 := beq_eq_false_iff_ne.mpr c52; have c52b1 := bne_iff_ne.mpr c52; exact absurd H (by simp)
                      · replace c51 := Bool.eq_false_iff.mpr c51; subst c51; rw [if_neg (show ¬ (false = true) by decide)] at H
                        by_cases c57 : t760 = 8
                        · rw [if_pos c57] at H; have c57b0 := beq_iff_eq.mpr c57; have c57b1 := bne_eq_false_iff_eq.mpr c57; clear c57; have H' := m0 H; clear H
                          try go_wp2
                          replace BK744 : Aside0 (((w43.setCell ⟨gb772, 0, none⟩ (.int .i64 t769)).setCell ⟨gb772, 1, none⟩ (.int .i64 t770)).heap[gb744]? = some (.cells #[.int .i64 a1_0, .int .i64 a1_1, .int .i64 a1_2] 56 (0, 0))) := ⟨bq BK744.out⟩; replace BK754 : Aside0 (((w43.setCell ⟨gb772, 0, none⟩ (.int .i64 t769)).setCell ⟨gb772, 1, none⟩ (.int .i64 t770)).heap[gb754]? = some (.cells #[.int .i64 t750, .int .i64 t751, .int .i64 t752] 56 (0, 0))) := ⟨bq BK754.out⟩; replace BK761 : Aside0 (((w43.setCell ⟨gb772, 0, none⟩ (.int .i64 t769)).setCell ⟨gb772, 1, none⟩ (.int .i64 t770)).heap[gb761]? = some (.cells #[.int .i64 t758, .int .i64 t759] 73 (0, 0))) := ⟨bq BK761.out⟩; replace BK772 : Aside0 (((w43.setCell ⟨gb772, 0, none⟩ (.int .i64 t769)).setCell ⟨gb772, 1, none⟩ (.int .i64 t770)).heap[gb772]? = some (.cells #[.int .i64 t769, .int .i64 t770] 73 (0, 0))) := ⟨bq BK772.out⟩; replace HB : Aside0 (Below w.heap.size w ((w43.setCell ⟨gb772, 0, none⟩ (.int .i64 t769)).setCell ⟨gb772, 1, none⟩ (.int .i64 t770))) := ⟨bz⟩; generalize ((w43.setCell ⟨gb772, 0, none⟩ (.int .i64 t769)).setCell ⟨gb772, 1, none⟩ (.int .i64 t770)) = w58 at BK744 BK754 BK761 BK772 HB ⊢; replace BK744 := bd BK744; replace BK754 := bd BK754; replace BK761 := bd BK761; replace BK772 := bd BK772; replace HB := sd HB; refine start_ (n := 33) (S := fun w' => w'.cell? ⟨gb754, 0, none⟩ = some (.int .i64 t750) ∧ w'.cell? ⟨gb754, 1, none⟩ = some (.int .i64 t751) ∧ w'.cell? ⟨gb754, 2, none⟩ = some (.int .i64 t752) ∧ w'.cell? ⟨gb761, 0, none⟩ = some (.int .i64 t758) ∧ w'.cell? ⟨gb761, 1, none⟩ = some (.int .i64 t759)) (ds := []) _ (by kernel_rfl) rfl rfl cz (fun hH => ?_); refine with_tabW Lw_TargetLines.tab14 Lw_TargetLines.bits14 (fun HT_ HW_ => ?_); generalize w58.drew = w59 at BK744 BK754 BK761 BK772 HB hH ⊢; refine pZ 0 (some 81) (bs 33 1) HT_ ?_; refine pZ 1 (some 82) (bs 33 3) HT_ ?_; refine pZ 2 (some 83) (bs 33 7) HT_ ?_; refine pZ 4 (some 85) (bs 33 23) HT_ ?_; refine takeZ 3 (some 84) (bs 33 31) (tw HT_ HW_) hH ?_; refine oneZ 5 (some 86) (bs 33 63) (o1 HT_) fun K hK => ?_; refine gz Try.func44 #[.slice A0 l0.length c0] ?_
                          with_reducible refine (Rf_Line.calls kj36 _ _ l0 t773 t774 t775 _ ?side1 ?side2 A49.out).mono ?_
                          (case side1 => exact cb HR0 HB)
                          (case side2 => exact HC0.out)
                          rintro e w60 ⟨rfl, hb⟩; refine ⟨_, rfl, ?_⟩; replace BK744 := bb BK744 hb; replace BK754 := bb BK754 hb; replace BK761 := bb BK761 hb; replace BK772 := bb BK772 hb; replace HB := sb HB hb; (try clear hb); refine hK.out _ _ cz (fun hH => ?_); clear hK K; refine nz 86 ?_; refine pZ 6 (some 87) (bs 33 127) HT_ ?_; refine pZ 7 (some 88) (bs 33 255) HT_ ?_; refine pZ 8 (some 89) (bs 33 511) HT_ ?_; refine pZ 9 (some 90) (bs 33 1023) HT_ ?_; refine pZ 10 (some 91) (bs 33 2047) HT_ ?_; refine pure_ (i := 11) (N := some 92) (v := undef) (a' := ?_) (bs 33 4095) rfl rfl (any_of HT_.out (by kernel_rfl)) (fun _ _ _ h => h) (Or.inr ⟨by rfl, rfl⟩) ?_ ?_; rotate_left
                          · exact pz
                          refine pure_ (i := 12) (N := some 93) (v := undef) (a' := ?_) (bs 33 8191) rfl rfl (any_of HT_.out (by kernel_rfl)) (fun _ _ _ h => h) (Or.inr ⟨by rfl, rfl⟩) ?_ ?_; rotate_left
                          · exact pz
                          refine pure_ (i := 13) (N := some 94) (v := undef) (a' := ?_) (bs 33 16383) rfl rfl (any_of HT_.out (by kernel_rfl)) (fun _ _ _ h => h) (Or.inr ⟨by rfl, rfl⟩) ?_ ?_; rotate_left
                          · exact pz
                          refine pure_ (i := 14) (N := some 95) (v := undef) (a' := ?_) (bs 33 32767) rfl rfl (any_of HT_.out (by kernel_rfl)) (fun _ _ _ h => h) (Or.inr ⟨by rfl, rfl⟩) ?_ ?_; rotate_left
                          · exact pz
                          refine pure_ (i := 15) (N := some 96) (v := undef) (a' := ?_) (bs 33 65535) rfl rfl (any_of HT_.out (by kernel_rfl)) (fun _ _ _ h => h) (Or.inr ⟨by rfl, rfl⟩) ?_ ?_; rotate_left
                          · exact pz
                          refine pure_ (i := 16) (N := some 97) (v := undef) (a' := ?_) (bs 33 131071) rfl rfl (any_of HT_.out (by kernel_rfl)) (fun _ _ _ h => h) (Or.inr ⟨by rfl, rfl⟩) ?_ ?_; rotate_left
                          · exact pz
                          refine pure_ (i := 17) (N := some 98) (v := undef) (a' := ?_) (bs 33 262143) rfl rfl (any_of HT_.out (by kernel_rfl)) (fun _ _ _ h => h) (Or.inr ⟨by rfl, rfl⟩) ?_ ?_; rotate_left
                          · exact pz
                          refine pZ 18 (some 99) (bs 33 524287) HT_ ?_; refine pZ 19 (some 100) (bs 33 1048575) HT_ ?_; refine pZ 20 (some 101) (bs 33 2097151) HT_ ?_; refine pZ 21 (some 102) (bs 33 4194303) HT_ ?_; refine pZ 22 (some 103) (bs 33 8388607) HT_ ?_; refine pZ 23 (some 104) (bs 33 16777215) HT_ ?_; refine pZ 24 (some 105) (bs 33 33554431) HT_ ?_; refine pZ 25 (some 106) (bs 33 67108863) HT_ ?_; refine pZ 26 (some 107) (bs 33 134217727) HT_ ?_; refine pZ 28 (some 109) (bs 33 402653183) HT_ ?_; refine takeZ 27 (some 108) (bs 33 536870911) (tw HT_ HW_) hH ?_; refine pZ 29 (some 110) (bs 33 1073741823) HT_ ?_; refine pZ 30 (some 111) (bs 33 2147483647) HT_ ?_; refine pZ 31 (some 112) (bs 33 4294967295) HT_ ?_; refine pZ 32 (some 113) (bs 33 8589934591) HT_ ?_; refine done_ (done_of HT_.out (by kernel_rfl)) ?_
                          try go_wp2
                          go_meet
                          case rel => exact ⟨_, ((!(t758 == 0) || (!(t759 == 0)))), rz, H', ⟨by have := HJ13.out; have := HJ36.out; first | omega | exact Nat.le_refl _⟩, ⟨bk BK744.out⟩, ⟨bk BK754.out⟩, ⟨bk BK761.out⟩, ⟨bk BK772.out⟩, ⟨bz⟩⟩
                        · rw [if_neg c57] at H; have c57b0 := beq_eq_false_iff_ne.mpr c57; have c57b1 := bne_iff_ne.mpr c57; exact absurd H (by simp)
                  · rw [if_neg c48] at H; have c48b0 := beq_eq_false_iff_ne.mpr c48; have c48b1 := bne_iff_ne.mpr c48
                    (first | rw [c48b0] | (simp only [i64_w, i32_w]; rw [c48b0]) | skip)
                    exact absurd H (by simp)
                case rest =>
                  clear HC41; obtain ⟨kq, x113_40, rfl, HA, HJ40, BK744, BK754, BK761, BK772, HB⟩ := hcut
                  cases kq with
                  | zero => exact absurd HA.out (by simp [Lw_TargetLines.j2])
                  | succ kj40 =>
                    have H := HA.out; clear HA; simp only [Lw_TargetLines.j2] at H
                    by_cases c61 : x113_40 = true
                    · subst c61; rw [if_pos rfl] at H; exact absurd H (by simp)
                    · replace c61 := Bool.eq_false_iff.mpr c61; subst c61; rw [if_neg (show ¬ (false = true) by decide)] at H; replace H := oa H; obtain ⟨t776, A62, H⟩ := H; (try dsimp only at H)
                      by_cases c63 : t776 = 0
                      · rw [if_pos c63] at H; have c63b0 := beq_iff_eq.mpr c63; have c63b1 := bne_eq_false_iff_eq.mpr c63; clear c63; replace H := oa H; obtain ⟨⟨t777, t778⟩, A64, H⟩ := H; (try dsimp only at H)
                        by_cases c65 : t766 = t778
                        · rw [if_pos c65] at H; have c65b0 := beq_iff_eq.mpr c65; have c65b1 := bne_eq_false_iff_eq.mpr c65; clear c65; obtain rfl := Option.some.inj H; have hnb66 := NB744_754.out; have hnc66 := NB754_744.out; have hnb67 := NB744_761.out; have hnc67 := NB761_744.out; have hnb68 := NB744_772.out; have hnc68 := NB772_744.out; obtain ⟨_, _, _, _, _, _⟩ := b3 BK744
                          go_wp2_with (first | ((with_reducible refine gc 34 rfl ?_); refine gl (some 115) Try.func34 #[.agg #[.int .i64 a1_0, .int .i64 a1_1, .int .i64 a1_2]] ?_; (with_reducible refine (Rf_LineErr.calls kj40 a1_0 a1_1 a1_2 t776 _ A62.out).mono ?_); rintro e w70 ⟨rfl, hb⟩; refine ⟨_, rfl, ?_⟩; replace BK744 := bb BK744 hb; replace BK754 := bb BK754 hb; replace BK761 := bb BK761 hb; replace BK772 := bb BK772 hb; replace HB := sb HB hb; (try clear hb); obtain ⟨_, _, _, _, _, _⟩ := b3 BK744) | ((with_reducible refine gc 45 rfl ?_); refine gl (some 128) Try.func45 #[.slice A0 l0.length c0, .agg #[.int .i64 a1_0, .int .i64 a1_1, .int .i64 a1_2]] ?_; (with_reducible refine (Rf_CheckLine.calls kj40 _ _ l0 a1_0 a1_1 a1_2 t777 t778 _ ?side1 ?side2 A64.out).mono ?_); (case side1 => exact cb HR0 HB); (case side2 => exact HC0.out); rintro e w72 ⟨rfl, hb⟩; refine ⟨_, rfl, ?_⟩; replace BK744 := bb BK744 hb; replace BK754 := bb BK754 hb; replace BK761 := bb BK761 hb; replace BK772 := bb BK772 hb; replace HB := sb HB hb; (try clear hb)))
                          go_ret
                          exact ez
                        · rw [if_neg c65] at H; exact absurd H (by simp)
                      · rw [if_neg c63] at H; have c63b0 := beq_eq_false_iff_ne.mpr c63; have c63b1 := bne_iff_ne.mpr c63
                        by_cases c73 : t766 = t776
                        · rw [if_pos c73] at H; have c73b0 := beq_iff_eq.mpr c73; have c73b1 := bne_eq_false_iff_eq.mpr c73; clear c73; obtain rfl := Option.some.inj H; have hnb74 := NB744_754.out; have hnc74 := NB754_744.out; have hnb75 := NB744_761.out; have hnc75 := NB761_744.out; have hnb76 := NB744_772.out; have hnc76 := NB772_744.out; obtain ⟨_, _, _, _, _, _⟩ := b3 BK744
                          go_wp2_with (first | ((with_reducible refine gc 34 rfl ?_); refine gl (some 115) Try.func34 #[.agg #[.int .i64 a1_0, .int .i64 a1_1, .int .i64 a1_2]] ?_; (with_reducible refine (Rf_LineErr.calls kj40 a1_0 a1_1 a1_2 t776 _ A62.out).mono ?_); rintro e w78 ⟨rfl, hb⟩; refine ⟨_, rfl, ?_⟩; replace BK744 := bb BK744 hb; replace BK754 := bb BK754 hb; replace BK761 := bb BK761 hb; replace BK772 := bb BK772 hb; replace HB := sb HB hb; (try clear hb)))
                          go_ret
                          exact ez
                        · rw [if_neg c73] at H; exact absurd H (by simp)
              · rw [if_neg c39] at H; have c39b0 := beq_eq_false_iff_ne.mpr c39; have c39b1 := bne_iff_ne.mpr c39
                by_cases c79 : t753 = x11_36
                · rw [if_pos c79] at H; have c79b0 := beq_iff_eq.mpr c79; have c79b1 := bne_eq_false_iff_eq.mpr c79; clear c79
                  by_cases c80 : t760 = x11_36
                  · rw [if_pos c80] at H; have c80b0 := beq_iff_eq.mpr c80; have c80b1 := bne_eq_false_iff_eq.mpr c80; clear c80
                    by_cases c81 : t766 = x11_36
                    · rw [if_pos c81] at H; have c81b0 := beq_iff_eq.mpr c81; have c81b1 := bne_eq_false_iff_eq.mpr c81; clear c81
                      by_cases c82 : (t750 == 0 && (t751 == 0 && (t752 == 0))) = true
                      · rw [if_pos c82] at H; have c82b0 : (t750 == 0 && (t751 == 0 && (t752 == 0))) = true := c82; (try (have c82b1 : decide (t750 = 0 && (t751 == 0 && (t752 == 0))) = true := by simpa using c82)); (try (have c82b2 : (t750 == 0 && (t751 == 0 && (t752 == 0))) = true := by simpa using c82)); clear c82
                        by_cases c83 : (t758 == 0 && (t759 == 0)) = true
                        · rw [if_pos c83] at H; have c83b0 : (t758 == 0 && (t759 == 0)) = true := c83; (try (have c83b1 : decide (t758 = 0 && (t759 == 0)) = true := by simpa using c83)); (try (have c83b2 : (t758 == 0 && (t759 == 0)) = true := by simpa using c83)); clear c83; obtain rfl := Option.some.inj H; have hnb84 := NB754_744.out; have hnc84 := NB744_754.out; have hnb85 := NB754_761.out; have hnc85 := NB761_754.out; obtain ⟨_, _, _, _, _, _⟩ := b3 BK754; have hnb87 := NB761_744.out; have hnc87 := NB744_761.out; obtain ⟨_, _, _, _⟩ := b2 BK761
                          go_wp2
                          go_ret
                          exact ez
                        · rw [if_neg c83] at H; exact absurd H (by simp)
                      · rw [if_neg c82] at H; exact absurd H (by simp)
                    · rw [if_neg c81] at H; exact absurd H (by simp)
                  · rw [if_neg c80] at H; exact absurd H (by simp)
                · rw [if_neg c79] at H; exact absurd H (by simp)
    · replace c6 := Bool.eq_false_iff.mpr c6; subst c6; rw [if_neg (show ¬ (false = true) by decide)] at H; obtain rfl := Option.some.inj H; go_enter Try.func7, Try.ntmps7
      go_wp2_with (first | ((with_reducible refine ga 3 rfl ?_); refine be 3 56 #[.int .i64 a1_0, .int .i64 a1_1, .int .i64 a1_2] ?_; intro gb744 hg w89 hbox hb; have BK744 := m0 hbox; have GE744 := gw w hg; replace HB := sb HB hb; clear hb hbox hg) | ((with_reducible refine gc 14 rfl ?_); refine gl (some 15) Try.func14 #[] ?_; (with_reducible refine (Lw_awake.calls k  true _ A3.out).mono ?_); rintro e w90 ⟨rfl, hb⟩; refine ⟨_, rfl, ?_⟩; replace BK744 := bb BK744 hb; replace HB := sb HB hb; (try clear hb)) | ((with_reducible refine gc 36 rfl ?_); refine gl (some 18) Try.func36 #[.slice A0 l0.length c0] ?_; (with_reducible refine (Lw_few.calls _ _ l0 false _ ?side1 ?side2 A5.out).mono ?_); (case side1 => exact cb HR0 HB); (case side2 => exact HC0.out); rintro e w' ⟨rfl, ⟨nd, rfl⟩⟩; refine ⟨_, rfl, ?_⟩))
      go_ret
      exact ez
  · replace c4 := Bool.eq_false_iff.mpr c4; subst c4; rw [if_neg (show ¬ (false = true) by decide)] at H; exact absurd H (by simp)
end Go.Proofs.Ytibhfahbabgbaaa.A
