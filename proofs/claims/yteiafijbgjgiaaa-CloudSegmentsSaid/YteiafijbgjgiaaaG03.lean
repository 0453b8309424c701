/- Walks of the program's functions (printed, made shorter), each with what it computes. -/
import Derived.Test.YteiafijbgjgiaaaB14
import Derived.Test.YteiafijbgjgiaaaB15
import Derived.Test.YteiafijbgjgiaaaG02
namespace Go.Proofs.Yteiafijbgjgiaaa.A
set_option maxHeartbeats 8000000
set_option maxRecDepth 100000
open Go.RowKit Go.Proofs.YteiafijbgjgiaaaW.PrintWords Go.Proofs.YteiafijbgjgiaaaW.PrintLast Go.Proofs.YteiafijbgjgiaaaW.PrintMore
attribute [local go_sem] max2_int min2_int max_two min_two max_three min_three max_four min_four
set_option linter.unusedVariables false
set_option linter.unusedSimpArgs false
section
mutual
def Rf_Potentials.l0 : Nat → List Int → Int → List Int → Int → Option (List Int)
  | 0, _, _, _, _ => none
  | k + 1, x0, x1, x5, x6 => if x6 ≤ (x0.length : Int) then (Rf_Potentials.l1 k x0 x1 x5 x6 (-1) 0) else (some x5)
def Rf_Potentials.l1 : Nat → List Int → Int → List Int → Int → Int → Int → Option (List Int)
  | 0, _, _, _, _, _, _ => none
  | k + 1, x0, x1, x5, x6, x7, x8 => if x8 < x6 then (if 0 ≤ x8 then (if x8 < (x5.length : Int) then ((Rf_Cost.f k x0 x8 (wrap64 (x6 - 1))).bind fun t681 => (if x7 < 0 then (Rf_Potentials.l1 k x0 x1 x5 x6 (wrap64 ((wrap64 ((rd x5 x8) + t681)) + x1)) (wrap64 (x8 + 1))) else (if (wrap64 ((wrap64 ((rd x5 x8) + t681)) + x1)) < x7 then (Rf_Potentials.l1 k x0 x1 x5 x6 (wrap64 ((wrap64 ((rd x5 x8) + t681)) + x1)) (wrap64 (x8 + 1))) else (Rf_Potentials.l1 k x0 x1 x5 x6 x7 (wrap64 (x8 + 1)))))) else (none)) else (none)) else (if x5.length < 17592186044416 then (Rf_Potentials.l0 k x0 x1 (x5 ++ [x7]) (wrap64 (x6 + 1))) else (none))
end
def Rf_Potentials.f (k : Nat) (l0 : List Int) (a1 : Int) : Option (List Int) := Rf_Potentials.l0 k l0 a1 (([0] : List Int)) 1
theorem Rf_Potentials.mono_l : ∀ k, (∀ y0 y1 y2 y3, LeO (Rf_Potentials.l0 k y0 y1 y2 y3) (Rf_Potentials.l0 (k + 1) y0 y1 y2 y3)) ∧ (∀ y0 y1 y2 y3 y4 y5, LeO (Rf_Potentials.l1 k y0 y1 y2 y3 y4 y5) (Rf_Potentials.l1 (k + 1) y0 y1 y2 y3 y4 y5))
  | 0 => ⟨fun _ _ _ _ r h => by simp [Rf_Potentials.l0] at h, fun _ _ _ _ _ _ r h => by simp [Rf_Potentials.l1] at h⟩
  | k + 1 => by
    obtain ⟨ih0, ih1⟩ := Rf_Potentials.mono_l k; refine ⟨?_, ?_⟩
    · intro y0 y1 y2 y3; unfold Rf_Potentials.l0
      repeat' with_reducible first
        | exact ih0 ..
        | exact ih1 ..
        | exact Rf_Cost.mono ..
        | exact LeO.refl ..
        | exact LeO.none ..
        | refine LeO.ite ?_ ?_
        | refine LeO.bind ?_ (fun _ => ?_)
    · intro y0 y1 y2 y3 y4 y5; unfold Rf_Potentials.l1
      repeat' with_reducible first
        | exact ih0 ..
        | exact ih1 ..
        | exact Rf_Cost.mono ..
        | exact LeO.refl ..
        | exact LeO.none ..
        | refine LeO.ite ?_ ?_
        | refine LeO.bind ?_ (fun _ => ?_)
theorem Rf_Potentials.mono : ∀ a0 a1 k, LeO (Rf_Potentials.f k a0 a1) (Rf_Potentials.f (k + 1) a0 a1) := by
  intro a0 a1 k; obtain ⟨ih0, ih1⟩ := Rf_Potentials.mono_l k; unfold Rf_Potentials.f
  repeat' with_reducible first
    | exact ih0 ..
    | exact ih1 ..
    | exact Rf_Cost.mono ..
    | exact LeO.refl ..
    | exact LeO.none ..
    | refine LeO.ite ?_ ?_
    | refine LeO.bind ?_ (fun _ => ?_)
def Rf_Potentials.T9 : Bool × List (List Nat × List Nat) := (true, [([], []), ([], []), ([0, 1], [0, 1]), ([2], [2]), ([], []), ([], []), ([], []), ([6], [6]), ([4, 5, 7], [4, 5, 7]), ([3, 8], [3, 8]), ([], []), ([9, 10], [9, 10]), ([11, 8, 0, 1, 2, 3, 4, 5, 6, 7, 8, 9, 10, 11], [11])])
def Rf_Potentials.B9 : List Nat := [0, 0, 3, 7, 0, 0, 0, 64, 240, 511, 0, 2047, 4095]
theorem Rf_Potentials.tab9 : rtab .any (opsOf Try.f41 9) = Rf_Potentials.T9 := by kernel_rfl
theorem Rf_Potentials.bits9 : waitsOk Rf_Potentials.T9.2 Rf_Potentials.B9 = true := by kernel_rfl
theorem Rf_Potentials.calls (k : Nat) (A0 : Option Addr) (c0 : Nat) (l0 : List Int) (a1 : Int) (r : List Int) (w : World) (hr0 : Kd.C (Kd.int .i64) w A0 l0.length l0) (hc0 : l0.length ≤ c0) (H : Rf_Potentials.f k l0 a1 = some r) :
    Calls Try.prog 41 #[.slice A0 l0.length c0, .int .i64 a1] w fun e w' => ∃ v0_ : Value, e = .returned (v0_) ∧ Kd.R (Kd.int .i64) 3 w' w.heap.size (fun _ => True) v0_ r ∧ Below w.heap.size w w' := by
  have HR0 := m0 hr0; have HC0 := m0 hc0; clear hr0 hc0; have HB := m0 (Below.refl w.heap.size w); unfold Rf_Potentials.f at H; obtain ⟨y677, hy677⟩ : ∃ y_ : List Int, y_ = (([0] : List Int)) := ⟨_, rfl⟩; replace H : (Rf_Potentials.l0 k l0 a1 y677 1) = some r := by first | (rw [hy677]; with_reducible exact H) | (have H2_ := (Option.bind_some _ _).symm.trans H; rw [hy677]; with_reducible exact H2_) | (have H2_ := (Option.bind_some _ _).symm.trans H; with_reducible exact H2_) | with_reducible exact H | (rw [hy677]; exact H) | exact H
  have Ny677 := m0 hy677; clear hy677; have H' := m0 H; clear H; go_enter Try.func41, Try.ntmps41
  go_wp2_with (first | ((with_reducible refine ga 10 rfl ?_); refine Kd.R_lit (Kd.int .i64) _ 3 ?hg (N := 10) ?hd (xs := ([0] : List Int)) (inner := [.int .i64 0]) (ok := fun _ => True) (okp := fun _ => True) ?hr ?hp (fun _ hk => hk) trivial (Below.refl _ _) (Nat.le_refl _) (by simp) ?_; (case hd => rfl); (case hg => rfl); (case hr => first | (go_simp; done) | (go_simp; rfl)); (case hp => exact (Reps.one (ki 0) (Reps.none _ _))); intro v678 w3 ho4 hb hg_ hnew_; clear hg_ hnew_; (first | rw [← Ny677.out] at ho4 | (simp only [Int.reduceToNat] at ho4; rw [← Ny677.out] at ho4)); have HO679 := m0 (Kd.R_lower ho4 (below_size bz)); replace HB := sb HB hb; clear hb ho4))
  go_loopg [5, 6] k (fun kq v5 v6 w' => ∃ (x5_1 : List Int) (x6_1 : Int), v6 = .int .i64 x6_1 ∧ Aside0 (Rf_Potentials.l0 kq l0 a1 x5_1 x6_1 = some r) ∧ Aside0 (kq ≤ k) ∧ Aside0 (Kd.R (Kd.int .i64) 3 w' w.heap.size (fun _ => True) v5 x5_1) ∧ Aside0 (Below w.heap.size w w'))
  case atStart => exact ⟨(y677), (1), rz, H', ⟨Nat.le_refl _⟩, ⟨br HO679.out⟩, ⟨bz⟩⟩
  case round =>
    clear H'; obtain ⟨x5_1, x6_1, rfl, HA, HK1, HO_5, HB⟩ := hrel
    cases gk with
    | zero => exact absurd HA.out (by simp [Rf_Potentials.l0])
    | succ k1 =>
      have H := HA.out; clear HA; simp only [Rf_Potentials.l0] at H
      by_cases c5 : x6_1 ≤ (l0.length : Int)
      · rw [if_pos c5] at H; have c5b0 := decide_eq_true c5; clear c5; have H' := m0 H; clear H
        go_wp2
        go_loopg [7, 8] k1 (fun kq v7 v8 w' => ∃ (x7_2 : Int) (x8_2 : Int), v7 = .int .i64 x7_2 ∧ v8 = .int .i64 x8_2 ∧ Aside0 (Rf_Potentials.l1 kq l0 a1 x5_1 x6_1 x7_2 x8_2 = some r) ∧ Aside0 (kq ≤ k1) ∧ Aside0 (Kd.R (Kd.int .i64) 3 w' w.heap.size (fun _ => True) u5 x5_1) ∧ Aside0 (Below w.heap.size w w'))
        case atStart => exact ⟨((-1)), (0), rz, rz, H', ⟨Nat.le_refl _⟩, ⟨br HO_5.out⟩, ⟨bz⟩⟩
        case round =>
          clear H'; obtain ⟨x7_2, x8_2, rfl, rfl, HA, HK2, HO_5, HB⟩ := hrel
          cases gk with
          | zero => exact absurd HA.out (by simp [Rf_Potentials.l1])
          | succ k2 =>
            have H := HA.out; clear HA; simp only [Rf_Potentials.l1] at H
            by_cases c6 : x8_2 < x6_1
            · rw [if_pos c6] at H; have c6b0 := decide_eq_true c6; clear c6
              by_cases c7 : 0 ≤ x8_2
              · rw [if_pos c7] at H; have c7b0 := decide_eq_true c7; clear c7
                by_cases c8 : x8_2 < (x5_1.length : Int)
                · rw [if_pos c8] at H; have c8b0 := decide_eq_true c8; clear c8; replace H := oa H; obtain ⟨t681, A9, H⟩ := H; (try dsimp only at H)
                  by_cases c10 : x7_2 < 0
                  · rw [if_pos c10] at H; have c10b0 := decide_eq_true c10; clear c10; have H' := m0 H; clear H
                    try go_wp2
                    replace HO_5 := m0 (Kd.R_drew HO_5.out); replace HB := sd HB; obtain ⟨Ao12, co12, eo12⟩ := Kd.R_slice HO_5.out; subst eo12; have p680 : 0 ≤ (x8_2 : Int) := od; have q680 : x8_2 < (x5_1.length : Int) := od; obtain ⟨ad680, e680, hx680_0⟩ := Kd.at_int (Kd.R_reads' HO_5.out).2.2 x8_2 p680 q680
                    cases e680
                    replace p680 := eq_true p680; replace q680 := eq_true q680; refine start_ (n := 13) (S := fun w' => w'.cell? (ad680.add (x8_2).toNat) = some (.int .i64 (rd x5_1 x8_2))) (ds := []) _ (by kernel_rfl) rfl rfl (hx680_0) (fun hH => ?_); refine with_tabW Rf_Potentials.tab9 Rf_Potentials.bits9 (fun HT_ HW_ => ?_); generalize wr.drew = w11 at HO_5 HB hx680_0 hH ⊢; refine pZ 0 (some 22) (bs 13 1) HT_ ?_; refine pZ 1 (some 23) (bs 13 3) HT_ ?_; refine pZ 2 (some 24) (bs 13 7) HT_ ?_; refine pZ 4 (some 26) (bs 13 23) HT_ ?_; refine pZ 5 (some 27) (bs 13 55) HT_ ?_; refine pZ 6 (some 28) (bs 13 119) HT_ ?_; refine pZ 7 (some 29) (bs 13 247) HT_ ?_; refine pZ 10 (some 32) (bs 13 1271) HT_ ?_; refine take_ (i := 3) (N := some 25) (v := ?_) (a' := ?_) (bs 13 1279) rfl rfl (tw HT_ HW_) (fun _ _ _ h => h) (Or.inl ⟨by rfl, ?_⟩) hH ?_ ?_; rotate_left
                    · intro w' s0
                      go_simp
                      with_reducible rfl
                    rotate_left
                    · exact pz
                    refine oneZ 8 (some 30) (bs 13 1535) (o1 HT_) fun K hK => ?_; refine gz Try.func37 #[.slice A0 l0.length c0, .int .i64 x8_2, .int .i64 (wrap64 (x6_1 - 1))] ?_
                    with_reducible refine (Rf_Cost.calls k2 _ _ l0 x8_2 (wrap64 (x6_1 - 1)) t681 _ ?side1 ?side2 A9.out).mono ?_
                    (case side1 => exact cb HR0 HB)
                    (case side2 => exact HC0.out)
                    rintro e w13 ⟨rfl, hb⟩; have HS0_ := (hb.cell (World.block_lt_of_cell? _ _ (hH))).trans (hH); refine ⟨_, rfl, ?_⟩; replace HO_5 := rb HO_5 hb; replace HB := sb HB hb; (try clear hb); refine hK.out _ _ (HS0_) (fun hH => ?_); clear hK K; refine nz 30 ?_; refine pZ 9 (some 31) (bs 13 2047) HT_ ?_; refine pZ 11 (some 33) (bs 13 4095) HT_ ?_; refine pZ 12 (some 9) (bs 13 8191) HT_ ?_; refine done_ (done_of HT_.out (by kernel_rfl)) ?_
                    try go_wp2
                    go_roundg k2
                    case measure => have := HK1.out; have := HK2.out; omega
                    case rel => exact ⟨(wrap64 ((wrap64 ((rd x5_1 x8_2) + t681)) + a1)), (wrap64 (x8_2 + 1)), rz, rz, H', ⟨by have := HK1.out; have := HK2.out; omega⟩, ⟨br HO_5.out⟩, ⟨bz⟩⟩
                  · rw [if_neg c10] at H; have c10b0 := decide_eq_false c10; clear c10
                    by_cases c14 : (wrap64 ((wrap64 ((rd x5_1 x8_2) + t681)) + a1)) < x7_2
                    · rw [if_pos c14] at H; have c14b0 := decide_eq_true c14; clear c14; have H' := m0 H; clear H
                      try go_wp2
                      replace HO_5 := m0 (Kd.R_drew HO_5.out); replace HB := sd HB; obtain ⟨Ao16, co16, eo16⟩ := Kd.R_slice HO_5.out; subst eo16; have p680 : 0 ≤ (x8_2 : Int) := od; have q680 : x8_2 < (x5_1.length : Int) := od; obtain ⟨ad680, e680, hx680_0⟩ := Kd.at_int (Kd.R_reads' HO_5.out).2.2 x8_2 p680 q680
                      cases e680
                      replace p680 := eq_true p680; replace q680 := eq_true q680; refine start_ (n := 13) (S := fun w' => w'.cell? (ad680.add (x8_2).toNat) = some (.int .i64 (rd x5_1 x8_2))) (ds := []) _ (by kernel_rfl) rfl rfl (hx680_0) (fun hH => ?_); refine with_tabW Rf_Potentials.tab9 Rf_Potentials.bits9 (fun HT_ HW_ => ?_); generalize wr.drew = w15 at HO_5 HB hx680_0 hH ⊢; refine pZ 0 (some 22) (bs 13 1) HT_ ?_; refine pZ 1 (some 23) (bs 13 3) HT_ ?_; refine pZ 2 (some 24) (bs 13 7) HT_ ?_; refine pZ 4 (some 26) (bs 13 23) HT_ ?_; refine pZ 5 (some 27) (bs 13 55) HT_ ?_; refine pZ 6 (some 28) (bs 13 119) HT_ ?_; refine pZ 7 (some 29) (bs 13 247) HT_ ?_; refine pZ 10 (some 32) (bs 13 1271) HT_ ?_; refine take_ (i := 3) (N := some 25) (v := ?_) (a' := ?_) (bs 13 1279) rfl rfl (tw HT_ HW_) (fun _ _ _ h => h) (Or.inl ⟨by rfl, ?_⟩) hH ?_ ?_; rotate_left
                      · intro w' s0
                        go_simp
                        with_reducible rfl
                      rotate_left
                      · exact pz
                      refine oneZ 8 (some 30) (bs 13 1535) (o1 HT_) fun K hK => ?_; refine gz Try.func37 #[.slice A0 l0.length c0, .int .i64 x8_2, .int .i64 (wrap64 (x6_1 - 1))] ?_
                      with_reducible refine (Rf_Cost.calls k2 _ _ l0 x8_2 (wrap64 (x6_1 - 1)) t681 _ ?side1 ?side2 A9.out).mono ?_
                      (case side1 => exact cb HR0 HB)
                      (case side2 => exact HC0.out)
                      rintro e w17 ⟨rfl, hb⟩; have HS0_ := (hb.cell (World.block_lt_of_cell? _ _ (hH))).trans (hH); refine ⟨_, rfl, ?_⟩; replace HO_5 := rb HO_5 hb; replace HB := sb HB hb; (try clear hb); refine hK.out _ _ (HS0_) (fun hH => ?_); clear hK K; refine nz 30 ?_; refine pZ 9 (some 31) (bs 13 2047) HT_ ?_; refine pZ 11 (some 33) (bs 13 4095) HT_ ?_; refine pZ 12 (some 9) (bs 13 8191) HT_ ?_; refine done_ (done_of HT_.out (by kernel_rfl)) ?_
                      try go_wp2
                      go_roundg k2
                      case measure => have := HK1.out; have := HK2.out; omega
                      case rel => exact ⟨(wrap64 ((wrap64 ((rd x5_1 x8_2) + t681)) + a1)), (wrap64 (x8_2 + 1)), rz, rz, H', ⟨by have := HK1.out; have := HK2.out; omega⟩, ⟨br HO_5.out⟩, ⟨bz⟩⟩
                    · rw [if_neg c14] at H; have c14b0 := decide_eq_false c14; clear c14; have H' := m0 H; clear H
                      try go_wp2
                      replace HO_5 := m0 (Kd.R_drew HO_5.out); replace HB := sd HB; obtain ⟨Ao19, co19, eo19⟩ := Kd.R_slice HO_5.out; subst eo19; have p680 : 0 ≤ (x8_2 : Int) := od; have q680 : x8_2 < (x5_1.length : Int) := od; obtain ⟨ad680, e680, hx680_0⟩ := Kd.at_int (Kd.R_reads' HO_5.out).2.2 x8_2 p680 q680
                      cases e680
                      replace p680 := eq_true p680; replace q680 := eq_true q680; refine start_ (n := 13) (S := fun w' => w'.cell? (ad680.add (x8_2).toNat) = some (.int .i64 (rd x5_1 x8_2))) (ds := []) _ (by kernel_rfl) rfl rfl (hx680_0) (fun hH => ?_); refine with_tabW Rf_Potentials.tab9 Rf_Potentials.bits9 (fun HT_ HW_ => ?_); generalize wr.drew = w18 at HO_5 HB hx680_0 hH ⊢; refine pZ 0 (some 22) (bs 13 1) HT_ ?_; refine pZ 1 (some 23) (bs 13 3) HT_ ?_; refine pZ 2 (some 24) (bs 13 7) HT_ ?_; refine pZ 4 (some 26) (bs 13 23) HT_ ?_; refine pZ 5 (some 27) (bs 13 55) HT_ ?_; refine pZ 6 (some 28) (bs 13 119) HT_ ?_; refine pZ 7 (some 29) (bs 13 247) HT_ ?_; refine pZ 10 (some 32) (bs 13 1271) HT_ ?_; refine take_ (i := 3) (N := some 25) (v := ?_) (a' := ?_) (bs 13 1279) rfl rfl (tw HT_ HW_) (fun _ _ _ h => h) (Or.inl ⟨by rfl, ?_⟩) hH ?_ ?_; rotate_left
                      · intro w' s0
                        go_simp
                        with_reducible rfl
                      rotate_left
                      · exact pz
                      refine oneZ 8 (some 30) (bs 13 1535) (o1 HT_) fun K hK => ?_; refine gz Try.func37 #[.slice A0 l0.length c0, .int .i64 x8_2, .int .i64 (wrap64 (x6_1 - 1))] ?_
                      with_reducible refine (Rf_Cost.calls k2 _ _ l0 x8_2 (wrap64 (x6_1 - 1)) t681 _ ?side1 ?side2 A9.out).mono ?_
                      (case side1 => exact cb HR0 HB)
                      (case side2 => exact HC0.out)
                      rintro e w20 ⟨rfl, hb⟩; have HS0_ := (hb.cell (World.block_lt_of_cell? _ _ (hH))).trans (hH); refine ⟨_, rfl, ?_⟩; replace HO_5 := rb HO_5 hb; replace HB := sb HB hb; (try clear hb); refine hK.out _ _ (HS0_) (fun hH => ?_); clear hK K; refine nz 30 ?_; refine pZ 9 (some 31) (bs 13 2047) HT_ ?_; refine pZ 11 (some 33) (bs 13 4095) HT_ ?_; refine pZ 12 (some 9) (bs 13 8191) HT_ ?_; refine done_ (done_of HT_.out (by kernel_rfl)) ?_
                      try go_wp2
                      go_roundg k2
                      case measure => have := HK1.out; have := HK2.out; omega
                      case rel => exact ⟨(x7_2), (wrap64 (x8_2 + 1)), rz, rz, H', ⟨by have := HK1.out; have := HK2.out; omega⟩, ⟨br HO_5.out⟩, ⟨bz⟩⟩
                · rw [if_neg c8] at H; exact absurd H (by simp)
              · rw [if_neg c7] at H; exact absurd H (by simp)
            · rw [if_neg c6] at H; have c6b0 := decide_eq_false c6; clear c6
              by_cases c21 : x5_1.length < 17592186044416
              · rw [if_pos c21] at H; have LMc21 := m0 c21; clear c21; obtain ⟨y682, hy682⟩ : ∃ y_ : List Int, y_ = (x5_1 ++ [x7_2]) := ⟨_, rfl⟩; replace H : (Rf_Potentials.l0 k2 l0 a1 y682 (wrap64 (x6_1 + 1))) = some r := by first | (rw [hy682]; with_reducible exact H) | (have H2_ := (Option.bind_some _ _).symm.trans H; rw [hy682]; with_reducible exact H2_) | (have H2_ := (Option.bind_some _ _).symm.trans H; with_reducible exact H2_) | with_reducible exact H | (rw [hy682]; exact H) | exact H
                have Ny682 := m0 hy682; clear hy682; have H' := m0 H; clear H
                go_wp2_with (first | ((with_reducible refine gate_builtin (b := .append) (xs := #[.tmp 42, .tmp 44]) rfl ?_); at_builtin; refine Kd.R_append (Kd.int .i64) (w0 := w) w.heap.size rfl (.tmp 42) (.tmp 44) 41 3 (.int .i64 0) 8 rfl Try.underlying41 info3 rfl (by decide) (by omega) u5 x5_1 x7_2 [.int .i64 x7_2] (fun _ => True) (fun _ => False) rfl rfl ?aP (fun _ hk => hk.elim) ?aF ?aO ?aB ?aS ?aL ?_; (case aP => exact rfl); (case aB => exact bz); (case aF => exact (fun _ _ => trivial)); (case aO => exact (br HO_5.out)); (case aS => exact (below_size bz)); (case aL => have := LMc21.out; omega); intro v683 w22 ho hb hg hat; rw [← Ny682.out] at ho; have n0_ := m0 (hb); have n1_ := m0 (ho); clear HB; clear HO_5; have HB := n0_; have HO684 := n1_; clear n0_ n1_; clear ho hb hg hat))
                go_roundg k2
                case measure => have := HK1.out; have := HK2.out; omega
                case rel => exact ⟨(y682), (wrap64 (x6_1 + 1)), rz, H', ⟨by have := HK1.out; have := HK2.out; omega⟩, ⟨br HO684.out⟩, ⟨bz⟩⟩
              · rw [if_neg c21] at H; exact absurd H (by simp)
      · rw [if_neg c5] at H; have c5b0 := decide_eq_false c5; clear c5; obtain rfl := Option.some.inj H
        go_wp2
        go_ret
        exact ⟨_, by first | rfl | (simp [errW_none, errW_some] <;> rfl) | (simp [*, errW_none, errW_some] <;> rfl), by (with_reducible repeat (first | apply Kd.R_alloc | apply Kd.R_drewN | apply Kd.R_drew)); exact HO_5.out, by repeat (first | (with_reducible first | exact HB.out | apply below_alloc | apply pw_below_drewN | apply below_drew1) | exact HB.out)⟩
end
section
mutual
def Lw_CloudSegments.j0 : Nat → List Int → Int → Int → Int → List Int → Int → Int → List Int → Int → Int → Int → Int → Int → Option (Bool)
  | 0, _, _, _, _, _, _, _, _, _, _, _, _, _ => none
  | k + 1, x0, x1, x7, x8, x9, x10, x11, x12, x13, x14, x15, x686000, x686001 => if x15 = 0 then (if x8 = 0 then ((Rf_Cost.f k x0 x686000 x686001).bind fun t710 => (Lw_CloudSegments.j1 k x0 x1 x9 x10 x11 x12 x13 x14 (x7 != t710))) else (Lw_CloudSegments.j1 k x0 x1 x9 x10 x11 x12 x13 x14 true)) else (if x8 = x15 then (if x7 = 0 then (Lw_CloudSegments.j1 k x0 x1 x9 x10 x11 x12 x13 x14 false) else (Lw_CloudSegments.j1 k x0 x1 x9 x10 x11 x12 x13 x14 true)) else (Lw_CloudSegments.j1 k x0 x1 x9 x10 x11 x12 x13 x14 true))
def Lw_CloudSegments.j1 : Nat → List Int → Int → List Int → Int → Int → List Int → Int → Int → Bool → Option (Bool)
  | 0, _, _, _, _, _, _, _, _, _ => none
  | k + 1, x0, x1, x9, x10, x11, x12, x13, x14, x81 => if x81 = true then (some false) else ((Rf_PenaltyErr.f x1).bind fun t711 => ((Lw_both.f x14 t711).bind fun t712 => (if t712 = 0 then ((Rf_Segments.f k x0 x1).bind fun bt713 => (if x11 = 0 then ((Bs_Ints.f k x9 bt713.1).bind fun t717 => (if t717 = true then (if x10 = bt713.2 then (if x13 = 0 then ((Rf_Potentials.f k x0 x1).bind fun t718 => ((Bs_Ints.f k x12 t718).bind fun t721 => (some t721))) else (some false)) else (some false)) else (some false))) else (some false))) else (if x11 = t712 then (if (x9.length : Int) = 0 then (if x10 = 0 then (if x13 = t712 then (some ((x12.length : Int) == 0)) else (some false)) else (some false)) else (some false)) else (some false)))))
end
def Lw_CloudSegments.f (k : Nat) (l0 : List Int) (a1 : Int) (a2_0 : Int) (a2_1 : Int) : Option (Bool) := (Lw_awake.f k).bind fun t686 => (if t686 = true then ((Lw_few.f l0).bind fun t687 => (if t687 = true then ((Bs_CopyInts.f l0).bind fun t688 => ((L_SegmentCost.f k t688 a2_0 a2_1).bind fun bt691 => ((Bs_CopyInts.f l0).bind fun t693 => ((L_SegmentsOf.f k t693 a1).bind fun bt696 => ((Bs_CopyInts.f l0).bind fun t701 => ((L_PotentialsOf.f k t701 a1).bind fun bt704 => ((Rf_ProfileErr.f k l0).bind fun t708 => (if t708 = 0 then ((Rf_SegmentErr.f k l0 a2_0 a2_1).bind fun t709 => (Lw_CloudSegments.j0 k l0 a1 bt691.1 bt691.2 bt696.1 bt696.2.1 bt696.2.2 bt704.1 bt704.2 t708 t709 a2_0 a2_1)) else (Lw_CloudSegments.j0 k l0 a1 bt691.1 bt691.2 bt696.1 bt696.2.1 bt696.2.2 bt704.1 bt704.2 t708 t708 a2_0 a2_1))))))))) else (some true))) else (some false))
theorem Lw_CloudSegments.mono_l : ∀ k, (∀ y0 y1 y2 y3 y4 y5 y6 y7 y8 y9 y10 y11 y12, LeO (Lw_CloudSegments.j0 k y0 y1 y2 y3 y4 y5 y6 y7 y8 y9 y10 y11 y12) (Lw_CloudSegments.j0 (k + 1) y0 y1 y2 y3 y4 y5 y6 y7 y8 y9 y10 y11 y12)) ∧ (∀ y0 y1 y2 y3 y4 y5 y6 y7 y8, LeO (Lw_CloudSegments.j1 k y0 y1 y2 y3 y4 y5 y6 y7 y8) (Lw_CloudSegments.j1 (k + 1) y0 y1 y2 y3 y4 y5 y6 y7 y8))
  | 0 => ⟨fun _ _ _ _ _ _ _ _ _ _ _ _ _ r h => by simp [Lw_CloudSegments.j0] at h, fun _ _ _ _ _ _ _ _ _ r h => by simp [Lw_CloudSegments.j1] at h⟩
  | k + 1 => by
    obtain ⟨ih0, ih1⟩ := Lw_CloudSegments.mono_l k; refine ⟨?_, ?_⟩
    · intro y0 y1 y2 y3 y4 y5 y6 y7 y8 y9 y10 y11 y12; unfold Lw_CloudSegments.j0
      repeat' with_reducible first
        | exact ih0 ..
        | exact ih1 ..
        | exact L_PotentialsOf.mono ..
        | exact L_SegmentCost.mono ..
        | exact L_SegmentsOf.mono ..
        | exact Bs_Ints.mono ..
        | exact Lw_awake.mono ..
        | exact Rf_Cost.mono ..
        | exact Rf_Potentials.mono ..
        | exact Rf_ProfileErr.mono ..
        | exact Rf_SegmentErr.mono ..
        | exact Rf_Segments.mono ..
        | exact LeO.refl ..
        | exact LeO.none ..
        | refine LeO.ite ?_ ?_
        | refine LeO.bind ?_ (fun _ => ?_)
    · intro y0 y1 y2 y3 y4 y5 y6 y7 y8; unfold Lw_CloudSegments.j1
      repeat' with_reducible first
        | exact ih0 ..
        | exact ih1 ..
        | exact L_PotentialsOf.mono ..
        | exact L_SegmentCost.mono ..
        | exact L_SegmentsOf.mono ..
        | exact Bs_Ints.mono ..
        | exact Lw_awake.mono ..
        | exact Rf_Cost.mono ..
        | exact Rf_Potentials.mono ..
        | exact Rf_ProfileErr.mono ..
        | exact Rf_SegmentErr.mono ..
        | exact Rf_Segments.mono ..
        | exact LeO.refl ..
        | exact LeO.none ..
        | refine LeO.ite ?_ ?_
        | refine LeO.bind ?_ (fun _ => ?_)
theorem Lw_CloudSegments.mono : ∀ a0 a1 a2 a3 k, LeO (Lw_CloudSegments.f k a0 a1 a2 a3) (Lw_CloudSegments.f (k + 1) a0 a1 a2 a3) := by
  intro a0 a1 a2 a3 k; obtain ⟨ih0, ih1⟩ := Lw_CloudSegments.mono_l k; unfold Lw_CloudSegments.f
  repeat' with_reducible first
    | exact ih0 ..
    | exact ih1 ..
    | exact L_PotentialsOf.mono ..
    | exact L_SegmentCost.mono ..
    | exact L_SegmentsOf.mono ..
    | exact Bs_Ints.mono ..
    | exact Lw_awake.mono ..
    | exact Rf_Cost.mono ..
    | exact Rf_Potentials.mono ..
    | exact Rf_ProfileErr.mono ..
    | exact Rf_SegmentErr.mono ..
    | exact Rf_Segments.mono ..
    | exact LeO.refl ..
    | exact LeO.none ..
    | refine LeO.ite ?_ ?_
    | refine LeO.bind ?_ (fun _ => ?_)
def Lw_CloudSegments.T5 : Bool × List (List Nat × List Nat) := (true, [([], []), ([0], [0]), ([], []), ([1, 2, 1], [1, 2]), ([3], [3]), ([4], [4]), ([4], [4]), ([5, 3, 0, 1, 2, 3, 4, 5], [5]), ([6, 7, 0, 1, 2, 3, 4, 5, 6, 7], [6])])
def Lw_CloudSegments.B5 : List Nat := [0, 1, 0, 7, 15, 31, 31, 63, 255]
theorem Lw_CloudSegments.tab5 : rtab .any (opsOf Try.f6 5) = Lw_CloudSegments.T5 := by kernel_rfl
theorem Lw_CloudSegments.bits5 : waitsOk Lw_CloudSegments.T5.2 Lw_CloudSegments.B5 = true := by kernel_rfl
theorem Lw_CloudSegments.calls (k : Nat) (A0 : Option Addr) (c0 : Nat) (l0 : List Int) (a1 : Int) (a2_0 : Int) (a2_1 : Int) (r : Bool) (w : World) (hr0 : Kd.C (Kd.int .i64) w A0 l0.length l0) (hc0 : l0.length ≤ c0) (H : Lw_CloudSegments.f k l0 a1 a2_0 a2_1 = some r) :
    Calls Try.prog 6 #[.slice A0 l0.length c0, .int .i64 a1, .agg #[.int .i64 a2_0, .int .i64 a2_1]] w fun e w' => e = .returned (.bool r) ∧ Below w.heap.size w w' := by
  have hu54 := Try.underlying54; have HR0 := m0 hr0; have HC0 := m0 hc0; clear hr0 hc0; have HB := m0 (Below.refl w.heap.size w); unfold Lw_CloudSegments.f at H; replace H := oa H; obtain ⟨t686, A4, H⟩ := H; (try dsimp only at H)
  by_cases c5 : t686 = true
  · subst c5; rw [if_pos rfl] at H; replace H := oa H; obtain ⟨t687, A6, H⟩ := H; (try dsimp only at H)
    by_cases c7 : t687 = true
    · subst c7; rw [if_pos rfl] at H; replace H := oa H; obtain ⟨t688, A8, H⟩ := H; (try dsimp only at H); replace H := oa H; obtain ⟨⟨t691, t692⟩, A9, H⟩ := H; (try dsimp only at H); replace H := oa H; obtain ⟨t693, A10, H⟩ := H; (try dsimp only at H); replace H := oa H; obtain ⟨⟨t696, t699, t700⟩, A11, H⟩ := H; (try dsimp only at H); replace H := oa H; obtain ⟨t701, A12, H⟩ := H; (try dsimp only at H); replace H := oa H; obtain ⟨⟨t704, t705⟩, A13, H⟩ := H; (try dsimp only at H); replace H := oa H; obtain ⟨t708, A14, H⟩ := H; (try dsimp only at H); have HC15 := m0 H; clear H; go_enter Try.func6, Try.ntmps6
      try go_wp2_with (first | ((with_reducible refine ga 5 rfl ?_); (try (refine gate_guard (by rfl) ?_; dsimp only)); refine be 5 54 #[.int .i64 a2_0, .int .i64 a2_1] ?_; intro gb685 hg w16 hbox hb; have BK685 := m0 hbox; have GE685 := gw w hg; replace HB := sb HB hb; clear hb hbox hg) | ((with_reducible refine gc 11 rfl ?_); refine gl (some 18) Try.func11 #[] ?_; (with_reducible refine (Lw_awake.calls k  true _ A4.out).mono ?_); rintro e w17 ⟨rfl, hb⟩; refine ⟨_, rfl, ?_⟩; replace BK685 := bb BK685 hb; replace HB := sb HB hb; (try clear hb)) | ((with_reducible refine gc 31 rfl ?_); refine gl (some 21) Try.func31 #[.slice A0 l0.length c0] ?_; (with_reducible refine (Lw_few.calls _ _ l0 true _ ?side1 ?side2 A6.out).mono ?_); (case side1 => exact cb HR0 HB); (case side2 => exact HC0.out); rintro e w' ⟨rfl, ⟨nd, rfl⟩⟩; refine ⟨_, rfl, ?_⟩))
      (try (rw [drewN_self w17]; generalize hq_ : World.drewN w17 _ = w17; replace BK685 := gd BK685 hq_; replace HB := gs HB hq_; clear hq_))
      replace BK685 := bd BK685; replace HB := sd HB; refine start_ (n := 9) (S := fun w' => w'.cell? ⟨gb685, 0, none⟩ = some (.int .i64 a2_0) ∧ w'.cell? ⟨gb685, 1, none⟩ = some (.int .i64 a2_1)) (ds := []) _ (by kernel_rfl) rfl rfl cz (fun hH => ?_); refine with_tabW Lw_CloudSegments.tab5 Lw_CloudSegments.bits5 (fun HT_ HW_ => ?_); generalize w17.drew = w18 at BK685 HB hH ⊢; refine pZ 0 (some 24) #[true, false, false, false, false, false, false, false, false] HT_ ?_; refine takeZ 2 (some 26) #[true, false, true, false, false, false, false, false, false] (tw HT_ HW_) hH ?_; refine oneZ 1 (some 25) #[true, true, true, false, false, false, false, false, false] (o1 HT_) fun K hK => ?_; refine gz Try.func26 #[.slice A0 l0.length c0] ?_
      with_reducible refine (Bs_CopyInts.calls _ _ l0 t688 _ ?side1 ?side2 A8.out).mono ?_
      (case side1 => exact cb HR0 HB)
      (case side2 => exact HC0.out)
      rintro e w19 ⟨v689, rfl, ho0, hb⟩; refine ⟨_, rfl, ?_⟩; have HO690 := m0 (Kd.R_lower ho0 (below_size bz)); replace BK685 := bb BK685 hb; replace HB := sb HB hb; (try clear hb); (try clear ho0); obtain ⟨Ao20, co20, eo20⟩ := Kd.R_slice HO690.out; subst eo20; refine hK.out _ _ cz (fun hH => ?_); clear hK K; refine nz 25 ?_; refine oneZ 3 (some 27) #[true, true, true, true, false, false, false, false, false] (o1 HT_) fun K hK => ?_; refine gz Try.func32 #[.slice Ao20 t688.length co20, .agg #[.int .i64 a2_0, .int .i64 a2_1]] ?_
      with_reducible refine (L_SegmentCost.calls k _ _ t688 a2_0 a2_1 t691 t692 _ ?side1 ?side2 A9.out).mono ?_
      (case side1 => exact bc (Kd.R_reads' HO690.out).2.2)
      (case side2 => exact (Kd.R_reads' HO690.out).2.1)
      rintro e w21 ⟨rfl, hb⟩; refine ⟨_, rfl, ?_⟩; replace HO690 := rb HO690 hb; replace BK685 := bb BK685 hb; replace HB := sb HB hb; (try clear hb); refine hK.out _ _ cz (fun hH => ?_); clear hK K; refine nz 27 ?_; refine pZ 4 (some 23) #[true, true, true, true, true, false, false, false, false] HT_ ?_; refine pZ 5 (some 28) #[true, true, true, true, true, true, false, false, false] HT_ ?_; refine pZ 6 (some 29) #[true, true, true, true, true, true, true, false, false] HT_ ?_; refine pZ 7 (some 7) #[true, true, true, true, true, true, true, true, false] HT_ ?_; refine pZ 8 (some 8) #[true, true, true, true, true, true, true, true, true] HT_ ?_; refine done_ (done_of HT_.out (by kernel_rfl)) ?_
      go_upto_if 49 with (first | ((with_reducible refine gc 26 rfl ?_); refine gl (some 32) Try.func26 #[.slice A0 l0.length c0] ?_; (with_reducible refine (Bs_CopyInts.calls _ _ l0 t693 _ ?side1 ?side2 A10.out).mono ?_); (case side1 => exact cb HR0 HB); (case side2 => exact HC0.out); rintro e w22 ⟨v694, rfl, ho0, hb⟩; refine ⟨_, rfl, ?_⟩; have HO695 := m0 (Kd.R_lower (Kd.R_new' ho0 (Kd.R_lt (br HO690.out))) (below_size bz)); replace HO690 := m0 (Kd.R_elder' (br HO690.out) (Kd.R_base ho0) hb); replace BK685 := bb BK685 hb; replace HB := sb HB hb; (try clear hb); (try clear ho0); obtain ⟨Ao23, co23, eo23⟩ := Kd.R_slice HO695.out; subst eo23) | ((with_reducible refine gc 33 rfl ?_); refine gl (some 34) Try.func33 #[.slice Ao23 t693.length co23, .int .i64 a1] ?_; (with_reducible refine (L_SegmentsOf.calls k (fun k_ => some k_ = (.slice Ao23 t693.length co23 : Value).ownBlock) _ _ t693 a1 t696 t699 t700 _ ?side1 A11.out).mono ?_); (case side1 => exact Kd.R_V (Kd.R_tight rfl (Kd.R_types (HO695.out) BK685.out (by decide)))); rintro e w24 ⟨v697, rfl, ho0, hb⟩; refine ⟨_, rfl, ?_⟩; have HO698 := hv w (fun k_ => some k_ ≠ (.slice Ao20 t688.length co20 : Value).ownBlock ∧ k_ ≠ gb685) ho0 (fun k_ hk_ => ⟨Or.elim hk_ (fun hs_ => ((Kd.R_types (HO695.out) BK685.out (by decide)).1 k_ hs_.symm).1.2) (fun hn_ => (Kd.fresh' (Kd.R_lt (br HO690.out)) k_ hn_)), Or.elim hk_ (fun hs_ => ((Kd.R_types (HO695.out) BK685.out (by decide)).1 k_ hs_.symm).2) (fb BK685 ·)⟩); replace HO690 := rb HO690 hb; replace HO695 := rb HO695 hb; replace BK685 := bb BK685 hb; replace HB := sb HB hb; (try clear hb); (try clear ho0)) | ((with_reducible refine gc 26 rfl ?_); refine gl (some 40) Try.func26 #[.slice A0 l0.length c0] ?_; (with_reducible refine (Bs_CopyInts.calls _ _ l0 t701 _ ?side1 ?side2 A12.out).mono ?_); (case side1 => exact cb HR0 HB); (case side2 => exact HC0.out); rintro e w25 ⟨v702, rfl, ho0, hb⟩; refine ⟨_, rfl, ?_⟩; replace HO698 := m0 (Kd.V_elder' (by (with_reducible repeat (first | apply Kd.V_alloc | apply Kd.V_drewN | apply Kd.V_drew)); exact HO698.out) (Kd.R_base ho0) hb); have HO703 := m0 (Kd.R_lower (Kd.R_new' (Kd.R_new' ho0 (Kd.R_lt (br HO690.out))) (Kd.R_lt (br HO695.out))) (below_size bz)); replace HO690 := m0 (Kd.R_elder' (br HO690.out) (Kd.R_base ho0) hb); replace HO695 := m0 (Kd.R_elder' (br HO695.out) (Kd.R_base ho0) hb); replace BK685 := bb BK685 hb; replace HB := sb HB hb; (try clear hb); (try clear ho0); obtain ⟨Ao26, co26, eo26⟩ := Kd.R_slice HO703.out; subst eo26) | ((with_reducible refine gc 34 rfl ?_); refine gl (some 42) Try.func34 #[.slice Ao26 t701.length co26, .int .i64 a1] ?_; (with_reducible refine (L_PotentialsOf.calls k _ _ t701 a1 t704 t705 _ ?side1 ?side2 A13.out).mono ?_); (case side1 => exact bc (Kd.R_reads' HO703.out).2.2); (case side2 => exact (Kd.R_reads' HO703.out).2.1); rintro e w27 ⟨v706, rfl, ho0, hb⟩; refine ⟨_, rfl, ?_⟩; replace HO698 := m0 (Kd.V_elder' (by (with_reducible repeat (first | apply Kd.V_alloc | apply Kd.V_drewN | apply Kd.V_drew)); exact HO698.out) (Kd.R_base ho0) hb); have HO707 := m0 (Kd.R_lower (Kd.R_new' (Kd.R_new' (Kd.R_new' ho0 (Kd.R_lt (br HO690.out))) (Kd.R_lt (br HO695.out))) (Kd.R_lt (br HO703.out))) (below_size bz)); replace HO690 := m0 (Kd.R_elder' (br HO690.out) (Kd.R_base ho0) hb); replace HO695 := m0 (Kd.R_elder' (br HO695.out) (Kd.R_base ho0) hb); replace HO703 := m0 (Kd.R_elder' (br HO703.out) (Kd.R_base ho0) hb); replace BK685 := bb BK685 hb; replace HB := sb HB hb; (try clear hb); (try clear ho0)) | ((with_reducible refine gc 35 rfl ?_); refine gl (some 46) Try.func35 #[.slice A0 l0.length c0] ?_; (with_reducible refine (Rf_ProfileErr.calls k _ _ l0 t708 _ ?side1 ?side2 A14.out).mono ?_); (case side1 => exact cb HR0 HB); (case side2 => exact HC0.out); rintro e w' ⟨rfl, ⟨nd, rfl⟩⟩; refine ⟨_, rfl, ?_⟩))
      (try simp only [Act.put, List.setIfInBounds_toArray, List.set_cons_zero, List.set_cons_succ])
      go_cut [15] (fun v15 wc => ∃ (kq : Nat) (x15_14 : Int), v15 = .int .i64 x15_14 ∧ Aside0 (Lw_CloudSegments.j0 kq l0 a1 t691 t692 t696 t699 t700 t704 t705 t708 x15_14 a2_0 a2_1 = some r) ∧ Aside0 (kq ≤ k) ∧ Aside0 (Kd.V (Kd.int .i64) 3 wc w.heap.size (fun k_ => some k_ ≠ (v706 : Value).ownBlock ∧ k_ ≠ gb685) v697 t696) ∧ Aside0 (Kd.R (Kd.int .i64) 3 wc w.heap.size (fun _ => True) v706 t704) ∧ Aside0 (wc.heap[gb685]? = some (.cells #[.int .i64 a2_0, .int .i64 a2_1] 54 (0, 0))) ∧ Aside0 (Below w.heap.size w wc))
      case first =>
        have H := HC15.out; clear HC15
        by_cases c28 : t708 = 0
        · rw [if_pos c28] at H; have c28b0 := beq_iff_eq.mpr c28; have c28b1 := bne_eq_false_iff_eq.mpr c28; clear c28
          (first | rw [c28b0] | (simp only [i64_w, i32_w]; rw [c28b0]) | skip)
          replace H := oa H; obtain ⟨t709, A29, H⟩ := H; (try dsimp only at H); have H' := m0 H; clear H; obtain ⟨hcz30_0, hcz30_1, hfz30_0, hfz30_1⟩ := b2 BK685
          go_wp2_with (first | ((with_reducible refine gc 36 rfl ?_); refine gl (some 52) Try.func36 #[.slice A0 l0.length c0, .agg #[.int .i64 a2_0, .int .i64 a2_1]] ?_; (with_reducible refine (Rf_SegmentErr.calls k _ _ l0 a2_0 a2_1 t709 _ ?side1 ?side2 A29.out).mono ?_); (case side1 => exact cb HR0 HB); (case side2 => exact HC0.out); rintro e w31 ⟨rfl, hb⟩; refine ⟨_, rfl, ?_⟩; replace HO690 := rb HO690 hb; replace HO695 := rb HO695 hb; replace HO698 := vb HO698 hb; replace HO703 := rb HO703 hb; replace HO707 := rb HO707 hb; replace BK685 := bb BK685 hb; replace HB := sb HB hb; (try clear hb)))
          go_meet
          case rel => exact ⟨_, (t709), rz, H', ⟨by first | omega | exact Nat.le_refl _⟩, ⟨by (with_reducible repeat (first | apply Kd.V_alloc | apply Kd.V_drewN | apply Kd.V_drew)); exact Kd.V_mono HO698.out (fun _ hk => ⟨hk.2, hk.1.1.2⟩)⟩, ⟨by (with_reducible repeat (first | apply Kd.R_alloc | apply Kd.R_drewN | apply Kd.R_drew)); exact Kd.R_mono HO707.out (fun _ hk => trivial)⟩, ⟨bk BK685.out⟩, ⟨bz⟩⟩
        · rw [if_neg c28] at H; have c28b0 := beq_eq_false_iff_ne.mpr c28; have c28b1 := bne_iff_ne.mpr c28
          (first | rw [c28b0] | (simp only [i64_w, i32_w]; rw [c28b0]) | skip)
          have H' := m0 H; clear H
          go_wp2
          go_meet
          case rel => exact ⟨_, (t708), rz, H', ⟨by first | omega | exact Nat.le_refl _⟩, ⟨by (with_reducible repeat (first | apply Kd.V_alloc | apply Kd.V_drewN | apply Kd.V_drew)); exact Kd.V_mono HO698.out (fun _ hk => ⟨hk.2, hk.1.1.2⟩)⟩, ⟨by (with_reducible repeat (first | apply Kd.R_alloc | apply Kd.R_drewN | apply Kd.R_drew)); exact Kd.R_mono HO707.out (fun _ hk => trivial)⟩, ⟨bk BK685.out⟩, ⟨bz⟩⟩
      case rest =>
        clear HC15
        try clear hcz30_0
        try clear hcz30_1
        try clear hfz30_0
        try clear hfz30_1
        obtain ⟨kq, x15_14, rfl, HA, HJ14, HO_9, HO_12, BK685, HB⟩ := hcut
        cases kq with
        | zero => exact absurd HA.out (by simp [Lw_CloudSegments.j0])
        | succ kj14 =>
          have H := HA.out; clear HA; simp only [Lw_CloudSegments.j0] at H; have HC32 := m0 H; clear H
          go_upto_region 12 with (fail)
          go_cut [81] (fun v81 wc => ∃ (kq : Nat) (x81_31 : Bool), v81 = .bool x81_31 ∧ Aside0 (Lw_CloudSegments.j1 kq l0 a1 t696 t699 t700 t704 t705 t708 x81_31 = some r) ∧ Aside0 (kq ≤ kj14) ∧ Aside0 (Kd.V (Kd.int .i64) 3 wc w.heap.size (fun k_ => some k_ ≠ (v706 : Value).ownBlock ∧ k_ ≠ gb685) v697 t696) ∧ Aside0 (Kd.R (Kd.int .i64) 3 wc w.heap.size (fun _ => True) v706 t704) ∧ Aside0 (wc.heap[gb685]? = some (.cells #[.int .i64 a2_0, .int .i64 a2_1] 54 (0, 0))) ∧ Aside0 (Below w.heap.size w wc))
          case first =>
            have H := HC32.out; clear HC32
            by_cases c33 : x15_14 = 0
            · rw [if_pos c33] at H; have c33b0 := beq_iff_eq.mpr c33; have c33b1 := bne_eq_false_iff_eq.mpr c33; clear c33
              (first | rw [c33b0] | (simp only [i64_w, i32_w]; rw [c33b0]) | skip)
              by_cases c34 : t692 = 0
              · rw [if_pos c34] at H; have c34b0 := beq_iff_eq.mpr c34; have c34b1 := bne_eq_false_iff_eq.mpr c34; clear c34; replace H := oa H; obtain ⟨t710, A35, H⟩ := H; (try dsimp only at H); have H' := m0 H; clear H; obtain ⟨hcz36_0, hcz36_1, hfz36_0, hfz36_1⟩ := b2 BK685
                go_wp2_with (first | (go_at_call 37; (with_reducible refine (Rf_Cost.calls kj14 _ _ l0 a2_0 a2_1 t710 _ ?side1 ?side2 A35.out).mono ?_); (case side1 => exact cb HR0 HB); (case side2 => exact HC0.out); rintro e w37 ⟨rfl, hb⟩; replace HO_9 := vb HO_9 hb; replace HO_12 := rb HO_12 hb; replace BK685 := bb BK685 hb; replace HB := sb HB hb; (try clear hb)))
                go_meet
                case rel => exact ⟨_, ((t691 != t710)), rz, H', ⟨by have := HJ14.out; first | omega | exact Nat.le_refl _⟩, ⟨by (with_reducible repeat (first | apply Kd.V_alloc | apply Kd.V_drewN | apply Kd.V_drew)); exact HO_9.out⟩, ⟨br HO_12.out⟩, ⟨bk BK685.out⟩, ⟨bz⟩⟩
              · rw [if_neg c34] at H; have c34b0 := beq_eq_false_iff_ne.mpr c34; have c34b1 := bne_iff_ne.mpr c34; have H' := m0 H; clear H
                go_wp2
                go_meet
                case rel => exact ⟨_, (true), rz, H', ⟨by have := HJ14.out; first | omega | exact Nat.le_refl _⟩, ⟨by (with_reducible repeat (first | apply Kd.V_alloc | apply Kd.V_drewN | apply Kd.V_drew)); exact HO_9.out⟩, ⟨br HO_12.out⟩, ⟨bk BK685.out⟩, ⟨bz⟩⟩
            · rw [if_neg c33] at H; have c33b0 := beq_eq_false_iff_ne.mpr c33; have c33b1 := bne_iff_ne.mpr c33
              (first | rw [c33b0] | (simp only [i64_w, i32_w]; rw [c33b0]) | skip)
              by_cases c38 : t692 = x15_14
              · rw [if_pos c38] at H; have c38b0 := beq_iff_eq.mpr c38; have c38b1 := bne_eq_false_iff_eq.mpr c38; clear c38
                by_cases c39 : t691 = 0
                · rw [if_pos c39] at H; have c39b0 := beq_iff_eq.mpr c39; have c39b1 := bne_eq_false_iff_eq.mpr c39; clear c39; have H' := m0 H; clear H
                  go_wp2
                  go_meet
                  case rel => exact ⟨_, (false), rz, H', ⟨by have := HJ14.out; first | omega | exact Nat.le_refl _⟩, ⟨by (with_reducible repeat (first | apply Kd.V_alloc | apply Kd.V_drewN | apply Kd.V_drew)); exact HO_9.out⟩, ⟨br HO_12.out⟩, ⟨bk BK685.out⟩, ⟨bz⟩⟩
                · rw [if_neg c39] at H; have c39b0 := beq_eq_false_iff_ne.mpr c39; have c39b1 := bne_iff_ne.mpr c39; have H' := m0 H; clear H
                  go_wp2
                  go_meet
                  case rel => exact ⟨_, (true), rz, H', ⟨by have := HJ14.out; first | omega | exact Nat.le_refl _⟩, ⟨by (with_reducible repeat (first | apply Kd.V_alloc | apply Kd.V_drewN | apply Kd.V_drew)); exact HO_9.out⟩, ⟨br HO_12.out⟩, ⟨bk BK685.out⟩, ⟨bz⟩⟩
              · rw [if_neg c38] at H; have c38b0 := beq_eq_false_iff_ne.mpr c38; have c38b1 := bne_iff_ne.mpr c38; have H' := m0 H; clear H
                go_wp2
                go_meet
                case rel => exact ⟨_, (true), rz, H', ⟨by have := HJ14.out; first | omega | exact Nat.le_refl _⟩, ⟨by (with_reducible repeat (first | apply Kd.V_alloc | apply Kd.V_drewN | apply Kd.V_drew)); exact HO_9.out⟩, ⟨br HO_12.out⟩, ⟨bk BK685.out⟩, ⟨bz⟩⟩
          case rest =>
            clear HC32
            try clear hcz30_0
            try clear hcz30_1
            try clear hcz36_0
            try clear hcz36_1
            try clear hfz30_0
            try clear hfz30_1
            try clear hfz36_0
            try clear hfz36_1
            obtain ⟨kq, x81_31, rfl, HA, HJ31, HO_9, HO_12, BK685, HB⟩ := hcut
            cases kq with
            | zero => exact absurd HA.out (by simp [Lw_CloudSegments.j1])
            | succ kj31 =>
              have H := HA.out; clear HA; simp only [Lw_CloudSegments.j1] at H
              by_cases c40 : x81_31 = true
              · subst c40; rw [if_pos rfl] at H; obtain rfl := Option.some.inj H
                go_wp2
                go_ret
                exact ez
              · replace c40 := Bool.eq_false_iff.mpr c40; subst c40; rw [if_neg (show ¬ (false = true) by decide)] at H; replace H := oa H; obtain ⟨t711, A41, H⟩ := H; (try dsimp only at H); replace H := oa H; obtain ⟨t712, A42, H⟩ := H; (try dsimp only at H)
                by_cases c43 : t712 = 0
                · rw [if_pos c43] at H; have c43b0 := beq_iff_eq.mpr c43; have c43b1 := bne_eq_false_iff_eq.mpr c43; clear c43; replace H := oa H; obtain ⟨⟨t713, t714⟩, A44, H⟩ := H; (try dsimp only at H)
                  by_cases c45 : t700 = 0
                  · rw [if_pos c45] at H; have c45b0 := beq_iff_eq.mpr c45; have c45b1 := bne_eq_false_iff_eq.mpr c45; clear c45; replace H := oa H; obtain ⟨t717, A46, H⟩ := H; (try dsimp only at H)
                    by_cases c47 : t717 = true
                    · subst c47; rw [if_pos rfl] at H
                      by_cases c48 : t699 = t714
                      · rw [if_pos c48] at H; have c48b0 := beq_iff_eq.mpr c48; have c48b1 := bne_eq_false_iff_eq.mpr c48; clear c48
                        by_cases c49 : t705 = 0
                        · rw [if_pos c49] at H; have c49b0 := beq_iff_eq.mpr c49; have c49b1 := bne_eq_false_iff_eq.mpr c49; clear c49; replace H := oa H; obtain ⟨t718, A50, H⟩ := H; (try dsimp only at H); replace H := oa H; obtain ⟨t721, A51, H⟩ := H; (try dsimp only at H); obtain rfl := Option.some.inj H
                          go_wp2_with (first | ((with_reducible refine gc 38 rfl ?_); refine gl (some 84) Try.func38 #[.int .i64 a1] ?_; (with_reducible refine (Rf_PenaltyErr.calls a1 t711 _ A41.out).mono ?_); rintro e w' ⟨rfl, ⟨nd, rfl⟩⟩; refine ⟨_, rfl, ?_⟩) | ((with_reducible refine gc 15 rfl ?_); refine gl (some 85) Try.func15 #[.int .i64 t708, .int .i64 t711] ?_; (with_reducible refine (Lw_both.calls t708 t711 t712 _ A42.out).mono ?_); rintro e w' ⟨rfl, ⟨nd, rfl⟩⟩; refine ⟨_, rfl, ?_⟩) | ((with_reducible refine gc 39 rfl ?_); refine gl (some 113) Try.func39 #[.slice A0 l0.length c0, .int .i64 a1] ?_; (with_reducible refine (Rf_Segments.calls kj31 _ _ l0 a1 t713 t714 _ ?side1 ?side2 A44.out).mono ?_); (case side1 => repeat (first | exact (Kd.C_below HR0.out bz) | (with_reducible refine Kd.C_alloc ?_ _) | (with_reducible refine Kd.C_drewN ?_ _) | (with_reducible refine Kd.C_drew ?_))); (case side2 => exact HC0.out); rintro e w52 ⟨v715, rfl, ho0, hb⟩; refine ⟨_, rfl, ?_⟩; replace HO_9 := m0 (Kd.V_elder' (by (with_reducible repeat (first | apply Kd.V_alloc | apply Kd.V_drewN | apply Kd.V_drew)); exact HO_9.out) (Kd.R_base ho0) hb); have HO716 := m0 (Kd.R_lower (Kd.R_new' ho0 (Kd.R_lt (br HO_12.out))) (below_size bz)); replace HO_12 := m0 (Kd.R_elder' (br HO_12.out) (Kd.R_base ho0) hb); replace BK685 := bb BK685 hb; replace HB := sb HB hb; (try clear hb); (try clear ho0); obtain ⟨Ao53, co53, eo53⟩ := Kd.V_slice HO_9.out; subst eo53; obtain ⟨Ao54, co54, eo54⟩ := Kd.R_slice HO716.out; subst eo54) | (go_at_call 40; (with_reducible refine (Bs_Ints.calls kj31 _ _ t696 _ _ t713 true _ ?side1 ?side2 ?side3 ?side4 A46.out).mono ?_); (case side1 => exact bc (Kd.V_reads' HO_9.out).2.2); (case side2 => exact (Kd.V_reads' HO_9.out).2.1); (case side3 => exact bc (Kd.R_reads' HO716.out).2.2); (case side4 => exact (Kd.R_reads' HO716.out).2.1); rintro e w' ⟨rfl, ⟨nd, rfl⟩⟩) | (go_at_call 41; (with_reducible refine (Rf_Potentials.calls kj31 _ _ l0 a1 t718 _ ?side1 ?side2 A50.out).mono ?_); (case side1 => repeat (first | exact (Kd.C_below HR0.out bz) | (with_reducible refine Kd.C_alloc ?_ _) | (with_reducible refine Kd.C_drewN ?_ _) | (with_reducible refine Kd.C_drew ?_))); (case side2 => exact HC0.out); rintro e w55 ⟨v719, rfl, ho0, hb⟩; replace HO_9 := m0 (Kd.V_elder' (by (with_reducible repeat (first | apply Kd.V_alloc | apply Kd.V_drewN | apply Kd.V_drew)); exact HO_9.out) (Kd.R_base ho0) hb); have HO720 := m0 (Kd.R_lower (Kd.R_new' (Kd.R_new' ho0 (Kd.R_lt (br HO_12.out))) (Kd.R_lt (br HO716.out))) (below_size bz)); replace HO_12 := m0 (Kd.R_elder' (br HO_12.out) (Kd.R_base ho0) hb); replace HO716 := m0 (Kd.R_elder' (br HO716.out) (Kd.R_base ho0) hb); replace BK685 := bb BK685 hb; replace HB := sb HB hb; (try clear hb); (try clear ho0); obtain ⟨Ao56, co56, eo56⟩ := Kd.R_slice HO_12.out; subst eo56; obtain ⟨Ao57, co57, eo57⟩ := Kd.R_slice HO720.out; subst eo57) | (go_at_call 40; (with_reducible refine (Bs_Ints.calls kj31 _ _ t704 _ _ t718 t721 _ ?side1 ?side2 ?side3 ?side4 A51.out).mono ?_); (case side1 => exact bc (Kd.R_reads' HO_12.out).2.2); (case side2 => exact (Kd.R_reads' HO_12.out).2.1); (case side3 => exact bc (Kd.R_reads' HO720.out).2.2); (case side4 => exact (Kd.R_reads' HO720.out).2.1); rintro e w' ⟨rfl, ⟨nd, rfl⟩⟩))
                          go_ret
                          exact ez
                        · rw [if_neg c49] at H; have c49b0 := beq_eq_false_iff_ne.mpr c49; have c49b1 := bne_iff_ne.mpr c49; obtain rfl := Option.some.inj H
                          go_wp2_with (first | ((with_reducible refine gc 38 rfl ?_); refine gl (some 84) Try.func38 #[.int .i64 a1] ?_; (with_reducible refine (Rf_PenaltyErr.calls a1 t711 _ A41.out).mono ?_); rintro e w' ⟨rfl, ⟨nd, rfl⟩⟩; refine ⟨_, rfl, ?_⟩) | ((with_reducible refine gc 15 rfl ?_); refine gl (some 85) Try.func15 #[.int .i64 t708, .int .i64 t711] ?_; (with_reducible refine (Lw_both.calls t708 t711 t712 _ A42.out).mono ?_); rintro e w' ⟨rfl, ⟨nd, rfl⟩⟩; refine ⟨_, rfl, ?_⟩) | ((with_reducible refine gc 39 rfl ?_); refine gl (some 113) Try.func39 #[.slice A0 l0.length c0, .int .i64 a1] ?_; (with_reducible refine (Rf_Segments.calls kj31 _ _ l0 a1 t713 t714 _ ?side1 ?side2 A44.out).mono ?_); (case side1 => repeat (first | exact (Kd.C_below HR0.out bz) | (with_reducible refine Kd.C_alloc ?_ _) | (with_reducible refine Kd.C_drewN ?_ _) | (with_reducible refine Kd.C_drew ?_))); (case side2 => exact HC0.out); rintro e w58 ⟨v715, rfl, ho0, hb⟩; refine ⟨_, rfl, ?_⟩; replace HO_9 := m0 (Kd.V_elder' (by (with_reducible repeat (first | apply Kd.V_alloc | apply Kd.V_drewN | apply Kd.V_drew)); exact HO_9.out) (Kd.R_base ho0) hb); have HO716 := m0 (Kd.R_lower (Kd.R_new' ho0 (Kd.R_lt (br HO_12.out))) (below_size bz)); replace HO_12 := m0 (Kd.R_elder' (br HO_12.out) (Kd.R_base ho0) hb); replace BK685 := bb BK685 hb; replace HB := sb HB hb; (try clear hb); (try clear ho0); obtain ⟨Ao59, co59, eo59⟩ := Kd.V_slice HO_9.out; subst eo59; obtain ⟨Ao60, co60, eo60⟩ := Kd.R_slice HO716.out; subst eo60) | (go_at_call 40; (with_reducible refine (Bs_Ints.calls kj31 _ _ t696 _ _ t713 true _ ?side1 ?side2 ?side3 ?side4 A46.out).mono ?_); (case side1 => exact bc (Kd.V_reads' HO_9.out).2.2); (case side2 => exact (Kd.V_reads' HO_9.out).2.1); (case side3 => exact bc (Kd.R_reads' HO716.out).2.2); (case side4 => exact (Kd.R_reads' HO716.out).2.1); rintro e w' ⟨rfl, ⟨nd, rfl⟩⟩))
                          go_ret
                          exact ez
                      · rw [if_neg c48] at H; have c48b0 := beq_eq_false_iff_ne.mpr c48; have c48b1 := bne_iff_ne.mpr c48; obtain rfl := Option.some.inj H
                        go_wp2_with (first | ((with_reducible refine gc 38 rfl ?_); refine gl (some 84) Try.func38 #[.int .i64 a1] ?_; (with_reducible refine (Rf_PenaltyErr.calls a1 t711 _ A41.out).mono ?_); rintro e w' ⟨rfl, ⟨nd, rfl⟩⟩; refine ⟨_, rfl, ?_⟩) | ((with_reducible refine gc 15 rfl ?_); refine gl (some 85) Try.func15 #[.int .i64 t708, .int .i64 t711] ?_; (with_reducible refine (Lw_both.calls t708 t711 t712 _ A42.out).mono ?_); rintro e w' ⟨rfl, ⟨nd, rfl⟩⟩; refine ⟨_, rfl, ?_⟩) | ((with_reducible refine gc 39 rfl ?_); refine gl (some 113) Try.func39 #[.slice A0 l0.length c0, .int .i64 a1] ?_; (with_reducible refine (Rf_Segments.calls kj31 _ _ l0 a1 t713 t714 _ ?side1 ?side2 A44.out).mono ?_); (case side1 => repeat (first | exact (Kd.C_below HR0.out bz) | (with_reducible refine Kd.C_alloc ?_ _) | (with_reducible refine Kd.C_drewN ?_ _) | (with_reducible refine Kd.C_drew ?_))); (case side2 => exact HC0.out); rintro e w61 ⟨v715, rfl, ho0, hb⟩; refine ⟨_, rfl, ?_⟩; replace HO_9 := m0 (Kd.V_elder' (by (with_reducible repeat (first | apply Kd.V_alloc | apply Kd.V_drewN | apply Kd.V_drew)); exact HO_9.out) (Kd.R_base ho0) hb); have HO716 := m0 (Kd.R_lower (Kd.R_new' ho0 (Kd.R_lt (br HO_12.out))) (below_size bz)); replace HO_12 := m0 (Kd.R_elder' (br HO_12.out) (Kd.R_base ho0) hb); replace BK685 := bb BK685 hb; replace HB := sb HB hb; (try clear hb); (try clear ho0); obtain ⟨Ao62, co62, eo62⟩ := Kd.V_slice HO_9.out; subst eo62; obtain ⟨Ao63, co63, eo63⟩ := Kd.R_slice HO716.out; subst eo63) | (go_at_call 40; (with_reducible refine (Bs_Ints.calls kj31 _ _ t696 _ _ t713 true _ ?side1 ?side2 ?side3 ?side4 A46.out).mono ?_); (case side1 => exact bc (Kd.V_reads' HO_9.out).2.2); (case side2 => exact (Kd.V_reads' HO_9.out).2.1); (case side3 => exact bc (Kd.R_reads' HO716.out).2.2); (case side4 => exact (Kd.R_reads' HO716.out).2.1); rintro e w' ⟨rfl, ⟨nd, rfl⟩⟩))
                        go_ret
                        exact ez
                    · replace c47 := Bool.eq_false_iff.mpr c47; subst c47; rw [if_neg (show ¬ (false = true) by decide)] at H; obtain rfl := Option.some.inj H
                      go_wp2_with (first | ((with_reducible refine gc 38 rfl ?_); refine gl (some 84) Try.func38 #[.int .i64 a1] ?_; (with_reducible refine (Rf_PenaltyErr.calls a1 t711 _ A41.out).mono ?_); rintro e w' ⟨rfl, ⟨nd, rfl⟩⟩; refine ⟨_, rfl, ?_⟩) | ((with_reducible refine gc 15 rfl ?_); refine gl (some 85) Try.func15 #[.int .i64 t708, .int .i64 t711] ?_; (with_reducible refine (Lw_both.calls t708 t711 t712 _ A42.out).mono ?_); rintro e w' ⟨rfl, ⟨nd, rfl⟩⟩; refine ⟨_, rfl, ?_⟩) | ((with_reducible refine gc 39 rfl ?_); refine gl (some 113) Try.func39 #[.slice A0 l0.length c0, .int .i64 a1] ?_; (with_reducible refine (Rf_Segments.calls kj31 _ _ l0 a1 t713 t714 _ ?side1 ?side2 A44.out).mono ?_); (case side1 => repeat (first | exact (Kd.C_below HR0.out bz) | (with_reducible refine Kd.C_alloc ?_ _) | (with_reducible refine Kd.C_drewN ?_ _) | (with_reducible refine Kd.C_drew ?_))); (case side2 => exact HC0.out); rintro e w64 ⟨v715, rfl, ho0, hb⟩; refine ⟨_, rfl, ?_⟩; replace HO_9 := m0 (Kd.V_elder' (by (with_reducible repeat (first | apply Kd.V_alloc | apply Kd.V_drewN | apply Kd.V_drew)); exact HO_9.out) (Kd.R_base ho0) hb); have HO716 := m0 (Kd.R_lower (Kd.R_new' ho0 (Kd.R_lt (br HO_12.out))) (below_size bz)); replace HO_12 := m0 (Kd.R_elder' (br HO_12.out) (Kd.R_base ho0) hb); replace BK685 := bb BK685 hb; replace HB := sb HB hb; (try clear hb); (try clear ho0); obtain ⟨Ao65, co65, eo65⟩ := Kd.V_slice HO_9.out; subst eo65; obtain ⟨Ao66, co66, eo66⟩ := Kd.R_slice HO716.out; subst eo66) | (go_at_call 40; (with_reducible refine (Bs_Ints.calls kj31 _ _ t696 _ _ t713 false _ ?side1 ?side2 ?side3 ?side4 A46.out).mono ?_); (case side1 => exact bc (Kd.V_reads' HO_9.out).2.2); (case side2 => exact (Kd.V_reads' HO_9.out).2.1); (case side3 => exact bc (Kd.R_reads' HO716.out).2.2); (case side4 => exact (Kd.R_reads' HO716.out).2.1); rintro e w' ⟨rfl, ⟨nd, rfl⟩⟩))
                      go_ret
                      exact ez
                  · rw [if_neg c45] at H; have c45b0 := beq_eq_false_iff_ne.mpr c45; have c45b1 := bne_iff_ne.mpr c45; obtain rfl := Option.some.inj H
                    go_wp2_with (first | ((with_reducible refine gc 38 rfl ?_); refine gl (some 84) Try.func38 #[.int .i64 a1] ?_; (with_reducible refine (Rf_PenaltyErr.calls a1 t711 _ A41.out).mono ?_); rintro e w' ⟨rfl, ⟨nd, rfl⟩⟩; refine ⟨_, rfl, ?_⟩) | ((with_reducible refine gc 15 rfl ?_); refine gl (some 85) Try.func15 #[.int .i64 t708, .int .i64 t711] ?_; (with_reducible refine (Lw_both.calls t708 t711 t712 _ A42.out).mono ?_); rintro e w' ⟨rfl, ⟨nd, rfl⟩⟩; refine ⟨_, rfl, ?_⟩) | ((with_reducible refine gc 39 rfl ?_); refine gl (some 113) Try.func39 #[.slice A0 l0.length c0, .int .i64 a1] ?_; (with_reducible refine (Rf_Segments.calls kj31 _ _ l0 a1 t713 t714 _ ?side1 ?side2 A44.out).mono ?_); (case side1 => repeat (first | exact (Kd.C_below HR0.out bz) | (with_reducible refine Kd.C_alloc ?_ _) | (with_reducible refine Kd.C_drewN ?_ _) | (with_reducible refine Kd.C_drew ?_))); (case side2 => exact HC0.out); rintro e w67 ⟨v715, rfl, ho0, hb⟩; refine ⟨_, rfl, ?_⟩; replace HO_9 := m0 (Kd.V_elder' (by (with_reducible repeat (first | apply Kd.V_alloc | apply Kd.V_drewN | apply Kd.V_drew)); exact HO_9.out) (Kd.R_base ho0) hb); have HO716 := m0 (Kd.R_lower (Kd.R_new' ho0 (Kd.R_lt (br HO_12.out))) (below_size bz)); replace HO_12 := m0 (Kd.R_elder' (br HO_12.out) (Kd.R_base ho0) hb); replace BK685 := bb BK685 hb; replace HB := sb HB hb; (try clear hb); (try clear ho0)))
                    go_ret
                    exact ez
                · rw [if_neg c43] at H; have c43b0 := beq_eq_false_iff_ne.mpr c43; have c43b1 := bne_iff_ne.mpr c43
                  by_cases c68 : t700 = t712
                  · rw [if_pos c68] at H; have c68b0 := beq_iff_eq.mpr c68; have c68b1 := bne_eq_false_iff_eq.mpr c68; clear c68
                    by_cases c69 : (t696.length : Int) = 0
                    · rw [if_pos c69] at H; have c69b0 := beq_iff_eq.mpr c69; have c69b1 := bne_eq_false_iff_eq.mpr c69; clear c69
                      by_cases c70 : t699 = 0
                      · rw [if_pos c70] at H; have c70b0 := beq_iff_eq.mpr c70; have c70b1 := bne_eq_false_iff_eq.mpr c70; clear c70
                        by_cases c71 : t705 = t712
                        · rw [if_pos c71] at H; have c71b0 := beq_iff_eq.mpr c71; have c71b1 := bne_eq_false_iff_eq.mpr c71; clear c71; obtain rfl := Option.some.inj H
                          go_wp2_with (first | ((with_reducible refine gc 38 rfl ?_); refine gl (some 84) Try.func38 #[.int .i64 a1] ?_; (with_reducible refine (Rf_PenaltyErr.calls a1 t711 _ A41.out).mono ?_); rintro e w' ⟨rfl, ⟨nd, rfl⟩⟩; refine ⟨_, rfl, ?_⟩) | ((with_reducible refine gc 15 rfl ?_); refine gl (some 85) Try.func15 #[.int .i64 t708, .int .i64 t711] ?_; (with_reducible refine (Lw_both.calls t708 t711 t712 _ A42.out).mono ?_); rintro e w' ⟨rfl, ⟨nd, rfl⟩⟩; refine ⟨_, rfl, ?_⟩; obtain ⟨Ao72, co72, eo72⟩ := Kd.V_slice HO_9.out; subst eo72; obtain ⟨Ao73, co73, eo73⟩ := Kd.R_slice HO_12.out; subst eo73))
                          go_ret
                          exact ez
                        · rw [if_neg c71] at H; have c71b0 := beq_eq_false_iff_ne.mpr c71; have c71b1 := bne_iff_ne.mpr c71; obtain rfl := Option.some.inj H
                          go_wp2_with (first | ((with_reducible refine gc 38 rfl ?_); refine gl (some 84) Try.func38 #[.int .i64 a1] ?_; (with_reducible refine (Rf_PenaltyErr.calls a1 t711 _ A41.out).mono ?_); rintro e w' ⟨rfl, ⟨nd, rfl⟩⟩; refine ⟨_, rfl, ?_⟩) | ((with_reducible refine gc 15 rfl ?_); refine gl (some 85) Try.func15 #[.int .i64 t708, .int .i64 t711] ?_; (with_reducible refine (Lw_both.calls t708 t711 t712 _ A42.out).mono ?_); rintro e w' ⟨rfl, ⟨nd, rfl⟩⟩; refine ⟨_, rfl, ?_⟩; obtain ⟨Ao74, co74, eo74⟩ := Kd.V_slice HO_9.out; subst eo74))
                          go_ret
                          exact ez
                      · rw [if_neg c70] at H; have c70b0 := beq_eq_false_iff_ne.mpr c70; have c70b1 := bne_iff_ne.mpr c70; obtain rfl := Option.some.inj H
                        go_wp2_with (first | ((with_reducible refine gc 38 rfl ?_); refine gl (some 84) Try.func38 #[.int .i64 a1] ?_; (with_reducible refine (Rf_PenaltyErr.calls a1 t711 _ A41.out).mono ?_); rintro e w' ⟨rfl, ⟨nd, rfl⟩⟩; refine ⟨_, rfl, ?_⟩) | ((with_reducible refine gc 15 rfl ?_); refine gl (some 85) Try.func15 #[.int .i64 t708, .int .i64 t711] ?_; (with_reducible refine (Lw_both.calls t708 t711 t712 _ A42.out).mono ?_); rintro e w' ⟨rfl, ⟨nd, rfl⟩⟩; refine ⟨_, rfl, ?_⟩; obtain ⟨Ao75, co75, eo75⟩ := Kd.V_slice HO_9.out; subst eo75))
                        go_ret
                        exact ez
                    · rw [if_neg c69] at H; have c69b0 := beq_eq_false_iff_ne.mpr c69; have c69b1 := bne_iff_ne.mpr c69; have c69b2 : ¬ (t696 = []) := fun h_ => c69 (by rw [h_]; rfl); obtain rfl := Option.some.inj H
                      go_wp2_with (first | ((with_reducible refine gc 38 rfl ?_); refine gl (some 84) Try.func38 #[.int .i64 a1] ?_; (with_reducible refine (Rf_PenaltyErr.calls a1 t711 _ A41.out).mono ?_); rintro e w' ⟨rfl, ⟨nd, rfl⟩⟩; refine ⟨_, rfl, ?_⟩) | ((with_reducible refine gc 15 rfl ?_); refine gl (some 85) Try.func15 #[.int .i64 t708, .int .i64 t711] ?_; (with_reducible refine (Lw_both.calls t708 t711 t712 _ A42.out).mono ?_); rintro e w' ⟨rfl, ⟨nd, rfl⟩⟩; refine ⟨_, rfl, ?_⟩; obtain ⟨Ao76, co76, eo76⟩ := Kd.V_slice HO_9.out; subst eo76))
                      go_ret
                      exact ez
                  · rw [if_neg c68] at H; have c68b0 := beq_eq_false_iff_ne.mpr c68; have c68b1 := bne_iff_ne.mpr c68; obtain rfl := Option.some.inj H
                    go_wp2_with (first | ((with_reducible refine gc 38 rfl ?_); refine gl (some 84) Try.func38 #[.int .i64 a1] ?_; (with_reducible refine (Rf_PenaltyErr.calls a1 t711 _ A41.out).mono ?_); rintro e w' ⟨rfl, ⟨nd, rfl⟩⟩; refine ⟨_, rfl, ?_⟩) | ((with_reducible refine gc 15 rfl ?_); refine gl (some 85) Try.func15 #[.int .i64 t708, .int .i64 t711] ?_; (with_reducible refine (Lw_both.calls t708 t711 t712 _ A42.out).mono ?_); rintro e w' ⟨rfl, ⟨nd, rfl⟩⟩; refine ⟨_, rfl, ?_⟩))
                    go_ret
                    exact ez
    · replace c7 := Bool.eq_false_iff.mpr c7; subst c7; rw [if_neg (show ¬ (false = true) by decide)] at H; obtain rfl := Option.some.inj H; go_enter Try.func6, Try.ntmps6
      go_wp2_with (first | ((with_reducible refine ga 5 rfl ?_); (try (refine gate_guard (by rfl) ?_; dsimp only)); refine be 5 54 #[.int .i64 a2_0, .int .i64 a2_1] ?_; intro gb685 hg w77 hbox hb; have BK685 := m0 hbox; have GE685 := gw w hg; replace HB := sb HB hb; clear hb hbox hg) | ((with_reducible refine gc 11 rfl ?_); refine gl (some 18) Try.func11 #[] ?_; (with_reducible refine (Lw_awake.calls k  true _ A4.out).mono ?_); rintro e w78 ⟨rfl, hb⟩; refine ⟨_, rfl, ?_⟩; replace BK685 := bb BK685 hb; replace HB := sb HB hb; (try clear hb)) | ((with_reducible refine gc 31 rfl ?_); refine gl (some 21) Try.func31 #[.slice A0 l0.length c0] ?_; (with_reducible refine (Lw_few.calls _ _ l0 false _ ?side1 ?side2 A6.out).mono ?_); (case side1 => exact cb HR0 HB); (case side2 => exact HC0.out); rintro e w' ⟨rfl, ⟨nd, rfl⟩⟩; refine ⟨_, rfl, ?_⟩))
      go_ret
      exact ez
  · replace c5 := Bool.eq_false_iff.mpr c5; subst c5; rw [if_neg (show ¬ (false = true) by decide)] at H; obtain rfl := Option.some.inj H; go_enter Try.func6, Try.ntmps6
    go_wp2_with (first | ((with_reducible refine ga 5 rfl ?_); (try (refine gate_guard (by rfl) ?_; dsimp only)); refine be 5 54 #[.int .i64 a2_0, .int .i64 a2_1] ?_; intro gb685 hg w79 hbox hb; have BK685 := m0 hbox; have GE685 := gw w hg; replace HB := sb HB hb; clear hb hbox hg) | ((with_reducible refine gc 11 rfl ?_); refine gl (some 18) Try.func11 #[] ?_; (with_reducible refine (Lw_awake.calls k  false _ A4.out).mono ?_); rintro e w80 ⟨rfl, hb⟩; refine ⟨_, rfl, ?_⟩; replace BK685 := bb BK685 hb; replace HB := sb HB hb; (try clear hb)))
    go_ret
    exact ez
end
end Go.Proofs.Yteiafijbgjgiaaa.A
